/- Part 4 of 5 of the proof: lemmas about the model and the program's functions, with no condition beyond those that each states. -/
import Derived.Test.YtbeojlieknnniaaLC
import Derived.ChangeArms
import Derived.WalkKit
import Derived.ProofKit
import Derived.OpenShut
import Derived.Carry
import Derived.WideKeyArgs
import Derived.ChangeSame
section
namespace Go.AI
open Go.Proofs
set_option maxRecDepth 10000
theorem xok (n kl:Nat):XOK Try.prog (cxk n kl):=⟨tyOK,rfl⟩
theorem fO (k:Nat) (s:St) {fn:Func} {f:FuncId} {args:List AV} {r:AV} (hf:Try.prog.funcs[f]? = some fn) (h:WP (cxk k 0) (bodyOf fn) [] (postA (cxk k 0).ty fn.results.toList r) s) (hb:fn.body=some (bodyOf fn):=by kernel_rfl) (hnm:(fn.name == "runtime.NumGoroutine")=false:=by kernel_rfl) (hnt:(cxk k 0).nt.n=fn.ntmps:=by kernel_rfl) (hlen:Nat.ble args.length fn.ntmps=true:=by kernel_rfl) (hs:(⟨(List.range args.length).zip args,[]⟩:St)=s:=by kernel_rfl):CallOK Try.prog f args r:=fo follows (cxkOK k 0) hf h hb hnm hnt hlen hs
theorem fL (k nb:Nat) (s:St) {fn:Func} {f:FuncId} {args:List AV} {O0 O1:List (Option Ob)} {r:AV} (hf:Try.prog.funcs[f]? = some fn) (h:WP (cxk k nb) (bodyOf fn) [] (postL nb (cxk k nb).ty fn.results.toList r O1) s) (hb:fn.body=some (bodyOf fn):=by kernel_rfl) (hnm:(fn.name == "runtime.NumGoroutine")=false:=by kernel_rfl) (hnt:(cxk k nb).nt=⟨fn.ntmps,[],nb⟩:=by kernel_rfl) (hlen:Nat.ble args.length fn.ntmps=true:=by kernel_rfl) (hs:(⟨(List.range args.length).zip args,O0⟩:St)=s:=by kernel_rfl):LentOK Try.prog f args O0 nb r O1:=fl follows (cxkOK k nb) hf h hb hnm hnt hlen hs
variable {n:Nat}
def eGRule (x:GRule):List D:=[.str x.Print,.sl (List.map eU8 x.Cells),.int .u8 x.Left,.int .u8 x.Right,.int .i64 x.From,.int .i64 x.To]
def eGState (x:GState):List D:=[.int .i64 x.Mode,.int .i64 x.Last,.int .u8 x.Need]
def eGColumn (x:GColumn):List D:=[.sl (List.map eI64 x.States),.sl (List.map eI64 x.Costs)]
def eGArc (x:GArc):List D:=[.int .i64 x.Rule,.int .i64 x.To]
@[reducible] def eArr2 {α:Type} (e:α->List D) (x:Arr2 α):List D:=e x.a0++e x.a1
def eGRawRule (x:GRawRule):List D:=[.sl (List.map eU8 x.P),.sl (List.map eU8 x.C),.int .u8 x.L,.int .u8 x.R,.int .u8 x.W.a0,.int .u8 x.W.a1]
def eGRaw (x:GRaw):List D:=[.int .u8 x.Base,.int .u8 x.Drop,.sl (List.map eGRawRule x.More)]
def bRule (x:GRule):List AV:=[.d (.str x.Print),.d (.sl (List.map eU8 x.Cells)),.d (.int .u8 x.Left),.d (.int .u8 x.Right),.d (.int .i64 x.From),.d (.int .i64 x.To)]
def bTable (x:GTable):List AV:=[.d (.int .i64 x.Modes),.d (.int .u8 x.Accept),.d (.sl (List.map eGRule x.Rules))]
def bState (x:GState):List AV:=[.d (.int .i64 x.Mode),.d (.int .i64 x.Last),.d (.int .u8 x.Need)]
def bWriter_5_6 (x:GWriter) (v5:AV) (v6:AV):List AV:=[.d (.int .i64 x.T.Modes),.d (.int .u8 x.T.Accept),.d (.sl (List.map eGRule x.T.Rules)),.d (.str x.S),.d (.sl (List.map eGState x.States)),v5,v6,.d (.int .i64 x.Last)]
def bWriter_6 (x:GWriter) (v6:AV):List AV:=[.d (.int .i64 x.T.Modes),.d (.int .u8 x.T.Accept),.d (.sl (List.map eGRule x.T.Rules)),.d (.str x.S),.d (.sl (List.map eGState x.States)),.d (.sl (List.map (eL eGArc) x.Arcs)),v6,.d (.int .i64 x.Last)]
def bRawRule (x:GRawRule):List AV:=[.d (.sl (List.map eU8 x.P)),.d (.sl (List.map eU8 x.C)),.d (.int .u8 x.L),.d (.int .u8 x.R),.d (.int .u8 x.W.a0),.d (.int .u8 x.W.a1)]
def bRule_1 (x:GRule) (v1:AV):List AV:=[.d (.str x.Print),v1,.d (.int .u8 x.Left),.d (.int .u8 x.Right),.d (.int .i64 x.From),.d (.int .i64 x.To)]
def bRaw (x:GRaw):List AV:=[.d (.int .u8 x.Base),.d (.int .u8 x.Drop),.d (.sl (List.map eGRawRule x.More))]
def bTable_2 (x:GTable) (v2:AV):List AV:=[.d (.int .i64 x.Modes),.d (.int .u8 x.Accept),v2]
def bTrace_1 (x:GTrace) (v1:AV):List AV:=[.d (.str x.Text),v1,.d (.int .i64 x.At),.d (.int .i64 x.End.Mode),.d (.int .i64 x.End.Last),.d (.int .u8 x.End.Need),.d (.bool x.Ok)]
def nGColumn (x:GColumn):List AV:=[.own 1 (List.map eI64 x.States),.own 1 (List.map eI64 x.Costs)]
theorem eqk51:∀ a b:GState,eqCells [.int .i64,.int .i64,.int .u8] ((eGState a).map .d) ((eGState b).map .d)=some (decide (a=b)):=by
  intro a b
  cases a;cases b
  simp [eqCells,eGState,Bool.decide_and]
  try rfl
section
variable (p0_:(List UInt8)) (p1_:Int) (p2_:(Arr3 Int))
def f28_s1:St:=⟨(0,.d (.str p0_))::(1,.d (.int .u8 p1_))::(2,.agg [.d (.int .i64 p2_.a0),.d (.int .i64 p2_.a1),.d (.int .i64 p2_.a2)])::[],[]⟩
variable {p0_ p1_ p2_}
theorem FL6_rule_ok {z} (H:FL6_rule n p0_ p1_ p2_=some z):CallOK Try.prog 28 [.d (.str p0_),.d (.int .u8 p1_),.agg [.d (.int .i64 p2_.a0),.d (.int .i64 p2_.a1),.d (.int .i64 p2_.a2)]] (.agg [.d (.str z.Print),.own 1 (List.map eU8 z.Cells),.d (.int .u8 z.Left),.d (.int .u8 z.Right),.d (.int .i64 z.From),.d (.int .i64 z.To)]):=by
 exact fO 18 (f28_s1 p0_ p1_ p2_) Try.func28 (sr (ck 2 (en (sr (ck 12 (en (re (by cases H;exact pr (rO (v:=.agg [.d (.str p0_),.osl 2 1 0 (List.length [p1_]),.d (.int .u8 63),.d (.int .u8 (IntKind.u8.wrap p2_.a0)),.d (.int .i64 p2_.a1),.d (.int .i64 p2_.a2)]) [2] (a1 (c1 vd (c1 vo (c1 vd (c1 vd (c1 vd (c1 vd (c0)))))))))))))))))
end
section
variable (p0_:Int)
def f58_s1:St:=⟨(0,.d (.int .u8 p0_))::[],[]⟩
variable {p0_}
theorem FTb_isCharacter_ok {z} (H:FTb_isCharacter n p0_=some z):CallOK Try.prog 58 [.d (.int .u8 p0_)] (.d (.bool z)):=by
 exact fO 12 (f58_s1 p0_) Try.func58 (sr (ck 1 (en (sr (ck 3 (en (sr (ck 4 (gc 1 (decide (32≤iand .u8 p0_ 127)) (pA (ck 1 (en (re (by cases H;exact pr rd))))))))))))))
end
section
variable (p0_:(List UInt8)) (x_1:Int)
def f31_s1:St:=⟨(0,.d (.str p0_))::[],[]⟩
def f31_s2:St:=⟨(0,.d (.str p0_))::(6,.d (.int .i64 ((List.length p0_:Nat):Int)))::(7,.d (.int .i64 x_1))::[],[]⟩
def f31_s3:St:=⟨(0,.d (.str p0_))::[],[]⟩
def FTb_Text_L1_E:(Unit⊕(Int×Int))->Ex->St->Prop:=xS (xX 0 0 (λ (y:Unit)=>f31_s3 p0_)) (xR ty Try.f31 (λ (y:(Int×Int))=>.tup [.d (.int .i64 y.1),.d (.int .i64 y.2)]))
def FTb_Text_L1_S:Int->St:=(λ (x:Int)=>f31_s2 p0_ x)
variable {p0_ x_1}
theorem FTb_Text_L1_ok (x:Int) (z:(Int⊕(Unit⊕(Int×Int)))) (H:FTb_Text_L1 n p0_ x=some z):WP (cxk 19 0) (bodyOf Try.f31) [1,0,1,0,0] (roundQ 0 (FTb_Text_L1_S p0_) (FTb_Text_L1_E p0_) z) (FTb_Text_L1_S p0_ x):=by
 revert H
 generalize x=x_1
 intro H
 refine sr (ck 1 (en (sq (cn H (λ H=>?_) (λ H=>?_)))))
 ·refine sk (qz (sq (bk 1 (sr (ck 2 (en (sr (ck 2 (bx H λ b1 h1 H=>sp (at_sidx h1) (bx H λ r1 h2 H=>ca false (FTb_isCharacter_ok h2) (ck 1 (en (cn H (λ H=>?_) (λ H=>?_))))))))))))))
  ·exact sr (ck 3 (en (re (qR (qr (by cases H;exact ro rfl rdT))))))
  ·exact sk (qN (qz (rz (ck 2 (ae (by cases H;exact og (sg [0,6,7])))))))
 ·exact ex 0 (qx (by cases H;exact xo rfl (sg [0])))
theorem FTb_Text_ok {z} (H:FTb_Text n p0_=some z):CallOK Try.prog 31 [.d (.str p0_)] (.tup [.d (.int .i64 z.1),.d (.int .i64 z.2)]):=by
 refine fO 19 (f31_s1 p0_) Try.func31 (sr (ck 2 (en (sq (sr (ck 3 (en (bk 0 (bx H λ y1 h3 H=>?_)))))))))
 rcases y1 with y2|y3
 ·exact lX FTb_Text_L1_ok h3 (sg [0,6,7]) rfl λ s hE1=>qH (qs (hE1) (sr (ck 4 (en (re (by cases H;exact pr rdT))))))
 ·exact lR FTb_Text_L1_ok h3 (sg [0,6,7]) rfl λ s hE2=>qR (qr (by cases H;exact pr hE2))
end
section
variable (p0_:Int)
def f63_s1:St:=⟨(0,.d (.int .u8 p0_))::[],[]⟩
variable {p0_}
theorem FTb_Class_ok {z} (H:FTb_Class n p0_=some z):CallOK Try.prog 63 [.d (.int .u8 p0_)] (.d (.int .i64 z)):=by
 refine fO 30 (f63_s1 p0_) Try.func63 (sr (ck 1 (en (sr (ck 3 (en (sq (bk 0 (sr (ck 4 (gc 1 (decide (97≤iand .u8 p0_ 127)) (pA (ck 1 (en (cn H (λ H=>?_) (λ H=>?_))))))))))))))))
 ·exact sr (ck 1 (en (re (qR (qr (by cases H;exact pr rd))))))
 ·refine sr (ck 4 (gc 1 (decide (65≤iand .u8 p0_ 127)) (pA (ck 1 (en (cn H (λ H=>?_) (λ H=>?_)))))))
  ·exact sr (ck 1 (en (re (qR (qr (by cases H;exact pr rd))))))
  ·refine sr (ck 4 (gc 1 (decide (48≤iand .u8 p0_ 127)) (pA (ck 1 (en (cn H (λ H=>?_) (λ H=>?_)))))))
   ·exact sr (ck 1 (en (re (qR (qr (by cases H;exact pr rd))))))
   ·refine sr (ck 3 (en (cn H (λ H=>?_) (λ H=>?_))))
    ·exact sr (ck 1 (en (re (qR (qr (by cases H;exact pr rd))))))
    ·exact sk (qN (qz (sr (ck 1 (en (re (by cases H;exact pr rd)))))))
end
section
variable (p0_:(List UInt8)) (x_2:Int)
def f83_s1:St:=⟨(0,.d (.str p0_))::[],[]⟩
def f83_s2:St:=⟨(0,.d (.str p0_))::(5,.d (.int .i64 ((List.length p0_:Nat):Int)))::(6,.d (.int .i64 x_2))::[],[]⟩
def f83_s3:St:=⟨[],[]⟩
def FTb_hasSpace_L1_E:(Unit⊕Bool)->Ex->St->Prop:=xS (xX 0 0 (λ (y:Unit)=>f83_s3)) (xR ty Try.f83 (λ (y:Bool)=>.d (.bool y)))
def FTb_hasSpace_L1_S:Int->St:=(λ (x:Int)=>f83_s2 p0_ x)
variable {p0_ x_2}
theorem FTb_hasSpace_L1_ok (x:Int) (z:(Int⊕(Unit⊕Bool))) (H:FTb_hasSpace_L1 n p0_ x=some z):WP (cxk 15 0) (bodyOf Try.f83) [1,0,1,0,0] (roundQ 0 (FTb_hasSpace_L1_S p0_) (FTb_hasSpace_L1_E) z) (FTb_hasSpace_L1_S p0_ x):=by
 revert H
 generalize x=x_2
 intro H
 refine sr (ck 1 (en (sq (cn H (λ H=>?_) (λ H=>?_)))))
 ·refine sk (qz (sq (bk 1 (sr (ck 2 (en (sr (ck 2 (bx H λ b2 h4 H=>sp (at_sidx h4) (bx H λ r2 h5 H=>ca false (FTb_Class_ok h5) (ck 1 (en (cn H (λ H=>?_) (λ H=>?_))))))))))))))
  ·exact sr (ck 1 (en (re (qR (qr (by cases H;exact ro rfl rd))))))
  ·exact sk (qN (qz (rz (ck 2 (ae (by cases H;exact og (sg [0,5,6])))))))
 ·exact ex 0 (qx (by cases H;exact xo rfl (sg [])))
theorem FTb_hasSpace_ok {z} (H:FTb_hasSpace n p0_=some z):CallOK Try.prog 83 [.d (.str p0_)] (.d (.bool z)):=by
 refine fO 15 (f83_s1 p0_) Try.func83 (sr (ck 1 (en (sq (sr (ck 3 (en (bk 0 (bx H λ y4 h6 H=>?_)))))))))
 rcases y4 with y5|y6
 ·exact lX FTb_hasSpace_L1_ok h6 (sg [0,5,6]) rfl λ s hE3=>qH (qs (hE3) (sr (ck 1 (en (re (by cases H;exact pr rd))))))
 ·exact lR FTb_hasSpace_L1_ok h6 (sg [0,5,6]) rfl λ s hE4=>qR (qr (by cases H;exact pr hE4))
end
section
variable (p0_:Int)
def f84_s1:St:=⟨(0,.d (.int .u8 p0_))::[],[]⟩
variable {p0_}
theorem FCe_Valid_ok {z} (H:FCe_Valid n p0_=some z):CallOK Try.prog 84 [.d (.int .u8 p0_)] (.d (.bool z)):=by
 exact fO 5 (f84_s1 p0_) Try.func84 (sr (ck 1 (en (sr (ck 3 (en (re (by cases H;exact pr rd))))))))
end
section
variable (p0_:GRule) (p1_:Int) (x_3:Int)
def f73_s1:St:=⟨(0,.agg [.d (.str p0_.Print),.d (.sl (List.map eU8 p0_.Cells)),.d (.int .u8 p0_.Left),.d (.int .u8 p0_.Right),.d (.int .i64 p0_.From),.d (.int .i64 p0_.To)])::(1,.d (.int .i64 p1_))::[],[]⟩
def f73_s2:St:=⟨(92,.d (.sl (List.map eU8 p0_.Cells)))::(93,.d (.int .i64 ((List.length p0_.Cells:Nat):Int)))::(94,.d (.int .i64 x_3))::[],[]⟩
def f73_s3:St:=⟨[],[]⟩
def FTb_sound_L1_E:(Unit⊕Bool)->Ex->St->Prop:=xS (xX 0 0 (λ (y:Unit)=>f73_s3)) (xR ty Try.f73 (λ (y:Bool)=>.d (.bool y)))
def FTb_sound_L1_S:Int->St:=(λ (x:Int)=>f73_s2 p0_ x)
variable {p0_ p1_ x_3}
theorem FTb_sound_L1_ok (x:Int) (z:(Int⊕(Unit⊕Bool))) (H:FTb_sound_L1 n p0_ x=some z):WP (cxk 110 0) (bodyOf Try.f73) [1,1,1,1,1,1,0,1,0,0] (roundQ 0 (FTb_sound_L1_S p0_) (FTb_sound_L1_E) z) (FTb_sound_L1_S p0_ x):=by
 revert H
 generalize x=x_3
 intro H
 refine sr (ck 1 (en (sq (cn H (λ H=>?_) (λ H=>?_)))))
 ·refine sk (qz (sq (bk 1 (sr (bx H λ x2 h10 H=>sp (at_idxD eU8 h10) (ck 2 (en (sr (ck 1 (bx H λ r5 h11 H=>ca false (FCe_Valid_ok h11) (ck 3 (gc 1 (!(!r5)) (pO (ck 2 (gc 1 (!((!r5)||(x2==63))) (pO (en (cn H (λ H=>?_) (λ H=>?_)))))))))))))))))))
  ·exact sr (ck 1 (en (re (qR (qr (by cases H;exact ro rfl rd))))))
  ·exact sk (qN (qz (rz (ck 2 (ae (by cases H;exact og (sg [92,93,94])))))))
 ·exact ex 0 (qx (by cases H;exact xo rfl (sg [])))
theorem FTb_sound_ok {z} (H:FTb_sound n p0_ p1_=some z):CallOK Try.prog 73 [.agg (bRule p0_),.d (.int .i64 p1_)] (.d (.bool z)):=by
 refine fO 110 (f73_s1 p0_ p1_) Try.func73 (sr (ck 2 (en (sq (sr (ck 6 (gc 1 (!(decide (((List.length p0_.Print:Nat):Int)>4))) (sE (g:=(!(decide (((List.length p0_.Print:Nat):Int)>4)))) (λ hg=>at_len eU8 p0_.Cells) (gc 1 (!(decide (((List.length p0_.Print:Nat):Int)>4))) (pO (ck 2 (gc 1 (!((decide (((List.length p0_.Print:Nat):Int)>4))||(decide (((List.length p0_.Cells:Nat):Int)<1)))) (sE (g:=(!((decide (((List.length p0_.Print:Nat):Int)>4))||(decide (((List.length p0_.Cells:Nat):Int)<1))))) (λ hg=>at_len eU8 p0_.Cells) (gc 1 (!((decide (((List.length p0_.Print:Nat):Int)>4))||(decide (((List.length p0_.Cells:Nat):Int)<1)))) (pO (en (cn H (λ H=>?_) (λ H=>?_))))))))))))))))))
 ·exact sr (ck 1 (en (re (qr (by cases H;exact pr rd)))))
 ·refine sk (qz (sq (sr (ck 2 (bx H λ r3 h7 H=>ca false (FTb_Text_ok h7) (ck 5 (en (sr (ck 2 (en (cn H (λ H=>?_) (λ H=>?_))))))))))))
  ·exact sr (ck 1 (en (re (qr (by cases H;exact pr rd)))))
  ·refine sk (qz (sq (sr (ck 5 (gc 2 (!(decide (p0_.Left<1))) (pO (ck 2 (gc 2 (!((decide (p0_.Left<1))||(decide (p0_.Left>63)))) (pO (ck 2 (gc 2 (!(((decide (p0_.Left<1))||(decide (p0_.Left>63)))||(decide (p0_.Right<1)))) (pO (en (cn H (λ H=>?_) (λ H=>?_)))))))))))))))
   ·exact sr (ck 1 (en (re (qr (by cases H;exact pr rd)))))
   ·refine sk (qz (sq (sr (ck 5 (gc 1 (!(decide (p0_.From<0))) (ck 1 (gc 1 (!(decide (p0_.From<0))) (pO (ck 2 (gc 2 (!((decide (p0_.From<0))||(decide (p0_.From≥p1_)))) (pO (ck 2 (gc 1 (!(((decide (p0_.From<0))||(decide (p0_.From≥p1_)))||(decide (p0_.To<0)))) (ck 1 (gc 1 (!(((decide (p0_.From<0))||(decide (p0_.From≥p1_)))||(decide (p0_.To<0)))) (pO (en (cn H (λ H=>?_) (λ H=>?_)))))))))))))))))))
    ·exact sr (ck 1 (en (re (qr (by cases H;exact pr rd)))))
    ·refine sk (qz (sq (sr (ck 2 (bx H λ r4 h8 H=>ca false (FTb_hasSpace_ok h8) (en (cn H (λ H=>?_) (λ H=>?_))))))))
     ·exact sr (ck 6 (gc 1 (((List.length p0_.Print:Nat):Int)==1) (sE (g:=(((List.length p0_.Print:Nat):Int)==1)) (λ hg=>at_len eU8 p0_.Cells) (gc 1 (((List.length p0_.Print:Nat):Int)==1) (pA (ck 2 (gc 1 ((((List.length p0_.Print:Nat):Int)==1)&&(((List.length p0_.Cells:Nat):Int)==1)) (bx H λ x1 h9 H=>sE (λ hg=>at_idxD eU8 (gimp h9 hg)) (gc 2 ((((List.length p0_.Print:Nat):Int)==1)&&(((List.length p0_.Cells:Nat):Int)==1)) (pA (ck 1 (en (re (qr (by cases H;exact pr rd)))))))))))))))
     ·refine sk (qz (sq (sr (ck 2 (sp (at_len eU8 p0_.Cells) (ck 1 (en (bk 0 (bx H λ y7 h12 H=>?_)))))))))
      rcases y7 with y8|y9
      ·exact lX FTb_sound_L1_ok h12 (sg [92,93,94]) rfl λ s hE5=>qH (qs (hE5) (sr (ck 1 (en (re (by cases H;exact pr rd))))))
      ·exact lR FTb_sound_L1_ok h12 (sg [92,93,94]) rfl λ s hE6=>qR (qr (by cases H;exact pr hE6))
end
section
variable (p0_:(List Int)) (p1_:(List Int)) (x_4:Int)
def f49_s1:St:=⟨(0,.d (.sl (List.map eU8 p0_)))::(1,.d (.sl (List.map eU8 p1_)))::[],[]⟩
def f49_s2:St:=⟨(0,.d (.sl (List.map eU8 p0_)))::(1,.d (.sl (List.map eU8 p1_)))::(12,.d (.int .i64 ((List.length p0_:Nat):Int)))::(13,.d (.int .i64 x_4))::[],[]⟩
def f49_s3:St:=⟨[],[]⟩
def FApi_Cell_L1_E:(Unit⊕Bool)->Ex->St->Prop:=xS (xX 0 0 (λ (y:Unit)=>f49_s3)) (xR ty Try.f49 (λ (y:Bool)=>.d (.bool y)))
def FApi_Cell_L1_S:Int->St:=(λ (x:Int)=>f49_s2 p0_ p1_ x)
variable {p0_ p1_ x_4}
theorem FApi_Cell_L1_ok (x:Int) (z:(Int⊕(Unit⊕Bool))) (H:FApi_Cell_L1 n p0_ p1_ x=some z):WP (cxk 26 0) (bodyOf Try.f49) [1,1,0,1,0,0] (roundQ 0 (FApi_Cell_L1_S p0_ p1_) (FApi_Cell_L1_E) z) (FApi_Cell_L1_S p0_ p1_ x):=by
 revert H
 generalize x=x_4
 intro H
 refine sr (ck 1 (en (sq (cn H (λ H=>?_) (λ H=>?_)))))
 ·refine sk (qz (sq (bk 1 (sr (ck 2 (en (sr (ck 2 (bx H λ x3 h13 H=>sp (at_idxD eU8 h13) (ck 3 (bx H λ x4 h14 H=>sp (at_idxD eU8 h14) (ck 2 (en (cn H (λ H=>?_) (λ H=>?_)))))))))))))))
  ·exact sr (ck 1 (en (re (qR (qr (by cases H;exact ro rfl rd))))))
  ·exact sk (qN (qz (rz (ck 2 (ae (by cases H;exact og (sg [0,1,12,13])))))))
 ·exact ex 0 (qx (by cases H;exact xo rfl (sg [])))
theorem FApi_Cell_ok {z} (H:FApi_Cell n p0_ p1_=some z):CallOK Try.prog 49 [.d (.sl (List.map eU8 p0_)),.d (.sl (List.map eU8 p1_))] (.d (.bool z)):=by
 refine fO 26 (f49_s1 p0_ p1_) Try.func49 (sr (ck 1 (en (sq (sr (ck 1 (sp (at_len eU8 p0_) (ck 1 (sp (at_len eU8 p1_) (ck 1 (en (cn H (λ H=>?_) (λ H=>?_)))))))))))))
 ·exact sr (ck 1 (en (re (qr (by cases H;exact pr rd)))))
 ·refine sk (qz (sq (sr (ck 1 (sp (at_len eU8 p0_) (ck 1 (en (bk 0 (bx H λ y10 h15 H=>?_)))))))))
  rcases y10 with y11|y12
  ·exact lX FApi_Cell_L1_ok h15 (sg [0,1,12,13]) rfl λ s hE7=>qH (qs (hE7) (sr (ck 1 (en (re (by cases H;exact pr rd))))))
  ·exact lR FApi_Cell_L1_ok h15 (sg [0,1,12,13]) rfl λ s hE8=>qR (qr (by cases H;exact pr hE8))
end
section
variable (p0_:GRule) (p1_:GRule)
def f74_s1:St:=⟨(0,.agg [.d (.str p0_.Print),.d (.sl (List.map eU8 p0_.Cells)),.d (.int .u8 p0_.Left),.d (.int .u8 p0_.Right),.d (.int .i64 p0_.From),.d (.int .i64 p0_.To)])::(1,.agg [.d (.str p1_.Print),.d (.sl (List.map eU8 p1_.Cells)),.d (.int .u8 p1_.Left),.d (.int .u8 p1_.Right),.d (.int .i64 p1_.From),.d (.int .i64 p1_.To)])::[],[]⟩
variable {p0_ p1_}
theorem FTb_equal_ok {z} (H:FTb_equal n p0_ p1_=some z):CallOK Try.prog 74 [.agg (bRule p0_),.agg (bRule p1_)] (.d (.bool z)):=by
 exact fO 45 (f74_s1 p0_ p1_) Try.func74 (sr (ck 3 (en (sr (ck 7 (gc 1 (p0_.From==p1_.From) (ck 1 (gc 2 (p0_.From==p1_.From) (pA (ck 2 (gc 1 ((p0_.From==p1_.From)&&(p0_.To==p1_.To)) (ck 1 (gc 2 ((p0_.From==p1_.From)&&(p0_.To==p1_.To)) (pA (ck 2 (gc 1 (((p0_.From==p1_.From)&&(p0_.To==p1_.To))&&(p0_.Left==p1_.Left)) (ck 1 (gc 2 (((p0_.From==p1_.From)&&(p0_.To==p1_.To))&&(p0_.Left==p1_.Left)) (pA (ck 2 (gc 1 ((((p0_.From==p1_.From)&&(p0_.To==p1_.To))&&(p0_.Left==p1_.Left))&&(p0_.Right==p1_.Right)) (ck 1 (gc 2 ((((p0_.From==p1_.From)&&(p0_.To==p1_.To))&&(p0_.Left==p1_.Left))&&(p0_.Right==p1_.Right)) (pA (ck 2 (gc 1 (((((p0_.From==p1_.From)&&(p0_.To==p1_.To))&&(p0_.Left==p1_.Left))&&(p0_.Right==p1_.Right))&&(p0_.Print==p1_.Print)) (ck 1 (gc 1 (((((p0_.From==p1_.From)&&(p0_.To==p1_.To))&&(p0_.Left==p1_.Left))&&(p0_.Right==p1_.Right))&&(p0_.Print==p1_.Print)) (bx H λ r6 h16 H=>cG false (leZ) rfl (λ hg=>FApi_Cell_ok (gimp h16 hg)) (Or.inl rfl) (impK (λ hh=>hh) (impK (λ hh=>hh) (impZ))) rfl (pA (ck 1 (en (re (by cases H;exact pr rd))))))))))))))))))))))))))))))))))
end
section
variable (p0_:GTable) (x_5:Int) (x5:GRule) (l1:(List GRule)) (x_6:Int)
def f59_s1:St:=⟨(0,.agg [.d (.int .i64 p0_.Modes),.d (.int .u8 p0_.Accept),.d (.sl (List.map eGRule p0_.Rules))])::[],[]⟩
def f59_s2:St:=⟨(1,.ptr 0 0)::(39,.d (.sl (List.map eGRule p0_.Rules)))::(40,.d (.int .i64 ((List.length p0_.Rules:Nat):Int)))::(41,.d (.int .i64 x_5))::[],[some (.box (bTable p0_))]⟩
def f59_s3:St:=⟨[],[]⟩
def f59_s4:St:=⟨(1,.ptr 0 0)::(4,.d (.int .i64 x_5))::(5,.ptr 1 0)::(39,.d (.sl (List.map eGRule p0_.Rules)))::(40,.d (.int .i64 ((List.length p0_.Rules:Nat):Int)))::(41,.d (.int .i64 x_5))::(55,.d (.sl (List.map eGRule l1)))::(56,.d (.int .i64 ((List.length l1:Nat):Int)))::(57,.d (.int .i64 x_6))::[],[some (.box (bTable p0_)),some (.box (bRule x5))]⟩
def f59_s5:St:=⟨(1,.ptr 0 0)::(39,.d (.sl (List.map eGRule p0_.Rules)))::(40,.d (.int .i64 ((List.length p0_.Rules:Nat):Int)))::(41,.d (.int .i64 x_5))::[],[some (.box (bTable p0_))]⟩
def FTb_Check_L2_E:(Unit⊕(Int×Int))->Ex->St->Prop:=xS (xX 0 2 (λ (y:Unit)=>f59_s5 p0_ x_5)) (xR ty Try.f59 (λ (y:(Int×Int))=>.tup [.d (.int .i64 y.1),.d (.int .i64 y.2)]))
def FTb_Check_L2_S:Int->St:=(λ (x:Int)=>f59_s4 p0_ x_5 x5 l1 x)
def FTb_Check_L1_E:(Unit⊕(Int×Int))->Ex->St->Prop:=xS (xX 0 0 (λ (y:Unit)=>f59_s3)) (xR ty Try.f59 (λ (y:(Int×Int))=>.tup [.d (.int .i64 y.1),.d (.int .i64 y.2)]))
def FTb_Check_L1_S:Int->St:=(λ (x:Int)=>f59_s2 p0_ x)
variable {p0_ x_5 x5 l1 x_6}
theorem FTb_Check_L2_ok (x:Int) (z:(Int⊕(Unit⊕(Int×Int)))) (H:FTb_Check_L2 n p0_ x_5 x5 l1 x=some z):WP (cxk 67 0) (bodyOf Try.f59) [1,1,1,1,0,1,0,0,1,1,0,0,1,1,1,0,0] (roundQ 0 (FTb_Check_L2_S p0_ x_5 x5 l1) (FTb_Check_L2_E p0_ x_5) z) (FTb_Check_L2_S p0_ x_5 x5 l1 x):=by
 revert H
 generalize x=x_6
 intro H
 refine sr (ck 1 (en (sq (cn H (λ H=>?_) (λ H=>?_)))))
 ·refine sk (qz (sq (bk 3 (sr (bx H λ x6 h21 H=>sp (at_idxD eGRule h21) (ck 3 (en (sr (ck 2 (bx H λ r8 h22 H=>ca false (FTb_equal_ok h22) (en (cn H (λ H=>?_) (λ H=>?_)))))))))))))
  ·exact sr (ck 3 (en (re (qR (qr (by cases H;exact ro rfl rdT))))))
  ·exact sk (qN (qz (rz (ck 2 (ae (by cases H;exact og (sg [1,4,5,39,40,41,55,56,57])))))))
 ·exact ex 2 (qx (by cases H;exact xo rfl (sg [1,39,40,41])))
theorem FTb_Check_L1_ok (x:Int) (z:(Int⊕(Unit⊕(Int×Int)))) (H:FTb_Check_L1 n p0_ x=some z):WP (cxk 67 0) (bodyOf Try.f59) [1,1,1,1,0,1,0,0] (roundQ 0 (FTb_Check_L1_S p0_) (FTb_Check_L1_E) z) (FTb_Check_L1_S p0_ x):=by
 revert H
 generalize x=x_5
 intro H
 refine sr (ck 1 (en (sq (cn H (λ H=>?_) (λ H=>?_)))))
 ·refine sk (qz (sq (bk 1 (sr (ck 1 (bx H λ x5 h18 H=>sp (at_idxD eGRule h18) (ck 4 (en (sq (sr (ck 3 (bx H λ r7 h19 H=>ca false (FTb_sound_ok h19) (ck 1 (en (cn H (λ H=>?_) (λ H=>?_))))))))))))))))
  ·exact sr (ck 3 (en (re (qr (qR (qr (by cases H;exact ro rfl rdT)))))))
  ·refine sk (qz (sr (ck 3 (bx H λ l1 h20 H=>sp (at_sub eGRule 6 h20) (sp (at_len eGRule l1) (ck 1 (en (bk 2 (bx H λ y13 h23 H=>?_)))))))))
   rcases y13 with y14|y15
   ·exact lX FTb_Check_L2_ok h23 (sg [1,4,5,39,40,41,55,56,57]) rfl λ s hE9=>qH (qN (qs (hE9) (rz (ck 2 (ae (by cases H;exact og (sg [1,39,40,41])))))))
   ·exact lR FTb_Check_L2_ok h23 (sg [1,4,5,39,40,41,55,56,57]) rfl λ s hE10=>qR (qR (qr (by cases H;exact ro rfl hE10)))
 ·exact ex 0 (qx (by cases H;exact xo rfl (sg [])))
theorem FTb_Check_ok {z} (H:FTb_Check n p0_=some z):CallOK Try.prog 59 [.agg (bTable p0_)] (.tup [.d (.int .i64 z.1),.d (.int .i64 z.2)]):=by
 refine fO 67 (f59_s1 p0_) Try.func59 (sr (ck 3 (en (sq (sr (ck 5 (gc 2 (!(decide (p0_.Modes<1))) (pO (en (cn H (λ H=>?_) (λ H=>?_)))))))))))
 ·exact sr (ck 2 (en (re (qr (by cases H;exact pr rdT)))))
 ·refine sk (qz (sq (sr (ck 5 (gc 2 (!(p0_.Accept==0)) (ck 1 (gc 1 (!(p0_.Accept==0)) (bx H λ gd1 h17 H=>soG (λ hg=>guard_ge (gimp h17 hg)) (impK (λ hh=>hh) (impZ)) (gc 1 (!(p0_.Accept==0)) (pO (en (cn H (λ H=>?_) (λ H=>?_)))))))))))))
  ·exact sr (ck 2 (en (re (qr (by cases H;exact pr rdT)))))
  ·refine sk (qz (sq (sr (ck 2 (sp (at_len eGRule p0_.Rules) (ck 3 (gc 1 (!(decide (((List.length p0_.Rules:Nat):Int)<1))) (sE (g:=(!(decide (((List.length p0_.Rules:Nat):Int)<1)))) (λ hg=>at_len eGRule p0_.Rules) (gc 1 (!(decide (((List.length p0_.Rules:Nat):Int)<1))) (pO (en (cn H (λ H=>?_) (λ H=>?_)))))))))))))
   ·exact sr (ck 2 (en (re (qr (by cases H;exact pr rdT)))))
   ·refine sk (qz (sq (sr (ck 2 (sp (at_len eGRule p0_.Rules) (ck 1 (en (bk 0 (bx H λ y16 h24 H=>?_)))))))))
    rcases y16 with y17|y18
    ·exact lX FTb_Check_L1_ok h24 (sg [1,39,40,41]) rfl λ s hE11=>qH (qs (hE11) (sr (ck 2 (en (re (by cases H;exact pr rdT))))))
    ·exact lR FTb_Check_L1_ok h24 (sg [1,39,40,41]) rfl λ s hE12=>qR (qr (by cases H;exact pr hE12))
end
section
variable (p0_:GTable)
def f32_s1:St:=⟨(0,.agg [.d (.int .i64 p0_.Modes),.d (.int .u8 p0_.Accept),.d (.sl (List.map eGRule p0_.Rules))])::[],[]⟩
variable {p0_}
theorem FTb_Valid_ok {z} (H:FTb_Valid n p0_=some z):CallOK Try.prog 32 [.agg (bTable p0_)] (.d (.bool z)):=by
 exact fO 12 (f32_s1 p0_) Try.func32 (sr (ck 2 (en (sr (ck 1 (bx H λ r9 h25 H=>ca false (FTb_Check_ok h25) (ck 5 (en (sr (ck 3 (en (re (by cases H;exact pr rd)))))))))))))
end
def f70_s0:St:=⟨[],[]⟩
theorem FAu_Start_ok {z} (H:FAu_Start n=some z):CallOK Try.prog 70 [] (.agg [.d (.int .i64 z.Mode),.d (.int .i64 z.Last),.d (.int .u8 z.Need)]):=by
 exact fO 2 f70_s0 Try.func70 (sr (ck 1 (en (sr (ck 2 (en (re (by cases H;exact pr rd))))))))
section
variable (p0_:Int) (p1_:Int)
def f76_s1:St:=⟨(0,.d (.int .u8 p0_))::(1,.d (.int .i64 p1_))::[],[]⟩
variable {p0_ p1_}
theorem FAu_has_ok {z} (H:FAu_has n p0_ p1_=some z):CallOK Try.prog 76 [.d (.int .u8 p0_),.d (.int .i64 p1_)] (.d (.bool z)):=by
 exact fO 18 (f76_s1 p0_ p1_) Try.func76 (sr (ck 1 (en (sr (ck 4 (gc 1 (decide (0≤p1_)) (pA (ck 3 (bx H λ gd2 h26 H=>soG (λ hg=>guard_ge (gimp h26 hg)) (impK (λ hh=>hh) (impK (λ hh=>hh) (impZ))) (gc 2 ((decide (0≤p1_))&&(decide (p1_<8))) (pA (ck 1 (en (re (by cases H;exact pr rd)))))))))))))))
end
section
variable (p0_:GTable) (p1_:GState) (p2_:Int)
def f61_s1:St:=⟨(0,.agg [.d (.int .i64 p0_.Modes),.d (.int .u8 p0_.Accept),.d (.sl (List.map eGRule p0_.Rules))])::(1,.agg [.d (.int .i64 p1_.Mode),.d (.int .i64 p1_.Last),.d (.int .u8 p1_.Need)])::(2,.d (.int .i64 p2_))::[],[]⟩
variable {p0_ p1_ p2_}
theorem FAu_Step_ok {z} (H:FAu_Step n p0_ p1_ p2_=some z):CallOK Try.prog 61 [.agg (bTable p0_),.agg (bState p1_),.d (.int .i64 p2_)] (.tup [.agg [.d (.int .i64 z.1.Mode),.d (.int .i64 z.1.Last),.d (.int .u8 z.1.Need)],.d (.bool z.2)]):=by
 refine fO 78 (f61_s1 p0_ p1_ p2_) Try.func61 (sr (ck 4 (en (sq (sr (ck 5 (gc 1 (!(decide (p2_<0))) (sE (g:=(!(decide (p2_<0)))) (λ hg=>at_len eGRule p0_.Rules) (gc 1 (!(decide (p2_<0))) (pO (en (cn H (λ H=>?_) (λ H=>?_)))))))))))))
 ·exact sr (ck 3 (en (re (qr (by cases H;exact pr rdT)))))
 ·refine sk (qz (sr (ck 3 (bx H λ x7 h27 H=>sp (at_idxD eGRule h27) (ck 3 (en (sq (sr (ck 7 (gc 1 (!(x7.From != p1_.Mode)) (ck 1 (gc 1 (!(x7.From != p1_.Mode)) (bx H λ r10 h28 H=>cG false (leZ) rfl (λ hg=>FAu_has_ok (gimp h28 hg)) (Or.inl rfl) (impK (λ hh=>hh) (impK (λ hh=>hh) (impZ))) rfl (gc 1 (!(x7.From != p1_.Mode)) (pO (en (cn H (λ H=>?_) (λ H=>?_))))))))))))))))))
  ·exact sr (ck 3 (en (re (qr (by cases H;exact pr rdT)))))
  ·refine sk (qz (sq (sr (ck 3 (en (cn H (λ H=>?_) (λ H=>?_)))))))
   ·refine sr (ck 6 (en (sq (sr (ck 2 (en (cn H (λ H=>?_) (λ H=>?_))))))))
    ·exact sr (ck 3 (en (re (qr (qr (by cases H;exact pr rdT))))))
    ·exact sk (qz (sr (ck 8 (en (re (qr (by cases H;exact pr rdT)))))))
   ·refine sk (qz (sq (sr (ck 4 (bx H λ b3 h29 H=>sp (at_sidx h29) (bx H λ r11 h30 H=>ca false (FTb_Class_ok h30) (bx H λ r12 h31 H=>ca false (FAu_has_ok h31) (ck 1 (en (cn H (λ H=>?_) (λ H=>?_)))))))))))
    ·exact sr (ck 3 (en (re (qr (by cases H;exact pr rdT)))))
    ·exact sk (qz (sr (ck 8 (bx H λ b4 h32 H=>sp (at_sidx h32) (bx H λ r13 h33 H=>ca false (FTb_Class_ok h33) (ck 5 (en (re (by cases H;exact pr rdT)))))))))
end
section
variable (p0_:GTable) (states_1:(List GState)) (from_1:(List (List Int))) (number_1:(List (GState×Int))) (k_1:Int) (states_2:(List GState)) (from_2:(List (List Int))) (states_3:(List GState)) (from_3:(List (List Int))) (number_2:(List (GState×Int))) (x_7:Int) (states_4:(List GState)) (from_4:(List (List Int))) (number_3:(List (GState×Int))) (states_5:(List GState)) (from_5:(List (List Int))) (number_4:(List (GState×Int))) (states_6:(List GState)) (from_6:(List (List Int))) (number_5:(List (GState×Int))) (n_1:Int)
def f75_s1:St:=⟨(0,.agg [.d (.int .i64 p0_.Modes),.d (.int .u8 p0_.Accept),.d (.sl (List.map eGRule p0_.Rules))])::[],[]⟩
def f75_s2:St:=⟨(1,.ptr 0 0)::(5,.osl 1 3 0 (List.length states_1))::(6,.osl 2 1 0 (List.length from_1))::(7,.mp 3)::(8,.d (.int .i64 k_1))::[],[some (.box (bTable p0_)),some (.arr 3 (List.map eGState states_1)),some (.narr 1 (List.map (nL 1 eI64) from_1)),some (.map true false (encM eGState eI64 number_1))]⟩
def f75_s3:St:=⟨(5,.osl 0 3 0 (List.length states_2))::(6,.osl 1 1 0 (List.length from_2))::[],[some (.arr 3 (List.map eGState states_2)),some (.narr 1 (List.map (nL 1 eI64) from_2))]⟩
def f75_s4:St:=⟨(1,.ptr 0 0)::(5,.osl 1 3 0 (List.length states_3))::(6,.osl 2 1 0 (List.length from_3))::(7,.mp 3)::(8,.d (.int .i64 k_1))::(29,.d (.int .i64 ((List.length p0_.Rules:Nat):Int)))::(30,.d (.int .i64 x_7))::[],[some (.box (bTable p0_)),some (.arr 3 (List.map eGState states_3)),some (.narr 1 (List.map (nL 1 eI64) from_3)),some (.map true false (encM eGState eI64 number_2))]⟩
def f75_s5:St:=⟨(1,.ptr 0 0)::(5,.osl 1 3 0 (List.length states_4))::(6,.osl 2 1 0 (List.length from_4))::(7,.mp 3)::(8,.d (.int .i64 k_1))::[],[some (.box (bTable p0_)),some (.arr 3 (List.map eGState states_4)),some (.narr 1 (List.map (nL 1 eI64) from_4)),some (.map true false (encM eGState eI64 number_3))]⟩
def f75_s6:St:=⟨(1,.ptr 0 0)::(5,.osl 1 3 0 (List.length states_5))::(6,.osl 2 1 0 (List.length from_5))::(7,.mp 3)::(8,.d (.int .i64 k_1))::(29,.d (.int .i64 ((List.length p0_.Rules:Nat):Int)))::(30,.d (.int .i64 x_7))::[],[some (.box (bTable p0_)),some (.arr 3 (List.map eGState states_5)),some (.narr 1 (List.map (nL 1 eI64) from_5)),some (.map true false (encM eGState eI64 number_4))]⟩
def f75_s7:St:=⟨(1,.ptr 0 0)::(5,.osl 1 3 0 (List.length states_6))::(6,.osl 2 1 0 (List.length from_6))::(7,.mp 3)::(8,.d (.int .i64 k_1))::(12,.d (.int .i64 n_1))::(29,.d (.int .i64 ((List.length p0_.Rules:Nat):Int)))::(30,.d (.int .i64 x_7))::[],[some (.box (bTable p0_)),some (.arr 3 (List.map eGState states_6)),some (.narr 1 (List.map (nL 1 eI64) from_6)),some (.map true false (encM eGState eI64 number_5))]⟩
def FAu_explore_L2_E:((List GState)×(List (List Int))×(List (GState×Int)))->Ex->St->Prop:=xX 0 2 (λ (y:((List GState)×(List (List Int))×(List (GState×Int))))=>f75_s5 p0_ k_1 y.1 y.2.1 y.2.2)
def FAu_explore_L2_S:((List GState)×(List (List Int))×(List (GState×Int))×Int)->St:=(λ (x:((List GState)×(List (List Int))×(List (GState×Int))×Int))=>f75_s4 p0_ k_1 x.1 x.2.1 x.2.2.1 x.2.2.2)
def FAu_explore_L1_E:((List GState)×(List (List Int)))->Ex->St->Prop:=xX 0 0 (λ (y:((List GState)×(List (List Int))))=>f75_s3 y.1 y.2)
def FAu_explore_L1_S:((List GState)×(List (List Int))×(List (GState×Int))×Int)->St:=(λ (x:((List GState)×(List (List Int))×(List (GState×Int))×Int))=>f75_s2 p0_ x.1 x.2.1 x.2.2.1 x.2.2.2)
variable {p0_ states_1 from_1 number_1 k_1 states_2 from_2 states_3 from_3 number_2 x_7 states_4 from_4 number_3 states_5 from_5 number_4 states_6 from_6 number_5 n_1}
theorem FAu_explore_L2_ok (x:((List GState)×(List (List Int))×(List (GState×Int))×Int)) (z:(((List GState)×(List (List Int))×(List (GState×Int))×Int)⊕((List GState)×(List (List Int))×(List (GState×Int))))) (H:FAu_explore_L2 n p0_ k_1 x.1 x.2.1 x.2.2.1 x.2.2.2=some z):WP (cxk 78 0) (bodyOf Try.f75) [1,1,1,1,0,1,0,0,1,0,0,1,0,0] (roundQ 0 (FAu_explore_L2_S p0_ k_1) (FAu_explore_L2_E p0_ k_1) z) (FAu_explore_L2_S p0_ k_1 x):=by
 obtain ⟨states_3,from_3,number_2,x_7⟩:=x
 refine sr (ck 1 (en (sq (cn H (λ H=>?_) (λ H=>?_)))))
 ·refine sk (qz (sj (λ (x:((List GState)×(List (List Int))×(List (GState×Int))))=>f75_s6 p0_ k_1 x_7 x.1 x.2.1 x.2.2) (λ (x:((List GState)×(List (List Int))×(List (GState×Int))))=>FAu_explore_J1 n x_7 x.1 x.2.1 x.2.2) z ?_ (λ hFAu_explore_J1=>?_)))
  ·rintro ⟨states_5,from_5,number_4⟩ H
   exact rz (ck 2 (ae (by cases H;exact og (gP [1,5,6,7,8,29,30] [0,1,2,3] (po1 (po1 (pn1 (nL 1 eI64) from_5 (po1 (Pl.z)))))))))
  refine bk 3 (sr (ck 2 (en (sr (ck 3 (bx H λ x8 h35 H=>sp (at_idxO 1 3 h35) (sp (at_ldA eGState 1 0 (ty 51) h35) (ck 1 (bx H λ r15 h36 H=>ca false (FAu_Step_ok h36) (ck 6 (en (sq (sr (ck 2 (en (cn H (λ H=>?_) (λ H=>?_)))))))))))))))))
  ·exact ex 3 (qx (qH (qs (gP [1,5,6,7,8,29,30] [0,1,2,3] (po1 (po1 (pn1 (nL 1 eI64) from_3 (po1 (Pl.z)))))) (hFAu_explore_J1 (states_3,from_3,number_2) H))))
  ·refine sk (qz (sr (ck 2 (sp (at_look1 (enc:=eI64) (encK:=eGState) (k:=3) (e1:=λ x=>.int .i64 x) (m:=number_2) (l:=[.d (.int .i64 r15.1.Mode),.d (.int .i64 r15.1.Last),.d (.int .u8 r15.1.Need)]) (key:=r15.1) (z:=0) (vz:=[.int .i64 0]) eqk51 true) (ck 5 (en (sj (λ (x:((List GState)×(List (List Int))×(List (GState×Int))×Int))=>f75_s7 p0_ k_1 x_7 x.1 x.2.1 x.2.2.1 x.2.2.2) (λ (x:((List GState)×(List (List Int))×(List (GState×Int))×Int))=>FAu_explore_J2 n k_1 x_7 x.1 x.2.1 x.2.2.1 x.2.2.2) z ?_ (λ hFAu_explore_J2=>?_))))))))
   ·rintro ⟨states_6,from_6,number_5,n_1⟩ H
    exact bx H λ x9 h37 H=>rg (tr (so1 (encN:=(nL 1 eI64)) 2 1 h37) (sno (encN:=(nL 1 eI64)) (enc:=eI64) h37 [.own 1 (List.map eI64 x9)] x9 1 2 0 1)) (ck 4 (sp (at_idxO 2 1 h37) (sp (at_ldN (encN:=(nL 1 eI64)) (row:=[.osl 4 1 0 (List.length x9)]) (k:=2) (sz:=1) (off:=0) (t:=ty 36) (v:=.osl 4 1 0 (List.length x9)) h37) (ck 2 (bx H λ l2 h38 H=>sp (at_appO eI64 4 1 h38) (sp (at_idxO 2 1 h37) (sp (at_stN (encN:=(nL 1 eI64)) (row:=[.osl 4 1 0 (List.length x9)]) (row':=[.osl 6 1 0 (List.length l2)]) (k:=2) (sz:=1) (off:=0) (t:=ty 36) (v:=.osl 6 1 0 (List.length l2)) h37) (ae (qN (qs (tr (tr (tr (tr (tr (sni (encN:=(nL 1 eI64)) (xs:=from_6) (n:=n_1) (enc:=eI64) [.osl 6 1 0 (List.length l2)] l2 1 2 0 6 1) (scl (encN:=(nL 1 eI64)) (xss:=from_6) n_1 [.own 1 (List.map eI64 l2)] 1 2 l2)) (sn 6 2 1 (lsS from_6 (Int.toNat n_1) l2))) (sn 65 2 1 (lsS from_6 (Int.toNat n_1) l2))) (sn 67 2 1 (lsS from_6 (Int.toNat n_1) l2))) (gP [1,5,6,7,8,29,30] [0,1,2,3] (po1 (po1 (pn1 (nL 1 eI64) (List.set from_6 (Int.toNat n_1) l2) (po1 (Pl.z))))))) (hFAu_explore_J1 (states_6,(List.set from_6 (Int.toNat n_1) l2),number_5) H)))))))))))
   refine sr (ck 2 (en (cn H (λ H=>?_) (λ H=>?_))))
   ·exact sr (ck 3 (en (sr (ck 3 (sp (at_put1 (enc:=eI64) (encK:=eGState) (k:=3) (e1:=λ x=>.int .i64 x) (m:=number_2) (l:=[.d (.int .i64 r15.1.Mode),.d (.int .i64 r15.1.Last),.d (.int .u8 r15.1.Need)]) (key:=r15.1) (y:=((List.length states_3:Nat):Int)) (v:=.d (.int .i64 ((List.length states_3:Nat):Int))) (vz:=[.int .i64 0]) eqk51) (en (rz (ck 3 (bx H λ l3 h39 H=>sp (at_appO eGState 1 3 h39) (ck 1 (sK false (bx H λ l4 h40 H=>sp (at_appN (encN:=(nL 1 eI64)) (esz:=1) (k:=2) (e:=[.nil]) h40) (ck 2 (ae (qs (tr (sh_reN (encN:=(nL 1 eI64)) (xss:=from_3) (yss:=l4) (y:=([]:(List Int))) (row:=[.own 0 []]) (sz:=1) 7 (by kernel_rfl) (app_one h40) (by kernel_rfl)) (gP [1,5,6,7,8,12,29,30] [0,6,7,3] (po1 (po1 (pn1 (nL 1 eI64) l4 (po1 (Pl.z))))))) (hFAu_explore_J2 (l3,l4,(mput r15.1 ((List.length states_3:Nat):Int) number_2),((List.length states_3:Nat):Int)) H))))))))))))))))
   ·exact sk (qs (gP [1,5,6,7,8,12,29,30] [0,1,2,3] (po1 (po1 (pn1 (nL 1 eI64) from_3 (po1 (Pl.z)))))) (hFAu_explore_J2 (states_3,from_3,number_2,(Option.getD (mget r15.1 number_2) 0)) H))
 ·exact ex 2 (qx (by cases H;exact xo rfl (gP [1,5,6,7,8] [0,1,2,3] (po1 (po1 (pn1 (nL 1 eI64) from_3 (po1 (Pl.z))))))))
theorem FAu_explore_L1_ok (x:((List GState)×(List (List Int))×(List (GState×Int))×Int)) (z:(((List GState)×(List (List Int))×(List (GState×Int))×Int)⊕((List GState)×(List (List Int))))) (H:FAu_explore_L1 n p0_ x.1 x.2.1 x.2.2.1 x.2.2.2=some z):WP (cxk 78 0) (bodyOf Try.f75) [1,1,1,1,0,1,0,0] (roundQ 0 (FAu_explore_L1_S p0_) (FAu_explore_L1_E) z) (FAu_explore_L1_S p0_ x):=by
 obtain ⟨states_1,from_1,number_1,k_1⟩:=x
 refine sq (sr (ck 4 (en (cn H (λ H=>?_) (λ H=>?_)))))
 ·exact sk (qz (sq (bk 1 (sr (ck 2 (sp (at_len eGRule p0_.Rules) (ck 1 (en (bk 2 (bx H λ y19 h41 H=>lX FAu_explore_L2_ok h41 (gP [1,5,6,7,8,29,30] [0,1,2,3] (po1 (po1 (pn1 (nL 1 eI64) from_1 (po1 (Pl.z)))))) rfl λ s hE13=>qH (qN (qs (hE13) (rz (ck 3 (ae (by cases H;exact og (gP [1,5,6,7,8] [0,1,2,3] (po1 (po1 (pn1 (nL 1 eI64) y19.2.1 (po1 (Pl.z))))))))))))))))))))))
 ·exact ex 0 (qx (by cases H;exact xo rfl (gP [5,6] [1,2] (po1 (pn1 (nL 1 eI64) from_1 (Pl.z))))))
theorem FAu_explore_ok {z} (H:FAu_explore n p0_=some z):CallOK Try.prog 75 [.agg (bTable p0_)] (.tup [.own 3 (List.map eGState z.1),.d (.sl (List.map (eL eI64) z.2))]):=by
 exact fO 78 (f75_s1 p0_) Try.func75 (sr (ck 3 (en (sr (bx H λ r14 h34 H=>ca false (FAu_Start_ok h34) (ck 2 (en (sr (ck 2 (sK true (ck 2 (en (sq (rg (sh_toN (sz:=1) (es:=[[.nil]]) 3 (List.map (nL 1 eI64) ([[]]:List (List Int))) (by kernel_rfl) (by kernel_rfl)) (ck 2 (sp (at_put1 (enc:=eI64) (encK:=eGState) (k:=4) (e1:=λ x=>.int .i64 x) (m:=[]) (l:=[.d (.int .i64 r14.Mode),.d (.int .i64 r14.Last),.d (.int .u8 r14.Need)]) (key:=r14) (y:=0) (v:=.d (.int .i64 0)) (vz:=[.int .i64 0]) eqk51) (ck 2 (en (sq (sr (ck 1 (en (bk 0 (bx H λ y20 h42 H=>lX FAu_explore_L1_ok h42 (gP [1,5,6,7,8] [0,2,3,4] (po1 (po1 (pn1 (nL 1 eI64) ([[]]:List (List Int)) (po1 (Pl.z)))))) rfl λ s hE14=>qH (qs (hE14) (sr (ck 4 (ae (qs (sh_frzN (encN:=(nL 1 eI64)) (encD:=(eL eI64)) (xss:=y20.2) (k:=1) (sz:=1) 3 (by kernel_rfl) (λ _=>rfl) (λ _=>rfl)) (re (by cases H;exact pr (rT (vs:=[.osl 0 3 0 (List.length y20.1),.d (.sl (List.map (eL eI64) y20.2))]) [0] (t1 (ao vo) (t1 (ad vd) (t0)))))))))))))))))))))))))))))))))))
end
section
variable (p0_:GTable)
def f60_s1:St:=⟨(0,.agg [.d (.int .i64 p0_.Modes),.d (.int .u8 p0_.Accept),.d (.sl (List.map eGRule p0_.Rules))])::[],[]⟩
variable {p0_}
theorem FAu_States_ok {z} (H:FAu_States n p0_=some z):CallOK Try.prog 60 [.agg (bTable p0_)] (.own 3 (List.map eGState z)):=by
 exact fO 11 (f60_s1 p0_) Try.func60 (sr (ck 2 (en (sr (ck 1 (bx H λ r16 h43 H=>cl [List.length r16.1] (FAu_explore_ok h43) (ck 5 (en (sr (ck 2 (en (re (by cases H;exact pr (rO (v:=.osl 1 3 0 (List.length r16.1)) [1] (ao vo)))))))))))))))
end
section
variable (p0_:(List UInt8)) (p1_:(List UInt8))
def f85_s1:St:=⟨(0,.d (.str p0_))::(1,.d (.str p1_))::[],[]⟩
variable {p0_ p1_}
theorem FSl_HasPrefix_ok {z} (H:FSl_HasPrefix n p0_ p1_=some z):CallOK Try.prog 85 [.d (.str p0_),.d (.str p1_)] (.d (.bool z)):=by
 exact fO 18 (f85_s1 p0_ p1_) Try.func85 (sr (ck 1 (en (sr (ck 8 (gc 1 (decide (((List.length p0_:Nat):Int)≥((List.length p1_:Nat):Int))) (bx H λ s1 h44 H=>sE (λ hg=>at_ssub (gimp h44 hg)) (ck 1 (gc 1 (decide (((List.length p0_:Nat):Int)≥((List.length p1_:Nat):Int))) (pA (ck 1 (en (re (by cases H;exact pr rd))))))))))))))
end
section
variable (p0_:(List UInt8)) (p1_:(List UInt8))
def f77_s1:St:=⟨(0,.d (.str p0_))::(1,.d (.str p1_))::[],[]⟩
variable {p0_ p1_}
theorem FSt_HasPrefix_ok {z} (H:FSt_HasPrefix n p0_ p1_=some z):CallOK Try.prog 77 [.d (.str p0_),.d (.str p1_)] (.d (.bool z)):=by
 exact fO 8 (f77_s1 p0_ p1_) Try.func77 (sr (ck 1 (en (sr (ck 2 (bx H λ r17 h45 H=>ca true (FSl_HasPrefix_ok h45) (ck 1 (en (re (by cases H;exact pr rd))))))))))
end
section
variable (p0_:GTable) (p1_:GState)
def f66_s1:St:=⟨(0,.agg [.d (.int .i64 p0_.Modes),.d (.int .u8 p0_.Accept),.d (.sl (List.map eGRule p0_.Rules))])::(1,.agg [.d (.int .i64 p1_.Mode),.d (.int .i64 p1_.Last),.d (.int .u8 p1_.Need)])::[],[]⟩
variable {p0_ p1_}
theorem FAu_Accepts_ok {z} (H:FAu_Accepts n p0_ p1_=some z):CallOK Try.prog 66 [.agg (bTable p0_),.agg (bState p1_)] (.d (.bool z)):=by
 exact fO 22 (f66_s1 p0_ p1_) Try.func66 (sr (ck 3 (en (sr (ck 7 (gc 1 (decide (p1_.Mode<p0_.Modes)) (ck 1 (gc 1 (decide (p1_.Mode<p0_.Modes)) (bx H λ r19 h49 H=>cG false (leZ) rfl (λ hg=>FAu_has_ok (gimp h49 hg)) (Or.inl rfl) (impK (λ hh=>hh) (impK (λ hh=>hh) (impZ))) rfl (pA (ck 2 (gc 1 ((decide (p1_.Mode<p0_.Modes))&&r19) (bx H λ r20 h50 H=>cG false (leZ) rfl (λ hg=>FAu_has_ok (gimp h50 hg)) (Or.inl rfl) (impK (λ hh=>hh) (impZ)) rfl (pA (ck 1 (en (re (by cases H;exact pr rd))))))))))))))))))
end
section
variable (p0_:Int)
def f103_s1:St:=⟨(0,.d (.int .i64 p0_))::[],[]⟩
variable {p0_}
theorem FCmp_isNaN_int_ok {z} (H:FCmp_isNaN_int n p0_=some z):CallOK Try.prog 103 [.d (.int .i64 p0_)] (.d (.bool z)):=by
 exact fO 6 (f103_s1 p0_) Try.func103 (sr (ck 1 (en (sr (ck 4 (en (re (by cases H;exact pr rd))))))))
end
section
variable (p0_:Int) (p1_:Int)
def f92_s1:St:=⟨(0,.d (.int .i64 p0_))::(1,.d (.int .i64 p1_))::[],[]⟩
variable {p0_ p1_}
theorem FCmp_Less_int_ok {z} (H:FCmp_Less_int n p0_ p1_=some z):CallOK Try.prog 92 [.d (.int .i64 p0_),.d (.int .i64 p1_)] (.d (.bool z)):=by
 exact fO 17 (f92_s1 p0_ p1_) Try.func92 (sr (ck 1 (en (sr (ck 1 (bx H λ r21 h51 H=>ca false (FCmp_isNaN_int_ok h51) (ck 2 (bx H λ r22 h52 H=>cG false (leZ) rfl (λ hg=>FCmp_isNaN_int_ok (gimp h52 hg)) (Or.inl rfl) (impK (λ hh=>hh) (impZ)) rfl (gc 1 r21 (pA (ck 3 (gc 1 (!(r21&&(!r22))) (pO (ck 1 (en (re (by cases H;exact pr rd)))))))))))))))))
end
section
variable (p0_:Int)
def f97_s1:St:=⟨(0,.d (.int .i64 p0_))::[],[]⟩
variable {p0_}
theorem FSl_isNaN_int_ok {z} (H:FSl_isNaN_int n p0_=some z):CallOK Try.prog 97 [.d (.int .i64 p0_)] (.d (.bool z)):=by
 exact fO 6 (f97_s1 p0_) Try.func97 (sr (ck 1 (en (sr (ck 4 (en (re (by cases H;exact pr rd))))))))
end
section
variable (p0_:(List Int)) (p1_:Int) (i_1:Int) (j_1:Int) (i_2:Int)
def f80_s1:St:=⟨(0,.d (.sl (List.map eI64 p0_)))::(1,.d (.int .i64 p1_))::[],[]⟩
def f80_s2:St:=⟨(0,.d (.sl (List.map eI64 p0_)))::(1,.d (.int .i64 p1_))::(6,.d (.int .i64 ((List.length p0_:Nat):Int)))::(7,.d (.int .i64 i_1))::(8,.d (.int .i64 j_1))::[],[]⟩
def f80_s3:St:=⟨(0,.d (.sl (List.map eI64 p0_)))::(1,.d (.int .i64 p1_))::(6,.d (.int .i64 ((List.length p0_:Nat):Int)))::(7,.d (.int .i64 i_2))::[],[]⟩
def FSl_BinarySearch_int_int_L1_E:Int->Ex->St->Prop:=xX 0 0 (λ (y:Int)=>f80_s3 p0_ p1_ y)
def FSl_BinarySearch_int_int_L1_S:(Int×Int)->St:=(λ (x:(Int×Int))=>f80_s2 p0_ p1_ x.1 x.2)
variable {p0_ p1_ i_1 j_1 i_2}
theorem FSl_BinarySearch_int_int_L1_ok (x:(Int×Int)) (z:((Int×Int)⊕Int)) (H:FSl_BinarySearch_int_int_L1 n p0_ p1_ x.1 x.2=some z):WP (cxk 54 0) (bodyOf Try.f80) [1,1,1,0,0,0] (roundQ 0 (FSl_BinarySearch_int_int_L1_S p0_ p1_) (FSl_BinarySearch_int_int_L1_E p0_ p1_) z) (FSl_BinarySearch_int_int_L1_S p0_ p1_ x):=by
 obtain ⟨i_1,j_1⟩:=x
 refine sq (sr (ck 3 (en (cn H (λ H=>?_) (λ H=>?_)))))
 ·refine sk (qz (bk 1 (sr (ck 7 (en (sr (ck 2 (bx H λ x11 h53 H=>sp (at_idxD eI64 h53) (ck 2 (bx H λ r23 h54 H=>ca false (FCmp_Less_int_ok h54) (en (cn H (λ H=>?_) (λ H=>?_)))))))))))))
  ·exact rz (ck 3 (ae (qN (by cases H;exact og (sg [0,1,6,7,8])))))
  ·exact rz (ck 2 (ae (qN (by cases H;exact og (sg [0,1,6,7,8])))))
 ·exact ex 0 (qx (by cases H;exact xo rfl (sg [0,1,6,7])))
theorem FSl_BinarySearch_int_int_ok {z} (H:FSl_BinarySearch_int_int n p0_ p1_=some z):CallOK Try.prog 80 [.d (.sl (List.map eI64 p0_)),.d (.int .i64 p1_)] (.tup [.d (.int .i64 z.1),.d (.bool z.2)]):=by
 exact fO 54 (f80_s1 p0_ p1_) Try.func80 (sr (ck 2 (en (sr (ck 1 (sp (at_len eI64 p0_) (ck 1 (en (sr (ck 3 (en (sq (bk 0 (bx H λ y21 h55 H=>lX FSl_BinarySearch_int_int_L1_ok h55 (sg [0,1,6,7,8]) rfl λ s hE15=>qH (qs (hE15) (sr (ck 7 (bx H λ x12 h56 H=>sE (λ hg=>at_idxD eI64 (gimp h56 hg)) (gc 1 (decide (y21<((List.length p0_:Nat):Int))) (ck 1 (gc 2 (decide (y21<((List.length p0_:Nat):Int))) (ck 2 (bx H λ x13 h57 H=>sE (λ hg=>at_idxD eI64 (gimp h57 hg)) (gc 1 ((decide (y21<((List.length p0_:Nat):Int)))&&!(x12==p1_)) (bx H λ r24 h58 H=>cG false (leZ) rfl (λ hg=>FSl_isNaN_int_ok (gimp h58 hg)) (Or.inl rfl) (impK (λ hh=>hh) (impZ)) rfl (gc 1 ((decide (y21<((List.length p0_:Nat):Int)))&&!(x12==p1_)) (ck 1 (bx H λ r25 h59 H=>cG false (leZ) rfl (λ hg=>FSl_isNaN_int_ok (gimp h59 hg)) (Or.inl rfl) (impK (λ hh=>hh) (impZ)) rfl (pG (g:=((decide (y21<((List.length p0_:Nat):Int)))&&!(x12==p1_))) (v:=.d (.bool (r24&&r25))) (λ hg=>pick_genz (c:=.gv ((decide (y21<((List.length p0_:Nat):Int)))&&!(x12==p1_)) (.d (.bool r24))) (a:=.gv (((decide (y21<((List.length p0_:Nat):Int)))&&!(x12==p1_))&&r24) (.d (.bool r25))) (b:=.d (.bool false)) rfl rfl rfl ((λ hh=>hh) hg) (λ ht=>by rw [(λ hh=>hh) hg,ht];rfl) trivial) (pG (g:=decide (y21<((List.length p0_:Nat):Int))) (v:=.d (.bool ((x12==p1_)||(r24&&r25)))) (λ hg=>pick_genz (c:=.gv (decide (y21<((List.length p0_:Nat):Int))) (.d (.bool (x12==p1_)))) (a:=.d (.bool true)) (b:=.gv ((decide (y21<((List.length p0_:Nat):Int)))&&!(x12==p1_)) (.d (.bool (r24&&r25)))) rfl rfl rfl ((λ hh=>hh) hg) trivial (λ ht=>by rw [(λ hh=>hh) hg,ht];rfl)) (pA (ck 2 (en (re (by cases H;exact pr rdT)))))))))))))))))))))))))))))))))))
end
section
variable (p0_:GColumn) (p1_:Int)
def f68_s1:St:=⟨(0,.dptr (eGColumn p0_) 0)::(1,.d (.int .i64 p1_))::[],[]⟩
variable {p0_ p1_}
theorem FTr_column_find_ok {z} (H:FTr_column_find n p0_ p1_=some z):CallOK Try.prog 68 [.dptr (eGColumn p0_) 0,.d (.int .i64 p1_)] (.d (.int .i64 z)):=by
 refine fO 25 (f68_s1 p0_ p1_) Try.func68 (sr (ck 1 (en (sr (ck 5 (bx H λ r26 h60 H=>ca false (FSl_BinarySearch_int_int_ok h60) (ck 5 (en (sq (sr (ck 2 (en (cn H (λ H=>?_) (λ H=>?_))))))))))))))
 ·exact sr (ck 1 (en (re (qr (by cases H;exact pr rd)))))
 ·exact sk (qz (sr (ck 5 (bx H λ x14 h61 H=>sp (at_idxD eI64 h61) (ck 2 (en (re (by cases H;exact pr rd))))))))
end
section
variable (p0_:GTable) (p1_:(List UInt8)) (x_9:GWriter) (r30:(List GState)) (l7:(List GColumn)) (number_6:(List (GState×Int))) (x_10:Int) (number_7:(List (GState×Int))) (y26:(List (GState×Int))) (w_1:GWriter) (x_11:Int) (w_2:GWriter) (x21:GState) (w_3:GWriter) (x_12:Int) (w_4:GWriter) (w_5:GWriter)
def f33k0_s1:St:=⟨(0,.agg [.d (.int .i64 p0_.Modes),.d (.int .u8 p0_.Accept),.d (.sl (List.map eGRule p0_.Rules))])::(1,.d (.str p1_))::[],[]⟩
def f33k0_s2:St:=⟨(4,.ptr 0 0)::[],[some (.box (bWriter_6 x_9 (.osl 1 2 0 (List.length x_9.Columns)))),some (.narr 2 (List.map nGColumn x_9.Columns))]⟩
def f33k0_s3:St:=⟨(2,.ptr 0 0)::(5,.ptr 1 0)::(6,.mp 2)::(33,.d (.sl (List.map eGState r30)))::(34,.d (.int .i64 ((List.length r30:Nat):Int)))::(35,.d (.int .i64 x_10))::[],[some (.box (bTable p0_)),some (.box [.d (.int .i64 p0_.Modes),.d (.int .u8 p0_.Accept),.d (.sl (List.map eGRule p0_.Rules)),.d (.str p1_),.d (.sl (List.map eGState r30)),.osl 3 1 0 (List.length ([]:List (List GArc))),.osl 4 2 0 (List.length l7),.d (.int .i64 0)]),some (.map true false (encM eGState eI64 number_6)),some (.arr 1 (List.map (eL eGArc) ([]:List (List GArc)))),some (.narr 2 (List.map nGColumn l7))]⟩
def f33k0_s4:St:=⟨(2,.ptr 0 0)::(5,.ptr 1 0)::(6,.mp 2)::[],[some (.box (bTable p0_)),some (.box [.d (.int .i64 p0_.Modes),.d (.int .u8 p0_.Accept),.d (.sl (List.map eGRule p0_.Rules)),.d (.str p1_),.d (.sl (List.map eGState r30)),.osl 3 1 0 (List.length ([]:List (List GArc))),.osl 4 2 0 (List.length l7),.d (.int .i64 0)]),some (.map true false (encM eGState eI64 number_7)),some (.arr 1 (List.map (eL eGArc) ([]:List (List GArc)))),some (.narr 2 (List.map nGColumn l7))]⟩
def FTr_newWriter_L1_E:(List (GState×Int))->Ex->St->Prop:=xX 0 0 (λ (y:(List (GState×Int)))=>f33k0_s4 p0_ p1_ r30 l7 y)
def FTr_newWriter_L1_S:((List (GState×Int))×Int)->St:=(λ (x:((List (GState×Int))×Int))=>f33k0_s3 p0_ p1_ r30 l7 x.1 x.2)
def f33k0_s5:St:=⟨(2,.ptr 0 0)::(5,.ptr 1 0)::(6,.mp 2)::(56,.d (.sl (List.map eGState r30)))::(57,.d (.int .i64 ((List.length r30:Nat):Int)))::(58,.d (.int .i64 x_11))::[],[some (.box (bTable p0_)),some (.box (bWriter_5_6 w_1 (.osl 3 1 0 (List.length w_1.Arcs)) (.osl 4 2 0 (List.length w_1.Columns)))),some (.map true false (encM eGState eI64 y26)),some (.narr 1 (List.map (nL 2 eGArc) w_1.Arcs)),some (.narr 2 (List.map nGColumn w_1.Columns))]⟩
def f33k0_s6:St:=⟨(5,.ptr 0 0)::[],[some (.box (bWriter_5_6 w_2 (.osl 1 1 0 (List.length w_2.Arcs)) (.osl 2 2 0 (List.length w_2.Columns)))),some (.narr 1 (List.map (nL 2 eGArc) w_2.Arcs)),some (.narr 2 (List.map nGColumn w_2.Columns))]⟩
def f33k0_s7:St:=⟨(2,.ptr 0 0)::(5,.ptr 1 0)::(6,.mp 2)::(9,.d (.int .i64 x_11))::(10,.ptr 3 0)::(56,.d (.sl (List.map eGState r30)))::(57,.d (.int .i64 ((List.length r30:Nat):Int)))::(58,.d (.int .i64 x_11))::(65,.d (.int .i64 ((List.length p0_.Rules:Nat):Int)))::(66,.d (.int .i64 x_12))::[],[some (.box (bTable p0_)),some (.box (bWriter_5_6 w_3 (.osl 4 1 0 (List.length w_3.Arcs)) (.osl 5 2 0 (List.length w_3.Columns)))),some (.map true false (encM eGState eI64 y26)),some (.box (bState x21)),some (.narr 1 (List.map (nL 2 eGArc) w_3.Arcs)),some (.narr 2 (List.map nGColumn w_3.Columns))]⟩
def f33k0_s8:St:=⟨(2,.ptr 0 0)::(5,.ptr 1 0)::(6,.mp 2)::(56,.d (.sl (List.map eGState r30)))::(57,.d (.int .i64 ((List.length r30:Nat):Int)))::(58,.d (.int .i64 x_11))::[],[some (.box (bTable p0_)),some (.box (bWriter_5_6 w_4 (.osl 3 1 0 (List.length w_4.Arcs)) (.osl 4 2 0 (List.length w_4.Columns)))),some (.map true false (encM eGState eI64 y26)),some (.narr 1 (List.map (nL 2 eGArc) w_4.Arcs)),some (.narr 2 (List.map nGColumn w_4.Columns))]⟩
def f33k0_s9:St:=⟨(2,.ptr 0 0)::(5,.ptr 1 0)::(6,.mp 2)::(9,.d (.int .i64 x_11))::(10,.ptr 3 0)::(56,.d (.sl (List.map eGState r30)))::(57,.d (.int .i64 ((List.length r30:Nat):Int)))::(58,.d (.int .i64 x_11))::(65,.d (.int .i64 ((List.length p0_.Rules:Nat):Int)))::(66,.d (.int .i64 x_12))::[],[some (.box (bTable p0_)),some (.box (bWriter_5_6 w_5 (.osl 4 1 0 (List.length w_5.Arcs)) (.osl 5 2 0 (List.length w_5.Columns)))),some (.map true false (encM eGState eI64 y26)),some (.box (bState x21)),some (.narr 1 (List.map (nL 2 eGArc) w_5.Arcs)),some (.narr 2 (List.map nGColumn w_5.Columns))]⟩
def FTr_newWriter_L3_E:GWriter->Ex->St->Prop:=xX 0 4 (λ (y:GWriter)=>f33k0_s8 p0_ r30 y26 x_11 y)
def FTr_newWriter_L3_S:(GWriter×Int)->St:=(λ (x:(GWriter×Int))=>f33k0_s7 p0_ r30 y26 x_11 x21 x.1 x.2)
def FTr_newWriter_L2_E:GWriter->Ex->St->Prop:=xX 0 2 (λ (y:GWriter)=>f33k0_s6 y)
def FTr_newWriter_L2_S:(GWriter×Int)->St:=(λ (x:(GWriter×Int))=>f33k0_s5 p0_ r30 y26 x.1 x.2)
variable {p0_ p1_ x_9 r30 l7 number_6 x_10 number_7 y26 w_1 x_11 w_2 x21 w_3 x_12 w_4 w_5}
theorem FTr_newWriter_L1_ok (x:((List (GState×Int))×Int)) (z:(((List (GState×Int))×Int)⊕(List (GState×Int)))) (H:FTr_newWriter_L1 n p0_ p1_ r30 l7 x.1 x.2=some z):WP (cxk 100 0) (bodyOf Try.f33) [1,1,1,0,1,0,0] (roundQ 0 (FTr_newWriter_L1_S p0_ p1_ r30 l7) (FTr_newWriter_L1_E p0_ p1_ r30 l7) z) (FTr_newWriter_L1_S p0_ p1_ r30 l7 x):=by
 obtain ⟨number_6,x_10⟩:=x
 refine sr (ck 1 (en (sq (cn H (λ H=>?_) (λ H=>?_)))))
 ·exact sk (qz (sq (bk 1 (sr (ck 1 (bx H λ x20 h76 H=>sp (at_idxD eGState h76) (ck 4 (en (rz (ck 3 (sp (at_put1 (enc:=eI64) (encK:=eGState) (k:=2) (e1:=λ x=>.int .i64 x) (m:=number_6) (l:=[.d (.int .i64 x20.Mode),.d (.int .i64 x20.Last),.d (.int .u8 x20.Need)]) (key:=x20) (y:=x_10) (v:=.d (.int .i64 x_10)) (vz:=[.int .i64 0]) eqk51) (ae (qN (qz (rz (ck 2 (ae (by cases H;exact og (gP [2,5,6,33,34,35] [0,1,2,3,4] (po1 (po1 (po1 (po1 (pn1 nGColumn l7 (Pl.z)))))))))))))))))))))))))
 ·exact ex 0 (qx (by cases H;exact xo rfl (gP [2,5,6] [0,1,2,3,4] (po1 (po1 (po1 (po1 (pn1 nGColumn l7 (Pl.z)))))))))
theorem FTr_newWriter_L3_ok (x:(GWriter×Int)) (z:((GWriter×Int)⊕GWriter)) (H:FTr_newWriter_L3 n p0_ r30 y26 x_11 x21 x.1 x.2=some z):WP (cxk 100 0) (bodyOf Try.f33) [1,1,1,1,1,0,1,0,0,1,1,0,0,1,1,0,0] (roundQ 0 (FTr_newWriter_L3_S p0_ r30 y26 x_11 x21) (FTr_newWriter_L3_E p0_ r30 y26 x_11) z) (FTr_newWriter_L3_S p0_ r30 y26 x_11 x21 x):=by
 obtain ⟨w_3,x_12⟩:=x
 refine sr (ck 1 (en (sq (cn H (λ H=>?_) (λ H=>?_)))))
 ·refine sk (qz (sj (λ (x:GWriter)=>f33k0_s9 p0_ r30 y26 x_11 x21 x_12 x) (λ (x:GWriter)=>FTr_newWriter_J1 n x_12 x) z ?_ (λ hFTr_newWriter_J1=>?_)))
  ·intro w_5 H
   exact rz (ck 2 (ae (by cases H;exact og (gP [2,5,6,9,10,56,57,58,65,66] [0,1,2,3,4,5] (po1 (po1 (po1 (po1 (pn1 (nL 2 eGArc) w_5.Arcs (pn1 nGColumn w_5.Columns (Pl.z)))))))))))
  refine bk 5 (sr (ck 2 (en (sr (ck 3 (bx H λ r31 h80 H=>ca false (FAu_Step_ok h80) (ck 6 (en (sr (ck 1 (en (cn H (λ H=>?_) (λ H=>?_)))))))))))))
  ·exact bx H λ x22 h81 H=>rg (tr (so1 (encN:=(nL 2 eGArc)) 4 1 h81) (sno (encN:=(nL 2 eGArc)) (enc:=eGArc) h81 [.own 2 (List.map eGArc x22)] x22 1 4 0 2)) (ck 10 (sp (at_idxO 4 1 h81) (sp (at_ldN (encN:=(nL 2 eGArc)) (row:=[.osl 7 2 0 (List.length x22)]) (k:=4) (sz:=1) (off:=0) (t:=ty 115) (v:=.osl 7 2 0 (List.length x22)) h81) (ck 3 (sp (at_look1 (enc:=eI64) (encK:=eGState) (k:=2) (e1:=λ x=>.int .i64 x) (m:=y26) (l:=[.d (.int .i64 r31.1.Mode),.d (.int .i64 r31.1.Last),.d (.int .u8 r31.1.Need)]) (key:=r31.1) (z:=0) (vz:=[.int .i64 0]) eqk51 false) (ck 2 (bx H λ l9 h82 H=>sp (at_appO eGArc 7 2 h82) (sp (at_idxO 4 1 h81) (sp (at_stN (encN:=(nL 2 eGArc)) (row:=[.osl 7 2 0 (List.length x22)]) (row':=[.osl 9 2 0 (List.length l9)]) (k:=4) (sz:=1) (off:=0) (t:=ty 115) (v:=.osl 9 2 0 (List.length l9)) h81) (ae (qN (qs (tr (tr (tr (tr (tr (sni (encN:=(nL 2 eGArc)) (xs:=w_3.Arcs) (n:=x_11) (enc:=eGArc) [.osl 9 2 0 (List.length l9)] l9 1 4 0 9 2) (scl (encN:=(nL 2 eGArc)) (xss:=w_3.Arcs) x_11 [.own 2 (List.map eGArc l9)] 1 4 l9)) (sn 80 4 1 (lsS w_3.Arcs (Int.toNat x_11) l9))) (sn 85 4 1 (lsS w_3.Arcs (Int.toNat x_11) l9))) (snc 1 5 4 1 (lsS w_3.Arcs (Int.toNat x_11) l9))) (gP [2,5,6,9,10,56,57,58,65,66] [0,1,2,3,4,5] (po1 (po1 (po1 (po1 (pn1 (nL 2 eGArc) (List.set w_3.Arcs (Int.toNat x_11) l9) (pn1 nGColumn w_3.Columns (Pl.z))))))))) (hFTr_newWriter_J1 ({ T:=w_3.T,S:=w_3.S,States:=w_3.States,Arcs:=List.set w_3.Arcs (Int.toNat x_11) l9,Columns:=w_3.Columns,Last:=w_3.Last }:GWriter) H)))))))))))))
  ·exact sk (qN (qs (gP [2,5,6,9,10,56,57,58,65,66] [0,1,2,3,4,5] (po1 (po1 (po1 (po1 (pn1 (nL 2 eGArc) w_3.Arcs (pn1 nGColumn w_3.Columns (Pl.z)))))))) (hFTr_newWriter_J1 w_3 H)))
 ·exact ex 4 (qx (by cases H;exact xo rfl (gP [2,5,6,56,57,58] [0,1,2,4,5] (po1 (po1 (po1 (pn1 (nL 2 eGArc) w_3.Arcs (pn1 nGColumn w_3.Columns (Pl.z)))))))))
theorem FTr_newWriter_L2_ok (x:(GWriter×Int)) (z:((GWriter×Int)⊕GWriter)) (H:FTr_newWriter_L2 n p0_ r30 y26 x.1 x.2=some z):WP (cxk 100 0) (bodyOf Try.f33) [1,1,1,1,1,0,1,0,0] (roundQ 0 (FTr_newWriter_L2_S p0_ r30 y26) (FTr_newWriter_L2_E) z) (FTr_newWriter_L2_S p0_ r30 y26 x):=by
 obtain ⟨w_1,x_11⟩:=x
 refine sr (ck 1 (en (sq (cn H (λ H=>?_) (λ H=>?_)))))
 ·exact sk (qz (sq (bk 3 (sr (ck 1 (bx H λ x21 h79 H=>sp (at_idxD eGState h79) (ck 4 (en (sr (ck 2 (sp (at_len eGRule p0_.Rules) (ck 1 (en (bk 4 (bx H λ y27 h83 H=>lX FTr_newWriter_L3_ok h83 (gP [2,5,6,9,10,56,57,58,65,66] [0,1,2,5,3,4] (po1 (po1 (po1 (po1 (pn1 (nL 2 eGArc) w_1.Arcs (pn1 nGColumn w_1.Columns (Pl.z)))))))) rfl λ s hE20=>qH (qN (qs (hE20) (rz (ck 2 (ae (by cases H;exact og (gP [2,5,6,56,57,58] [0,1,2,3,4] (po1 (po1 (po1 (pn1 (nL 2 eGArc) y27.Arcs (pn1 nGColumn y27.Columns (Pl.z))))))))))))))))))))))))))))
 ·exact ex 2 (qx (by cases H;exact xo rfl (gP [5] [1,3,4] (po1 (pn1 (nL 2 eGArc) w_1.Arcs (pn1 nGColumn w_1.Columns (Pl.z)))))))
theorem FTr_newWriter_ok {z} (H:FTr_newWriter n p0_ p1_=some z):LentOK Try.prog 33 [.agg (bTable p0_),.d (.str p1_)] [] 0 (.ptr 0 0) [some (.box (bWriter_6 z (.osl 1 2 0 (List.length z.Columns)))),some (.narr 2 (List.map nGColumn z.Columns))]:=by
 exact fL 100 0 (f33k0_s1 p0_ p1_) Try.func33 (sr (ck 2 (en (sr (ck 3 (bx H λ r30 h74 H=>ca false (FAu_States_ok h74) (ck 3 (bx H λ l7 h75 H=>sp (at_mkZ 2 (ez:=[.nil,.nil]) h75) (ck 3 (en (sq (rg (tr (tr (sh_toM (encN:=nGColumn) (sz:=2) (z:=[.nil,.nil]) (n:=(iadd .i64 ((List.length p1_:Nat):Int) 1)) 1 (mkl_rep h75) (by kernel_rfl) (by kernel_rfl)) (sn 21 1 2 (mkl_len h75))) (snc 2 6 1 2 (mkl_len h75))) (ck 4 (sp (at_len eGState r30) (ck 2 (en (sq (sr (ck 4 (sp (at_len eGState r30) (ck 1 (en (bk 0 (bx H λ y26 h77 H=>lX FTr_newWriter_L1_ok h77 (tr (sh_nilc 2 5 1 (by kernel_rfl)) (gP [2,5,6,33,34,35] [0,2,3,4,1] (po1 (po1 (po1 (po1 (pn1 nGColumn l7 (Pl.z)))))))) rfl λ s hE19=>qH (qs (hE19) (sr (ck 5 (sp (at_len eGState r30) (bx H λ l8 h78 H=>sp (at_mkZ 1 (ez:=[.nil]) h78) (ck 3 (en (sq (sq (rg (tr (tr (sh_toM (encN:=(nL 2 eGArc)) (sz:=1) (z:=[.nil]) (n:=((List.length r30:Nat):Int)) 5 (mkl_rep h78) (by kernel_rfl) (by kernel_rfl)) (sn 50 5 1 (mkl_len h78))) (snc 1 5 5 1 (mkl_len h78))) (ck 4 (sp (at_len eGState r30) (ck 1 (en (bk 2 (bx H λ y28 h84 H=>lX FTr_newWriter_L2_ok h84 (gP [2,5,6,56,57,58] [0,1,2,5,4] (po1 (po1 (po1 (pn1 (nL 2 eGArc) l8 (pn1 nGColumn l7 (Pl.z))))))) rfl λ s hE21=>qH (qs (hE21) (sr (ck 2 (en (re (by cases H;exact pL (rl (s':=f33k0_s2 z) (tr (sh_frzNc (encN:=(nL 2 eGArc)) (encD:=(eL eGArc)) (xss:=z.Arcs) (sz:=1) 0 5 1 (by kernel_rfl) (by kernel_rfl) (λ _=>rfl) (λ _=>rfl)) (gP [4] [0,2] (po1 (pn1 nGColumn z.Columns (Pl.z))))))))))))))))))))))))))))))))))))))))))))))))))))
end
section
variable (p0_:Int) (p1_:Int) (b2_:GWriter) (o0_:(List (List Bool))) (x_13:GWriter) (x_14:(List (List Bool)))
def f62k0_s1:St:=⟨(0,.d (.int .i64 p0_))::(1,.d (.int .i64 p1_))::(2,.eptr 0 1 0 0)::(3,.ptr 1 0)::[],[some (.narr 1 (List.map (nL 1 eB) o0_)),some (.box [.ptr 2 0]),some (.box (bWriter_6 b2_ (.osl 3 2 0 (List.length b2_.Columns)))),some (.narr 2 (List.map nGColumn b2_.Columns))]⟩
def f62k0_s2:St:=⟨[],[some (.narr 1 (List.map (nL 1 eB) x_14)),some (.box [.ptr 2 0]),some (.box (bWriter_6 x_13 (.osl 3 2 0 (List.length x_13.Columns)))),some (.narr 2 (List.map nGColumn x_13.Columns))]⟩
variable {p0_ p1_ b2_ o0_ x_13 x_14}
theorem FTr_writer_reach_1_ok {z} (H:FTr_writer_reach_1 n p0_ p1_ b2_ o0_=some z):LentOK Try.prog 62 [.d (.int .i64 p0_),.d (.int .i64 p1_),.eptr 0 1 0 0,.ptr 1 0] [some (.narr 1 (List.map (nL 1 eB) o0_)),some (.box [.ptr 2 0]),some (.box (bWriter_6 b2_ (.osl 3 2 0 (List.length b2_.Columns)))),some (.narr 2 (List.map nGColumn b2_.Columns))] 4 (.tup []) [some (.narr 1 (List.map (nL 1 eB) z.2)),some (.box [.ptr 2 0]),some (.box (bWriter_6 z.1 (.osl 3 2 0 (List.length z.1.Columns)))),some (.narr 2 (List.map nGColumn z.1.Columns))]:=by
 refine fL 37 4 (f62k0_s1 p0_ p1_ b2_ o0_) Try.func62 (sq (bx H λ x23 h85 H=>rg (tr (so1 (encN:=(nL 1 eB)) 0 1 h85) (sno (encN:=(nL 1 eB)) (enc:=eB) h85 [.own 1 (List.map eB x23)] x23 1 0 0 1)) (ck 2 (bx H λ gd3 h86 H=>sp (at_idxE 0 1 0 5 (j:=0) h86) (sp (at_ldN (encN:=(nL 1 eB)) (row:=[.osl 4 1 0 (List.length x23)]) (k:=0) (sz:=1) (off:=0) (t:=ty 100) (v:=.osl 4 1 0 (List.length x23)) h85) (ck 1 (en (sr (ck 2 (bx H λ x24 h87 H=>sp (at_idxO 4 1 h87) (sp (at_ldA eB 4 0 (ty 4) h87) (ck 1 (en (cn H (λ H=>?_) (λ H=>?_)))))))))))))))
 ·exact sr (ck 2 (bx H λ x25 h88 H=>sp (at_idxO 4 1 h88) (bx H λ l10 h89 H=>stA eB 4 0 (ty 4) h88 h89 (en (bx H λ x26 h90 H=>rg (tr (tr (tr (tr (tr (tr (tr (tr (sn 10 4 1 (put_len h89)) (sn 6 4 1 (put_len h89))) (sn 11 4 1 (put_len h89))) (sn 16 4 1 (put_len h89))) (snr (encN:=(nL 1 eB)) (xs:=o0_) (n:=irem p0_ 5) [.osl 4 1 0 (List.length x23)] 1 0 0 4 1 (put_len h89))) (sni (encN:=(nL 1 eB)) (xs:=o0_) (n:=irem p0_ 5) (enc:=eB) [.osl 4 1 0 (List.length l10)] l10 1 0 0 4 1)) (scl (encN:=(nL 1 eB)) (xss:=o0_) (irem p0_ 5) [.own 1 (List.map eB l10)] 1 0 l10)) (so1 (encN:=nGColumn) 3 2 h90)) (sno (encN:=nGColumn) (enc:=eI64) h90 [.own 1 (List.map eI64 x26.States),.own 1 (List.map eI64 x26.Costs)] x26.States 2 3 0 1)) (ck 10 (sp (at_idxO 3 2 h90) (ck 1 (sp (at_ldN (encN:=nGColumn) (row:=[.osl 5 1 0 (List.length x26.States),.own 1 (List.map eI64 x26.Costs)]) (k:=3) (sz:=2) (off:=0) (t:=ty 36) (v:=.osl 5 1 0 (List.length x26.States)) h90) (ck 2 (bx H λ l11 h91 H=>sp (at_appO eI64 5 1 h91) (sp (at_idxO 3 2 h90) (ck 1 (sp (at_stN (encN:=nGColumn) (row:=[.osl 5 1 0 (List.length x26.States),.own 1 (List.map eI64 x26.Costs)]) (row':=[.osl 7 1 0 (List.length l11),.own 1 (List.map eI64 x26.Costs)]) (k:=3) (sz:=2) (off:=0) (t:=ty 36) (v:=.osl 7 1 0 (List.length l11)) h90) (ae (by cases H;exact pL' (rl (s':=f62k0_s2 ({ T:=b2_.T,S:=b2_.S,States:=b2_.States,Arcs:=b2_.Arcs,Columns:=List.set b2_.Columns (Int.toNat p0_) ({ States:=l11,Costs:=x26.Costs }:GColumn),Last:=b2_.Last }:GWriter) (List.set o0_ (Int.toNat (irem p0_ 5)) l10)) (tr (tr (tr (tr (tr (sni (encN:=nGColumn) (xs:=b2_.Columns) (n:=p0_) (enc:=eI64) [.osl 7 1 0 (List.length l11),.own 1 (List.map eI64 x26.Costs)] l11 2 3 0 7 1) (scl (encN:=nGColumn) (xss:=b2_.Columns) p0_ [.own 1 (List.map eI64 l11),.own 1 (List.map eI64 x26.Costs)] 2 3 ({ States:=l11,Costs:=x26.Costs }:GColumn))) (sn 22 3 2 (lsS b2_.Columns (Int.toNat p0_) ({ States:=l11,Costs:=x26.Costs }:GColumn)))) (sn 27 3 2 (lsS b2_.Columns (Int.toNat p0_) ({ States:=l11,Costs:=x26.Costs }:GColumn)))) (snc 2 6 3 2 (lsS b2_.Columns (Int.toNat p0_) ({ States:=l11,Costs:=x26.Costs }:GColumn)))) (gP [] [0,1,2,3] (pn1 (nL 1 eB) (List.set o0_ (Int.toNat (irem p0_ 5)) l10) (po1 (po1 (pn1 nGColumn (List.set b2_.Columns (Int.toNat p0_) ({ States:=l11,Costs:=x26.Costs }:GColumn)) (Pl.z))))))))))))))))))))))))
 ·exact sk (by cases H;exact pL' (rl (s':=f62k0_s2 b2_ (List.set o0_ (Int.toNat (irem p0_ 5)) x23)) (tr (tr (sni (encN:=(nL 1 eB)) (xs:=o0_) (n:=irem p0_ 5) (enc:=eB) [.osl 4 1 0 (List.length x23)] x23 1 0 0 4 1) (scl (encN:=(nL 1 eB)) (xss:=o0_) (irem p0_ 5) [.own 1 (List.map eB x23)] 1 0 x23)) (gP [] [0,1,2,3] (pn1 (nL 1 eB) (List.set o0_ (Int.toNat (irem p0_ 5)) x23) (po1 (po1 (pn1 nGColumn b2_.Columns (Pl.z)))))))))
end
section
variable (p1_:Int) (p2_:Int) (b0_:GWriter) (x_15:Int) (x_16:Bool)
def f64k0_s1:St:=⟨(0,.ptr 0 0)::(1,.d (.int .i64 p1_))::(2,.d (.int .i64 p2_))::[],[some (.box (bWriter_6 b0_ (.osl 1 2 0 (List.length b0_.Columns)))),some (.narr 2 (List.map nGColumn b0_.Columns))]⟩
def f64k0_s2:St:=⟨(6,.d (.int .i64 x_15))::(7,.d (.bool x_16))::[],[some (.box (bWriter_6 b0_ (.osl 1 2 0 (List.length b0_.Columns)))),some (.narr 2 (List.map nGColumn b0_.Columns))]⟩
variable {p1_ p2_ b0_ x_15 x_16}
theorem FTr_writer_printsx_ok {z} (H:FTr_writer_printsx n p1_ p2_ b0_=some z):LentOK Try.prog 64 [.ptr 0 0,.d (.int .i64 p1_),.d (.int .i64 p2_)] [some (.box (bWriter_6 b0_ (.osl 1 2 0 (List.length b0_.Columns)))),some (.narr 2 (List.map nGColumn b0_.Columns))] 2 (.tup [.d (.int .i64 z.1),.d (.bool z.2)]) [some (.box (bWriter_6 b0_ (.osl 1 2 0 (List.length b0_.Columns)))),some (.narr 2 (List.map nGColumn b0_.Columns))]:=by
 exact fL 30 2 (f64k0_s1 p1_ p2_ b0_) Try.func64 (sr (ck 2 (en (sr (ck 6 (bx H λ x27 h92 H=>sp (at_idxD eGRule h92) (ck 3 (en (sr (ck 9 (bx H λ s3 h93 H=>sp (at_ssub h93) (ck 1 (bx H λ r32 h94 H=>ca true (FSt_HasPrefix_ok h94) (ck 2 (en (re (by cases H;exact pL (rl (s':=f64k0_s2 b0_ (iadd .i64 p1_ ((List.length x27.Print:Nat):Int)) r32) (gP [6,7] [0,1] (po1 (pn1 nGColumn b0_.Columns (Pl.z))))))))))))))))))))))
end
theorem FSort_ok {n:Nat} {o0_:List Int} {z:List Int} (H:FSort n o0_=some z):LentOK Try.prog 65 [.osl 0 1 0 (List.length o0_)] [some (.arr 1 (List.map eI64 o0_))] 1 (.tup []) [some (.arr 1 (List.map eI64 z))]:=sort_lent Try.laysSort ⟨_,_,Try.func65,rfl,rfl⟩ H
section
variable (b0_:GWriter) (x_17:GWriter) (known_1:(List (List Bool))) (x_18:Int) (known_2:(List (List Bool))) (r33:(GWriter×(List (List Bool)))) (w_6:GWriter) (known_3:(List (List Bool))) (x_19:Int) (x_20:GWriter) (class_1:Int) (w_7:GWriter) (known_4:(List (List Bool))) (i_3:Int) (w_8:GWriter) (known_5:(List (List Bool))) (x31:Int) (w_9:GWriter) (x32:(List GArc)) (w_10:GWriter) (known_6:(List (List Bool))) (x_21:Int) (w_11:GWriter) (known_7:(List (List Bool))) (w_12:GWriter) (known_8:(List (List Bool)))
def f34k0_s1:St:=⟨(0,.ptr 0 0)::[],[some (.box (bWriter_6 b0_ (.osl 1 2 0 (List.length b0_.Columns)))),some (.narr 2 (List.map nGColumn b0_.Columns))]⟩
def f34k0_s2:St:=⟨[],[some (.box (bWriter_6 x_17 (.osl 1 2 0 (List.length x_17.Columns)))),some (.narr 2 (List.map nGColumn x_17.Columns))]⟩
def f34k0_s3:St:=⟨(1,.ptr 2 0)::(2,.eptr 3 1 0 0)::(13,.d (.int .i64 x_18))::[],[some (.box (bWriter_6 b0_ (.osl 1 2 0 (List.length b0_.Columns)))),some (.narr 2 (List.map nGColumn b0_.Columns)),some (.box [.ptr 0 0]),some (.narr 1 (List.map (nL 1 eB) known_1))]⟩
def f34k0_s4:St:=⟨(1,.ptr 2 0)::(2,.eptr 3 1 0 0)::[],[some (.box (bWriter_6 b0_ (.osl 1 2 0 (List.length b0_.Columns)))),some (.narr 2 (List.map nGColumn b0_.Columns)),some (.box [.ptr 0 0]),some (.narr 1 (List.map (nL 1 eB) known_2))]⟩
def FTr_writer_reach_L1_E:(List (List Bool))->Ex->St->Prop:=xX 2 0 (λ (y:(List (List Bool)))=>f34k0_s4 b0_ y)
def FTr_writer_reach_L1_S:((List (List Bool))×Int)->St:=(λ (x:((List (List Bool))×Int))=>f34k0_s3 b0_ x.1 x.2)
def f34k0_s5:St:=⟨(1,.ptr 2 0)::(2,.eptr 3 1 0 0)::(4,.clo 62 [.eptr 3 1 0 0,.ptr 2 0])::(32,.d (.int .i64 ((List.length r33.1.Columns:Nat):Int)))::(33,.d (.int .i64 x_19))::[],[some (.box (bWriter_6 w_6 (.osl 1 2 0 (List.length w_6.Columns)))),some (.narr 2 (List.map nGColumn w_6.Columns)),some (.box [.ptr 0 0]),some (.narr 1 (List.map (nL 1 eB) known_3))]⟩
def f34k0_s6:St:=⟨[],[some (.box (bWriter_6 x_20 (.osl 1 2 0 (List.length x_20.Columns)))),some (.narr 2 (List.map nGColumn x_20.Columns))]⟩
def f34k0_s7:St:=⟨(1,.ptr 2 0)::(2,.eptr 3 1 0 0)::(4,.clo 62 [.eptr 3 1 0 0,.ptr 2 0])::(5,.d (.int .i64 x_19))::(6,.d (.int .i64 class_1))::(32,.d (.int .i64 ((List.length r33.1.Columns:Nat):Int)))::(33,.d (.int .i64 x_19))::[],[some (.box (bWriter_6 w_6 (.osl 1 2 0 (List.length w_6.Columns)))),some (.narr 2 (List.map nGColumn w_6.Columns)),some (.box [.ptr 0 0]),some (.narr 1 (List.map (nL 1 eB) known_3))]⟩
def f34k0_s8:St:=⟨(1,.ptr 2 0)::(2,.eptr 3 1 0 0)::(4,.clo 62 [.eptr 3 1 0 0,.ptr 2 0])::(5,.d (.int .i64 x_19))::(6,.d (.int .i64 class_1))::(7,.d (.int .i64 i_3))::(32,.d (.int .i64 ((List.length r33.1.Columns:Nat):Int)))::(33,.d (.int .i64 x_19))::[],[some (.box (bWriter_6 w_7 (.osl 1 2 0 (List.length w_7.Columns)))),some (.narr 2 (List.map nGColumn w_7.Columns)),some (.box [.ptr 0 0]),some (.narr 1 (List.map (nL 1 eB) known_4))]⟩
def f34k0_s9:St:=⟨(1,.ptr 2 0)::(2,.eptr 3 1 0 0)::(4,.clo 62 [.eptr 3 1 0 0,.ptr 2 0])::(5,.d (.int .i64 x_19))::(32,.d (.int .i64 ((List.length r33.1.Columns:Nat):Int)))::(33,.d (.int .i64 x_19))::[],[some (.box (bWriter_6 w_8 (.osl 1 2 0 (List.length w_8.Columns)))),some (.narr 2 (List.map nGColumn w_8.Columns)),some (.box [.ptr 0 0]),some (.narr 1 (List.map (nL 1 eB) known_5))]⟩
def f34k0_s10:St:=⟨(1,.ptr 2 0)::(2,.eptr 3 1 0 0)::(4,.clo 62 [.eptr 3 1 0 0,.ptr 2 0])::(5,.d (.int .i64 x_19))::(6,.d (.int .i64 class_1))::(7,.d (.int .i64 i_3))::(8,.d (.int .i64 x31))::(32,.d (.int .i64 ((List.length r33.1.Columns:Nat):Int)))::(33,.d (.int .i64 x_19))::[],[some (.box (bWriter_6 w_9 (.osl 1 2 0 (List.length w_9.Columns)))),some (.narr 2 (List.map nGColumn w_9.Columns)),some (.box [.ptr 0 0]),some (.narr 1 (List.map (nL 1 eB) known_4))]⟩
def f34k0_s11:St:=⟨(1,.ptr 2 0)::(2,.eptr 3 1 0 0)::(4,.clo 62 [.eptr 3 1 0 0,.ptr 2 0])::(5,.d (.int .i64 x_19))::(6,.d (.int .i64 class_1))::(7,.d (.int .i64 i_3))::(32,.d (.int .i64 ((List.length r33.1.Columns:Nat):Int)))::(33,.d (.int .i64 x_19))::(96,.d (.sl (List.map eGArc x32)))::(97,.d (.int .i64 ((List.length x32:Nat):Int)))::(98,.d (.int .i64 x_21))::[],[some (.box (bWriter_6 w_10 (.osl 1 2 0 (List.length w_10.Columns)))),some (.narr 2 (List.map nGColumn w_10.Columns)),some (.box [.ptr 0 0]),some (.narr 1 (List.map (nL 1 eB) known_6))]⟩
def f34k0_s12:St:=⟨(1,.ptr 2 0)::(2,.eptr 3 1 0 0)::(4,.clo 62 [.eptr 3 1 0 0,.ptr 2 0])::(5,.d (.int .i64 x_19))::(6,.d (.int .i64 class_1))::(7,.d (.int .i64 i_3))::(32,.d (.int .i64 ((List.length r33.1.Columns:Nat):Int)))::(33,.d (.int .i64 x_19))::[],[some (.box (bWriter_6 w_11 (.osl 1 2 0 (List.length w_11.Columns)))),some (.narr 2 (List.map nGColumn w_11.Columns)),some (.box [.ptr 0 0]),some (.narr 1 (List.map (nL 1 eB) known_7))]⟩
def f34k0_s13:St:=⟨(1,.ptr 2 0)::(2,.eptr 3 1 0 0)::(4,.clo 62 [.eptr 3 1 0 0,.ptr 2 0])::(5,.d (.int .i64 x_19))::(6,.d (.int .i64 class_1))::(7,.d (.int .i64 i_3))::(32,.d (.int .i64 ((List.length r33.1.Columns:Nat):Int)))::(33,.d (.int .i64 x_19))::(96,.d (.sl (List.map eGArc x32)))::(97,.d (.int .i64 ((List.length x32:Nat):Int)))::(98,.d (.int .i64 x_21))::[],[some (.box (bWriter_6 w_12 (.osl 1 2 0 (List.length w_12.Columns)))),some (.narr 2 (List.map nGColumn w_12.Columns)),some (.box [.ptr 0 0]),some (.narr 1 (List.map (nL 1 eB) known_8))]⟩
def FTr_writer_reach_L4_E:(GWriter×(List (List Bool)))->Ex->St->Prop:=xX 2 6 (λ (y:(GWriter×(List (List Bool))))=>f34k0_s12 r33 x_19 class_1 i_3 y.1 y.2)
def FTr_writer_reach_L4_S:(GWriter×(List (List Bool))×Int)->St:=(λ (x:(GWriter×(List (List Bool))×Int))=>f34k0_s11 r33 x_19 class_1 i_3 x32 x.1 x.2.1 x.2.2)
def FTr_writer_reach_L3_E:(GWriter×(List (List Bool)))->Ex->St->Prop:=xX 2 4 (λ (y:(GWriter×(List (List Bool))))=>f34k0_s9 r33 x_19 y.1 y.2)
def FTr_writer_reach_L3_S:(GWriter×(List (List Bool))×Int)->St:=(λ (x:(GWriter×(List (List Bool))×Int))=>f34k0_s8 r33 x_19 class_1 x.1 x.2.1 x.2.2)
def FTr_writer_reach_L2_E:GWriter->Ex->St->Prop:=xX 2 2 (λ (y:GWriter)=>f34k0_s6 y)
def FTr_writer_reach_L2_S:(GWriter×(List (List Bool))×Int)->St:=(λ (x:(GWriter×(List (List Bool))×Int))=>f34k0_s5 r33 x.1 x.2.1 x.2.2)
variable {b0_ x_17 known_1 x_18 known_2 r33 w_6 known_3 x_19 x_20 class_1 w_7 known_4 i_3 w_8 known_5 x31 w_9 x32 w_10 known_6 x_21 w_11 known_7 w_12 known_8}
theorem FTr_writer_reach_L1_ok (x:((List (List Bool))×Int)) (z:(((List (List Bool))×Int)⊕(List (List Bool)))) (H:FTr_writer_reach_L1 n b0_ x.1 x.2=some z):WP (cxk 131 2) (bodyOf Try.f34) [1,1,0,1,0,0] (roundQ 2 (FTr_writer_reach_L1_S b0_) (FTr_writer_reach_L1_E b0_) z) (FTr_writer_reach_L1_S b0_ x):=by
 obtain ⟨known_1,x_18⟩:=x
 refine sr (ck 1 (en (sq (cn H (λ H=>?_) (λ H=>?_)))))
 ·exact sk (qz (sq (bk 1 (sr (ck 2 (en (bx H λ x28 h95 H=>rg (so1 (encN:=(nL 1 eB)) 3 1 h95) (ck 5 (sp (at_len eGState b0_.States) (bx H λ l12 h96 H=>sp (at_mk eB 1 h96) (bx H λ gd4 h97 H=>sp (at_idxE 3 1 0 5 (j:=0) h97) (sp (at_stN (encN:=(nL 1 eB)) (row:=[.own 1 (List.map eB x28)]) (row':=[.osl 4 1 0 (List.length l12)]) (k:=3) (sz:=1) (off:=0) (t:=ty 100) (v:=.osl 4 1 0 (List.length l12)) h95) (ae (qN (qz (rg (tr (sni (encN:=(nL 1 eB)) (xs:=known_1) (n:=x_18) (enc:=eB) [.osl 4 1 0 (List.length l12)] l12 1 3 0 4 1) (scl (encN:=(nL 1 eB)) (xss:=known_1) x_18 [.own 1 (List.map eB l12)] 1 3 l12)) (ck 2 (ae (by cases H;exact og (gP [1,2,13] [0,1,2,3] (po1 (pn1 nGColumn b0_.Columns (po1 (pn1 (nL 1 eB) (List.set known_1 (Int.toNat x_18) l12) (Pl.z)))))))))))))))))))))))))
 ·exact ex 0 (qx (by cases H;exact xo rfl (gP [1,2] [0,1,2,3] (po1 (pn1 nGColumn b0_.Columns (po1 (pn1 (nL 1 eB) known_1 (Pl.z))))))))
theorem FTr_writer_reach_L4_ok (x:(GWriter×(List (List Bool))×Int)) (z:((GWriter×(List (List Bool))×Int)⊕(GWriter×(List (List Bool))))) (H:FTr_writer_reach_L4 n r33 x_19 class_1 i_3 x32 x.1 x.2.1 x.2.2=some z):WP (cxk 131 2) (bodyOf Try.f34) [1,1,1,1,1,1,0,0,1,1,0,0,1,1,1,0,1,0,0,1,0,0,1,1,1,0,0] (roundQ 2 (FTr_writer_reach_L4_S r33 x_19 class_1 i_3 x32) (FTr_writer_reach_L4_E r33 x_19 class_1 i_3) z) (FTr_writer_reach_L4_S r33 x_19 class_1 i_3 x32 x):=by
 obtain ⟨w_10,known_6,x_21⟩:=x
 refine sr (ck 1 (en (sq (cn H (λ H=>?_) (λ H=>?_)))))
 ·refine sk (qz (sj (λ (x:(GWriter×(List (List Bool))))=>f34k0_s13 r33 x_19 class_1 i_3 x32 x_21 x.1 x.2) (λ (x:(GWriter×(List (List Bool))))=>FTr_writer_reach_J3 n x_21 x.1 x.2) z ?_ (λ hFTr_writer_reach_J3=>?_)))
  ·rintro ⟨w_12,known_8⟩ H
   exact rz (ck 2 (ae (by cases H;exact og (gP [1,2,4,5,6,7,32,33,96,97,98] [0,1,2,3] (po1 (pn1 nGColumn w_12.Columns (po1 (pn1 (nL 1 eB) known_8 (Pl.z)))))))))
  refine bk 7 (sr (bx H λ x33 h104 H=>sp (at_idxD eGArc h104) (ck 3 (en (sr (ck 4 (bx H λ r34 h105 H=>ltP [0,1] (FTr_writer_printsx_ok h105) (po1 (pn1 nGColumn w_10.Columns (Pl.z))) (tb (f:=mapA1 (backN [0,1] 5 2)) [some (.box (bWriter_6 w_10 (.osl 1 2 0 (List.length w_10.Columns)))),some (.narr 2 (List.map nGColumn w_10.Columns)),some (.box [.ptr 0 0]),some (.narr 1 (List.map (nL 1 eB) known_6)),some (.box [.d (.int .i64 x33.Rule),.d (.int .i64 x33.To)])] (po1 (pn1 nGColumn w_10.Columns (po1 (po1 (po1 (Pl.z)))))) (ck 5 (en (sr (ck 1 (en (cn H (λ H=>?_) (λ H=>?_)))))))))))))))
  ·exact rz (ck 4 (bx H λ r35 h106 H=>xcP (xok _ _) [3,2,0,1] (FTr_writer_reach_1_ok h106) (pn1 (nL 1 eB) known_6 (po1 (po1 (pn1 nGColumn w_10.Columns (Pl.z))))) (tb (f:=mapA1 (backN [3,2,0,1] 5 4)) [some (.box (bWriter_6 r35.1 (.osl 1 2 0 (List.length r35.1.Columns)))),some (.narr 2 (List.map nGColumn r35.1.Columns)),some (.box [.ptr 0 0]),some (.narr 1 (List.map (nL 1 eB) r35.2)),some (.box [.d (.int .i64 x33.Rule),.d (.int .i64 x33.To)])] (po1 (pn1 nGColumn r35.1.Columns (po1 (pn1 (nL 1 eB) r35.2 (po1 (Pl.z)))))) (ae (qN (qs (gP [1,2,4,5,6,7,32,33,96,97,98] [0,1,2,3] (po1 (pn1 nGColumn r35.1.Columns (po1 (pn1 (nL 1 eB) r35.2 (Pl.z)))))) (hFTr_writer_reach_J3 (r35.1,r35.2) H)))))))
  ·exact sk (qN (qs (gP [1,2,4,5,6,7,32,33,96,97,98] [0,1,2,3] (po1 (pn1 nGColumn w_10.Columns (po1 (pn1 (nL 1 eB) known_6 (Pl.z)))))) (hFTr_writer_reach_J3 (w_10,known_6) H)))
 ·exact ex 6 (qx (by cases H;exact xo rfl (gP [1,2,4,5,6,7,32,33] [0,1,2,3] (po1 (pn1 nGColumn w_10.Columns (po1 (pn1 (nL 1 eB) known_6 (Pl.z))))))))
theorem FTr_writer_reach_L3_ok (x:(GWriter×(List (List Bool))×Int)) (z:((GWriter×(List (List Bool))×Int)⊕(GWriter×(List (List Bool))))) (H:FTr_writer_reach_L3 n r33 x_19 class_1 x.1 x.2.1 x.2.2=some z):WP (cxk 131 2) (bodyOf Try.f34) [1,1,1,1,1,1,0,0,1,1,0,0,1,1,1,0,1,0,0] (roundQ 2 (FTr_writer_reach_L3_S r33 x_19 class_1) (FTr_writer_reach_L3_E r33 x_19) z) (FTr_writer_reach_L3_S r33 x_19 class_1 x):=by
 obtain ⟨w_7,known_4,i_3⟩:=x
 refine sq (sq (bx H λ x29 h100 H=>rg (tr (so1 (encN:=nGColumn) 1 2 h100) (sno (encN:=nGColumn) (enc:=eI64) h100 [.own 1 (List.map eI64 x29.States),.own 1 (List.map eI64 x29.Costs)] x29.States 2 1 0 1)) (ck 6 (sp (at_idxO 1 2 h100) (ck 1 (sp (at_ldN (encN:=nGColumn) (row:=[.osl 4 1 0 (List.length x29.States),.own 1 (List.map eI64 x29.Costs)]) (k:=1) (sz:=2) (off:=0) (t:=ty 36) (v:=.osl 4 1 0 (List.length x29.States)) h100) (ck 2 (en (cn H (λ H=>?_) (λ H=>?_))))))))))
 ·refine sk (qz (sq (bk 5 (sq (bx H λ x30 h101 H=>rg (tr (tr (tr (tr (tr (sni (encN:=nGColumn) (xs:=w_7.Columns) (n:=x_19) (enc:=eI64) [.osl 4 1 0 (List.length x29.States),.own 1 (List.map eI64 x29.Costs)] x29.States 2 1 0 4 1) (scl (encN:=nGColumn) (xss:=w_7.Columns) x_19 [.own 1 (List.map eI64 x29.States),.own 1 (List.map eI64 x29.Costs)] 2 1 x29)) (sn 54 1 2 (lsS w_7.Columns (Int.toNat x_19) x29))) (snc 0 6 1 2 (lsS w_7.Columns (Int.toNat x_19) x29))) (so1 (encN:=nGColumn) 1 2 h101)) (sno (encN:=nGColumn) (enc:=eI64) h101 [.own 1 (List.map eI64 x30.States),.own 1 (List.map eI64 x30.Costs)] x30.States 2 1 0 1)) (ck 5 (sp (at_idxO 1 2 h101) (ck 1 (sp (at_ldN (encN:=nGColumn) (row:=[.osl 5 1 0 (List.length x30.States),.own 1 (List.map eI64 x30.Costs)]) (k:=1) (sz:=2) (off:=0) (t:=ty 36) (v:=.osl 5 1 0 (List.length x30.States)) h101) (ck 1 (bx H λ x31 h102 H=>sp (at_idxO 5 1 h102) (sp (at_ldA eI64 5 0 (ty 3) h102) (ck 1 (en (sj (λ (x:GWriter)=>f34k0_s10 r33 x_19 class_1 known_4 i_3 x31 x) (λ (x:GWriter)=>FTr_writer_reach_J2 n r33 x_19 class_1 known_4 i_3 x31 x) z ?_ (λ hFTr_writer_reach_J2=>?_))))))))))))))))
  ·intro w_9 H
   exact sr (ck 5 (bx H λ x32 h103 H=>sp (at_idxD (eL eGArc) h103) (ck 1 (sp (at_len eGArc x32) (ck 1 (en (bk 6 (bx H λ y30 h107 H=>lX FTr_writer_reach_L4_ok h107 (gP [1,2,4,5,6,7,32,33,96,97,98] [0,1,2,3] (po1 (pn1 nGColumn w_9.Columns (po1 (pn1 (nL 1 eB) known_4 (Pl.z)))))) rfl λ s hE23=>qH (qN (qs (hE23) (rz (ck 3 (ae (by cases H;exact og (gP [1,2,4,5,6,7,32,33] [0,1,2,3] (po1 (pn1 nGColumn y30.1.Columns (po1 (pn1 (nL 1 eB) y30.2 (Pl.z))))))))))))))))))))
  refine sq (rg (tr (tr (tr (tr (sni (encN:=nGColumn) (xs:=List.set w_7.Columns (Int.toNat x_19) x29) (n:=x_19) (enc:=eI64) [.osl 5 1 0 (List.length x30.States),.own 1 (List.map eI64 x30.Costs)] x30.States 2 1 0 5 1) (scl (encN:=nGColumn) (xss:=List.set w_7.Columns (Int.toNat x_19) x29) x_19 [.own 1 (List.map eI64 x30.States),.own 1 (List.map eI64 x30.Costs)] 2 1 x30)) (sn 54 1 2 (lsS (List.set w_7.Columns (Int.toNat x_19) x29) (Int.toNat x_19) x30))) (sn 66 1 2 (lsS (List.set w_7.Columns (Int.toNat x_19) x29) (Int.toNat x_19) x30))) (snc 0 6 1 2 (lsS (List.set w_7.Columns (Int.toNat x_19) x29) (Int.toNat x_19) x30))) (ck 5 (bx H λ x34 h108 H=>sp (at_idxD eGState h108) (ck 3 (bx H λ gd5 h109 H=>so (guard_ge h109) (ck 2 (en (cn H (λ H=>?_) (λ H=>?_)))))))))
  ·exact rz (ck 5 (ae (qs (gP [1,2,4,5,6,7,8,32,33] [0,1,2,3] (po1 (pn1 nGColumn (List.set (List.set w_7.Columns (Int.toNat x_19) x29) (Int.toNat x_19) x30) (po1 (pn1 (nL 1 eB) known_4 (Pl.z)))))) (hFTr_writer_reach_J2 ({ T:=w_7.T,S:=w_7.S,States:=w_7.States,Arcs:=w_7.Arcs,Columns:=List.set (List.set w_7.Columns (Int.toNat x_19) x29) (Int.toNat x_19) x30,Last:=x_19 }:GWriter) H))))
  ·exact sk (qs (gP [1,2,4,5,6,7,8,32,33] [0,1,2,3] (po1 (pn1 nGColumn (List.set (List.set w_7.Columns (Int.toNat x_19) x29) (Int.toNat x_19) x30) (po1 (pn1 (nL 1 eB) known_4 (Pl.z)))))) (hFTr_writer_reach_J2 ({ T:=w_7.T,S:=w_7.S,States:=w_7.States,Arcs:=w_7.Arcs,Columns:=List.set (List.set w_7.Columns (Int.toNat x_19) x29) (Int.toNat x_19) x30,Last:=w_7.Last }:GWriter) H))
 ·exact ex 4 (qx (by cases H;exact xo rfl (tr (tr (tr (tr (sni (encN:=nGColumn) (xs:=w_7.Columns) (n:=x_19) (enc:=eI64) [.osl 4 1 0 (List.length x29.States),.own 1 (List.map eI64 x29.Costs)] x29.States 2 1 0 4 1) (scl (encN:=nGColumn) (xss:=w_7.Columns) x_19 [.own 1 (List.map eI64 x29.States),.own 1 (List.map eI64 x29.Costs)] 2 1 x29)) (sn 54 1 2 (lsS w_7.Columns (Int.toNat x_19) x29))) (snc 0 6 1 2 (lsS w_7.Columns (Int.toNat x_19) x29))) (gP [1,2,4,5,32,33] [0,1,2,3] (po1 (pn1 nGColumn (List.set w_7.Columns (Int.toNat x_19) x29) (po1 (pn1 (nL 1 eB) known_4 (Pl.z)))))))))
theorem FTr_writer_reach_L2_ok (x:(GWriter×(List (List Bool))×Int)) (z:((GWriter×(List (List Bool))×Int)⊕GWriter)) (H:FTr_writer_reach_L2 n r33 x.1 x.2.1 x.2.2=some z):WP (cxk 131 2) (bodyOf Try.f34) [1,1,1,1,1,1,0,0] (roundQ 2 (FTr_writer_reach_L2_S r33) (FTr_writer_reach_L2_E) z) (FTr_writer_reach_L2_S r33 x):=by
 obtain ⟨w_6,known_3,x_19⟩:=x
 refine sr (ck 1 (en (sq (cn H (λ H=>?_) (λ H=>?_)))))
 ·refine sk (qz (sq (bk 3 (sr (ck 2 (en (sr (ck 1 (en (sj (λ (x:Int)=>f34k0_s7 r33 w_6 known_3 x_19 x) (λ (x:Int)=>FTr_writer_reach_J1 n r33 w_6 known_3 x_19 x) z ?_ (λ hFTr_writer_reach_J1=>?_)))))))))))
  ·intro class_1 H
   exact sq (sr (ck 1 (en (bk 4 (bx H λ y31 h110 H=>lX FTr_writer_reach_L3_ok h110 (gP [1,2,4,5,6,7,32,33] [0,1,2,3] (po1 (pn1 nGColumn w_6.Columns (po1 (pn1 (nL 1 eB) known_3 (Pl.z)))))) rfl λ s hE24=>qH (qs (hE24) (sq (bx H λ x35 h111 H=>rg (tr (so1 (encN:=nGColumn) 1 2 h111) (sno (encN:=nGColumn) (enc:=eI64) h111 [.own 1 (List.map eI64 x35.States),.own 1 (List.map eI64 x35.Costs)] x35.States 2 1 0 1)) (ck 5 (sp (at_idxO 1 2 h111) (ck 1 (sp (at_ldN (encN:=nGColumn) (row:=[.osl 4 1 0 (List.length x35.States),.own 1 (List.map eI64 x35.Costs)]) (k:=1) (sz:=2) (off:=0) (t:=ty 36) (v:=.osl 4 1 0 (List.length x35.States)) h111) (bx H λ r36 h112 H=>lt [4] (FSort_ok h112) (bx H λ _ h113 H=>en (bx H λ x36 h114 H=>rg (tr (tr (tr (tr (tr (tr (tr (sn 124 4 1 (guard_len h113)) (snr (encN:=nGColumn) (xs:=y31.1.Columns) (n:=x_19) [.osl 4 1 0 (List.length x35.States),.own 1 (List.map eI64 x35.Costs)] 2 1 0 4 1 (guard_len h113))) (sni (encN:=nGColumn) (xs:=y31.1.Columns) (n:=x_19) (enc:=eI64) [.osl 4 1 0 (List.length r36),.own 1 (List.map eI64 x35.Costs)] r36 2 1 0 4 1)) (scl (encN:=nGColumn) (xss:=y31.1.Columns) x_19 [.own 1 (List.map eI64 r36),.own 1 (List.map eI64 x35.Costs)] 2 1 ({ States:=r36,Costs:=x35.Costs }:GColumn))) (sn 120 1 2 (lsS y31.1.Columns (Int.toNat x_19) ({ States:=r36,Costs:=x35.Costs }:GColumn)))) (snc 0 6 1 2 (lsS y31.1.Columns (Int.toNat x_19) ({ States:=r36,Costs:=x35.Costs }:GColumn)))) (so1 (encN:=(nL 1 eB)) 3 1 h114)) (sno (encN:=(nL 1 eB)) (enc:=eB) h114 [.own 1 (List.map eB x36)] x36 1 3 0 1)) (ck 2 (bx H λ gd6 h115 H=>sp (at_idxE 3 1 0 5 (j:=0) h115) (sp (at_ldN (encN:=(nL 1 eB)) (row:=[.osl 5 1 0 (List.length x36)]) (k:=3) (sz:=1) (off:=0) (t:=ty 100) (v:=.osl 5 1 0 (List.length x36)) h114) (xz (xok _ _) (xs:=x36) eB (false:Bool) 5 1 (ae (qN (qz (rg (tr (tr (tr (sn 129 5 1 (lrS (List.length x36) (false:Bool))) (snr (encN:=(nL 1 eB)) (xs:=y31.2) (n:=irem x_19 5) [.osl 5 1 0 (List.length x36)] 1 3 0 5 1 (lrS (List.length x36) (false:Bool)))) (sni (encN:=(nL 1 eB)) (xs:=y31.2) (n:=irem x_19 5) (enc:=eB) [.osl 5 1 0 (List.length (List.replicate (List.length x36) (false:Bool)))] (List.replicate (List.length x36) (false:Bool)) 1 3 0 5 1)) (scl (encN:=(nL 1 eB)) (xss:=y31.2) (irem x_19 5) [.own 1 (List.map eB (List.replicate (List.length x36) (false:Bool)))] 1 3 (List.replicate (List.length x36) (false:Bool)))) (ck 2 (ae (by cases H;exact og (gP [1,2,4,32,33] [0,1,2,3] (po1 (pn1 nGColumn (List.set y31.1.Columns (Int.toNat x_19) ({ States:=r36,Costs:=x35.Costs }:GColumn)) (po1 (pn1 (nL 1 eB) (List.set y31.2 (Int.toNat (irem x_19 5)) (List.replicate (List.length x36) (false:Bool))) (Pl.z))))))))))))))))))))))))))))))))
  refine sr (ck 7 (en (cn H (λ H=>?_) (λ H=>?_))))
  ·exact rz (ck 5 (bx H λ b5 h116 H=>sp (at_sidx h116) (bx H λ r37 h117 H=>ca false (FTb_Class_ok h117) (ck 1 (ae (qs (gP [1,2,4,5,6,32,33] [0,1,2,3] (po1 (pn1 nGColumn w_6.Columns (po1 (pn1 (nL 1 eB) known_3 (Pl.z)))))) (hFTr_writer_reach_J1 r37 H)))))))
  ·exact sk (qs (gP [1,2,4,5,6,32,33] [0,1,2,3] (po1 (pn1 nGColumn w_6.Columns (po1 (pn1 (nL 1 eB) known_3 (Pl.z)))))) (hFTr_writer_reach_J1 0 H))
 ·exact ex 2 (qx (by cases H;exact xo rfl (gP [] [0,1] (po1 (pn1 nGColumn w_6.Columns (Pl.z))))))
theorem FTr_writer_reach_ok {z} (H:FTr_writer_reach n b0_=some z):LentOK Try.prog 34 [.ptr 0 0] [some (.box (bWriter_6 b0_ (.osl 1 2 0 (List.length b0_.Columns)))),some (.narr 2 (List.map nGColumn b0_.Columns))] 2 (.tup []) [some (.box (bWriter_6 z (.osl 1 2 0 (List.length z.Columns)))),some (.narr 2 (List.map nGColumn z.Columns))]:=by
 exact fL 131 2 (f34k0_s1 b0_) Try.func34 (sr (ck 1 (en (sr (ck 1 (en (sq (sq (rg (tr (tr (sh_boxA 3 [.nil,.nil,.nil,.nil,.nil] (by kernel_rfl)) (sh_toN (sz:=1) (es:=[[.nil],[.nil],[.nil],[.nil],[.nil]]) 3 (List.map (nL 1 eB) ([[],[],[],[],[]]:List (List Bool))) (by kernel_rfl) (by kernel_rfl))) (sh_ep 2 3 1 (by kernel_rfl))) (ck 1 (en (bk 0 (bx H λ y29 h98 H=>lX FTr_writer_reach_L1_ok h98 (gP [1,2,13] [0,1,2,3] (po1 (pn1 nGColumn b0_.Columns (po1 (pn1 (nL 1 eB) ([[],[],[],[],[]]:List (List Bool)) (Pl.z)))))) rfl λ s hE22=>qH (qs (hE22) (sr (xm (xok _ _) (ck 1 (en (sr (ck 1 (bx H λ r33 h99 H=>xcP (xok _ _) [3,2,0,1] (FTr_writer_reach_1_ok h99) (pn1 (nL 1 eB) y29 (po1 (po1 (pn1 nGColumn b0_.Columns (Pl.z))))) (tb (f:=mapA1 (backN [3,2,0,1] 4 4)) [some (.box (bWriter_6 r33.1 (.osl 1 2 0 (List.length r33.1.Columns)))),some (.narr 2 (List.map nGColumn r33.1.Columns)),some (.box [.ptr 0 0]),some (.narr 1 (List.map (nL 1 eB) r33.2))] (po1 (pn1 nGColumn r33.1.Columns (po1 (pn1 (nL 1 eB) r33.2 (Pl.z))))) (en (sr (ck 6 (en (bk 2 (bx H λ y32 h118 H=>lX FTr_writer_reach_L2_ok h118 (gP [1,2,4,32,33] [0,1,2,3] (po1 (pn1 nGColumn r33.1.Columns (po1 (pn1 (nL 1 eB) r33.2 (Pl.z)))))) rfl λ s hE25=>qH (by cases H;exact pL' (rl (s':=f34k0_s2 z) (tr (hE25) (gP [] [0,1] (po1 (pn1 nGColumn z.Columns (Pl.z)))))))))))))))))))))))))))))))))))
end
section
variable (p0_:Int) (p1_:Bool) (b1_0_:Int) (b2_0_:Int) (b3_:GWriter) (x_22:GWriter) (x_23:Bool) (x39:(List GArc)) (x_24:GWriter) (better_1:Bool) (x_25:Int) (x_26:GWriter) (better_2:Bool) (x_27:GWriter) (better_3:Bool)
def f67k0_s1:St:=⟨(0,.d (.int .i64 p0_))::(1,.d (.bool p1_))::(2,.ptr 0 0)::(3,.ptr 1 0)::(4,.ptr 2 0)::[],[some (.box [.ptr 3 0]),some (.box [.eptr 4 2 (0+Int.toNat b1_0_) 0]),some (.box [.d (.int .i64 b2_0_)]),some (.box (bWriter_6 b3_ (.osl 4 2 0 (List.length b3_.Columns)))),some (.narr 2 (List.map nGColumn b3_.Columns))]⟩
def f67k0_s2:St:=⟨(7,.d (.bool x_23))::[],[some (.box [.ptr 3 0]),some (.box [.eptr 4 2 (0+Int.toNat b1_0_) 0]),some (.box [.d (.int .i64 b2_0_)]),some (.box (bWriter_6 x_22 (.osl 4 2 0 (List.length x_22.Columns)))),some (.narr 2 (List.map nGColumn x_22.Columns))]⟩
def f67k0_s3:St:=⟨(0,.d (.int .i64 p0_))::(1,.d (.bool p1_))::(2,.ptr 0 0)::(3,.ptr 1 0)::(4,.ptr 2 0)::(8,.d (.bool better_1))::(27,.d (.sl (List.map eGArc x39)))::(28,.d (.int .i64 ((List.length x39:Nat):Int)))::(29,.d (.int .i64 x_25))::[],[some (.box [.ptr 3 0]),some (.box [.eptr 4 2 (0+Int.toNat b1_0_) 0]),some (.box [.d (.int .i64 b2_0_)]),some (.box (bWriter_6 x_24 (.osl 4 2 0 (List.length x_24.Columns)))),some (.narr 2 (List.map nGColumn x_24.Columns))]⟩
def f67k0_s4:St:=⟨(8,.d (.bool better_2))::[],[some (.box [.ptr 3 0]),some (.box [.eptr 4 2 (0+Int.toNat b1_0_) 0]),some (.box [.d (.int .i64 b2_0_)]),some (.box (bWriter_6 x_26 (.osl 4 2 0 (List.length x_26.Columns)))),some (.narr 2 (List.map nGColumn x_26.Columns))]⟩
def f67k0_s5:St:=⟨(0,.d (.int .i64 p0_))::(1,.d (.bool p1_))::(2,.ptr 0 0)::(3,.ptr 1 0)::(4,.ptr 2 0)::(8,.d (.bool better_3))::(27,.d (.sl (List.map eGArc x39)))::(28,.d (.int .i64 ((List.length x39:Nat):Int)))::(29,.d (.int .i64 x_25))::[],[some (.box [.ptr 3 0]),some (.box [.eptr 4 2 (0+Int.toNat b1_0_) 0]),some (.box [.d (.int .i64 b2_0_)]),some (.box (bWriter_6 x_27 (.osl 4 2 0 (List.length x_27.Columns)))),some (.narr 2 (List.map nGColumn x_27.Columns))]⟩
def FTr_writer_price_1_L1_E:(GWriter×Bool)->Ex->St->Prop:=xX 5 0 (λ (y:(GWriter×Bool))=>f67k0_s4 b1_0_ b2_0_ y.1 y.2)
def FTr_writer_price_1_L1_S:(GWriter×Bool×Int)->St:=(λ (x:(GWriter×Bool×Int))=>f67k0_s3 p0_ p1_ b1_0_ b2_0_ x39 x.1 x.2.1 x.2.2)
variable {p0_ p1_ b1_0_ b2_0_ b3_ x_22 x_23 x39 x_24 better_1 x_25 x_26 better_2 x_27 better_3}
theorem FTr_writer_price_1_L1_ok (x:(GWriter×Bool×Int)) (z:((GWriter×Bool×Int)⊕(GWriter×Bool))) (H:FTr_writer_price_1_L1 n p0_ p1_ b1_0_ b2_0_ x39 x.1 x.2.1 x.2.2=some z):WP (cxk 104 5) (bodyOf Try.f67) [1,1,0,1,0,0] (roundQ 5 (FTr_writer_price_1_L1_S p0_ p1_ b1_0_ b2_0_ x39) (FTr_writer_price_1_L1_E b1_0_ b2_0_) z) (FTr_writer_price_1_L1_S p0_ p1_ b1_0_ b2_0_ x39 x):=by
 obtain ⟨x_24,better_1,x_25⟩:=x
 refine sr (ck 1 (en (sq (cn H (λ H=>?_) (λ H=>?_)))))
 ·refine sk (qz (sj (λ (x:(GWriter×Bool))=>f67k0_s5 p0_ p1_ b1_0_ b2_0_ x39 x_25 x.1 x.2) (λ (x:(GWriter×Bool))=>FTr_writer_price_1_J1 n x_25 x.1 x.2) z ?_ (λ hFTr_writer_price_1_J1=>?_)))
  ·rintro ⟨x_27,better_3⟩ H
   exact rz (ck 2 (ae (by cases H;exact og (gP [0,1,2,3,4,8,27,28,29] [0,1,2,3,4] (po1 (po1 (po1 (po1 (pn1 nGColumn x_27.Columns (Pl.z))))))))))
  refine bk 1 (sr (bx H λ x40 h122 H=>sp (at_idxD eGArc h122) (ck 3 (en (sr (ck 4 (bx H λ r38 h123 H=>ltP [3,4] (FTr_writer_printsx_ok h123) (po1 (pn1 nGColumn x_24.Columns (Pl.z))) (tb (f:=mapA1 (backN [3,4] 6 2)) [some (.box [.ptr 3 0]),some (.box [.eptr 4 2 (0+Int.toNat b1_0_) 0]),some (.box [.d (.int .i64 b2_0_)]),some (.box (bWriter_6 x_24 (.osl 4 2 0 (List.length x_24.Columns)))),some (.narr 2 (List.map nGColumn x_24.Columns)),some (.box [.d (.int .i64 x40.Rule),.d (.int .i64 x40.To)])] (po1 (po1 (po1 (po1 (pn1 nGColumn x_24.Columns (po1 (Pl.z))))))) (ck 5 (en (sq (sr (ck 5 (gc 1 (!(!r38.2)) (ck 1 (gc 1 (!(!r38.2)) (pO (en (cn H (λ H=>?_) (λ H=>?_))))))))))))))))))))
  ·exact ex 1 (qx (qH (qs (gP [0,1,2,3,4,8,27,28,29] [0,1,2,3,4] (po1 (po1 (po1 (po1 (pn1 nGColumn x_24.Columns (Pl.z))))))) (hFTr_writer_price_1_J1 (x_24,better_1) H))))
  ·refine sk (qz (sr (ck 5 (bx H λ x41 h124 H=>sp (at_idxO 4 2 h124) (ck 2 (bx H λ r39 h125 H=>cb (ks:=[4]) (obl:=[(0+Int.toNat r38.1+1,List.length (List.map nGColumn x_24.Columns)),(cntN (List.map nGColumn x_24.Columns),0)]) false (leK (idxL (encN:=nGColumn) h124) (leK (cntM λ _=>rfl) (leZ))) (consE (eptrN (encN:=nGColumn) (encD:=eGColumn) h124 λ _=>rfl) (consE rfl rfl)) (FTr_column_find_ok h125) (Or.inr trivial) rfl (ck 1 (en (sr (ck 8 (bx H λ x42 h126 H=>sp (at_idxD eGRule h126) (ck 2 (sp (at_len eU8 x42.Cells) (ck 2 (en (sq (bx H λ x43 h127 H=>rg (tr (so1 (encN:=nGColumn) 4 2 h127) (sno (encN:=nGColumn) (enc:=eI64) h127 [.own 1 (List.map eI64 x43.States),.own 1 (List.map eI64 x43.Costs)] x43.Costs 2 4 1 1)) (ck 4 (gc 2 (decide (r39≥0)) (sE (g:=decide (r39≥0)) (λ hg=>at_ldN (encN:=nGColumn) (row:=[.own 1 (List.map eI64 x43.States),.osl 6 1 0 (List.length x43.Costs)]) (k:=4) (sz:=2) (off:=1) (t:=ty 36) (v:=.osl 6 1 0 (List.length x43.Costs)) h127) (ck 1 (bx H λ x44 h128 H=>sE (λ hg=>at_idxO 6 1 (gimp h128 hg)) (sE (g:=decide (r39≥0)) (λ hg=>at_ldA eI64 6 0 (ty 3) (gimp h128 hg)) (gc 2 (decide (r39≥0)) (ck 2 (gc 2 ((decide (r39≥0))&&!(decide (x44<0))) (sE (g:=((decide (r39≥0))&&!(decide (x44<0)))) (λ hg=>at_ldN (encN:=nGColumn) (row:=[.own 1 (List.map eI64 x43.States),.osl 6 1 0 (List.length x43.Costs)]) (k:=4) (sz:=2) (off:=1) (t:=ty 36) (v:=.osl 6 1 0 (List.length x43.Costs)) h127) (ck 1 (bx H λ x45 h129 H=>sE (λ hg=>at_idxO 6 1 (gimp h129 hg)) (sE (g:=((decide (r39≥0))&&!(decide (x44<0)))) (λ hg=>at_ldA eI64 6 0 (ty 3) (gimp h129 hg)) (gc 1 ((decide (r39≥0))&&!(decide (x44<0))) (pG (g:=decide (r39≥0)) (v:=.d (.bool ((decide (x44<0))||(decide (iadd .i64 r39 ((List.length x42.Cells:Nat):Int)<x45))))) (λ hg=>pick_genz (c:=.gv (decide (r39≥0)) (.d (.bool (decide (x44<0))))) (a:=.d (.bool true)) (b:=.gv ((decide (r39≥0))&&!(decide (x44<0))) (.d (.bool (decide (iadd .i64 r39 ((List.length x42.Cells:Nat):Int)<x45))))) rfl rfl rfl ((λ hh=>hh) hg) trivial (λ ht=>by rw [(λ hh=>hh) hg,ht];rfl)) (pA (en (cn H (λ H=>?_) (λ H=>?_))))))))))))))))))))))))))))))))))))
   ·exact sq (bx H λ x46 h130 H=>rg (tr (tr (tr (tr (tr (sni (encN:=nGColumn) (xs:=x_24.Columns) (n:=b1_0_) (enc:=eI64) [.own 1 (List.map eI64 x43.States),.osl 6 1 0 (List.length x43.Costs)] x43.Costs 2 4 1 6 1) (scl (encN:=nGColumn) (xss:=x_24.Columns) b1_0_ [.own 1 (List.map eI64 x43.States),.own 1 (List.map eI64 x43.Costs)] 2 4 x43)) (sn 53 4 2 (lsS x_24.Columns (Int.toNat b1_0_) x43))) (snc 3 6 4 2 (lsS x_24.Columns (Int.toNat b1_0_) x43))) (so1 (encN:=nGColumn) 4 2 h130)) (sno (encN:=nGColumn) (enc:=eI64) h130 [.own 1 (List.map eI64 x46.States),.own 1 (List.map eI64 x46.Costs)] x46.Costs 2 4 1 1)) (ck 3 (sp (at_ldN (encN:=nGColumn) (row:=[.own 1 (List.map eI64 x46.States),.osl 7 1 0 (List.length x46.Costs)]) (k:=4) (sz:=2) (off:=1) (t:=ty 36) (v:=.osl 7 1 0 (List.length x46.Costs)) h130) (ck 2 (bx H λ x47 h131 H=>sp (at_idxO 7 1 h131) (bx H λ l13 h132 H=>stA eI64 7 0 (ty 3) h131 h132 (en (rg (tr (tr (tr (tr (tr (sn 98 7 1 (put_len h132)) (snr (encN:=nGColumn) (xs:=List.set x_24.Columns (Int.toNat b1_0_) x43) (n:=b1_0_) [.own 1 (List.map eI64 x46.States),.osl 7 1 0 (List.length x46.Costs)] 2 4 1 7 1 (put_len h132))) (sni (encN:=nGColumn) (xs:=List.set x_24.Columns (Int.toNat b1_0_) x43) (n:=b1_0_) (enc:=eI64) [.own 1 (List.map eI64 x46.States),.osl 7 1 0 (List.length l13)] l13 2 4 1 7 1)) (scl (encN:=nGColumn) (xss:=List.set x_24.Columns (Int.toNat b1_0_) x43) b1_0_ [.own 1 (List.map eI64 x46.States),.own 1 (List.map eI64 l13)] 2 4 ({ States:=x46.States,Costs:=l13 }:GColumn))) (sn 53 4 2 (lsS (List.set x_24.Columns (Int.toNat b1_0_) x43) (Int.toNat b1_0_) ({ States:=x46.States,Costs:=l13 }:GColumn)))) (snc 3 6 4 2 (lsS (List.set x_24.Columns (Int.toNat b1_0_) x43) (Int.toNat b1_0_) ({ States:=x46.States,Costs:=l13 }:GColumn)))) (ck 1 (ae (qN (qs (gP [0,1,2,3,4,8,27,28,29] [0,1,2,3,4] (po1 (po1 (po1 (po1 (pn1 nGColumn (List.set (List.set x_24.Columns (Int.toNat b1_0_) x43) (Int.toNat b1_0_) ({ States:=x46.States,Costs:=l13 }:GColumn)) (Pl.z))))))) (hFTr_writer_price_1_J1 (({ T:=x_24.T,S:=x_24.S,States:=x_24.States,Arcs:=x_24.Arcs,Columns:=List.set (List.set x_24.Columns (Int.toNat b1_0_) x43) (Int.toNat b1_0_) ({ States:=x46.States,Costs:=l13 }:GColumn),Last:=x_24.Last }:GWriter),true) H)))))))))))))
   ·exact sk (qN (qs (tr (tr (tr (tr (sni (encN:=nGColumn) (xs:=x_24.Columns) (n:=b1_0_) (enc:=eI64) [.own 1 (List.map eI64 x43.States),.osl 6 1 0 (List.length x43.Costs)] x43.Costs 2 4 1 6 1) (scl (encN:=nGColumn) (xss:=x_24.Columns) b1_0_ [.own 1 (List.map eI64 x43.States),.own 1 (List.map eI64 x43.Costs)] 2 4 x43)) (sn 53 4 2 (lsS x_24.Columns (Int.toNat b1_0_) x43))) (snc 3 6 4 2 (lsS x_24.Columns (Int.toNat b1_0_) x43))) (gP [0,1,2,3,4,8,27,28,29] [0,1,2,3,4] (po1 (po1 (po1 (po1 (pn1 nGColumn (List.set x_24.Columns (Int.toNat b1_0_) x43) (Pl.z)))))))) (hFTr_writer_price_1_J1 (({ T:=x_24.T,S:=x_24.S,States:=x_24.States,Arcs:=x_24.Arcs,Columns:=List.set x_24.Columns (Int.toNat b1_0_) x43,Last:=x_24.Last }:GWriter),better_1) H)))
 ·exact ex 0 (qx (by cases H;exact xo rfl (gP [8] [0,1,2,3,4] (po1 (po1 (po1 (po1 (pn1 nGColumn x_24.Columns (Pl.z)))))))))
theorem FTr_writer_price_1_ok {z} (H:FTr_writer_price_1 n p0_ p1_ b1_0_ b2_0_ b3_=some z):LentOK Try.prog 67 [.d (.int .i64 p0_),.d (.bool p1_),.ptr 0 0,.ptr 1 0,.ptr 2 0] [some (.box [.ptr 3 0]),some (.box [.eptr 4 2 (0+Int.toNat b1_0_) 0]),some (.box [.d (.int .i64 b2_0_)]),some (.box (bWriter_6 b3_ (.osl 4 2 0 (List.length b3_.Columns)))),some (.narr 2 (List.map nGColumn b3_.Columns))] 5 (.d (.bool z.2)) [some (.box [.ptr 3 0]),some (.box [.eptr 4 2 (0+Int.toNat b1_0_) 0]),some (.box [.d (.int .i64 b2_0_)]),some (.box (bWriter_6 z.1 (.osl 4 2 0 (List.length z.1.Columns)))),some (.narr 2 (List.map nGColumn z.1.Columns))]:=by
 exact fL 104 5 (f67k0_s1 p0_ p1_ b1_0_ b2_0_ b3_) Try.func67 (sr (ck 1 (en (sr (ck 1 (en (sq (sq (bx H λ x37 h119 H=>rg (tr (so1 (encN:=nGColumn) 4 2 h119) (sno (encN:=nGColumn) (enc:=eI64) h119 [.own 1 (List.map eI64 x37.States),.own 1 (List.map eI64 x37.Costs)] x37.States 2 4 0 1)) (ck 7 (sp (at_ldN (encN:=nGColumn) (row:=[.osl 5 1 0 (List.length x37.States),.own 1 (List.map eI64 x37.Costs)]) (k:=4) (sz:=2) (off:=0) (t:=ty 36) (v:=.osl 5 1 0 (List.length x37.States)) h119) (ck 1 (bx H λ x38 h120 H=>sp (at_idxO 5 1 h120) (sp (at_ldA eI64 5 0 (ty 3) h120) (bx H λ x39 h121 H=>sp (at_idxD (eL eGArc) h121) (ck 1 (sp (at_len eGArc x39) (ck 1 (en (bk 0 (bx H λ y33 h133 H=>lX FTr_writer_price_1_L1_ok h133 (tr (tr (tr (sni (encN:=nGColumn) (xs:=b3_.Columns) (n:=b1_0_) (enc:=eI64) [.osl 5 1 0 (List.length x37.States),.own 1 (List.map eI64 x37.Costs)] x37.States 2 4 0 5 1) (scl (encN:=nGColumn) (xss:=b3_.Columns) b1_0_ [.own 1 (List.map eI64 x37.States),.own 1 (List.map eI64 x37.Costs)] 2 4 x37)) (snc 3 6 4 2 (lsS b3_.Columns (Int.toNat b1_0_) x37))) (gP [0,1,2,3,4,8,27,28,29] [0,1,2,3,4] (po1 (po1 (po1 (po1 (pn1 nGColumn (List.set b3_.Columns (Int.toNat b1_0_) x37) (Pl.z)))))))) rfl λ s hE26=>qH (qs (hE26) (sr (ck 2 (en (re (by cases H;exact pL (rl (s':=f67k0_s2 b1_0_ b2_0_ y33.1 y33.2) (gP [7] [0,1,2,3,4] (po1 (po1 (po1 (po1 (pn1 nGColumn y33.1.Columns (Pl.z)))))))))))))))))))))))))))))))))))
end
section
variable (b0_:GWriter) (x_28:GWriter) (w_13:GWriter) (place_3:Int) (x_29:GWriter) (x49:GColumn) (l14:(List Int)) (x50:GColumn) (r_1:(List Int)) (x_30:Int) (w_14:GWriter) (r_2:(List Int)) (x56:GColumn) (w_15:GWriter) (x_31:Int) (w_16:GWriter) (w_17:GWriter) (w_18:GWriter) (x57:GColumn) (w_19:GWriter) (better_4:Bool) (x_32:Int) (w_20:GWriter) (better_5:Bool)
def f35k0_s1:St:=⟨(0,.ptr 0 0)::[],[some (.box (bWriter_6 b0_ (.osl 1 2 0 (List.length b0_.Columns)))),some (.narr 2 (List.map nGColumn b0_.Columns))]⟩
def f35k0_s2:St:=⟨[],[some (.box (bWriter_6 x_28 (.osl 1 2 0 (List.length x_28.Columns)))),some (.narr 2 (List.map nGColumn x_28.Columns))]⟩
def f35k0_s3:St:=⟨(1,.ptr 2 0)::(2,.ptr 3 0)::[],[some (.box (bWriter_6 w_13 (.osl 1 2 0 (List.length w_13.Columns)))),some (.narr 2 (List.map nGColumn w_13.Columns)),some (.box [.ptr 0 0]),some (.box [.d (.int .i64 place_3)])]⟩
def f35k0_s4:St:=⟨[],[some (.box (bWriter_6 x_29 (.osl 1 2 0 (List.length x_29.Columns)))),some (.narr 2 (List.map nGColumn x_29.Columns))]⟩
def f35k0_s5:St:=⟨(1,.ptr 2 0)::(2,.ptr 3 0)::(3,.ptr 4 0)::(37,.osl 5 1 0 (List.length x50.States))::(38,.d (.int .i64 ((List.length x50.States:Nat):Int)))::(39,.d (.int .i64 x_30))::[],[some (.box (bWriter_6 w_13 (.osl 1 2 0 (List.length (List.set w_13.Columns (Int.toNat place_3) ({ States:=x49.States,Costs:=l14 }:GColumn)))))),some (.narr 2 (List.set (List.map nGColumn (List.set w_13.Columns (Int.toNat place_3) ({ States:=x49.States,Costs:=l14 }:GColumn))) (Int.toNat place_3) [.osl 5 1 0 (List.length x50.States),.own 1 (List.map eI64 r_1)])),some (.box [.ptr 0 0]),some (.box [.d (.int .i64 place_3)]),some (.box [.eptr 1 2 (0+Int.toNat place_3) 0]),some (.arr 1 (List.map eI64 x50.States))]⟩
def f35k0_s6:St:=⟨(1,.ptr 2 0)::(2,.ptr 3 0)::(3,.ptr 4 0)::[],[some (.box (bWriter_6 w_14 (.osl 1 2 0 (List.length w_14.Columns)))),some (.narr 2 (List.map nGColumn w_14.Columns)),some (.box [.ptr 0 0]),some (.box [.d (.int .i64 place_3)]),some (.box [.eptr 1 2 (0+Int.toNat place_3) 0])]⟩
def f35k0_s7:St:=⟨(1,.ptr 2 0)::(2,.ptr 3 0)::(3,.ptr 4 0)::(37,.osl 5 1 0 (List.length x50.States))::(38,.d (.int .i64 ((List.length x50.States:Nat):Int)))::(39,.d (.int .i64 x_30))::[],[some (.box (bWriter_6 w_13 (.osl 1 2 0 (List.length (List.set w_13.Columns (Int.toNat place_3) ({ States:=x49.States,Costs:=l14 }:GColumn)))))),some (.narr 2 (List.set (List.map nGColumn (List.set w_13.Columns (Int.toNat place_3) ({ States:=x49.States,Costs:=l14 }:GColumn))) (Int.toNat place_3) [.osl 5 1 0 (List.length x50.States),.own 1 (List.map eI64 r_2)])),some (.box [.ptr 0 0]),some (.box [.d (.int .i64 place_3)]),some (.box [.eptr 1 2 (0+Int.toNat place_3) 0]),some (.arr 1 (List.map eI64 x50.States))]⟩
def FTr_writer_price_L2_E:GWriter->Ex->St->Prop:=xX 2 2 (λ (y:GWriter)=>f35k0_s6 place_3 y)
def FTr_writer_price_L2_S:((List Int)×Int)->St:=(λ (x:((List Int)×Int))=>f35k0_s5 w_13 place_3 x49 l14 x50 x.1 x.2)
def f35k0_s8:St:=⟨(1,.ptr 2 0)::(2,.ptr 3 0)::(3,.ptr 4 0)::(6,.clo 67 [.ptr 2 0,.ptr 4 0,.ptr 3 0])::(83,.d (.int .i64 ((List.length x56.States:Nat):Int)))::(84,.d (.int .i64 x_31))::[],[some (.box (bWriter_6 w_15 (.osl 1 2 0 (List.length w_15.Columns)))),some (.narr 2 (List.map nGColumn w_15.Columns)),some (.box [.ptr 0 0]),some (.box [.d (.int .i64 place_3)]),some (.box [.eptr 1 2 (0+Int.toNat place_3) 0])]⟩
def f35k0_s9:St:=⟨(1,.ptr 2 0)::(2,.ptr 3 0)::(3,.ptr 4 0)::(6,.clo 67 [.ptr 2 0,.ptr 4 0,.ptr 3 0])::[],[some (.box (bWriter_6 w_16 (.osl 1 2 0 (List.length w_16.Columns)))),some (.narr 2 (List.map nGColumn w_16.Columns)),some (.box [.ptr 0 0]),some (.box [.d (.int .i64 place_3)]),some (.box [.eptr 1 2 (0+Int.toNat place_3) 0])]⟩
def FTr_writer_price_L3_E:GWriter->Ex->St->Prop:=xX 2 4 (λ (y:GWriter)=>f35k0_s9 place_3 y)
def FTr_writer_price_L3_S:(GWriter×Int)->St:=(λ (x:(GWriter×Int))=>f35k0_s8 place_3 x56 x.1 x.2)
def f35k0_s10:St:=⟨(1,.ptr 2 0)::(2,.ptr 3 0)::(3,.ptr 4 0)::(6,.clo 67 [.ptr 2 0,.ptr 4 0,.ptr 3 0])::[],[some (.box (bWriter_6 w_17 (.osl 1 2 0 (List.length w_17.Columns)))),some (.narr 2 (List.map nGColumn w_17.Columns)),some (.box [.ptr 0 0]),some (.box [.d (.int .i64 place_3)]),some (.box [.eptr 1 2 (0+Int.toNat place_3) 0])]⟩
def f35k0_s11:St:=⟨(1,.ptr 2 0)::(2,.ptr 3 0)::[],[some (.box (bWriter_6 w_18 (.osl 1 2 0 (List.length w_18.Columns)))),some (.narr 2 (List.map nGColumn w_18.Columns)),some (.box [.ptr 0 0]),some (.box [.d (.int .i64 place_3)])]⟩
def f35k0_s12:St:=⟨(1,.ptr 2 0)::(2,.ptr 3 0)::(3,.ptr 4 0)::(6,.clo 67 [.ptr 2 0,.ptr 4 0,.ptr 3 0])::(8,.d (.bool better_4))::(95,.d (.int .i64 ((List.length x57.States:Nat):Int)))::(96,.d (.int .i64 x_32))::[],[some (.box (bWriter_6 w_19 (.osl 1 2 0 (List.length w_19.Columns)))),some (.narr 2 (List.map nGColumn w_19.Columns)),some (.box [.ptr 0 0]),some (.box [.d (.int .i64 place_3)]),some (.box [.eptr 1 2 (0+Int.toNat place_3) 0])]⟩
def f35k0_s13:St:=⟨(1,.ptr 2 0)::(2,.ptr 3 0)::(3,.ptr 4 0)::(6,.clo 67 [.ptr 2 0,.ptr 4 0,.ptr 3 0])::(8,.d (.bool better_5))::[],[some (.box (bWriter_6 w_20 (.osl 1 2 0 (List.length w_20.Columns)))),some (.narr 2 (List.map nGColumn w_20.Columns)),some (.box [.ptr 0 0]),some (.box [.d (.int .i64 place_3)]),some (.box [.eptr 1 2 (0+Int.toNat place_3) 0])]⟩
def FTr_writer_price_L5_E:(GWriter×Bool)->Ex->St->Prop:=xX 2 8 (λ (y:(GWriter×Bool))=>f35k0_s13 place_3 y.1 y.2)
def FTr_writer_price_L5_S:(GWriter×Bool×Int)->St:=(λ (x:(GWriter×Bool×Int))=>f35k0_s12 place_3 x57 x.1 x.2.1 x.2.2)
def FTr_writer_price_L4_E:GWriter->Ex->St->Prop:=xX 2 6 (λ (y:GWriter)=>f35k0_s11 place_3 y)
def FTr_writer_price_L4_S:GWriter->St:=(λ (x:GWriter)=>f35k0_s10 place_3 x)
def FTr_writer_price_L1_E:GWriter->Ex->St->Prop:=xX 2 0 (λ (y:GWriter)=>f35k0_s4 y)
def FTr_writer_price_L1_S:(GWriter×Int)->St:=(λ (x:(GWriter×Int))=>f35k0_s3 x.1 x.2)
variable {b0_ x_28 w_13 place_3 x_29 x49 l14 x50 r_1 x_30 w_14 r_2 x56 w_15 x_31 w_16 w_17 w_18 x57 w_19 better_4 x_32 w_20 better_5}
theorem FTr_writer_price_L2_ok (x:((List Int)×Int)) (z:(((List Int)×Int)⊕GWriter)) (H:FTr_writer_price_L2 n w_13 place_3 x49 l14 x50 x.1 x.2=some z):WP (cxk 109 2) (bodyOf Try.f35) [1,1,0,0,1,0,0,0,1,1,0,1,0,0] (roundQ 2 (FTr_writer_price_L2_S w_13 place_3 x49 l14 x50) (FTr_writer_price_L2_E place_3) z) (FTr_writer_price_L2_S w_13 place_3 x49 l14 x50 x):=by
 obtain ⟨r_1,x_30⟩:=x
 refine sr (ck 1 (en (sq (cn H (λ H=>?_) (λ H=>?_)))))
 ·refine sk (qz (sj (λ (x:(List Int))=>f35k0_s7 w_13 place_3 x49 l14 x50 x_30 x) (λ (x:(List Int))=>FTr_writer_price_J1 n x_30 x) z ?_ (λ hFTr_writer_price_J1=>?_)))
  ·intro r_2 H
   exact rz (ck 2 (ae (by cases H;exact og (gP [1,2,3,37,38,39] [0,1,2,3,4,5] (po1 (Pl.n _ (nrH (n:=Int.toNat place_3) (row:=[.osl 5 1 0 (List.length x50.States),.own 1 (List.map eI64 r_2)]) (row':=[.osl 5 1 0 (List.length x50.States),.own 1 (List.map eI64 r_2)]) (nrM (encN:=nGColumn) (xss:=List.set w_13.Columns (Int.toNat place_3) ({ States:=x49.States,Costs:=l14 }:GColumn)) λ _=>rfl) rfl) (po1 (po1 (po1 (po1 (Pl.z)))))))))))
  refine bk 3 (sr (ck 1 (bx H λ x51 h138 H=>sp (at_idxO 5 1 h138) (sp (at_ldA eI64 5 0 (ty 3) h138) (ck 2 (en (sq (bx H λ x52 h139 H=>rg (sno (encN:=nGColumn) (enc:=eI64) h139 [.osl 5 1 0 (List.length x50.States),.own 1 (List.map eI64 r_1)] r_1 2 1 1 1) (ck 3 (sp (at_ldN (encN:=nGColumn) (row:=[.osl 5 1 0 (List.length x50.States),.osl 6 1 0 (List.length r_1)]) (k:=1) (sz:=2) (off:=1) (t:=ty 36) (v:=.osl 6 1 0 (List.length r_1)) h139) (ck 1 (bx H λ x53 h140 H=>sp (at_idxO 6 1 h140) (bx H λ l15 h141 H=>stA eI64 6 0 (ty 3) h140 h141 (en (sq (rg (tr (tr (sn 47 6 1 (put_len h141)) (snr (encN:=nGColumn) (xs:=List.set w_13.Columns (Int.toNat place_3) ({ States:=x49.States,Costs:=l14 }:GColumn)) (n:=place_3) [.osl 5 1 0 (List.length x50.States),.osl 6 1 0 (List.length r_1)] 2 1 1 6 1 (put_len h141))) (sni (encN:=nGColumn) (xs:=List.set w_13.Columns (Int.toNat place_3) ({ States:=x49.States,Costs:=l14 }:GColumn)) (n:=place_3) (enc:=eI64) [.osl 5 1 0 (List.length x50.States),.osl 6 1 0 (List.length l15)] l15 2 1 1 6 1)) (ck 9 (gc 3 (place_3==((List.length w_13.S:Nat):Int)) (ck 1 (gc 3 (place_3==((List.length w_13.S:Nat):Int)) (ck 1 (bx H λ x54 h142 H=>sE (λ hg=>at_idxD eGState (gimp h142 hg)) (gc 1 (place_3==((List.length w_13.S:Nat):Int)) (bx H λ r40 h143 H=>cG false (leZ) rfl (λ hg=>FAu_Accepts_ok (gimp h143 hg)) (Or.inl rfl) (impK (λ hh=>hh) (impK (λ hh=>hh) (impZ))) rfl (pA (en (cn H (λ H=>?_) (λ H=>?_))))))))))))))))))))))))))))
  ·exact rg (sno (encN:=nGColumn) (enc:=eI64) h139 [.osl 5 1 0 (List.length x50.States),.own 1 (List.map eI64 l15)] l15 2 1 1 1) (ck 3 (sp (at_ldN (encN:=nGColumn) (row:=[.osl 5 1 0 (List.length x50.States),.osl 7 1 0 (List.length l15)]) (k:=1) (sz:=2) (off:=1) (t:=ty 36) (v:=.osl 7 1 0 (List.length l15)) h139) (ck 1 (bx H λ x55 h144 H=>sp (at_idxO 7 1 h144) (bx H λ l16 h145 H=>stA eI64 7 0 (ty 3) h144 h145 (ae (qN (qs (tr (tr (tr (sn 74 7 1 (put_len h145)) (snr (encN:=nGColumn) (xs:=List.set w_13.Columns (Int.toNat place_3) ({ States:=x49.States,Costs:=l14 }:GColumn)) (n:=place_3) [.osl 5 1 0 (List.length x50.States),.osl 7 1 0 (List.length l15)] 2 1 1 7 1 (put_len h145))) (sni (encN:=nGColumn) (xs:=List.set w_13.Columns (Int.toNat place_3) ({ States:=x49.States,Costs:=l14 }:GColumn)) (n:=place_3) (enc:=eI64) [.osl 5 1 0 (List.length x50.States),.osl 7 1 0 (List.length l16)] l16 2 1 1 7 1)) (gP [1,2,3,37,38,39] [0,1,2,3,4,5] (po1 (Pl.n _ (nrH (n:=Int.toNat place_3) (row:=[.osl 5 1 0 (List.length x50.States),.own 1 (List.map eI64 l16)]) (row':=[.osl 5 1 0 (List.length x50.States),.own 1 (List.map eI64 l16)]) (nrM (encN:=nGColumn) (xss:=List.set w_13.Columns (Int.toNat place_3) ({ States:=x49.States,Costs:=l14 }:GColumn)) λ _=>rfl) rfl) (po1 (po1 (po1 (po1 (Pl.z))))))))) (hFTr_writer_price_J1 l16 H)))))))))
  ·exact sk (qN (qs (gP [1,2,3,37,38,39] [0,1,2,3,4,5] (po1 (Pl.n _ (nrH (n:=Int.toNat place_3) (row:=[.osl 5 1 0 (List.length x50.States),.own 1 (List.map eI64 l15)]) (row':=[.osl 5 1 0 (List.length x50.States),.own 1 (List.map eI64 l15)]) (nrM (encN:=nGColumn) (xss:=List.set w_13.Columns (Int.toNat place_3) ({ States:=x49.States,Costs:=l14 }:GColumn)) λ _=>rfl) rfl) (po1 (po1 (po1 (po1 (Pl.z)))))))) (hFTr_writer_price_J1 l15 H)))
 ·exact ex 2 (qx (by cases H;exact xo rfl (tr (tr (tr (sni (encN:=nGColumn) (xs:=List.set w_13.Columns (Int.toNat place_3) ({ States:=x49.States,Costs:=l14 }:GColumn)) (n:=place_3) (enc:=eI64) [.osl 5 1 0 (List.length x50.States),.own 1 (List.map eI64 r_1)] x50.States 2 1 0 5 1) (scl (encN:=nGColumn) (xss:=List.set w_13.Columns (Int.toNat place_3) ({ States:=x49.States,Costs:=l14 }:GColumn)) place_3 [.own 1 (List.map eI64 x50.States),.own 1 (List.map eI64 r_1)] 2 1 ({ States:=x50.States,Costs:=r_1 }:GColumn))) (snc 0 6 1 2 (lsS (List.set w_13.Columns (Int.toNat place_3) ({ States:=x49.States,Costs:=l14 }:GColumn)) (Int.toNat place_3) ({ States:=x50.States,Costs:=r_1 }:GColumn)))) (gP [1,2,3] [0,1,2,3,4] (po1 (pn1 nGColumn (List.set (List.set w_13.Columns (Int.toNat place_3) ({ States:=x49.States,Costs:=l14 }:GColumn)) (Int.toNat place_3) ({ States:=x50.States,Costs:=r_1 }:GColumn)) (po1 (po1 (po1 (Pl.z))))))))))
theorem FTr_writer_price_L3_ok (x:(GWriter×Int)) (z:((GWriter×Int)⊕GWriter)) (H:FTr_writer_price_L3 n place_3 x56 x.1 x.2=some z):WP (cxk 109 2) (bodyOf Try.f35) [1,1,0,0,1,0,0,0,1,1,1,1,0,1,0,0] (roundQ 2 (FTr_writer_price_L3_S place_3 x56) (FTr_writer_price_L3_E place_3) z) (FTr_writer_price_L3_S place_3 x56 x):=by
 obtain ⟨w_15,x_31⟩:=x
 refine sr (ck 1 (en (sq (cn H (λ H=>?_) (λ H=>?_)))))
 ·exact sk (qz (sq (bk 5 (sr (ck 2 (en (rz (ck 2 (bx H λ r41 h148 H=>xcP (xok _ _) [2,4,3,0,1] (FTr_writer_price_1_ok h148) (po1 (po1 (po1 (po1 (pn1 nGColumn w_15.Columns (Pl.z)))))) (tb (f:=mapA1 (backN [2,4,3,0,1] 5 5)) [some (.box (bWriter_6 r41.1 (.osl 1 2 0 (List.length r41.1.Columns)))),some (.narr 2 (List.map nGColumn r41.1.Columns)),some (.box [.ptr 0 0]),some (.box [.d (.int .i64 place_3)]),some (.box [.eptr 1 2 (0+Int.toNat place_3) 0])] (po1 (pn1 nGColumn r41.1.Columns (po1 (po1 (po1 (Pl.z)))))) (ae (qN (qz (rz (ck 2 (ae (by cases H;exact og (gP [1,2,3,6,83,84] [0,1,2,3,4] (po1 (pn1 nGColumn r41.1.Columns (po1 (po1 (po1 (Pl.z))))))))))))))))))))))))
 ·exact ex 4 (qx (by cases H;exact xo rfl (gP [1,2,3,6] [0,1,2,3,4] (po1 (pn1 nGColumn w_15.Columns (po1 (po1 (po1 (Pl.z)))))))))
theorem FTr_writer_price_L5_ok (x:(GWriter×Bool×Int)) (z:((GWriter×Bool×Int)⊕(GWriter×Bool))) (H:FTr_writer_price_L5 n place_3 x57 x.1 x.2.1 x.2.2=some z):WP (cxk 109 2) (bodyOf Try.f35) [1,1,0,0,1,0,0,0,1,1,1,1,1,1,0,0,0,1,0,1,0,0] (roundQ 2 (FTr_writer_price_L5_S place_3 x57) (FTr_writer_price_L5_E place_3) z) (FTr_writer_price_L5_S place_3 x57 x):=by
 obtain ⟨w_19,better_4,x_32⟩:=x
 refine sr (ck 1 (en (sq (cn H (λ H=>?_) (λ H=>?_)))))
 ·exact sk (qz (sq (bk 9 (sr (ck 2 (en (rz (ck 2 (bx H λ r42 h151 H=>xcP (xok _ _) [2,4,3,0,1] (FTr_writer_price_1_ok h151) (po1 (po1 (po1 (po1 (pn1 nGColumn w_19.Columns (Pl.z)))))) (tb (f:=mapA1 (backN [2,4,3,0,1] 5 5)) [some (.box (bWriter_6 r42.1 (.osl 1 2 0 (List.length r42.1.Columns)))),some (.narr 2 (List.map nGColumn r42.1.Columns)),some (.box [.ptr 0 0]),some (.box [.d (.int .i64 place_3)]),some (.box [.eptr 1 2 (0+Int.toNat place_3) 0])] (po1 (pn1 nGColumn r42.1.Columns (po1 (po1 (po1 (Pl.z)))))) (ck 2 (pO (ck 1 (ae (qN (qz (rz (ck 2 (ae (by cases H;exact og (gP [1,2,3,6,8,95,96] [0,1,2,3,4] (po1 (pn1 nGColumn r42.1.Columns (po1 (po1 (po1 (Pl.z)))))))))))))))))))))))))))
 ·exact ex 8 (qx (by cases H;exact xo rfl (gP [1,2,3,6,8] [0,1,2,3,4] (po1 (pn1 nGColumn w_19.Columns (po1 (po1 (po1 (Pl.z)))))))))
theorem FTr_writer_price_L4_ok (x:GWriter) (z:(GWriter⊕GWriter)) (H:FTr_writer_price_L4 n place_3 x=some z):WP (cxk 109 2) (bodyOf Try.f35) [1,1,0,0,1,0,0,0,1,1,1,1,1,1,0,0] (roundQ 2 (FTr_writer_price_L4_S place_3) (FTr_writer_price_L4_E place_3) z) (FTr_writer_price_L4_S place_3 x):=by
 revert H
 generalize x=w_17
 intro H
 refine bk 7 (sr (ck 1 (en (sq (sq (bx H λ x57 h150 H=>rg (tr (so1 (encN:=nGColumn) 1 2 h150) (sno (encN:=nGColumn) (enc:=eI64) h150 [.own 1 (List.map eI64 x57.States),.own 1 (List.map eI64 x57.Costs)] x57.States 2 1 0 1)) (ck 3 (sp (at_ldN (encN:=nGColumn) (row:=[.osl 5 1 0 (List.length x57.States),.own 1 (List.map eI64 x57.Costs)]) (k:=1) (sz:=2) (off:=0) (t:=ty 36) (v:=.osl 5 1 0 (List.length x57.States)) h150) (ck 2 (en (bk 8 (bx H λ y36 h152 H=>lX FTr_writer_price_L5_ok h152 (tr (tr (tr (sni (encN:=nGColumn) (xs:=w_17.Columns) (n:=place_3) (enc:=eI64) [.osl 5 1 0 (List.length x57.States),.own 1 (List.map eI64 x57.Costs)] x57.States 2 1 0 5 1) (scl (encN:=nGColumn) (xss:=w_17.Columns) place_3 [.own 1 (List.map eI64 x57.States),.own 1 (List.map eI64 x57.Costs)] 2 1 x57)) (snc 0 6 1 2 (lsS w_17.Columns (Int.toNat place_3) x57))) (gP [1,2,3,6,8,95,96] [0,1,2,3,4] (po1 (pn1 nGColumn (List.set w_17.Columns (Int.toNat place_3) x57) (po1 (po1 (po1 (Pl.z)))))))) rfl λ s hE29=>qH (qs (hE29) (sr (ck 2 (en (cn H (λ H=>?_) (λ H=>?_))))))))))))))))))
 ·exact ex 6 (qX rfl (by cases H;exact xo rfl (gP [1,2] [0,1,2,3] (po1 (pn1 nGColumn y36.1.Columns (po1 (po1 (Pl.z))))))))
 ·exact sk (qN (by cases H;exact og (gP [1,2,3,6] [0,1,2,3,4] (po1 (pn1 nGColumn y36.1.Columns (po1 (po1 (po1 (Pl.z)))))))))
theorem FTr_writer_price_L1_ok (x:(GWriter×Int)) (z:((GWriter×Int)⊕GWriter)) (H:FTr_writer_price_L1 n x.1 x.2=some z):WP (cxk 109 2) (bodyOf Try.f35) [1,1,0,0] (roundQ 2 (FTr_writer_price_L1_S) (FTr_writer_price_L1_E) z) (FTr_writer_price_L1_S x):=by
 obtain ⟨w_13,place_3⟩:=x
 refine sq (sr (ck 2 (en (cn H (λ H=>?_) (λ H=>?_)))))
 ·exact sk (qz (sq (bk 1 (sc (sr (ck 5 (bx H λ x48 h134 H=>sp (at_idxO 1 2 h134) (ck 2 (en (sq (bx H λ x49 h135 H=>rg (tr (so1 (encN:=nGColumn) 1 2 h135) (sno (encN:=nGColumn) (enc:=eI64) h135 [.own 1 (List.map eI64 x49.States),.own 1 (List.map eI64 x49.Costs)] x49.States 2 1 0 1)) (ck 4 (sp (at_ldN (encN:=nGColumn) (row:=[.osl 5 1 0 (List.length x49.States),.own 1 (List.map eI64 x49.Costs)]) (k:=1) (sz:=2) (off:=0) (t:=ty 36) (v:=.osl 5 1 0 (List.length x49.States)) h135) (ck 1 (bx H λ l14 h136 H=>sp (at_mk eI64 1 h136) (ck 2 (sp (at_stN (encN:=nGColumn) (row:=[.osl 5 1 0 (List.length x49.States),.own 1 (List.map eI64 x49.Costs)]) (row':=[.osl 5 1 0 (List.length x49.States),.osl 6 1 0 (List.length l14)]) (k:=1) (sz:=2) (off:=1) (t:=ty 36) (v:=.osl 6 1 0 (List.length l14)) h135) (en (sq (sq (bx H λ x50 h137 H=>rg (tr (tr (tr (tr (tr (tr (sni (encN:=nGColumn) (xs:=w_13.Columns) (n:=place_3) (enc:=eI64) [.osl 5 1 0 (List.length x49.States),.osl 6 1 0 (List.length l14)] x49.States 2 1 0 5 1) (sni (encN:=nGColumn) (xs:=w_13.Columns) (n:=place_3) (enc:=eI64) [.own 1 (List.map eI64 x49.States),.osl 6 1 0 (List.length l14)] l14 2 1 1 6 1)) (scl (encN:=nGColumn) (xss:=w_13.Columns) place_3 [.own 1 (List.map eI64 x49.States),.own 1 (List.map eI64 l14)] 2 1 ({ States:=x49.States,Costs:=l14 }:GColumn))) (sn 22 1 2 (lsS w_13.Columns (Int.toNat place_3) ({ States:=x49.States,Costs:=l14 }:GColumn)))) (snc 0 6 1 2 (lsS w_13.Columns (Int.toNat place_3) ({ States:=x49.States,Costs:=l14 }:GColumn)))) (so1 (encN:=nGColumn) 1 2 h137)) (sno (encN:=nGColumn) (enc:=eI64) h137 [.own 1 (List.map eI64 x50.States),.own 1 (List.map eI64 x50.Costs)] x50.States 2 1 0 1)) (ck 3 (sp (at_ldN (encN:=nGColumn) (row:=[.osl 7 1 0 (List.length x50.States),.own 1 (List.map eI64 x50.Costs)]) (k:=1) (sz:=2) (off:=0) (t:=ty 36) (v:=.osl 7 1 0 (List.length x50.States)) h137) (ck 2 (en (bk 2 (bx H λ y34 h146 H=>lX FTr_writer_price_L2_ok h146 (gP [1,2,3,37,38,39] [0,1,2,3,4,7] (po1 (Pl.n _ (nrH (n:=Int.toNat place_3) (row:=[.osl 7 1 0 (List.length x50.States),.own 1 (List.map eI64 x50.Costs)]) (row':=[.osl 5 1 0 (List.length x50.States),.own 1 (List.map eI64 x50.Costs)]) (nrM (encN:=nGColumn) (xss:=List.set w_13.Columns (Int.toNat place_3) ({ States:=x49.States,Costs:=l14 }:GColumn)) λ _=>rfl) rfl) (po1 (po1 (po1 (po1 (Pl.z)))))))) rfl λ s hE27=>qH (qs (hE27) (sr (xm (xok _ _) (ck 1 (en (sq (sq (bx H λ x56 h147 H=>rg (tr (so1 (encN:=nGColumn) 1 2 h147) (sno (encN:=nGColumn) (enc:=eI64) h147 [.own 1 (List.map eI64 x56.States),.own 1 (List.map eI64 x56.Costs)] x56.States 2 1 0 1)) (ck 3 (sp (at_ldN (encN:=nGColumn) (row:=[.osl 5 1 0 (List.length x56.States),.own 1 (List.map eI64 x56.Costs)]) (k:=1) (sz:=2) (off:=0) (t:=ty 36) (v:=.osl 5 1 0 (List.length x56.States)) h147) (ck 2 (en (bk 4 (bx H λ y35 h149 H=>lX FTr_writer_price_L3_ok h149 (tr (tr (tr (sni (encN:=nGColumn) (xs:=y34.Columns) (n:=place_3) (enc:=eI64) [.osl 5 1 0 (List.length x56.States),.own 1 (List.map eI64 x56.Costs)] x56.States 2 1 0 5 1) (scl (encN:=nGColumn) (xss:=y34.Columns) place_3 [.own 1 (List.map eI64 x56.States),.own 1 (List.map eI64 x56.Costs)] 2 1 x56)) (snc 0 6 1 2 (lsS y34.Columns (Int.toNat place_3) x56))) (gP [1,2,3,6,83,84] [0,1,2,3,4] (po1 (pn1 nGColumn (List.set y34.Columns (Int.toNat place_3) x56) (po1 (po1 (po1 (Pl.z)))))))) rfl λ s hE28=>qH (qs (hE28) (sq (lbl (qz (bk 6 (bx H λ y37 h153 H=>lX FTr_writer_price_L4_ok h153 (gP [1,2,3,6] [0,1,2,3,4] (po1 (pn1 nGColumn y35.Columns (po1 (po1 (po1 (Pl.z))))))) rfl λ s hE30=>qH (qN (qs (hE30) (sq (sr (ck 1 (en (rz (ck 2 (en (rz (ck 3 (ae (by cases H;exact og (gP [1,2] [0,1,2,4] (po1 (pn1 nGColumn y37.Columns (po1 (po1 (Pl.z))))))))))))))))))))))))))))))))))))))))))))))))))))))))))))))))))
 ·exact ex 0 (qx (by cases H;exact xo rfl (gP [] [0,1] (po1 (pn1 nGColumn w_13.Columns (Pl.z))))))
theorem FTr_writer_price_ok {z} (H:FTr_writer_price n b0_=some z):LentOK Try.prog 35 [.ptr 0 0] [some (.box (bWriter_6 b0_ (.osl 1 2 0 (List.length b0_.Columns)))),some (.narr 2 (List.map nGColumn b0_.Columns))] 2 (.tup []) [some (.box (bWriter_6 z (.osl 1 2 0 (List.length z.Columns)))),some (.narr 2 (List.map nGColumn z.Columns))]:=by
 exact fL 109 2 (f35k0_s1 b0_) Try.func35 (sr (ck 1 (en (sr (ck 7 (en (bk 0 (bx H λ y38 h154 H=>lX FTr_writer_price_L1_ok h154 (gP [1,2] [0,1,2,3] (po1 (pn1 nGColumn b0_.Columns (po1 (po1 (Pl.z)))))) rfl λ s hE31=>qH (by cases H;exact pL' (rl (s':=f35k0_s2 z) (tr (hE31) (gP [] [0,1] (po1 (pn1 nGColumn z.Columns (Pl.z)))))))))))))))
end
section
variable (b0_:GWriter) (x_33:GWriting) (result_4:GWriting) (place_4:Int) (state_3:Int) (cost_3:Int) (result_5:GWriting) (x59:(List GArc)) (x_34:Int) (result_6:GWriting) (place_5:Int) (state_4:Int) (cost_4:Int)
def f36k0_s1:St:=⟨(0,.ptr 0 0)::[],[some (.box (bWriter_6 b0_ (.osl 1 2 0 (List.length b0_.Columns)))),some (.narr 2 (List.map nGColumn b0_.Columns))]⟩
def f36k0_s2:St:=⟨(2,.ptr 2 0)::[],[some (.box (bWriter_6 b0_ (.osl 1 2 0 (List.length b0_.Columns)))),some (.narr 2 (List.map nGColumn b0_.Columns)),some (.box [.osl 3 1 0 (List.length x_33.Cells),.osl 4 1 0 (List.length x_33.Path)]),some (.arr 1 (List.map eU8 x_33.Cells)),some (.arr 1 (List.map eI64 x_33.Path))]⟩
def f36k0_s3:St:=⟨(0,.ptr 0 0)::(2,.ptr 2 0)::(3,.ptr 3 0)::(4,.d (.int .i64 place_4))::(5,.d (.int .i64 state_3))::(6,.d (.int .i64 cost_3))::[],[some (.box (bWriter_6 b0_ (.osl 1 2 0 (List.length b0_.Columns)))),some (.narr 2 (List.map nGColumn b0_.Columns)),some (.box [.osl 4 1 0 (List.length ([]:List Int)),.osl 5 1 0 (List.length ([]:List Int))]),some (.box [.osl 6 1 0 (List.length result_4.Cells),.osl 7 1 0 (List.length result_4.Path)]),some (.arr 1 (List.map eU8 ([]:List Int))),some (.arr 1 (List.map eI64 ([]:List Int))),some (.arr 1 (List.map eU8 result_4.Cells)),some (.arr 1 (List.map eI64 result_4.Path))]⟩
def f36k0_s4:St:=⟨(2,.ptr 2 0)::(3,.ptr 3 0)::[],[some (.box (bWriter_6 b0_ (.osl 1 2 0 (List.length b0_.Columns)))),some (.narr 2 (List.map nGColumn b0_.Columns)),some (.box [.osl 4 1 0 (List.length ([]:List Int)),.osl 5 1 0 (List.length ([]:List Int))]),some (.box [.osl 6 1 0 (List.length result_5.Cells),.osl 7 1 0 (List.length result_5.Path)]),some (.arr 1 (List.map eU8 ([]:List Int))),some (.arr 1 (List.map eI64 ([]:List Int))),some (.arr 1 (List.map eU8 result_5.Cells)),some (.arr 1 (List.map eI64 result_5.Path))]⟩
def f36k0_s5:St:=⟨(0,.ptr 0 0)::(2,.ptr 2 0)::(3,.ptr 3 0)::(4,.d (.int .i64 place_4))::(6,.d (.int .i64 cost_3))::(27,.d (.sl (List.map eGArc x59)))::(28,.d (.int .i64 ((List.length x59:Nat):Int)))::(29,.d (.int .i64 x_34))::[],[some (.box (bWriter_6 b0_ (.osl 1 2 0 (List.length b0_.Columns)))),some (.narr 2 (List.map nGColumn b0_.Columns)),some (.box [.osl 4 1 0 (List.length ([]:List Int)),.osl 5 1 0 (List.length ([]:List Int))]),some (.box [.osl 6 1 0 (List.length result_4.Cells),.osl 7 1 0 (List.length result_4.Path)]),some (.arr 1 (List.map eU8 ([]:List Int))),some (.arr 1 (List.map eI64 ([]:List Int))),some (.arr 1 (List.map eU8 result_4.Cells)),some (.arr 1 (List.map eI64 result_4.Path))]⟩
def f36k0_s6:St:=⟨(0,.ptr 0 0)::(2,.ptr 2 0)::(3,.ptr 3 0)::(4,.d (.int .i64 place_5))::(5,.d (.int .i64 state_4))::(6,.d (.int .i64 cost_4))::[],[some (.box (bWriter_6 b0_ (.osl 1 2 0 (List.length b0_.Columns)))),some (.narr 2 (List.map nGColumn b0_.Columns)),some (.box [.osl 4 1 0 (List.length ([]:List Int)),.osl 5 1 0 (List.length ([]:List Int))]),some (.box [.osl 6 1 0 (List.length result_6.Cells),.osl 7 1 0 (List.length result_6.Path)]),some (.arr 1 (List.map eU8 ([]:List Int))),some (.arr 1 (List.map eI64 ([]:List Int))),some (.arr 1 (List.map eU8 result_6.Cells)),some (.arr 1 (List.map eI64 result_6.Path))]⟩
def f36k0_s7:St:=⟨(2,.ptr 2 0)::(3,.ptr 3 0)::[],[some (.box (bWriter_6 b0_ (.osl 1 2 0 (List.length b0_.Columns)))),some (.narr 2 (List.map nGColumn b0_.Columns)),some (.box [.osl 4 1 0 (List.length ([]:List Int)),.osl 5 1 0 (List.length ([]:List Int))]),some (.box [.osl 6 1 0 (List.length result_4.Cells),.osl 7 1 0 (List.length result_4.Path)]),some (.arr 1 (List.map eU8 ([]:List Int))),some (.arr 1 (List.map eI64 ([]:List Int))),some (.arr 1 (List.map eU8 result_4.Cells)),some (.arr 1 (List.map eI64 result_4.Path))]⟩
def f36k0_s8:St:=⟨(0,.ptr 0 0)::(2,.ptr 2 0)::(3,.ptr 3 0)::(4,.d (.int .i64 place_4))::(6,.d (.int .i64 cost_3))::(27,.d (.sl (List.map eGArc x59)))::(28,.d (.int .i64 ((List.length x59:Nat):Int)))::(29,.d (.int .i64 x_34))::[],[some (.box (bWriter_6 b0_ (.osl 1 2 0 (List.length b0_.Columns)))),some (.narr 2 (List.map nGColumn b0_.Columns)),some (.box [.osl 4 1 0 (List.length ([]:List Int)),.osl 5 1 0 (List.length ([]:List Int))]),some (.box [.osl 6 1 0 (List.length result_4.Cells),.osl 7 1 0 (List.length result_4.Path)]),some (.arr 1 (List.map eU8 ([]:List Int))),some (.arr 1 (List.map eI64 ([]:List Int))),some (.arr 1 (List.map eU8 result_4.Cells)),some (.arr 1 (List.map eI64 result_4.Path))]⟩
def FTr_writer_writingx_L2_E:((GWriting×Int×Int×Int)⊕Unit)->Ex->St->Prop:=xS (xX 2 1 (λ (y:(GWriting×Int×Int×Int))=>f36k0_s6 b0_ y.1 y.2.1 y.2.2.1 y.2.2.2)) (xX 2 2 (λ (y:Unit)=>f36k0_s7 b0_ result_4))
def FTr_writer_writingx_L2_S:Int->St:=(λ (x:Int)=>f36k0_s5 b0_ result_4 place_4 cost_3 x59 x)
def FTr_writer_writingx_L1_E:GWriting->Ex->St->Prop:=xX 2 0 (λ (y:GWriting)=>f36k0_s4 b0_ y)
def FTr_writer_writingx_L1_S:(GWriting×Int×Int×Int)->St:=(λ (x:(GWriting×Int×Int×Int))=>f36k0_s3 b0_ x.1 x.2.1 x.2.2.1 x.2.2.2)
variable {b0_ x_33 result_4 place_4 state_3 cost_3 result_5 x59 x_34 result_6 place_5 state_4 cost_4}
theorem FTr_writer_writingx_L2_ok (x:Int) (z:(Int⊕((GWriting×Int×Int×Int)⊕Unit))) (H:FTr_writer_writingx_L2 n b0_ result_4 place_4 cost_3 x59 x=some z):WP (cxk 93 2) (bodyOf Try.f36) [1,0,1,1,1,0,1,0,0,1,0,0,1,0,0] (roundQ 2 (FTr_writer_writingx_L2_S b0_ result_4 place_4 cost_3 x59) (FTr_writer_writingx_L2_E b0_ result_4) z) (FTr_writer_writingx_L2_S b0_ result_4 place_4 cost_3 x59 x):=by
 revert H
 generalize x=x_34
 intro H
 refine sr (ck 1 (en (sq (cn H (λ H=>?_) (λ H=>?_)))))
 ·refine sk (qz (sj (λ (x:Unit)=>f36k0_s8 b0_ result_4 place_4 cost_3 x59 x_34) (λ (x:Unit)=>FTr_writer_writingx_J1 n x_34) z ?_ (λ hFTr_writer_writingx_J1=>?_)))
  ·intro _ H
   exact rz (ck 2 (ae (by cases H;exact og (gP [0,2,3,4,6,27,28,29] [0,1,2,3,4,5,6,7] (po1 (pn1 nGColumn b0_.Columns (po1 (po1 (po1 (po1 (po1 (po1 (Pl.z)))))))))))))
  refine bk 3 (sr (bx H λ x60 h158 H=>sp (at_idxD eGArc h158) (ck 3 (en (sr (ck 4 (bx H λ r44 h159 H=>ltP [0,1] (FTr_writer_printsx_ok h159) (po1 (pn1 nGColumn b0_.Columns (Pl.z))) (tb (f:=mapA1 (backN [0,1] 9 2)) [some (.box (bWriter_6 b0_ (.osl 1 2 0 (List.length b0_.Columns)))),some (.narr 2 (List.map nGColumn b0_.Columns)),some (.box [.osl 4 1 0 (List.length ([]:List Int)),.osl 5 1 0 (List.length ([]:List Int))]),some (.box [.osl 6 1 0 (List.length result_4.Cells),.osl 7 1 0 (List.length result_4.Path)]),some (.arr 1 (List.map eU8 ([]:List Int))),some (.arr 1 (List.map eI64 ([]:List Int))),some (.arr 1 (List.map eU8 result_4.Cells)),some (.arr 1 (List.map eI64 result_4.Path)),some (.box [.d (.int .i64 x60.Rule),.d (.int .i64 x60.To)])] (po1 (pn1 nGColumn b0_.Columns (po1 (po1 (po1 (po1 (po1 (po1 (po1 (Pl.z)))))))))) (ck 5 (en (sq (sr (ck 2 (en (cn H (λ H=>?_) (λ H=>?_))))))))))))))))
  ·exact ex 3 (qx (qH (qs (gP [0,2,3,4,6,27,28,29] [0,1,2,3,4,5,6,7] (po1 (pn1 nGColumn b0_.Columns (po1 (po1 (po1 (po1 (po1 (po1 (Pl.z)))))))))) (hFTr_writer_writingx_J1 () H))))
  ·refine sk (qz (sr (ck 7 (bx H λ x61 h160 H=>sp (at_idxD eGRule h160) (ck 3 (en (sq (sr (ck 5 (bx H λ x62 h161 H=>sp (at_idxO 1 2 h161) (ck 2 (bx H λ r45 h162 H=>cb (ks:=[1]) (obl:=[(0+Int.toNat r44.1+1,List.length (List.map nGColumn b0_.Columns)),(cntN (List.map nGColumn b0_.Columns),0)]) false (leK (idxL (encN:=nGColumn) h161) (leK (cntM λ _=>rfl) (leZ))) (consE (eptrN (encN:=nGColumn) (encD:=eGColumn) h161 λ _=>rfl) (consE rfl rfl)) (FTr_column_find_ok h162) (Or.inr trivial) rfl (ck 1 (en (sr (ck 6 (sE (g:=(!(decide (r45<0)))) (λ hg=>at_len eU8 x61.Cells) (gc 2 (!(decide (r45<0))) (pO (en (cn H (λ H=>?_) (λ H=>?_))))))))))))))))))))))
   ·exact ex 3 (qx (qH (qs (gP [0,2,3,4,6,27,28,29] [0,1,2,3,4,5,6,7] (po1 (pn1 nGColumn b0_.Columns (po1 (po1 (po1 (po1 (po1 (po1 (Pl.z)))))))))) (hFTr_writer_writingx_J1 () H))))
   ·exact sk (qz (sr (ck 3 (bx H λ l17 h163 H=>sp (at_app eU8 6 1 h163) (ck 2 (en (sr (ck 5 (bx H λ l18 h164 H=>sp (at_appO eI64 7 1 h164) (ck 2 (en (sr (ck 5 (sp (at_len eU8 x61.Cells) (ck 4 (en (ex 1 (qX rfl (qx (by cases H;exact xo rfl (gP [0,2,3,4,5,6] [0,1,2,3,4,5,9,11] (po1 (pn1 nGColumn b0_.Columns (po1 (po1 (po1 (po1 (po1 (po1 (Pl.z))))))))))))))))))))))))))))))
 ·exact ex 2 (qx (by cases H;exact xo rfl (gP [2,3] [0,1,2,3,4,5,6,7] (po1 (pn1 nGColumn b0_.Columns (po1 (po1 (po1 (po1 (po1 (po1 (Pl.z))))))))))))
theorem FTr_writer_writingx_L1_ok (x:(GWriting×Int×Int×Int)) (z:((GWriting×Int×Int×Int)⊕GWriting)) (H:FTr_writer_writingx_L1 n b0_ x.1 x.2.1 x.2.2.1 x.2.2.2=some z):WP (cxk 93 2) (bodyOf Try.f36) [1,0,1,1,1,0,1,0,0] (roundQ 2 (FTr_writer_writingx_L1_S b0_) (FTr_writer_writingx_L1_E b0_) z) (FTr_writer_writingx_L1_S b0_ x):=by
 obtain ⟨result_4,place_4,state_3,cost_3⟩:=x
 refine sq (sr (ck 2 (en (cn H (λ H=>?_) (λ H=>?_)))))
 ·refine sk (qz (bk 1 (sq (sr (ck 5 (bx H λ x59 h157 H=>sp (at_idxD (eL eGArc) h157) (ck 1 (sp (at_len eGArc x59) (ck 1 (en (bk 2 (bx H λ y39 h165 H=>?_))))))))))))
  rcases y39 with y40|y41
  ·exact lX FTr_writer_writingx_L2_ok h165 (gP [0,2,3,4,6,27,28,29] [0,1,2,3,4,5,6,7] (po1 (pn1 nGColumn b0_.Columns (po1 (po1 (po1 (po1 (po1 (po1 (Pl.z)))))))))) rfl λ s hE32=>qX rfl (qx (qH (by cases H;exact og (tr (hE32) (gP [0,2,3,4,5,6] [0,1,2,3,4,5,6,7] (po1 (pn1 nGColumn b0_.Columns (po1 (po1 (po1 (po1 (po1 (po1 (Pl.z))))))))))))))
  ·exact lX FTr_writer_writingx_L2_ok h165 (gP [0,2,3,4,6,27,28,29] [0,1,2,3,4,5,6,7] (po1 (pn1 nGColumn b0_.Columns (po1 (po1 (po1 (po1 (po1 (po1 (Pl.z)))))))))) rfl λ s hE33=>qH (qs (hE33) (ex 0 (qX rfl (by cases H;exact xo rfl (gP [2,3] [0,1,2,3,4,5,6,7] (po1 (pn1 nGColumn b0_.Columns (po1 (po1 (po1 (po1 (po1 (po1 (Pl.z))))))))))))))
 ·exact ex 0 (qx (by cases H;exact xo rfl (gP [2,3] [0,1,2,3,4,5,6,7] (po1 (pn1 nGColumn b0_.Columns (po1 (po1 (po1 (po1 (po1 (po1 (Pl.z))))))))))))
theorem FTr_writer_writingx_ok {z} (H:FTr_writer_writingx n b0_=some z):LentOK Try.prog 36 [.ptr 0 0] [some (.box (bWriter_6 b0_ (.osl 1 2 0 (List.length b0_.Columns)))),some (.narr 2 (List.map nGColumn b0_.Columns))] 2 (.agg [.osl 3 1 0 (List.length z.Cells),.osl 4 1 0 (List.length z.Path)]) [some (.box (bWriter_6 b0_ (.osl 1 2 0 (List.length b0_.Columns)))),some (.narr 2 (List.map nGColumn b0_.Columns)),some (.box [.osl 3 1 0 (List.length z.Cells),.osl 4 1 0 (List.length z.Path)]),some (.arr 1 (List.map eU8 z.Cells)),some (.arr 1 (List.map eI64 z.Path))]:=by
 exact fL 93 2 (f36k0_s1 b0_) Try.func36 (sr (ck 1 (en (sc (sr (ck 1 (en (sr (ck 2 (en (sq (lbl (qz (sq (sr (ck 4 (bx H λ x58 h155 H=>sp (at_idxO 1 2 h155) (bx H λ r43 h156 H=>cb (ks:=[1]) (obl:=[(0+Int.toNat 0+1,List.length (List.map nGColumn b0_.Columns)),(cntN (List.map nGColumn b0_.Columns),0)]) false (leK (idxL (encN:=nGColumn) h155) (leK (cntM λ _=>rfl) (leZ))) (consE (eptrN (encN:=nGColumn) (encD:=eGColumn) h155 λ _=>rfl) (consE rfl rfl)) (FTr_column_find_ok h156) (Or.inr trivial) rfl (ck 1 (en (bk 0 (bx H λ y42 h166 H=>lX FTr_writer_writingx_L1_ok h166 (tr (tr (tr (tr (sh_nilc 2 0 1 (by kernel_rfl)) (sh_nilc 2 1 1 (by kernel_rfl))) (sh_nilc 3 0 1 (by kernel_rfl))) (sh_nilc 3 1 1 (by kernel_rfl))) (gP [0,2,3,4,5,6] [0,1,2,3,4,5,6,7] (po1 (pn1 nGColumn b0_.Columns (po1 (po1 (po1 (po1 (po1 (po1 (Pl.z))))))))))) rfl λ s hE34=>qH (qs (hE34) (sr (ck 2 (en (re (by cases H;exact pL (rl (s':=f36k0_s2 b0_ z) (gP [2] [0,1,2,6,7] (po1 (pn1 nGColumn b0_.Columns (po1 (po1 (po1 (Pl.z))))))))))))))))))))))))))))))))))))
end
section
variable (p0_:GTable) (p1_:(List UInt8))
def f13_s1:St:=⟨(0,.agg [.d (.int .i64 p0_.Modes),.d (.int .u8 p0_.Accept),.d (.sl (List.map eGRule p0_.Rules))])::(1,.d (.str p1_))::[],[]⟩
variable {p0_ p1_}
theorem FTr_Write_ok {z} (H:FTr_Write n p0_ p1_=some z):CallOK Try.prog 13 [.agg (bTable p0_),.d (.str p1_)] (.tup [.agg [.own 1 (List.map eU8 z.1.Cells),.own 1 (List.map eI64 z.1.Path)],.d (.int .i64 z.2.1),.d (.int .i64 z.2.2)]):=by
 refine fO 50 (f13_s1 p0_ p1_) Try.func13 (sr (ck 4 (en (sq (sr (ck 1 (bx H λ r46 h167 H=>ca true (FTb_Text_ok h167) (ck 5 (en (sr (ck 2 (en (cn H (λ H=>?_) (λ H=>?_))))))))))))))
 ·exact sr (ck 6 (en (re (qr (by cases H;exact pr (rT (vs:=[.agg [.d (.nil),.d (.nil)],.d (.int .i64 r46.1),.d (.int .i64 r46.2)]) [] (t1 (a1 (c1 vz (c1 vz (c0)))) (t1 (ad vd) (t1 (ad vd) (t0))))))))))
 ·refine sk (qz (sq (sr (ck 1 (bx H λ r47 h168 H=>ca false (FTb_Valid_ok h168) (ck 1 (en (cn H (λ H=>?_) (λ H=>?_)))))))))
  ·exact sr (ck 4 (en (re (qr (by cases H;exact pr (rT (vs:=[.agg [.d (.nil),.d (.nil)],.d (.int .i64 0),.d (.int .i64 61)]) [] (t1 (a1 (c1 vz (c1 vz (c0)))) (t1 (ad vd) (t1 (ad vd) (t0))))))))))
  ·refine sk (qz (sr (ck 2 (bx H λ r48 h169 H=>lt [] (FTr_newWriter_ok h169) (tb (f:=mapA1 (backN [] 2 0)) [some (.box (bTable p0_)),some (.box [.d (.nil),.d (.nil)]),some (.box (bWriter_6 r48 (.osl 3 2 0 (List.length r48.Columns)))),some (.narr 2 (List.map nGColumn r48.Columns))] (po1 (po1 (po1 (pn1 nGColumn r48.Columns (Pl.z))))) (ck 1 (en (sr (ck 1 (bx H λ r49 h170 H=>ltP [2,3] (FTr_writer_reach_ok h170) (po1 (pn1 nGColumn r48.Columns (Pl.z))) (tb (f:=mapA1 (backN [2,3] 4 2)) [some (.box (bTable p0_)),some (.box [.d (.nil),.d (.nil)]),some (.box (bWriter_6 r49 (.osl 3 2 0 (List.length r49.Columns)))),some (.narr 2 (List.map nGColumn r49.Columns))] (po1 (po1 (po1 (pn1 nGColumn r49.Columns (Pl.z))))) (en (sr (ck 1 (bx H λ r50 h171 H=>ltP [2,3] (FTr_writer_price_ok h171) (po1 (pn1 nGColumn r49.Columns (Pl.z))) (tb (f:=mapA1 (backN [2,3] 4 2)) [some (.box (bTable p0_)),some (.box [.d (.nil),.d (.nil)]),some (.box (bWriter_6 r50 (.osl 3 2 0 (List.length r50.Columns)))),some (.narr 2 (List.map nGColumn r50.Columns))] (po1 (po1 (po1 (pn1 nGColumn r50.Columns (Pl.z))))) (en (sq (sq (bx H λ x63 h172 H=>rg (tr (so1 (encN:=nGColumn) 3 2 h172) (sno (encN:=nGColumn) (enc:=eI64) h172 [.own 1 (List.map eI64 x63.States),.own 1 (List.map eI64 x63.Costs)] x63.Costs 2 3 1 1)) (ck 4 (sp (at_idxO 3 2 h172) (ck 1 (sp (at_ldN (encN:=nGColumn) (row:=[.own 1 (List.map eI64 x63.States),.osl 4 1 0 (List.length x63.Costs)]) (k:=3) (sz:=2) (off:=1) (t:=ty 36) (v:=.osl 4 1 0 (List.length x63.Costs)) h172) (bx H λ x64 h173 H=>sp (at_idxO 4 1 h173) (sp (at_ldA eI64 4 0 (ty 3) h173) (ck 1 (en (cn H (λ H=>?_) (λ H=>?_))))))))))))))))))))))))))))))
   ·exact sq (rg (tr (tr (tr (sni (encN:=nGColumn) (xs:=r50.Columns) (n:=0) (enc:=eI64) [.own 1 (List.map eI64 x63.States),.osl 4 1 0 (List.length x63.Costs)] x63.Costs 2 3 1 4 1) (scl (encN:=nGColumn) (xss:=r50.Columns) 0 [.own 1 (List.map eI64 x63.States),.own 1 (List.map eI64 x63.Costs)] 2 3 x63)) (sn 34 3 2 (lsS r50.Columns (Int.toNat 0) x63))) (snc 2 6 3 2 (lsS r50.Columns (Int.toNat 0) x63))) (ck 8 (en (re (qr (by cases H;exact pr (rT (vs:=[.agg [.d (.nil),.d (.nil)],.d (.int .i64 r50.Last),.d (.int .i64 61)]) [] (t1 (a1 (c1 vz (c1 vz (c0)))) (t1 (ad vd) (t1 (ad vd) (t0)))))))))))
   ·exact sk (qz (sq (rg (tr (tr (tr (sni (encN:=nGColumn) (xs:=r50.Columns) (n:=0) (enc:=eI64) [.own 1 (List.map eI64 x63.States),.osl 4 1 0 (List.length x63.Costs)] x63.Costs 2 3 1 4 1) (scl (encN:=nGColumn) (xss:=r50.Columns) 0 [.own 1 (List.map eI64 x63.States),.own 1 (List.map eI64 x63.Costs)] 2 3 x63)) (sn 34 3 2 (lsS r50.Columns (Int.toNat 0) x63))) (snc 2 6 3 2 (lsS r50.Columns (Int.toNat 0) x63))) (ck 1 (bx H λ r51 h174 H=>ltP [2,3] (FTr_writer_writingx_ok h174) (po1 (pn1 nGColumn (List.set r50.Columns (Int.toNat 0) x63) (Pl.z))) (tb (f:=mapA1 (backN [2,3] 5 2)) [some (.box (bTable p0_)),some (.box [.d (.nil),.d (.nil)]),some (.box (bWriter_6 r50 (.osl 3 2 0 (List.length (List.set r50.Columns (Int.toNat 0) x63))))),some (.narr 2 (List.map nGColumn (List.set r50.Columns (Int.toNat 0) x63))),none,some (.box [.osl 6 1 0 (List.length r51.Cells),.osl 7 1 0 (List.length r51.Path)]),some (.arr 1 (List.map eU8 r51.Cells)),some (.arr 1 (List.map eI64 r51.Path))] (po1 (po1 (po1 (pn1 nGColumn (List.set r50.Columns (Int.toNat 0) x63) (po1 (po1 (po1 (po1 (Pl.z))))))))) (ck 5 (en (re (by cases H;exact pr (rT (vs:=[.agg [.osl 6 1 0 (List.length r51.Cells),.osl 7 1 0 (List.length r51.Path)],.d (.int .i64 ((List.length p1_:Nat):Int)),.d (.int .i64 0)]) [6,7] (t1 (a1 (c1 vo (c1 vo (c0)))) (t1 (ad vd) (t1 (ad vd) (t0)))))))))))))))
end
section
variable (p0_:(List Int)) (p1_:(List Int)) (i_4:Int)
def f43_s1:St:=⟨(0,.d (.sl (List.map eU8 p0_)))::(1,.d (.sl (List.map eU8 p1_)))::[],[]⟩
def f43_s2:St:=⟨(0,.d (.sl (List.map eU8 p0_)))::(1,.d (.sl (List.map eU8 p1_)))::(5,.d (.int .i64 i_4))::[],[]⟩
def f43_s3:St:=⟨[],[]⟩
def FR2_SameCells_L1_E:(Unit⊕Bool)->Ex->St->Prop:=xS (xX 0 0 (λ (y:Unit)=>f43_s3)) (xR ty Try.f43 (λ (y:Bool)=>.d (.bool y)))
def FR2_SameCells_L1_S:Int->St:=(λ (x:Int)=>f43_s2 p0_ p1_ x)
variable {p0_ p1_ i_4}
theorem FR2_SameCells_L1_ok (x:Int) (z:(Int⊕(Unit⊕Bool))) (H:FR2_SameCells_L1 n p0_ p1_ x=some z):WP (cxk 26 0) (bodyOf Try.f43) [1,1,0,1,0,0] (roundQ 0 (FR2_SameCells_L1_S p0_ p1_) (FR2_SameCells_L1_E) z) (FR2_SameCells_L1_S p0_ p1_ x):=by
 revert H
 generalize x=i_4
 intro H
 refine sq (sr (ck 2 (sp (at_len eU8 p0_) (ck 1 (en (cn H (λ H=>?_) (λ H=>?_)))))))
 ·refine sk (qz (sq (bk 1 (sr (ck 2 (bx H λ x65 h175 H=>sp (at_idxD eU8 h175) (ck 3 (bx H λ x66 h176 H=>sp (at_idxD eU8 h176) (ck 2 (en (cn H (λ H=>?_) (λ H=>?_))))))))))))
  ·exact sr (ck 1 (en (re (qR (qr (by cases H;exact ro rfl rd))))))
  ·exact sk (qN (qz (rz (ck 3 (ae (by cases H;exact og (sg [0,1,5])))))))
 ·exact ex 0 (qx (by cases H;exact xo rfl (sg [])))
theorem FR2_SameCells_ok {z} (H:FR2_SameCells n p0_ p1_=some z):CallOK Try.prog 43 [.d (.sl (List.map eU8 p0_)),.d (.sl (List.map eU8 p1_))] (.d (.bool z)):=by
 refine fO 26 (f43_s1 p0_ p1_) Try.func43 (sr (ck 1 (en (sq (sr (ck 1 (sp (at_len eU8 p0_) (ck 1 (sp (at_len eU8 p1_) (ck 1 (en (cn H (λ H=>?_) (λ H=>?_)))))))))))))
 ·exact sr (ck 1 (en (re (qr (by cases H;exact pr rd)))))
 ·refine sk (qz (sq (sr (ck 1 (en (bk 0 (bx H λ y43 h177 H=>?_)))))))
  rcases y43 with y44|y45
  ·exact lX FR2_SameCells_L1_ok h177 (sg [0,1,5]) rfl λ s hE35=>qH (qs (hE35) (sr (ck 1 (en (re (by cases H;exact pr rd))))))
  ·exact lR FR2_SameCells_L1_ok h177 (sg [0,1,5]) rfl λ s hE36=>qR (qr (by cases H;exact pr hE36))
end
section
variable (p0_:(List Int)) (p1_:(List Int)) (i_5:Int)
def f44_s1:St:=⟨(0,.d (.sl (List.map eI64 p0_)))::(1,.d (.sl (List.map eI64 p1_)))::[],[]⟩
def f44_s2:St:=⟨(0,.d (.sl (List.map eI64 p0_)))::(1,.d (.sl (List.map eI64 p1_)))::(5,.d (.int .i64 i_5))::[],[]⟩
def f44_s3:St:=⟨[],[]⟩
def FR6_Ints_L1_E:(Unit⊕Bool)->Ex->St->Prop:=xS (xX 0 0 (λ (y:Unit)=>f44_s3)) (xR ty Try.f44 (λ (y:Bool)=>.d (.bool y)))
def FR6_Ints_L1_S:Int->St:=(λ (x:Int)=>f44_s2 p0_ p1_ x)
variable {p0_ p1_ i_5}
theorem FR6_Ints_L1_ok (x:Int) (z:(Int⊕(Unit⊕Bool))) (H:FR6_Ints_L1 n p0_ p1_ x=some z):WP (cxk 26 0) (bodyOf Try.f44) [1,1,0,1,0,0] (roundQ 0 (FR6_Ints_L1_S p0_ p1_) (FR6_Ints_L1_E) z) (FR6_Ints_L1_S p0_ p1_ x):=by
 revert H
 generalize x=i_5
 intro H
 refine sq (sr (ck 2 (sp (at_len eI64 p0_) (ck 1 (en (cn H (λ H=>?_) (λ H=>?_)))))))
 ·refine sk (qz (sq (bk 1 (sr (ck 2 (bx H λ x67 h178 H=>sp (at_idxD eI64 h178) (ck 3 (bx H λ x68 h179 H=>sp (at_idxD eI64 h179) (ck 2 (en (cn H (λ H=>?_) (λ H=>?_))))))))))))
  ·exact sr (ck 1 (en (re (qR (qr (by cases H;exact ro rfl rd))))))
  ·exact sk (qN (qz (rz (ck 3 (ae (by cases H;exact og (sg [0,1,5])))))))
 ·exact ex 0 (qx (by cases H;exact xo rfl (sg [])))
theorem FR6_Ints_ok {z} (H:FR6_Ints n p0_ p1_=some z):CallOK Try.prog 44 [.d (.sl (List.map eI64 p0_)),.d (.sl (List.map eI64 p1_))] (.d (.bool z)):=by
 refine fO 26 (f44_s1 p0_ p1_) Try.func44 (sr (ck 1 (en (sq (sr (ck 1 (sp (at_len eI64 p0_) (ck 1 (sp (at_len eI64 p1_) (ck 1 (en (cn H (λ H=>?_) (λ H=>?_)))))))))))))
 ·exact sr (ck 1 (en (re (qr (by cases H;exact pr rd)))))
 ·refine sk (qz (sq (sr (ck 1 (en (bk 0 (bx H λ y46 h180 H=>?_)))))))
  rcases y46 with y47|y48
  ·exact lX FR6_Ints_L1_ok h180 (sg [0,1,5]) rfl λ s hE37=>qH (qs (hE37) (sr (ck 1 (en (re (by cases H;exact pr rd))))))
  ·exact lR FR6_Ints_L1_ok h180 (sg [0,1,5]) rfl λ s hE38=>qR (qr (by cases H;exact pr hE38))
end
section
variable (p0_:GWriting) (p1_:GWriting)
def f15_s1:St:=⟨(0,.agg [.d (.sl (List.map eU8 p0_.Cells)),.d (.sl (List.map eI64 p0_.Path))])::(1,.agg [.d (.sl (List.map eU8 p1_.Cells)),.d (.sl (List.map eI64 p1_.Path))])::[],[]⟩
variable {p0_ p1_}
theorem FR6_Same_ok {z} (H:FR6_Same n p0_ p1_=some z):CallOK Try.prog 15 [.agg [.d (.sl (List.map eU8 p0_.Cells)),.d (.sl (List.map eI64 p0_.Path))],.agg [.d (.sl (List.map eU8 p1_.Cells)),.d (.sl (List.map eI64 p1_.Path))]] (.d (.bool z)):=by
 exact fO 17 (f15_s1 p0_ p1_) Try.func15 (sr (ck 3 (en (sr (ck 4 (bx H λ r52 h181 H=>ca false (FR2_SameCells_ok h181) (ck 2 (gc 1 r52 (ck 1 (gc 1 r52 (bx H λ r53 h182 H=>cG false (leZ) rfl (λ hg=>FR6_Ints_ok (gimp h182 hg)) (Or.inl rfl) (impK (λ hh=>hh) (impK (λ hh=>hh) (impZ))) rfl (pA (ck 1 (en (re (by cases H;exact pr rd))))))))))))))))
end
section
variable (p0_:GTable) (p1_:(List UInt8)) (p2_:GWriting)
def f29_s1:St:=⟨(0,.agg [.d (.int .i64 p0_.Modes),.d (.int .u8 p0_.Accept),.d (.sl (List.map eGRule p0_.Rules))])::(1,.d (.str p1_))::(2,.agg [.d (.sl (List.map eU8 p2_.Cells)),.d (.sl (List.map eI64 p2_.Path))])::[],[]⟩
variable {p0_ p1_ p2_}
theorem FL6_writes_ok {z} (H:FL6_writes n p0_ p1_ p2_=some z):CallOK Try.prog 29 [.agg (bTable p0_),.d (.str p1_),.agg [.d (.sl (List.map eU8 p2_.Cells)),.d (.sl (List.map eI64 p2_.Path))]] (.d (.bool z)):=by
 exact fO 30 (f29_s1 p0_ p1_ p2_) Try.func29 (sr (ck 3 (en (sr (ck 2 (bx H λ r54 h183 H=>ca false (FTr_Write_ok h183) (ck 8 (en (sr (ck 5 (gc 2 (r54.2.2==0) (pA (ck 3 (bx H λ r55 h184 H=>cG false (leZ) rfl (λ hg=>FR6_Same_ok (gimp h184 hg)) (Or.inl rfl) (impK (λ hh=>hh) (impK (λ hh=>hh) (impZ))) rfl (pA (ck 1 (en (re (by cases H;exact pr rd)))))))))))))))))))
end
section
variable (p0_:GTable) (p1_:(List UInt8)) (p2_:Int)
def f30_s1:St:=⟨(0,.agg [.d (.int .i64 p0_.Modes),.d (.int .u8 p0_.Accept),.d (.sl (List.map eGRule p0_.Rules))])::(1,.d (.str p1_))::(2,.d (.int .i64 p2_))::[],[]⟩
variable {p0_ p1_ p2_}
theorem FL6_refuses_ok {z} (H:FL6_refuses n p0_ p1_ p2_=some z):CallOK Try.prog 30 [.agg (bTable p0_),.d (.str p1_),.d (.int .i64 p2_)] (.d (.int .i64 z)):=by
 refine fO 33 (f30_s1 p0_ p1_ p2_) Try.func30 (sr (ck 2 (en (sr (ck 2 (bx H λ r56 h185 H=>cl [List.length r56.1.Cells,List.length r56.1.Path] (FTr_Write_ok h185) (ck 8 (en (sq (sr (ck 5 (gc 3 (!(r56.2.2 != p2_)) (pO (ck 2 (gc 3 (!((r56.2.2 != p2_)||(decide (((List.length r56.1.Cells:Nat):Int)>0)))) (pO (en (cn H (λ H=>?_) (λ H=>?_)))))))))))))))))))
 ·exact sr (ck 1 (en (re (qr (by cases H;exact pr rd)))))
 ·exact sk (qz (sr (ck 2 (en (re (by cases H;exact pr rd))))))
end
section
variable (p0_:GTable) (p1_:(List UInt8))
def f16_s1:St:=⟨(0,.agg [.d (.int .i64 p0_.Modes),.d (.int .u8 p0_.Accept),.d (.sl (List.map eGRule p0_.Rules))])::(1,.d (.str p1_))::[],[]⟩
variable {p0_ p1_}
theorem FTr_Cost_ok {z} (H:FTr_Cost n p0_ p1_=some z):CallOK Try.prog 16 [.agg (bTable p0_),.d (.str p1_)] (.d (.int .i64 z)):=by
 refine fO 20 (f16_s1 p0_ p1_) Try.func16 (sr (ck 2 (en (sr (ck 2 (bx H λ r57 h186 H=>ca false (FTr_Write_ok h186) (ck 8 (en (sq (sr (ck 2 (en (cn H (λ H=>?_) (λ H=>?_))))))))))))))
 ·exact sr (ck 1 (en (re (qr (by cases H;exact pr rd)))))
 ·exact sk (qz (sr (ck 2 (sp (at_len eU8 r57.1.Cells) (ck 1 (en (re (by cases H;exact pr rd))))))))
end
section
variable (p0_:GTable) (p1_:(List Int)) (text_1:(List Int)) (cells_1:(List Int)) (s_1:GState) (at_1:Int) (x_35:Int) (text_2:(List Int)) (cells_2:(List Int)) (s_2:GState) (at_2:Int)
def f48_s1:St:=⟨(0,.agg [.d (.int .i64 p0_.Modes),.d (.int .u8 p0_.Accept),.d (.sl (List.map eGRule p0_.Rules))])::(1,.d (.sl (List.map eI64 p1_)))::[],[]⟩
def f48_s2:St:=⟨(1,.d (.sl (List.map eI64 p1_)))::(2,.ptr 0 0)::(4,.ptr 1 0)::(5,.osl 2 1 0 (List.length text_1))::(6,.osl 3 1 0 (List.length cells_1))::(7,.ptr 4 0)::(8,.d (.int .i64 at_1))::(14,.d (.sl (List.map eI64 p1_)))::(15,.d (.int .i64 ((List.length p1_:Nat):Int)))::(16,.d (.int .i64 x_35))::[],[some (.box (bTable p0_)),some (.box [.d (.str []),.osl 5 1 0 (List.length ([]:List Int)),.d (.int .i64 0),.d (.int .i64 0),.d (.int .i64 0),.d (.int .u8 0),.d (.bool false)]),some (.arr 1 (List.map eU8 text_1)),some (.arr 1 (List.map eU8 cells_1)),some (.box (bState s_1)),some (.arr 1 (List.map eU8 ([]:List Int)))]⟩
def f48_s3:St:=⟨(1,.d (.sl (List.map eI64 p1_)))::(2,.ptr 0 0)::(4,.ptr 1 0)::(5,.osl 2 1 0 (List.length text_2))::(6,.osl 3 1 0 (List.length cells_2))::(7,.ptr 4 0)::(8,.d (.int .i64 at_2))::[],[some (.box (bTable p0_)),some (.box [.d (.str []),.osl 5 1 0 (List.length ([]:List Int)),.d (.int .i64 0),.d (.int .i64 0),.d (.int .i64 0),.d (.int .u8 0),.d (.bool false)]),some (.arr 1 (List.map eU8 text_2)),some (.arr 1 (List.map eU8 cells_2)),some (.box (bState s_2)),some (.arr 1 (List.map eU8 ([]:List Int)))]⟩
def FAu_Run_L1_E:((List Int)×(List Int)×GState×Int)->Ex->St->Prop:=xX 0 0 (λ (y:((List Int)×(List Int)×GState×Int))=>f48_s3 p0_ p1_ y.1 y.2.1 y.2.2.1 y.2.2.2)
def FAu_Run_L1_S:((List Int)×(List Int)×GState×Int×Int)->St:=(λ (x:((List Int)×(List Int)×GState×Int×Int))=>f48_s2 p0_ p1_ x.1 x.2.1 x.2.2.1 x.2.2.2.1 x.2.2.2.2)
variable {p0_ p1_ text_1 cells_1 s_1 at_1 x_35 text_2 cells_2 s_2 at_2}
theorem FAu_Run_L1_ok (x:((List Int)×(List Int)×GState×Int×Int)) (z:(((List Int)×(List Int)×GState×Int×Int)⊕((List Int)×(List Int)×GState×Int))) (H:FAu_Run_L1 n p0_ p1_ x.1 x.2.1 x.2.2.1 x.2.2.2.1 x.2.2.2.2=some z):WP (cxk 64 0) (bodyOf Try.f48) [1,1,1,1,0,1,0,0] (roundQ 0 (FAu_Run_L1_S p0_ p1_) (FAu_Run_L1_E p0_ p1_) z) (FAu_Run_L1_S p0_ p1_ x):=by
 obtain ⟨text_1,cells_1,s_1,at_1,x_35⟩:=x
 refine sr (ck 1 (en (sq (cn H (λ H=>?_) (λ H=>?_)))))
 ·refine sk (qz (sq (bk 1 (sr (bx H λ x69 h188 H=>sp (at_idxD eI64 h188) (ck 2 (en (sr (ck 3 (bx H λ r59 h189 H=>ca false (FAu_Step_ok h189) (ck 6 (en (sq (sr (ck 2 (en (cn H (λ H=>?_) (λ H=>?_))))))))))))))))))
  ·exact ex 0 (qx (qX rfl (qx (by cases H;exact xo rfl (sg [1,2,4,5,6,7,8])))))
  ·exact sk (qz (sr (ck 4 (bx H λ x70 h190 H=>sp (at_idxD eGRule h190) (ck 2 (bx H λ l19 h191 H=>sp (at_appS 2 h191) (ck 1 (en (sr (ck 4 (bx H λ x71 h192 H=>sp (at_idxD eGRule h192) (ck 2 (bx H λ l20 h193 H=>sp (at_app eU8 3 1 h193) (ck 1 (en (sr (ck 2 (en (rz (ck 3 (ae (qN (qz (rz (ck 2 (ae (by cases H;exact og (sg [1,2,4,5,6,7,8,14,15,16]))))))))))))))))))))))))))))
 ·exact ex 0 (qx (by cases H;exact xo rfl (sg [1,2,4,5,6,7,8])))
theorem FAu_Run_ok {z} (H:FAu_Run n p0_ p1_=some z):CallOK Try.prog 48 [.agg (bTable p0_),.d (.sl (List.map eI64 p1_))] (.agg [.d (.str z.Text),.own 1 (List.map eU8 z.Cells),.d (.int .i64 z.At),.d (.int .i64 z.End.Mode),.d (.int .i64 z.End.Last),.d (.int .u8 z.End.Need),.d (.bool z.Ok)]):=by
 exact fO 64 (f48_s1 p0_ p1_) Try.func48 (sr (ck 2 (en (sr (ck 1 (en (sr (ck 1 (en (sr (bx H λ r58 h187 H=>ca false (FAu_Start_ok h187) (ck 3 (en (sq (sr (ck 1 (sp (at_len eI64 p1_) (ck 1 (en (bk 0 (bx H λ y49 h194 H=>lX FAu_Run_L1_ok h194 (tr (tr (tr (Shift.nilo 5 1 (by kernel_rfl)) (Shift.nilo 6 1 (by kernel_rfl))) (sh_nilc 1 1 1 (by kernel_rfl))) (sg [1,2,4,5,6,7,8,14,15,16])) rfl λ s hE39=>qH (qs (hE39) (sq (rg (fz (enc:=eU8) (xs:=y49.1) 5 2 1) (ck 1 (bx H λ s4 h195 H=>sp (at_bstr h195) (ck 5 (sp (at_len eI64 p1_) (ck 4 (bx H λ r60 h196 H=>cG false (leZ) rfl (λ hg=>FAu_Accepts_ok (gimp h196 hg)) (Or.inl rfl) (impK (λ hh=>hh) (impK (λ hh=>hh) (impZ))) rfl (pA (ck 2 (en (re (by cases H;exact pr (rO (v:=.agg [.d (.str s4),.osl 3 1 0 (List.length y49.2.1),.d (.int .i64 y49.2.2.2),.d (.int .i64 y49.2.2.1.Mode),.d (.int .i64 y49.2.2.1.Last),.d (.int .u8 y49.2.2.1.Need),.d (.bool ((y49.2.2.2==((List.length p1_:Nat):Int))&&r60))]) [3] (a1 (c1 vd (c1 vo (c1 vd (c1 vd (c1 vd (c1 vd (c1 vd (c0)))))))))))))))))))))))))))))))))))))))))))))
end
section
variable (p0_:GTable) (p1_:GWriting) (p2_:(List UInt8))
def f21_s1:St:=⟨(0,.agg [.d (.int .i64 p0_.Modes),.d (.int .u8 p0_.Accept),.d (.sl (List.map eGRule p0_.Rules))])::(1,.agg [.d (.sl (List.map eU8 p1_.Cells)),.d (.sl (List.map eI64 p1_.Path))])::(2,.d (.str p2_))::[],[]⟩
variable {p0_ p1_ p2_}
theorem FTr_Writes_ok {z} (H:FTr_Writes n p0_ p1_ p2_=some z):CallOK Try.prog 21 [.agg (bTable p0_),.agg [.d (.sl (List.map eU8 p1_.Cells)),.d (.sl (List.map eI64 p1_.Path))],.d (.str p2_)] (.d (.bool z)):=by
 exact fO 27 (f21_s1 p0_ p1_ p2_) Try.func21 (sr (ck 3 (en (sr (ck 3 (bx H λ r61 h197 H=>ca false (FAu_Run_ok h197) (ck 2 (en (sr (ck 4 (gc 1 r61.Ok (ck 1 (gc 1 r61.Ok (pA (ck 2 (gc 1 (r61.Ok&&(r61.Text==p2_)) (ck 1 (gc 1 (r61.Ok&&(r61.Text==p2_)) (bx H λ r62 h198 H=>cG false (leZ) rfl (λ hg=>FApi_Cell_ok (gimp h198 hg)) (Or.inl rfl) (impK (λ hh=>hh) (impK (λ hh=>hh) (impZ))) rfl (pA (ck 1 (en (re (by cases H;exact pr rd))))))))))))))))))))))))
end
def f9_s0:St:=⟨[],[]⟩
theorem FL6_sanity_ok {z} (H:FL6_sanity n=some z):CallOK Try.prog 9 [] (.d (.bool z)):=by
 exact fO 104 f9_s0 Try.func9 (sr (ck 1 (en (sr (ck 1 (bx H λ r63 h199 H=>ca false (FL6_rule_ok h199) (ck 1 (bx H λ r64 h200 H=>ca false (FL6_rule_ok h200) (ck 1 (bx H λ r65 h201 H=>ca false (FL6_rule_ok h201) (ck 1 (bx H λ r66 h202 H=>ca false (FL6_rule_ok h202) (ck 4 (en (sr (ck 3 (en (sr (ck 1 (bx H λ r67 h203 H=>ca false (FL6_rule_ok h203) (ck 1 (bx H λ r68 h204 H=>ca false (FL6_rule_ok h204) (ck 1 (bx H λ r69 h205 H=>ca false (FL6_rule_ok h205) (ck 4 (en (sr (ck 4 (bx H λ r70 h206 H=>cb (ks:=[0,5,6]) (obl:=[(0+List.length [r63,r64,r65,r66],List.length (List.map eGRule [r63,r64,r65,r66])),(0+List.length [60,1,0,1],List.length (List.map eU8 [60,1,0,1])),(0+List.length [1,2,3,0],List.length (List.map eI64 [1,2,3,0]))]) false (leK leM (leK leM (leK leM (leZ)))) (consE (aggE (consE rfl (consE rfl (consE takeE rfl)))) (consE rfl (consE (aggE (consE takeE (consE takeE rfl))) rfl))) (FL6_writes_ok h206) (Or.inr trivial) rfl (ck 4 (gc 1 r70 (bx H λ r71 h207 H=>cG (ks:=[3,7,8]) (obl:=[(0+List.length [r67,r68,r69],List.length (List.map eGRule [r67,r68,r69])),(0+List.length [7,7],List.length (List.map eU8 [7,7])),(0+List.length [2,2],List.length (List.map eI64 [2,2]))]) false (leK leM (leK leM (leK leM (leZ)))) (consE (aggE (consE rfl (consE rfl (consE takeE rfl)))) (consE rfl (consE (aggE (consE takeE (consE takeE rfl))) rfl))) (λ hg=>FL6_writes_ok (gimp h207 hg)) (Or.inr trivial) (impK (λ hh=>hh) (impK (λ hh=>hh) (impZ))) rfl (pA (ck 4 (gc 1 (r70&&r71) (bx H λ r72 h208 H=>cG (ks:=[3,9,10]) (obl:=[(0+List.length [r67,r68,r69],List.length (List.map eGRule [r67,r68,r69])),(0+List.length [3,1],List.length (List.map eU8 [3,1])),(0+List.length [1,0],List.length (List.map eI64 [1,0]))]) false (leK leM (leK leM (leK leM (leZ)))) (consE (aggE (consE rfl (consE rfl (consE takeE rfl)))) (consE rfl (consE (aggE (consE takeE (consE takeE rfl))) rfl))) (λ hg=>FL6_writes_ok (gimp h208 hg)) (Or.inr trivial) (impK (λ hh=>hh) (impK (λ hh=>hh) (impZ))) rfl (pA (ck 3 (bx H λ r73 h209 H=>cG (ks:=[3]) (obl:=[(0+List.length [r67,r68,r69],List.length (List.map eGRule [r67,r68,r69]))]) false (leK leM (leZ)) (consE (aggE (consE rfl (consE rfl (consE takeE rfl)))) (consE rfl (consE rfl rfl))) (λ hg=>FL6_writes_ok (gimp h209 hg)) (Or.inr trivial) (impK (λ hh=>hh) (impK (λ hh=>hh) (impZ))) rfl (pA (ck 1 (en (sr (ck 1 (bx H λ r74 h210 H=>cb (ks:=[0]) (obl:=[(0+List.length [r63,r64,r65,r66],List.length (List.map eGRule [r63,r64,r65,r66]))]) false (leK leM (leZ)) (consE (aggE (consE rfl (consE rfl (consE takeE rfl)))) (consE rfl (consE rfl rfl))) (FL6_refuses_ok h210) (Or.inr trivial) rfl (ck 3 (bx H λ r75 h211 H=>cG (ks:=[0]) (obl:=[(0+List.length [r63,r64,r65,r66],List.length (List.map eGRule [r63,r64,r65,r66]))]) false (leK leM (leZ)) (consE (aggE (consE rfl (consE rfl (consE takeE rfl)))) (consE rfl (consE rfl rfl))) (λ hg=>FL6_refuses_ok (gimp h211 hg)) (Or.inr trivial) (impK (λ hh=>hh) (impZ)) rfl (gc 1 (r74==1) (pA (ck 2 (bx H λ r76 h212 H=>cG (ks:=[0]) (obl:=[(0+List.length [r63,r64,r65,r66],List.length (List.map eGRule [r63,r64,r65,r66]))]) false (leK leM (leZ)) (consE (aggE (consE rfl (consE rfl (consE takeE rfl)))) (consE rfl (consE rfl rfl))) (λ hg=>FL6_refuses_ok (gimp h212 hg)) (Or.inr trivial) (impK (λ hh=>hh) (impZ)) rfl (gc 1 ((r74==1)&&(r75==1)) (pA (ck 2 (bx H λ r77 h213 H=>cG (ks:=[0]) (obl:=[(0+List.length [r63,r64,r65,r66],List.length (List.map eGRule [r63,r64,r65,r66]))]) false (leK leM (leZ)) (consE (aggE (consE rfl (consE rfl (consE takeE rfl)))) (consE rfl rfl)) (λ hg=>FTr_Cost_ok (gimp h213 hg)) (Or.inr trivial) (impK (λ hh=>hh) (impZ)) rfl (gc 1 (((r74==1)&&(r75==1))&&(r76==1)) (pA (ck 2 (bx H λ r78 h214 H=>cG (ks:=[0]) (obl:=[(0+List.length [r63,r64,r65,r66],List.length (List.map eGRule [r63,r64,r65,r66]))]) false (leK leM (leZ)) (consE (aggE (consE rfl (consE rfl (consE takeE rfl)))) (consE rfl rfl)) (λ hg=>FTr_Cost_ok (gimp h214 hg)) (Or.inr trivial) (impK (λ hh=>hh) (impZ)) rfl (gc 1 ((((r74==1)&&(r75==1))&&(r76==1))&&(r77==0)) (pA (ck 2 (bx H λ r79 h215 H=>cG (ks:=[3]) (obl:=[(0+List.length [r67,r68,r69],List.length (List.map eGRule [r67,r68,r69]))]) false (leK leM (leZ)) (consE (aggE (consE rfl (consE rfl (consE takeE rfl)))) (consE rfl rfl)) (λ hg=>FTr_Cost_ok (gimp h215 hg)) (Or.inr trivial) (impK (λ hh=>hh) (impZ)) rfl (gc 1 (((((r74==1)&&(r75==1))&&(r76==1))&&(r77==0))&&(r78==(-1))) (pA (ck 1 (en (sr (ck 5 (en (sr (ck 3 (pA (ck 3 (bx H λ r80 h216 H=>cG (ks:=[3,11,12]) (obl:=[(0+List.length [r67,r68,r69],List.length (List.map eGRule [r67,r68,r69])),(0+List.length [1,3],List.length (List.map eU8 [1,3])),(0+List.length [0,1],List.length (List.map eI64 [0,1]))]) false (leK leM (leK leM (leK leM (leZ)))) (consE (aggE (consE rfl (consE rfl (consE takeE rfl)))) (consE (aggE (consE takeE (consE takeE rfl))) (consE rfl rfl))) (λ hg=>FTr_Writes_ok (gimp h216 hg)) (Or.inr trivial) (impK (λ hh=>hh) (impK (λ hh=>hh) (impZ))) rfl (pA (ck 3 (bx H λ r81 h217 H=>cG (ks:=[3,11,12]) (obl:=[(0+List.length [r67,r68,r69],List.length (List.map eGRule [r67,r68,r69])),(0+List.length [1,3],List.length (List.map eU8 [1,3])),(0+List.length [0,1],List.length (List.map eI64 [0,1]))]) false (leK leM (leK leM (leK leM (leZ)))) (consE (aggE (consE rfl (consE rfl (consE takeE rfl)))) (consE (aggE (consE takeE (consE takeE rfl))) (consE rfl rfl))) (λ hg=>FTr_Writes_ok (gimp h217 hg)) (Or.inr trivial) (impK (λ hh=>hh) (impK (λ hh=>hh) (impZ))) rfl (gc 1 (((((r70&&r71)&&r72)&&r73)&&((((((r74==1)&&(r75==1))&&(r76==1))&&(r77==0))&&(r78==(-1)))&&(r79==2)))&&r80) (pA (ck 4 (gc 1 ((((((r70&&r71)&&r72)&&r73)&&((((((r74==1)&&(r75==1))&&(r76==1))&&(r77==0))&&(r78==(-1)))&&(r79==2)))&&r80)&&(!r81)) (bx H λ r82 h218 H=>cG (ks:=[3,14,15]) (obl:=[(0+List.length [r67,r68,r69],List.length (List.map eGRule [r67,r68,r69])),(0+List.length [7],List.length (List.map eU8 [7])),(0+List.length [0,1],List.length (List.map eI64 [0,1]))]) false (leK leM (leK leM (leK leM (leZ)))) (consE (aggE (consE rfl (consE rfl (consE takeE rfl)))) (consE (aggE (consE takeE (consE takeE rfl))) (consE rfl rfl))) (λ hg=>FTr_Writes_ok (gimp h218 hg)) (Or.inr trivial) (impK (λ hh=>hh) (impK (λ hh=>hh) (impZ))) rfl (gc 1 ((((((r70&&r71)&&r72)&&r73)&&((((((r74==1)&&(r75==1))&&(r76==1))&&(r77==0))&&(r78==(-1)))&&(r79==2)))&&r80)&&(!r81)) (pA (ck 1 (en (re (by cases H;exact pr rd)))))))))))))))))))))))))))))))))))))))))))))))))))))))))))))))))))))))))))))))))))))))))
section
variable (p0_:(List UInt8)) (p1_:(List Int)) (p2_:(Arr2 Int))
def f57_s1:St:=⟨(0,.d (.str p0_))::(1,.d (.sl (List.map eU8 p1_)))::(2,.agg [.d (.int .i64 p2_.a0),.d (.int .i64 p2_.a1)])::[],[]⟩
variable {p0_ p1_ p2_}
theorem FR2_simple_ok {z} (H:FR2_simple n p0_ p1_ p2_=some z):CallOK Try.prog 57 [.d (.str p0_),.d (.sl (List.map eU8 p1_)),.agg [.d (.int .i64 p2_.a0),.d (.int .i64 p2_.a1)]] (.agg [.d (.str z.Print),.d (.sl (List.map eU8 z.Cells)),.d (.int .u8 z.Left),.d (.int .u8 z.Right),.d (.int .i64 z.From),.d (.int .i64 z.To)]):=by
 exact fO 14 (f57_s1 p0_ p1_ p2_) Try.func57 (sr (ck 2 (en (sr (ck 8 (en (re (by cases H;exact pr rd))))))))
end
def f55_s0:St:=⟨[],[]⟩
theorem FR2_letters_ok {z} (H:FR2_letters n=some z):CallOK Try.prog 55 [] (.own 6 (List.map eGRule z)):=by
 exact fO 16 f55_s0 Try.func55 (sr (ck 1 (en (sr (ck 3 (en (sr (sF (ck 1 (bx H λ r83 h219 H=>ca false (FR2_simple_ok h219) (sF (ck 1 (bx H λ r84 h220 H=>ca false (FR2_simple_ok h220) (sF (ck 1 (bx H λ r85 h221 H=>ca false (FR2_simple_ok h221) (sF (ck 1 (bx H λ r86 h222 H=>ca false (FR2_simple_ok h222) (ck 2 (en (re (by cases H;exact pr (rO (v:=.osl 1 6 0 (List.length [r83,r84,r85,r86])) [1] (ao vo)))))))))))))))))))))))))
section
variable (p0_:Int) (p1_:Int) (p2_:(Arr2 Int))
def f56_s1:St:=⟨(0,.d (.int .u8 p0_))::(1,.d (.int .i64 p1_))::(2,.agg [.d (.int .i64 p2_.a0),.d (.int .i64 p2_.a1)])::[],[]⟩
variable {p0_ p1_ p2_}
theorem FR2_indicator_ok {z} (H:FR2_indicator n p0_ p1_ p2_=some z):CallOK Try.prog 56 [.d (.int .u8 p0_),.d (.int .i64 p1_),.agg [.d (.int .i64 p2_.a0),.d (.int .i64 p2_.a1)]] (.agg [.d (.str z.Print),.d (.sl (List.map eU8 z.Cells)),.d (.int .u8 z.Left),.d (.int .u8 z.Right),.d (.int .i64 z.From),.d (.int .i64 z.To)]):=by
 exact fO 16 (f56_s1 p0_ p1_ p2_) Try.func56 (sr (ck 2 (en (sr (ck 1 (sF (ck 1 (bx H λ r87 h223 H=>ca false (FR2_simple_ok h223) (ck 2 (en (sr (ck 1 (bx H λ gd7 h224 H=>so (guard_ge h224) (ck 2 (en (sr (ck 2 (en (re (by cases H;exact pr rd))))))))))))))))))))
end
section
variable (p0_:Int) (l_1:(List GRule))
def f27_s1:St:=⟨(0,.d (.int .u8 p0_))::[],[]⟩
def f27_s2:St:=⟨(2,.ptr 0 0)::(3,.osl 1 6 0 (List.length l_1))::[],[some (.box [.d (.int .i64 0),.d (.int .u8 0),.osl 2 6 0 (List.length ([]:List GRule))]),some (.arr 6 (List.map eGRule l_1)),some (.arr 6 (List.map eGRule ([]:List GRule)))]⟩
variable {p0_ l_1}
theorem FR2_Base_ok {z} (H:FR2_Base n p0_=some z):CallOK Try.prog 27 [.d (.int .u8 p0_)] (.agg [.d (.int .i64 z.Modes),.d (.int .u8 z.Accept),.own 6 (List.map eGRule z.Rules)]):=by
 refine fO 121 (f27_s1 p0_) Try.func27 (sr (ck 1 (en (sr (bx H λ r88 h225 H=>cl [List.length r88] (FR2_letters_ok h225) (ck 13 (en (sj (λ (x:(List GRule))=>f27_s2 x) (λ (x:(List GRule))=>FR2_Base_J1 n x) z ?_ (λ hFR2_Base_J1=>?_)))))))))
 ·intro l_1 H
  exact sr (ck 3 (en (re (by cases H;exact pr (rO (v:=.agg [.d (.int .i64 1),.d (.int .u8 1),.osl 1 6 0 (List.length l_1)]) [1] (a1 (c1 vd (c1 vd (c1 vo (c0))))))))))
 refine sr (ck 2 (en (bk 0 (sr (ck 2 (en (cn H (λ H=>?_) (λ H=>?_))))))))
 ·exact sr (ck 2 (bx H λ r89 h226 H=>ca false (FR2_indicator_ok h226) (sF (ck 1 (bx H λ r90 h227 H=>ca false (FR2_simple_ok h227) (sF (ck 1 (bx H λ r91 h228 H=>ca false (FR2_simple_ok h228) (sF (ck 1 (bx H λ r92 h229 H=>ca false (FR2_simple_ok h229) (ck 1 (bx H λ l21 h230 H=>sp (at_appO eGRule 1 6 h230) (ck 1 (en (sr (ck 3 (en (re (qR (qr (by cases H;exact pr (rO (v:=.agg [.d (.int .i64 2),.d (.int .u8 3),.osl 7 6 0 (List.length l21)]) [7] (a1 (c1 vd (c1 vd (c1 vo (c0))))))))))))))))))))))))))))
 ·refine sr (ck 2 (en (cn H (λ H=>?_) (λ H=>?_))))
  ·exact sr (ck 2 (bx H λ r93 h231 H=>ca false (FR2_indicator_ok h231) (sF (ck 1 (bx H λ r94 h232 H=>ca false (FR2_simple_ok h232) (sF (ck 1 (bx H λ r95 h233 H=>ca false (FR2_simple_ok h233) (ck 1 (bx H λ l22 h234 H=>sp (at_appO eGRule 1 6 h234) (ck 1 (en (sr (ck 3 (en (re (qR (qr (by cases H;exact pr (rO (v:=.agg [.d (.int .i64 2),.d (.int .u8 1),.osl 7 6 0 (List.length l22)]) [7] (a1 (c1 vd (c1 vd (c1 vo (c0)))))))))))))))))))))))))
  ·refine sr (ck 2 (en (cn H (λ H=>?_) (λ H=>?_))))
   ·exact rz (ck 1 (sF (ck 1 (bx H λ r96 h235 H=>ca false (FR2_simple_ok h235) (sF (ck 1 (bx H λ r97 h236 H=>ca false (FR2_simple_ok h236) (sF (ck 1 (bx H λ r98 h237 H=>ca false (FR2_simple_ok h237) (ck 1 (bx H λ l23 h238 H=>sp (at_appO eGRule 1 6 h238) (ck 1 (ae (qN (qs (tr (sh_nilc 0 2 6 (by kernel_rfl)) (sg [2,3])) (hFR2_Base_J1 l23 H)))))))))))))))))
   ·refine sr (ck 2 (en (cn H (λ H=>?_) (λ H=>?_))))
    ·exact rz (ck 1 (sF (ck 1 (bx H λ r99 h239 H=>ca false (FR2_simple_ok h239) (ck 1 (bx H λ l24 h240 H=>sp (at_appO eGRule 1 6 h240) (ck 1 (ae (qN (qs (tr (sh_nilc 0 2 6 (by kernel_rfl)) (sg [2,3])) (hFR2_Base_J1 l24 H)))))))))))
    ·refine sr (ck 2 (en (cn H (λ H=>?_) (λ H=>?_))))
     ·exact sr (sF (ck 1 (bx H λ r100 h241 H=>ca false (FR2_simple_ok h241) (sF (ck 1 (bx H λ r101 h242 H=>ca false (FR2_simple_ok h242) (ck 4 (en (sr (ck 4 (en (rz (ck 3 (sF (ck 1 (bx H λ r102 h243 H=>ca false (FR2_simple_ok h243) (ck 1 (bx H λ l25 h244 H=>sp (at_appO eGRule 1 6 h244) (ck 1 (ae (qN (qs (tr (sh_nilc 0 2 6 (by kernel_rfl)) (sg [2,3])) (hFR2_Base_J1 l25 H)))))))))))))))))))))))
     ·refine sr (ck 2 (en (cn H (λ H=>?_) (λ H=>?_))))
      ·exact sr (ck 2 (bx H λ r103 h245 H=>ca false (FR2_indicator_ok h245) (sF (ck 1 (bx H λ r104 h246 H=>ca false (FR2_simple_ok h246) (sF (ck 1 (bx H λ r105 h247 H=>ca false (FR2_simple_ok h247) (ck 1 (bx H λ l26 h248 H=>sp (at_appO eGRule 1 6 h248) (ck 1 (en (sr (ck 3 (en (re (qR (qr (by cases H;exact pr (rO (v:=.agg [.d (.int .i64 2),.d (.int .u8 1),.osl 7 6 0 (List.length l26)]) [7] (a1 (c1 vd (c1 vd (c1 vo (c0)))))))))))))))))))))))))
      ·refine sr (ck 2 (en (cn H (λ H=>?_) (λ H=>?_))))
       ·exact rz (ck 1 (sF (ck 1 (bx H λ r106 h249 H=>ca false (FR2_simple_ok h249) (sF (ck 1 (bx H λ r107 h250 H=>ca false (FR2_simple_ok h250) (sF (ck 1 (bx H λ r108 h251 H=>ca false (FR2_simple_ok h251) (ck 1 (bx H λ l27 h252 H=>sp (at_appO eGRule 1 6 h252) (ck 1 (ae (qN (qs (tr (sh_nilc 0 2 6 (by kernel_rfl)) (sg [2,3])) (hFR2_Base_J1 l27 H)))))))))))))))))
       ·exact sk (qN (qs (tr (sh_nilc 0 2 6 (by kernel_rfl)) (sg [2,3])) (hFR2_Base_J1 r88 H)))
end
section
variable (p0_:GRawRule) (p1_:Int) (out_1:GRule) (i_6:Int) (out_2:GRule) (out_3:GRule) (i_7:Int) (out_4:GRule)
def f25_s1:St:=⟨(0,.agg [.d (.sl (List.map eU8 p0_.P)),.d (.sl (List.map eU8 p0_.C)),.d (.int .u8 p0_.L),.d (.int .u8 p0_.R),.d (.int .u8 p0_.W.a0),.d (.int .u8 p0_.W.a1)])::(1,.d (.int .i64 p1_))::[],[]⟩
def f25_s2:St:=⟨(2,.ptr 0 0)::(4,.ptr 1 0)::(5,.d (.str [97,98,99,65,66,49,50,45,46]))::(7,.ptr 2 0)::(8,.d (.int .i64 i_6))::[],[some (.box (bRawRule p0_)),some (.box [.d (.str []),.osl 3 1 0 (List.length ([]:List Int)),.d (.int .u8 0),.d (.int .u8 0),.d (.int .i64 0),.d (.int .i64 0)]),some (.box (bRule_1 out_1 (.osl 4 1 0 (List.length out_1.Cells)))),some (.arr 1 (List.map eU8 ([]:List Int))),some (.arr 1 (List.map eU8 out_1.Cells))]⟩
def f25_s3:St:=⟨(2,.ptr 0 0)::(4,.ptr 1 0)::(7,.ptr 2 0)::[],[some (.box (bRawRule p0_)),some (.box [.d (.str []),.osl 3 1 0 (List.length ([]:List Int)),.d (.int .u8 0),.d (.int .u8 0),.d (.int .i64 0),.d (.int .i64 0)]),some (.box (bRule_1 out_2 (.osl 4 1 0 (List.length out_2.Cells)))),some (.arr 1 (List.map eU8 ([]:List Int))),some (.arr 1 (List.map eU8 out_2.Cells))]⟩
def FR2_Rule_L1_E:GRule->Ex->St->Prop:=xX 0 0 (λ (y:GRule)=>f25_s3 p0_ y)
def FR2_Rule_L1_S:(GRule×Int)->St:=(λ (x:(GRule×Int))=>f25_s2 p0_ x.1 x.2)
def f25_s4:St:=⟨(2,.ptr 0 0)::(4,.ptr 1 0)::(7,.ptr 2 0)::(10,.osl 3 1 0 (List.length [1,3,9,5,7,32,44,60]))::(11,.d (.int .i64 i_7))::[],[some (.box (bRawRule p0_)),some (.box [.d (.str []),.osl 4 1 0 (List.length ([]:List Int)),.d (.int .u8 0),.d (.int .u8 0),.d (.int .i64 0),.d (.int .i64 0)]),some (.box (bRule_1 out_3 (.osl 5 1 0 (List.length out_3.Cells)))),some (.arr 1 (List.map eU8 [1,3,9,5,7,32,44,60])),some (.arr 1 (List.map eU8 ([]:List Int))),some (.arr 1 (List.map eU8 out_3.Cells))]⟩
def f25_s5:St:=⟨(4,.ptr 0 0)::(7,.ptr 1 0)::[],[some (.box [.d (.str []),.osl 2 1 0 (List.length ([]:List Int)),.d (.int .u8 0),.d (.int .u8 0),.d (.int .i64 0),.d (.int .i64 0)]),some (.box (bRule_1 out_4 (.osl 3 1 0 (List.length out_4.Cells)))),some (.arr 1 (List.map eU8 ([]:List Int))),some (.arr 1 (List.map eU8 out_4.Cells))]⟩
def FR2_Rule_L2_E:GRule->Ex->St->Prop:=xX 0 2 (λ (y:GRule)=>f25_s5 y)
def FR2_Rule_L2_S:(GRule×Int)->St:=(λ (x:(GRule×Int))=>f25_s4 p0_ x.1 x.2)
variable {p0_ p1_ out_1 i_6 out_2 out_3 i_7 out_4}
theorem FR2_Rule_L1_ok (x:(GRule×Int)) (z:((GRule×Int)⊕GRule)) (H:FR2_Rule_L1 n p0_ x.1 x.2=some z):WP (cxk 101 0) (bodyOf Try.f25) [1,1,1,0,1,0,0] (roundQ 0 (FR2_Rule_L1_S p0_) (FR2_Rule_L1_E p0_) z) (FR2_Rule_L1_S p0_ x):=by
 obtain ⟨out_1,i_6⟩:=x
 refine sq (sr (ck 3 (sp (at_len eU8 p0_.P) (ck 3 (gc 1 (decide (i_6<((List.length p0_.P:Nat):Int))) (pA (en (cn H (λ H=>?_) (λ H=>?_)))))))))
 ·exact sk (qz (sq (bk 1 (sr (ck 3 (bx H λ x74 h257 H=>sp (at_idxD eU8 h257) (ck 4 (en (rz (ck 6 (bx H λ s5 h258 H=>sp (at_ssub h258) (bx H λ s6 h259 H=>sp (at_cat h259) (ck 2 (ae (qN (qz (rz (ck 3 (ae (by cases H;exact og (sg [2,4,5,7,8])))))))))))))))))))))
 ·exact ex 0 (qx (by cases H;exact xo rfl (sg [2,4,7])))
theorem FR2_Rule_L2_ok (x:(GRule×Int)) (z:((GRule×Int)⊕GRule)) (H:FR2_Rule_L2 n p0_ x.1 x.2=some z):WP (cxk 101 0) (bodyOf Try.f25) [1,1,1,1,1,1,0,1,0,0] (roundQ 0 (FR2_Rule_L2_S p0_) (FR2_Rule_L2_E) z) (FR2_Rule_L2_S p0_ x):=by
 obtain ⟨out_3,i_7⟩:=x
 refine sq (sr (ck 3 (sp (at_len eU8 p0_.C) (ck 3 (gc 1 (decide (i_7<((List.length p0_.C:Nat):Int))) (pA (en (cn H (λ H=>?_) (λ H=>?_)))))))))
 ·exact sk (qz (sq (bk 3 (rz (ck 6 (bx H λ x76 h262 H=>sp (at_idxD eU8 h262) (ck 2 (bx H λ x77 h263 H=>sp (at_idxO 3 1 h263) (sp (at_ldA eU8 3 0 (ty 73) h263) (ck 1 (bx H λ l28 h264 H=>sp (at_appO eU8 5 1 h264) (ck 2 (ae (qN (qz (rz (ck 3 (ae (by cases H;exact og (sg [2,4,7,10,11]))))))))))))))))))))
 ·exact ex 2 (qx (by cases H;exact xo rfl (sg [4,7])))
theorem FR2_Rule_ok {z} (H:FR2_Rule n p0_ p1_=some z):CallOK Try.prog 25 [.agg (bRawRule p0_),.d (.int .i64 p1_)] (.agg [.d (.str z.Print),.own 1 (List.map eU8 z.Cells),.d (.int .u8 z.Left),.d (.int .u8 z.Right),.d (.int .i64 z.From),.d (.int .i64 z.To)]):=by
 exact fO 101 (f25_s1 p0_ p1_) Try.func25 (sr (ck 2 (en (sr (ck 3 (en (sr (ck 4 (bx H λ x72 h253 H=>sp (at_idxO 2 1 h253) (sp (at_ldA eU8 2 0 (ty 5) h253) (ck 4 (bx H λ x73 h254 H=>sp (at_idxO 2 1 h254) (sp (at_ldA eU8 2 0 (ty 5) h254) (ck 5 (bx H λ gd8 h255 H=>so (guard_nz h255) (ck 5 (bx H λ gd9 h256 H=>so (guard_nz h256) (ck 3 (en (sq (sr (ck 1 (en (bk 0 (bx H λ y50 h260 H=>lX FR2_Rule_L1_ok h260 (tr (tr (sh_nilc 1 1 1 (by kernel_rfl)) (sh_nilc 3 1 1 (by kernel_rfl))) (sg [2,4,5,7,8])) rfl λ s hE40=>qH (qs (hE40) (sr (ck 2 (en (sr (ck 5 (bx H λ x75 h261 H=>sp (at_idxO 5 1 h261) (sp (at_ldA eU8 5 0 (ty 73) h261) (ck 3 (en (sq (sr (ck 1 (en (bk 2 (bx H λ y51 h265 H=>lX FR2_Rule_L2_ok h265 (sg [2,4,7,10,11]) rfl λ s hE41=>qH (qs (hE41) (sr (ck 2 (en (re (by cases H;exact pr (rO (v:=.agg [.d (.str z.Print),.osl 3 1 0 (List.length z.Cells),.d (.int .u8 z.Left),.d (.int .u8 z.Right),.d (.int .i64 z.From),.d (.int .i64 z.To)]) [3] (a1 (c1 vd (c1 vo (c1 vd (c1 vd (c1 vd (c1 vd (c0))))))))))))))))))))))))))))))))))))))))))))))))))))))))
end
section
variable (p0_:Int)
def f50_s1:St:=⟨(0,.d (.int .u8 p0_))::[],[]⟩
variable {p0_}
theorem FR2_Character_ok {z} (H:FR2_Character n p0_=some z):CallOK Try.prog 50 [.d (.int .u8 p0_)] (.d (.bool z)):=by
 exact fO 11 (f50_s1 p0_) Try.func50 (sr (ck 1 (en (sr (ck 5 (gc 2 (decide (iand .u8 p0_ 127≥32)) (pA (ck 1 (en (re (by cases H;exact pr rd)))))))))))
end
section
variable (p0_:(List UInt8)) (i_8:Int)
def f23_s1:St:=⟨(0,.d (.str p0_))::[],[]⟩
def f23_s2:St:=⟨(0,.d (.str p0_))::(4,.d (.int .i64 i_8))::[],[]⟩
def f23_s3:St:=⟨(0,.d (.str p0_))::[],[]⟩
def FR2_Text_L1_E:(Unit⊕(Int×Int))->Ex->St->Prop:=xS (xX 0 0 (λ (y:Unit)=>f23_s3 p0_)) (xR ty Try.f23 (λ (y:(Int×Int))=>.tup [.d (.int .i64 y.1),.d (.int .i64 y.2)]))
def FR2_Text_L1_S:Int->St:=(λ (x:Int)=>f23_s2 p0_ x)
variable {p0_ i_8}
theorem FR2_Text_L1_ok (x:Int) (z:(Int⊕(Unit⊕(Int×Int)))) (H:FR2_Text_L1 n p0_ x=some z):WP (cxk 19 0) (bodyOf Try.f23) [1,0,1,0,0] (roundQ 0 (FR2_Text_L1_S p0_) (FR2_Text_L1_E p0_) z) (FR2_Text_L1_S p0_ x):=by
 revert H
 generalize x=i_8
 intro H
 refine sq (sr (ck 4 (en (cn H (λ H=>?_) (λ H=>?_)))))
 ·refine sk (qz (sq (bk 1 (sr (ck 2 (bx H λ b6 h266 H=>sp (at_sidx h266) (bx H λ r109 h267 H=>ca false (FR2_Character_ok h267) (ck 1 (en (cn H (λ H=>?_) (λ H=>?_)))))))))))
  ·exact sr (ck 3 (en (re (qR (qr (by cases H;exact ro rfl rdT))))))
  ·exact sk (qN (qz (rz (ck 3 (ae (by cases H;exact og (sg [0,4])))))))
 ·exact ex 0 (qx (by cases H;exact xo rfl (sg [0])))
theorem FR2_Text_ok {z} (H:FR2_Text n p0_=some z):CallOK Try.prog 23 [.d (.str p0_)] (.tup [.d (.int .i64 z.1),.d (.int .i64 z.2)]):=by
 refine fO 19 (f23_s1 p0_) Try.func23 (sr (ck 2 (en (sq (sr (ck 1 (en (bk 0 (bx H λ y52 h268 H=>?_)))))))))
 rcases y52 with y53|y54
 ·exact lX FR2_Text_L1_ok h268 (sg [0,4]) rfl λ s hE42=>qH (qs (hE42) (sr (ck 4 (en (re (by cases H;exact pr rdT))))))
 ·exact lR FR2_Text_L1_ok h268 (sg [0,4]) rfl λ s hE43=>qR (qr (by cases H;exact pr hE43))
end
section
variable (p0_:(List UInt8))
def f81_s1:St:=⟨(0,.d (.str p0_))::[],[]⟩
variable {p0_}
theorem FR2_IsText_ok {z} (H:FR2_IsText n p0_=some z):CallOK Try.prog 81 [.d (.str p0_)] (.d (.bool z)):=by
 exact fO 12 (f81_s1 p0_) Try.func81 (sr (ck 1 (en (sr (ck 1 (bx H λ r110 h269 H=>ca false (FR2_Text_ok h269) (ck 5 (en (sr (ck 3 (en (re (by cases H;exact pr rd)))))))))))))
end
section
variable (p0_:Int)
def f82_s1:St:=⟨(0,.d (.int .u8 p0_))::[],[]⟩
variable {p0_}
theorem FR2_Space_ok {z} (H:FR2_Space n p0_=some z):CallOK Try.prog 82 [.d (.int .u8 p0_)] (.d (.bool z)):=by
 exact fO 6 (f82_s1 p0_) Try.func82 (sr (ck 1 (en (sr (ck 4 (en (re (by cases H;exact pr rd))))))))
end
section
variable (p0_:GRule) (p1_:Int) (space_1:Bool) (i_9:Int) (space_2:Bool) (y55:Bool) (blank_1:Bool) (i_10:Int) (blank_2:Bool)
def f71_s1:St:=⟨(0,.agg [.d (.str p0_.Print),.d (.sl (List.map eU8 p0_.Cells)),.d (.int .u8 p0_.Left),.d (.int .u8 p0_.Right),.d (.int .i64 p0_.From),.d (.int .i64 p0_.To)])::(1,.d (.int .i64 p1_))::[],[]⟩
def f71_s2:St:=⟨(2,.ptr 0 0)::(5,.d (.bool space_1))::(6,.d (.bool false))::(7,.d (.int .i64 i_9))::[],[some (.box (bRule p0_))]⟩
def f71_s3:St:=⟨(2,.ptr 0 0)::(5,.d (.bool space_2))::(6,.d (.bool false))::[],[some (.box (bRule p0_))]⟩
def FR2_Sound_L1_E:Bool->Ex->St->Prop:=xX 0 0 (λ (y:Bool)=>f71_s3 p0_ y)
def FR2_Sound_L1_S:(Bool×Int)->St:=(λ (x:(Bool×Int))=>f71_s2 p0_ x.1 x.2)
def f71_s4:St:=⟨(2,.ptr 0 0)::(5,.d (.bool y55))::(6,.d (.bool blank_1))::(8,.d (.int .i64 i_10))::[],[some (.box (bRule p0_))]⟩
def f71_s5:St:=⟨(2,.ptr 0 0)::(5,.d (.bool y55))::(6,.d (.bool blank_2))::[],[some (.box (bRule p0_))]⟩
def FR2_Sound_L2_E:(Bool⊕Bool)->Ex->St->Prop:=xS (xX 0 2 (λ (y:Bool)=>f71_s5 p0_ y55 y)) (xR ty Try.f71 (λ (y:Bool)=>.d (.bool y)))
def FR2_Sound_L2_S:(Bool×Int)->St:=(λ (x:(Bool×Int))=>f71_s4 p0_ y55 x.1 x.2)
variable {p0_ p1_ space_1 i_9 space_2 y55 blank_1 i_10 blank_2}
theorem FR2_Sound_L1_ok (x:(Bool×Int)) (z:((Bool×Int)⊕Bool)) (H:FR2_Sound_L1 n p0_ x.1 x.2=some z):WP (cxk 125 0) (bodyOf Try.f71) [1,1,1,1,0,1,0,0] (roundQ 0 (FR2_Sound_L1_S p0_) (FR2_Sound_L1_E p0_) z) (FR2_Sound_L1_S p0_ x):=by
 obtain ⟨space_1,i_9⟩:=x
 refine sq (sr (ck 5 (en (cn H (λ H=>?_) (λ H=>?_)))))
 ·exact sk (qz (sq (bk 1 (rz (ck 3 (gc 1 (!space_1) (ck 1 (bx H λ b7 h271 H=>sE (λ hg=>at_sidx (gimp h271 hg)) (bx H λ r112 h272 H=>cG false (leZ) rfl (λ hg=>FR2_Space_ok (gimp h272 hg)) (Or.inl rfl) (impK (λ hh=>hh) (impZ)) rfl (pO (ck 1 (ae (qN (qz (rz (ck 3 (ae (by cases H;exact og (sg [2,5,6,7])))))))))))))))))))
 ·exact ex 0 (qx (by cases H;exact xo rfl (sg [2,5,6])))
theorem FR2_Sound_L2_ok (x:(Bool×Int)) (z:((Bool×Int)⊕(Bool⊕Bool))) (H:FR2_Sound_L2 n p0_ y55 x.1 x.2=some z):WP (cxk 125 0) (bodyOf Try.f71) [1,1,1,1,1,0,1,0,0] (roundQ 0 (FR2_Sound_L2_S p0_ y55) (FR2_Sound_L2_E p0_ y55) z) (FR2_Sound_L2_S p0_ y55 x):=by
 obtain ⟨blank_1,i_10⟩:=x
 refine sq (sr (ck 3 (sp (at_len eU8 p0_.Cells) (ck 1 (en (cn H (λ H=>?_) (λ H=>?_)))))))
 ·refine sk (qz (sq (bk 3 (sq (sr (ck 3 (bx H λ x78 h274 H=>sp (at_idxD eU8 h274) (ck 2 (en (cn H (λ H=>?_) (λ H=>?_)))))))))))
  ·exact sr (ck 1 (en (re (qr (qR (qr (by cases H;exact ro rfl rd)))))))
  ·exact sk (qz (rz (ck 3 (gc 1 (!blank_1) (ck 1 (bx H λ x79 h275 H=>sE (λ hg=>at_idxD eU8 (gimp h275 hg)) (gc 2 (!blank_1) (pO (ck 1 (ae (qN (qz (rz (ck 3 (ae (by cases H;exact og (sg [2,5,6,8])))))))))))))))))
 ·exact ex 2 (qx (by cases H;exact xo rfl (sg [2,5,6])))
theorem FR2_Sound_ok {z} (H:FR2_Sound n p0_ p1_=some z):CallOK Try.prog 71 [.agg (bRule p0_),.d (.int .i64 p1_)] (.d (.bool z)):=by
 refine fO 125 (f71_s1 p0_ p1_) Try.func71 (sr (ck 2 (en (sq (sr (ck 2 (bx H λ r111 h270 H=>ca false (FR2_IsText_ok h270) (ck 3 (gc 3 (!(!r111)) (pO (ck 2 (gc 1 (!((!r111)||(decide (((List.length p0_.Print:Nat):Int)>4)))) (sE (g:=(!((!r111)||(decide (((List.length p0_.Print:Nat):Int)>4))))) (λ hg=>at_len eU8 p0_.Cells) (gc 1 (!((!r111)||(decide (((List.length p0_.Print:Nat):Int)>4)))) (pO (ck 2 (gc 1 (!(((!r111)||(decide (((List.length p0_.Print:Nat):Int)>4)))||(decide (((List.length p0_.Cells:Nat):Int)<1)))) (sE (g:=(!(((!r111)||(decide (((List.length p0_.Print:Nat):Int)>4)))||(decide (((List.length p0_.Cells:Nat):Int)<1))))) (λ hg=>at_len eU8 p0_.Cells) (gc 1 (!(((!r111)||(decide (((List.length p0_.Print:Nat):Int)>4)))||(decide (((List.length p0_.Cells:Nat):Int)<1)))) (pO (en (cn H (λ H=>?_) (λ H=>?_)))))))))))))))))))))))
 ·exact sr (ck 1 (en (re (qr (by cases H;exact pr rd)))))
 ·refine sk (qz (sq (sr (ck 5 (gc 2 (!(decide (p0_.Left<1))) (pO (ck 2 (gc 2 (!((decide (p0_.Left<1))||(decide (p0_.Left>63)))) (pO (ck 2 (gc 2 (!(((decide (p0_.Left<1))||(decide (p0_.Left>63)))||(decide (p0_.Right<1)))) (pO (ck 2 (gc 2 (!((((decide (p0_.Left<1))||(decide (p0_.Left>63)))||(decide (p0_.Right<1)))||(decide (p0_.Right>63)))) (pO (ck 2 (gc 1 (!(((((decide (p0_.Left<1))||(decide (p0_.Left>63)))||(decide (p0_.Right<1)))||(decide (p0_.Right>63)))||(decide (p0_.From<0)))) (ck 1 (gc 1 (!(((((decide (p0_.Left<1))||(decide (p0_.Left>63)))||(decide (p0_.Right<1)))||(decide (p0_.Right>63)))||(decide (p0_.From<0)))) (pO (ck 2 (gc 2 (!((((((decide (p0_.Left<1))||(decide (p0_.Left>63)))||(decide (p0_.Right<1)))||(decide (p0_.Right>63)))||(decide (p0_.From<0)))||(decide (p0_.From≥p1_)))) (pO (ck 2 (gc 1 (!(((((((decide (p0_.Left<1))||(decide (p0_.Left>63)))||(decide (p0_.Right<1)))||(decide (p0_.Right>63)))||(decide (p0_.From<0)))||(decide (p0_.From≥p1_)))||(decide (p0_.To<0)))) (ck 1 (gc 1 (!(((((((decide (p0_.Left<1))||(decide (p0_.Left>63)))||(decide (p0_.Right<1)))||(decide (p0_.Right>63)))||(decide (p0_.From<0)))||(decide (p0_.From≥p1_)))||(decide (p0_.To<0)))) (pO (en (cn H (λ H=>?_) (λ H=>?_)))))))))))))))))))))))))))))))
  ·exact sr (ck 1 (en (re (qr (by cases H;exact pr rd)))))
  ·refine sk (qz (sr (ck 2 (en (sq (sr (ck 1 (en (bk 0 (bx H λ y55 h273 H=>lX FR2_Sound_L1_ok h273 (sg [2,5,6,7]) rfl λ s hE44=>qH (qs (hE44) (sq (sr (ck 1 (en (bk 2 (bx H λ y56 h276 H=>?_)))))))))))))))))
   rcases y56 with y57|y58
   ·refine lX FR2_Sound_L2_ok h276 (sg [2,5,6,8]) rfl λ s hE45=>qH (qs (hE45) (sq (sr (ck 2 (en (cn H (λ H=>?_) (λ H=>?_)))))))
    ·exact sr (ck 3 (en (re (qr (by cases H;exact pr rd)))))
    ·exact sk (qz (sr (ck 6 (gc 1 (((List.length p0_.Print:Nat):Int)==1) (sE (g:=(((List.length p0_.Print:Nat):Int)==1)) (λ hg=>at_len eU8 p0_.Cells) (gc 1 (((List.length p0_.Print:Nat):Int)==1) (pA (ck 2 (pA (ck 1 (en (re (by cases H;exact pr rd)))))))))))))
   ·exact lR FR2_Sound_L2_ok h276 (sg [2,5,6,8]) rfl λ s hE46=>qR (qr (by cases H;exact pr hE46))
end
section
variable (p0_:GRule) (p1_:GRule)
def f72_s1:St:=⟨(0,.agg [.d (.str p0_.Print),.d (.sl (List.map eU8 p0_.Cells)),.d (.int .u8 p0_.Left),.d (.int .u8 p0_.Right),.d (.int .i64 p0_.From),.d (.int .i64 p0_.To)])::(1,.agg [.d (.str p1_.Print),.d (.sl (List.map eU8 p1_.Cells)),.d (.int .u8 p1_.Left),.d (.int .u8 p1_.Right),.d (.int .i64 p1_.From),.d (.int .i64 p1_.To)])::[],[]⟩
variable {p0_ p1_}
theorem FR2_SameRule_ok {z} (H:FR2_SameRule n p0_ p1_=some z):CallOK Try.prog 72 [.agg (bRule p0_),.agg (bRule p1_)] (.d (.bool z)):=by
 exact fO 45 (f72_s1 p0_ p1_) Try.func72 (sr (ck 3 (en (sr (ck 7 (gc 1 (p0_.Print==p1_.Print) (ck 1 (gc 1 (p0_.Print==p1_.Print) (bx H λ r113 h277 H=>cG false (leZ) rfl (λ hg=>FR2_SameCells_ok (gimp h277 hg)) (Or.inl rfl) (impK (λ hh=>hh) (impK (λ hh=>hh) (impZ))) rfl (pA (ck 2 (gc 1 ((p0_.Print==p1_.Print)&&r113) (ck 1 (gc 2 ((p0_.Print==p1_.Print)&&r113) (pA (ck 2 (gc 1 (((p0_.Print==p1_.Print)&&r113)&&(p0_.Left==p1_.Left)) (ck 1 (gc 2 (((p0_.Print==p1_.Print)&&r113)&&(p0_.Left==p1_.Left)) (pA (ck 2 (gc 1 ((((p0_.Print==p1_.Print)&&r113)&&(p0_.Left==p1_.Left))&&(p0_.Right==p1_.Right)) (ck 1 (gc 2 ((((p0_.Print==p1_.Print)&&r113)&&(p0_.Left==p1_.Left))&&(p0_.Right==p1_.Right)) (pA (ck 2 (gc 1 (((((p0_.Print==p1_.Print)&&r113)&&(p0_.Left==p1_.Left))&&(p0_.Right==p1_.Right))&&(p0_.From==p1_.From)) (ck 1 (gc 2 (((((p0_.Print==p1_.Print)&&r113)&&(p0_.Left==p1_.Left))&&(p0_.Right==p1_.Right))&&(p0_.From==p1_.From)) (pA (ck 1 (en (re (by cases H;exact pr rd))))))))))))))))))))))))))))))))))
end
section
variable (p0_:GTable) (i_11:Int) (k_2:Int)
def f54_s1:St:=⟨(0,.agg [.d (.int .i64 p0_.Modes),.d (.int .u8 p0_.Accept),.d (.sl (List.map eGRule p0_.Rules))])::[],[]⟩
def f54_s2:St:=⟨(1,.ptr 0 0)::(4,.d (.int .i64 i_11))::[],[some (.box (bTable p0_))]⟩
def f54_s3:St:=⟨[],[]⟩
def f54_s4:St:=⟨(1,.ptr 0 0)::(4,.d (.int .i64 i_11))::(5,.d (.int .i64 k_2))::[],[some (.box (bTable p0_))]⟩
def f54_s5:St:=⟨(1,.ptr 0 0)::(4,.d (.int .i64 i_11))::[],[some (.box (bTable p0_))]⟩
def FR2_Check_L2_E:(Unit⊕(Int×Int))->Ex->St->Prop:=xS (xX 0 2 (λ (y:Unit)=>f54_s5 p0_ i_11)) (xR ty Try.f54 (λ (y:(Int×Int))=>.tup [.d (.int .i64 y.1),.d (.int .i64 y.2)]))
def FR2_Check_L2_S:Int->St:=(λ (x:Int)=>f54_s4 p0_ i_11 x)
def FR2_Check_L1_E:(Unit⊕(Int×Int))->Ex->St->Prop:=xS (xX 0 0 (λ (y:Unit)=>f54_s3)) (xR ty Try.f54 (λ (y:(Int×Int))=>.tup [.d (.int .i64 y.1),.d (.int .i64 y.2)]))
def FR2_Check_L1_S:Int->St:=(λ (x:Int)=>f54_s2 p0_ x)
variable {p0_ i_11 k_2}
theorem FR2_Check_L2_ok (x:Int) (z:(Int⊕(Unit⊕(Int×Int)))) (H:FR2_Check_L2 n p0_ i_11 x=some z):WP (cxk 74 0) (bodyOf Try.f54) [1,1,0,1,0,0,1,0,0,1,1,0,0] (roundQ 0 (FR2_Check_L2_S p0_ i_11) (FR2_Check_L2_E p0_ i_11) z) (FR2_Check_L2_S p0_ i_11 x):=by
 revert H
 generalize x=k_2
 intro H
 refine sq (sr (ck 3 (en (cn H (λ H=>?_) (λ H=>?_)))))
 ·refine sk (qz (sq (bk 3 (sr (ck 3 (bx H λ x81 h281 H=>sp (at_idxD eGRule h281) (ck 4 (bx H λ x82 h282 H=>sp (at_idxD eGRule h282) (ck 1 (bx H λ r115 h283 H=>ca false (FR2_SameRule_ok h283) (en (cn H (λ H=>?_) (λ H=>?_)))))))))))))
  ·exact sr (ck 3 (en (re (qR (qr (by cases H;exact ro rfl rdT))))))
  ·exact sk (qN (qz (rz (ck 3 (ae (by cases H;exact og (sg [1,4,5])))))))
 ·exact ex 2 (qx (by cases H;exact xo rfl (sg [1,4])))
theorem FR2_Check_L1_ok (x:Int) (z:(Int⊕(Unit⊕(Int×Int)))) (H:FR2_Check_L1 n p0_ x=some z):WP (cxk 74 0) (bodyOf Try.f54) [1,1,0,1,0,0] (roundQ 0 (FR2_Check_L1_S p0_) (FR2_Check_L1_E) z) (FR2_Check_L1_S p0_ x):=by
 revert H
 generalize x=i_11
 intro H
 refine sq (sr (ck 3 (sp (at_len eGRule p0_.Rules) (ck 1 (en (cn H (λ H=>?_) (λ H=>?_)))))))
 ·refine sk (qz (sq (bk 1 (sq (sr (ck 3 (bx H λ x80 h279 H=>sp (at_idxD eGRule h279) (ck 3 (bx H λ r114 h280 H=>ca false (FR2_Sound_ok h280) (ck 1 (en (cn H (λ H=>?_) (λ H=>?_)))))))))))))
  ·exact sr (ck 3 (en (re (qr (qR (qr (by cases H;exact ro rfl rdT)))))))
  ·refine sk (qz (sr (ck 1 (en (bk 2 (bx H λ y59 h284 H=>?_))))))
   rcases y59 with y60|y61
   ·exact lX FR2_Check_L2_ok h284 (sg [1,4,5]) rfl λ s hE47=>qH (qN (qs (hE47) (rz (ck 3 (ae (by cases H;exact og (sg [1,4])))))))
   ·exact lR FR2_Check_L2_ok h284 (sg [1,4,5]) rfl λ s hE48=>qR (qR (qr (by cases H;exact ro rfl hE48)))
 ·exact ex 0 (qx (by cases H;exact xo rfl (sg [])))
theorem FR2_Check_ok {z} (H:FR2_Check n p0_=some z):CallOK Try.prog 54 [.agg (bTable p0_)] (.tup [.d (.int .i64 z.1),.d (.int .i64 z.2)]):=by
 refine fO 74 (f54_s1 p0_) Try.func54 (sr (ck 3 (en (sq (sr (ck 5 (gc 2 (!(decide (p0_.Modes<1))) (pO (ck 2 (gc 2 (!((decide (p0_.Modes<1))||(decide (p0_.Modes>8)))) (pO (ck 2 (gc 2 (!(((decide (p0_.Modes<1))||(decide (p0_.Modes>8)))||(p0_.Accept==0))) (ck 1 (gc 1 (!(((decide (p0_.Modes<1))||(decide (p0_.Modes>8)))||(p0_.Accept==0))) (bx H λ gd10 h278 H=>soG (λ hg=>guard_ge (gimp h278 hg)) (impK (λ hh=>hh) (impZ)) (gc 1 (!(((decide (p0_.Modes<1))||(decide (p0_.Modes>8)))||(p0_.Accept==0))) (pO (ck 2 (gc 1 (!((((decide (p0_.Modes<1))||(decide (p0_.Modes>8)))||(p0_.Accept==0))||(decide (IntKind.i64.wrap p0_.Accept≥ishl .i64 1 p0_.Modes)))) (sE (g:=(!((((decide (p0_.Modes<1))||(decide (p0_.Modes>8)))||(p0_.Accept==0))||(decide (IntKind.i64.wrap p0_.Accept≥ishl .i64 1 p0_.Modes))))) (λ hg=>at_len eGRule p0_.Rules) (gc 1 (!((((decide (p0_.Modes<1))||(decide (p0_.Modes>8)))||(p0_.Accept==0))||(decide (IntKind.i64.wrap p0_.Accept≥ishl .i64 1 p0_.Modes)))) (pO (ck 2 (gc 1 (!(((((decide (p0_.Modes<1))||(decide (p0_.Modes>8)))||(p0_.Accept==0))||(decide (IntKind.i64.wrap p0_.Accept≥ishl .i64 1 p0_.Modes)))||(decide (((List.length p0_.Rules:Nat):Int)<1)))) (sE (g:=(!(((((decide (p0_.Modes<1))||(decide (p0_.Modes>8)))||(p0_.Accept==0))||(decide (IntKind.i64.wrap p0_.Accept≥ishl .i64 1 p0_.Modes)))||(decide (((List.length p0_.Rules:Nat):Int)<1))))) (λ hg=>at_len eGRule p0_.Rules) (gc 1 (!(((((decide (p0_.Modes<1))||(decide (p0_.Modes>8)))||(p0_.Accept==0))||(decide (IntKind.i64.wrap p0_.Accept≥ishl .i64 1 p0_.Modes)))||(decide (((List.length p0_.Rules:Nat):Int)<1)))) (pO (en (cn H (λ H=>?_) (λ H=>?_)))))))))))))))))))))))))))))))
 ·exact sr (ck 2 (en (re (qr (by cases H;exact pr rdT)))))
 ·refine sk (qz (sq (sr (ck 1 (en (bk 0 (bx H λ y62 h285 H=>?_)))))))
  rcases y62 with y63|y64
  ·exact lX FR2_Check_L1_ok h285 (sg [1,4]) rfl λ s hE49=>qH (qs (hE49) (sr (ck 2 (en (re (by cases H;exact pr rdT))))))
  ·exact lR FR2_Check_L1_ok h285 (sg [1,4]) rfl λ s hE50=>qR (qr (by cases H;exact pr hE50))
end
section
variable (p0_:GTable)
def f26_s1:St:=⟨(0,.agg [.d (.int .i64 p0_.Modes),.d (.int .u8 p0_.Accept),.d (.sl (List.map eGRule p0_.Rules))])::[],[]⟩
variable {p0_}
theorem FR2_Valid_ok {z} (H:FR2_Valid n p0_=some z):CallOK Try.prog 26 [.agg (bTable p0_)] (.d (.bool z)):=by
 exact fO 12 (f26_s1 p0_) Try.func26 (sr (ck 2 (en (sr (ck 1 (bx H λ r116 h286 H=>ca false (FR2_Check_ok h286) (ck 5 (en (sr (ck 3 (en (re (by cases H;exact pr rd)))))))))))))
end
section
variable (p0_:GRaw) (r117:GTable) (t_1:GTable) (i_12:Int) (t_2:GTable) (t_3:GTable) (t_4:GTable) (i_13:Int) (t_5:GTable) (t_6:GTable) (t_7:GTable)
def f10_s1:St:=⟨(0,.agg [.d (.int .u8 p0_.Base),.d (.int .u8 p0_.Drop),.d (.sl (List.map eGRawRule p0_.More))])::[],[]⟩
def f10_s2:St:=⟨(1,.ptr 0 0)::(2,.ptr 1 0)::(3,.ptr 2 0)::(4,.osl 3 6 0 (List.length r117.Rules))::(5,.d (.int .i64 i_12))::[],[some (.box (bRaw p0_)),some (.box [.d (.int .i64 0),.d (.int .u8 0),.osl 4 6 0 (List.length ([]:List GRule))]),some (.box (bTable_2 t_1 (.osl 5 6 0 (List.length t_1.Rules)))),some (.arr 6 (List.map eGRule r117.Rules)),some (.arr 6 (List.map eGRule ([]:List GRule))),some (.arr 6 (List.map eGRule t_1.Rules))]⟩
def f10_s3:St:=⟨(1,.ptr 0 0)::(2,.ptr 1 0)::(3,.ptr 2 0)::(4,.osl 3 6 0 (List.length r117.Rules))::[],[some (.box (bRaw p0_)),some (.box [.d (.int .i64 0),.d (.int .u8 0),.osl 4 6 0 (List.length ([]:List GRule))]),some (.box (bTable_2 t_2 (.osl 5 6 0 (List.length t_2.Rules)))),some (.arr 6 (List.map eGRule r117.Rules)),some (.arr 6 (List.map eGRule ([]:List GRule))),some (.arr 6 (List.map eGRule t_2.Rules))]⟩
def f10_s4:St:=⟨(1,.ptr 0 0)::(2,.ptr 1 0)::(3,.ptr 2 0)::(4,.osl 3 6 0 (List.length r117.Rules))::(5,.d (.int .i64 i_12))::[],[some (.box (bRaw p0_)),some (.box [.d (.int .i64 0),.d (.int .u8 0),.osl 4 6 0 (List.length ([]:List GRule))]),some (.box (bTable_2 t_3 (.osl 5 6 0 (List.length t_3.Rules)))),some (.arr 6 (List.map eGRule r117.Rules)),some (.arr 6 (List.map eGRule ([]:List GRule))),some (.arr 6 (List.map eGRule t_3.Rules))]⟩
def FR2_Made_L1_E:GTable->Ex->St->Prop:=xX 0 0 (λ (y:GTable)=>f10_s3 p0_ r117 y)
def FR2_Made_L1_S:(GTable×Int)->St:=(λ (x:(GTable×Int))=>f10_s2 p0_ r117 x.1 x.2)
def f10_s5:St:=⟨(1,.ptr 0 0)::(2,.ptr 1 0)::(3,.ptr 2 0)::(4,.osl 3 6 0 (List.length r117.Rules))::(6,.d (.int .i64 i_13))::[],[some (.box (bRaw p0_)),some (.box [.d (.int .i64 0),.d (.int .u8 0),.osl 4 6 0 (List.length ([]:List GRule))]),some (.box (bTable_2 t_4 (.osl 5 6 0 (List.length t_4.Rules)))),some (.arr 6 (List.map eGRule r117.Rules)),some (.arr 6 (List.map eGRule ([]:List GRule))),some (.arr 6 (List.map eGRule t_4.Rules))]⟩
def f10_s6:St:=⟨(2,.ptr 0 0)::(3,.ptr 1 0)::(4,.osl 2 6 0 (List.length r117.Rules))::[],[some (.box [.d (.int .i64 0),.d (.int .u8 0),.osl 3 6 0 (List.length ([]:List GRule))]),some (.box (bTable_2 t_5 (.osl 4 6 0 (List.length t_5.Rules)))),some (.arr 6 (List.map eGRule r117.Rules)),some (.arr 6 (List.map eGRule ([]:List GRule))),some (.arr 6 (List.map eGRule t_5.Rules))]⟩
def f10_s7:St:=⟨(1,.ptr 0 0)::(2,.ptr 1 0)::(3,.ptr 2 0)::(4,.osl 3 6 0 (List.length r117.Rules))::(6,.d (.int .i64 i_13))::[],[some (.box (bRaw p0_)),some (.box [.d (.int .i64 0),.d (.int .u8 0),.osl 4 6 0 (List.length ([]:List GRule))]),some (.box (bTable_2 t_6 (.osl 5 6 0 (List.length t_6.Rules)))),some (.arr 6 (List.map eGRule r117.Rules)),some (.arr 6 (List.map eGRule ([]:List GRule))),some (.arr 6 (List.map eGRule t_6.Rules))]⟩
def FR2_Made_L2_E:GTable->Ex->St->Prop:=xX 0 2 (λ (y:GTable)=>f10_s6 r117 y)
def FR2_Made_L2_S:(GTable×Int)->St:=(λ (x:(GTable×Int))=>f10_s5 p0_ r117 x.1 x.2)
def f10_s8:St:=⟨(2,.ptr 0 0)::(3,.ptr 1 0)::[],[some (.box [.d (.int .i64 0),.d (.int .u8 0),.osl 2 6 0 (List.length ([]:List GRule))]),some (.box (bTable_2 t_7 (.osl 3 6 0 (List.length t_7.Rules)))),some (.arr 6 (List.map eGRule ([]:List GRule))),some (.arr 6 (List.map eGRule t_7.Rules))]⟩
variable {p0_ r117 t_1 i_12 t_2 t_3 t_4 i_13 t_5 t_6 t_7}
theorem FR2_Made_L1_ok (x:(GTable×Int)) (z:((GTable×Int)⊕GTable)) (H:FR2_Made_L1 n p0_ r117 x.1 x.2=some z):WP (cxk 77 0) (bodyOf Try.f10) [1,1,1,1,0,1,0,0] (roundQ 0 (FR2_Made_L1_S p0_ r117) (FR2_Made_L1_E p0_ r117) z) (FR2_Made_L1_S p0_ r117 x):=by
 obtain ⟨t_1,i_12⟩:=x
 refine sq (sr (ck 4 (en (cn H (λ H=>?_) (λ H=>?_)))))
 ·refine sk (qz (sj (λ (x:GTable)=>f10_s4 p0_ r117 i_12 x) (λ (x:GTable)=>FR2_Made_J1 n i_12 x) z ?_ (λ hFR2_Made_J1=>?_)))
  ·intro t_3 H
   exact rz (ck 3 (ae (by cases H;exact og (sg [1,2,3,4,5]))))
  refine bk 1 (sr (ck 3 (bx H λ gd11 h288 H=>so (guard_ge h288) (ck 2 (en (cn H (λ H=>?_) (λ H=>?_)))))))
  ·exact rz (ck 4 (bx H λ x83 h289 H=>sp (at_idxO 3 6 h289) (sp (at_ldA eGRule 3 0 (ty 64) h289) (ck 1 (bx H λ l29 h290 H=>sp (at_appO eGRule 5 6 h290) (ck 2 (ae (qN (qs (sg [1,2,3,4,5]) (hFR2_Made_J1 ({ Modes:=t_1.Modes,Accept:=t_1.Accept,Rules:=l29 }:GTable) H))))))))))
  ·exact sk (qN (qs (sg [1,2,3,4,5]) (hFR2_Made_J1 t_1 H)))
 ·exact ex 0 (qx (by cases H;exact xo rfl (sg [1,2,3,4])))
theorem FR2_Made_L2_ok (x:(GTable×Int)) (z:((GTable×Int)⊕GTable)) (H:FR2_Made_L2 n p0_ r117 x.1 x.2=some z):WP (cxk 77 0) (bodyOf Try.f10) [1,1,1,1,1,0,1,0,0] (roundQ 0 (FR2_Made_L2_S p0_ r117) (FR2_Made_L2_E r117) z) (FR2_Made_L2_S p0_ r117 x):=by
 obtain ⟨t_4,i_13⟩:=x
 refine sq (sr (ck 3 (sp (at_len eGRawRule p0_.More) (ck 3 (gc 1 (decide (i_13<((List.length p0_.More:Nat):Int))) (pA (en (cn H (λ H=>?_) (λ H=>?_)))))))))
 ·refine sk (qz (sj (λ (x:GTable)=>f10_s7 p0_ r117 i_13 x) (λ (x:GTable)=>FR2_Made_J2 n i_13 x) z ?_ (λ hFR2_Made_J2=>?_)))
  ·intro t_6 H
   exact rz (ck 3 (ae (by cases H;exact og (sg [1,2,3,4,6]))))
  refine bk 3 (sr (ck 5 (bx H λ x84 h292 H=>sp (at_idxD eGRawRule h292) (ck 3 (bx H λ r118 h293 H=>ca false (FR2_Rule_ok h293) (ck 1 (bx H λ l30 h294 H=>sp (at_appO eGRule 5 6 h294) (ck 2 (en (sr (ck 1 (bx H λ r119 h295 H=>cb (ks:=[7]) (obl:=[(0+List.length l30,List.length (List.map eGRule l30))]) false (leK leM (leZ)) (consE (aggE (consE rfl (consE rfl (consE takeE rfl)))) rfl) (FR2_Valid_ok h295) (Or.inr trivial) rfl (ck 1 (en (cn H (λ H=>?_) (λ H=>?_))))))))))))))))
  ·exact rz (ck 6 (bx H λ l31 h296 H=>sp (at_slO 7 6 h296) (ck 2 (ae (qN (qs (tr (sh_subc (k:=7) (sz:=6) 2 2 (List.map eGRule l31) (List.length l31) (by kernel_rfl) (sub_cut h296) (sub_le (enc:=eGRule) h296) (sub_len h296)) (sg [1,2,3,4,6])) (hFR2_Made_J2 ({ Modes:=t_4.Modes,Accept:=t_4.Accept,Rules:=l31 }:GTable) H)))))))
  ·exact sk (qN (qs (sg [1,2,3,4,6]) (hFR2_Made_J2 ({ Modes:=t_4.Modes,Accept:=t_4.Accept,Rules:=l30 }:GTable) H)))
 ·exact ex 2 (qx (by cases H;exact xo rfl (sg [2,3,4])))
theorem FR2_Made_ok {z} (H:FR2_Made n p0_=some z):CallOK Try.prog 10 [.agg (bRaw p0_)] (.agg [.d (.int .i64 z.Modes),.d (.int .u8 z.Accept),.own 6 (List.map eGRule z.Rules)]):=by
 refine fO 77 (f10_s1 p0_) Try.func10 (sr (ck 2 (en (sr (ck 2 (bx H λ r117 h287 H=>cl [List.length r117.Rules] (FR2_Base_ok h287) (ck 2 (en (sr (ck 3 (en (sr (ck 3 (en (sq (sr (ck 1 (en (bk 0 (bx H λ y65 h291 H=>lX FR2_Made_L1_ok h291 (tr (sh_nilc 1 2 6 (by kernel_rfl)) (sg [1,2,3,4,5])) rfl λ s hE51=>qH (qs (hE51) (sq (sr (ck 1 (en (bk 2 (bx H λ y66 h297 H=>lX FR2_Made_L2_ok h297 (sg [1,2,3,4,6]) rfl λ s hE52=>qH (qs (hE52) (sj (λ (x:GTable)=>f10_s8 x) (λ (x:GTable)=>FR2_Made_J3 n x) z ?_ (λ hFR2_Made_J3=>?_))))))))))))))))))))))))))))))
 ·intro t_7 H
  exact sr (ck 2 (en (re (by cases H;exact pr (rO (v:=.agg [.d (.int .i64 z.Modes),.d (.int .u8 z.Accept),.osl 3 6 0 (List.length z.Rules)]) [3] (a1 (c1 vd (c1 vd (c1 vo (c0))))))))))
 refine sr (ck 4 (en (cn H (λ H=>?_) (λ H=>?_))))
 ·exact rz (ck 3 (ae (qs (sg [2,3]) (hFR2_Made_J3 ({ Modes:=y66.Modes,Accept:=y66.Accept,Rules:=r117.Rules }:GTable) H))))
 ·exact sk (qs (sg [2,3]) (hFR2_Made_J3 y66 H))
end
def f39_s0:St:=⟨[],[]⟩
theorem FR3_Start_ok {z} (H:FR3_Start n=some z):CallOK Try.prog 39 [] (.agg [.d (.int .i64 z.Mode),.d (.int .i64 z.Last),.d (.int .u8 z.Need)]):=by
 exact fO 2 f39_s0 Try.func39 (sr (ck 1 (en (sr (ck 2 (en (re (by cases H;exact pr rd))))))))
section
variable (p0_:Int) (p1_:Int)
def f53_s1:St:=⟨(0,.d (.int .u8 p0_))::(1,.d (.int .i64 p1_))::[],[]⟩
variable {p0_ p1_}
theorem FR3_Bit_ok {z} (H:FR3_Bit n p0_ p1_=some z):CallOK Try.prog 53 [.d (.int .u8 p0_),.d (.int .i64 p1_)] (.d (.bool z)):=by
 exact fO 18 (f53_s1 p0_ p1_) Try.func53 (sr (ck 1 (en (sr (ck 4 (gc 1 (decide (p1_≥0)) (pA (ck 3 (bx H λ gd12 h298 H=>soG (λ hg=>guard_ge (gimp h298 hg)) (impK (λ hh=>hh) (impK (λ hh=>hh) (impZ))) (gc 2 ((decide (p1_≥0))&&(decide (p1_<8))) (pA (ck 1 (en (re (by cases H;exact pr rd)))))))))))))))
end
section
variable (p0_:Int)
def f52_s1:St:=⟨(0,.d (.int .u8 p0_))::[],[]⟩
variable {p0_}
theorem FR2_Class_ok {z} (H:FR2_Class n p0_=some z):CallOK Try.prog 52 [.d (.int .u8 p0_)] (.d (.int .i64 z)):=by
 refine fO 26 (f52_s1 p0_) Try.func52 (sr (ck 1 (en (sr (ck 3 (en (sq (sr (ck 4 (gc 1 (decide (iand .u8 p0_ 127≥97)) (pA (en (cn H (λ H=>?_) (λ H=>?_))))))))))))))
 ·exact sr (ck 1 (en (re (qr (by cases H;exact pr rd)))))
 ·refine sk (qz (sq (sr (ck 4 (gc 1 (decide (iand .u8 p0_ 127≥65)) (pA (en (cn H (λ H=>?_) (λ H=>?_)))))))))
  ·exact sr (ck 1 (en (re (qr (by cases H;exact pr rd)))))
  ·refine sk (qz (sq (sr (ck 4 (gc 1 (decide (iand .u8 p0_ 127≥48)) (pA (en (cn H (λ H=>?_) (λ H=>?_)))))))))
   ·exact sr (ck 1 (en (re (qr (by cases H;exact pr rd)))))
   ·refine sk (qz (sq (sr (ck 2 (en (cn H (λ H=>?_) (λ H=>?_)))))))
    ·exact sr (ck 1 (en (re (qr (by cases H;exact pr rd)))))
    ·exact sk (qz (sr (ck 1 (en (re (by cases H;exact pr rd))))))
end
section
variable (p0_:GTable) (p1_:GState) (p2_:Int)
def f42_s1:St:=⟨(0,.agg [.d (.int .i64 p0_.Modes),.d (.int .u8 p0_.Accept),.d (.sl (List.map eGRule p0_.Rules))])::(1,.agg [.d (.int .i64 p1_.Mode),.d (.int .i64 p1_.Last),.d (.int .u8 p1_.Need)])::(2,.d (.int .i64 p2_))::[],[]⟩
variable {p0_ p1_ p2_}
theorem FR3_Step_ok {z} (H:FR3_Step n p0_ p1_ p2_=some z):CallOK Try.prog 42 [.agg (bTable p0_),.agg (bState p1_),.d (.int .i64 p2_)] (.tup [.agg [.d (.int .i64 z.1.Mode),.d (.int .i64 z.1.Last),.d (.int .u8 z.1.Need)],.d (.bool z.2)]):=by
 refine fO 87 (f42_s1 p0_ p1_ p2_) Try.func42 (sr (ck 4 (en (sq (sr (ck 5 (gc 1 (!(decide (p2_<0))) (sE (g:=(!(decide (p2_<0)))) (λ hg=>at_len eGRule p0_.Rules) (gc 1 (!(decide (p2_<0))) (pO (en (cn H (λ H=>?_) (λ H=>?_)))))))))))))
 ·exact sr (ck 3 (en (re (qr (by cases H;exact pr rdT)))))
 ·refine sk (qz (sr (ck 3 (bx H λ x85 h299 H=>sp (at_idxD eGRule h299) (ck 3 (en (sq (sr (ck 7 (gc 1 (!(x85.From != p1_.Mode)) (ck 1 (gc 1 (!(x85.From != p1_.Mode)) (bx H λ r120 h300 H=>cG false (leZ) rfl (λ hg=>FR3_Bit_ok (gimp h300 hg)) (Or.inl rfl) (impK (λ hh=>hh) (impK (λ hh=>hh) (impZ))) rfl (gc 1 (!(x85.From != p1_.Mode)) (pO (en (cn H (λ H=>?_) (λ H=>?_))))))))))))))))))
  ·exact sr (ck 3 (en (re (qr (by cases H;exact pr rdT)))))
  ·refine sk (qz (sq (sr (ck 6 (gc 1 (((List.length x85.Print:Nat):Int)==0) (ck 1 (gc 3 (((List.length x85.Print:Nat):Int)==0) (pA (en (cn H (λ H=>?_) (λ H=>?_)))))))))))
   ·exact sr (ck 3 (en (re (qr (by cases H;exact pr rdT)))))
   ·refine sk (qz (sq (sr (ck 4 (en (cn H (λ H=>?_) (λ H=>?_)))))))
    ·exact sr (ck 12 (en (re (qr (by cases H;exact pr rdT)))))
    ·refine sk (qz (sq (sr (ck 4 (bx H λ b8 h301 H=>sp (at_sidx h301) (bx H λ r121 h302 H=>ca false (FR2_Class_ok h302) (bx H λ r122 h303 H=>ca false (FR3_Bit_ok h303) (ck 1 (en (cn H (λ H=>?_) (λ H=>?_)))))))))))
     ·exact sr (ck 3 (en (re (qr (by cases H;exact pr rdT)))))
     ·exact sk (qz (sr (ck 8 (bx H λ b9 h304 H=>sp (at_sidx h304) (bx H λ r123 h305 H=>ca false (FR2_Class_ok h305) (ck 5 (en (re (by cases H;exact pr rdT)))))))))
end
section
variable (p0_:(List GState)) (p1_:GState) (i_14:Int)
def f40_s1:St:=⟨(0,.d (.sl (List.map eGState p0_)))::(1,.agg [.d (.int .i64 p1_.Mode),.d (.int .i64 p1_.Last),.d (.int .u8 p1_.Need)])::[],[]⟩
def f40_s2:St:=⟨(0,.d (.sl (List.map eGState p0_)))::(3,.ptr 0 0)::(5,.d (.int .i64 i_14))::[],[some (.box (bState p1_))]⟩
def f40_s3:St:=⟨[],[]⟩
def FR3_Index_L1_E:(Unit⊕Int)->Ex->St->Prop:=xS (xX 0 0 (λ (y:Unit)=>f40_s3)) (xR ty Try.f40 (λ (y:Int)=>.d (.int .i64 y)))
def FR3_Index_L1_S:Int->St:=(λ (x:Int)=>f40_s2 p0_ p1_ x)
variable {p0_ p1_ i_14}
theorem FR3_Index_L1_ok (x:Int) (z:(Int⊕(Unit⊕Int))) (H:FR3_Index_L1 n p0_ p1_ x=some z):WP (cxk 19 0) (bodyOf Try.f40) [1,0,1,0,0] (roundQ 0 (FR3_Index_L1_S p0_ p1_) (FR3_Index_L1_E) z) (FR3_Index_L1_S p0_ p1_ x):=by
 revert H
 generalize x=i_14
 intro H
 refine sq (sr (ck 2 (sp (at_len eGState p0_) (ck 1 (en (cn H (λ H=>?_) (λ H=>?_)))))))
 ·refine sk (qz (sq (bk 1 (sr (ck 2 (bx H λ x86 h306 H=>sp (at_idxD eGState h306) (ck 3 (en (cn H (λ H=>?_) (λ H=>?_))))))))))
  ·exact sr (ck 2 (en (re (qR (qr (by cases H;exact ro rfl rd))))))
  ·exact sk (qN (qz (rz (ck 3 (ae (by cases H;exact og (sg [0,3,5])))))))
 ·exact ex 0 (qx (by cases H;exact xo rfl (sg [])))
theorem FR3_Index_ok {z} (H:FR3_Index n p0_ p1_=some z):CallOK Try.prog 40 [.d (.sl (List.map eGState p0_)),.agg (bState p1_)] (.d (.int .i64 z)):=by
 refine fO 19 (f40_s1 p0_ p1_) Try.func40 (sr (ck 2 (en (sq (sr (ck 1 (en (bk 0 (bx H λ y67 h307 H=>?_)))))))))
 rcases y67 with y68|y69
 ·exact lX FR3_Index_L1_ok h307 (sg [0,3,5]) rfl λ s hE53=>qH (qs (hE53) (sr (ck 1 (en (re (by cases H;exact pr rd))))))
 ·exact lR FR3_Index_L1_ok h307 (sg [0,3,5]) rfl λ s hE54=>qR (qr (by cases H;exact pr hE54))
end
section
variable (p0_:GTable) (out_5:(List GState)) (i_15:Int) (out_6:(List GState)) (out_7:(List GState)) (k_3:Int) (out_8:(List GState)) (out_9:(List GState))
def f38_s1:St:=⟨(0,.agg [.d (.int .i64 p0_.Modes),.d (.int .u8 p0_.Accept),.d (.sl (List.map eGRule p0_.Rules))])::[],[]⟩
def f38_s2:St:=⟨(1,.ptr 0 0)::(3,.osl 1 3 0 (List.length out_5))::(4,.d (.int .i64 i_15))::[],[some (.box (bTable p0_)),some (.arr 3 (List.map eGState out_5))]⟩
def f38_s3:St:=⟨(3,.osl 0 3 0 (List.length out_6))::[],[some (.arr 3 (List.map eGState out_6))]⟩
def f38_s4:St:=⟨(1,.ptr 0 0)::(3,.osl 1 3 0 (List.length out_7))::(4,.d (.int .i64 i_15))::(5,.d (.int .i64 k_3))::[],[some (.box (bTable p0_)),some (.arr 3 (List.map eGState out_7))]⟩
def f38_s5:St:=⟨(1,.ptr 0 0)::(3,.osl 1 3 0 (List.length out_8))::(4,.d (.int .i64 i_15))::[],[some (.box (bTable p0_)),some (.arr 3 (List.map eGState out_8))]⟩
def f38_s6:St:=⟨(1,.ptr 0 0)::(3,.osl 1 3 0 (List.length out_9))::(4,.d (.int .i64 i_15))::(5,.d (.int .i64 k_3))::[],[some (.box (bTable p0_)),some (.arr 3 (List.map eGState out_9))]⟩
def FR3_States_L2_E:(List GState)->Ex->St->Prop:=xX 0 2 (λ (y:(List GState))=>f38_s5 p0_ i_15 y)
def FR3_States_L2_S:((List GState)×Int)->St:=(λ (x:((List GState)×Int))=>f38_s4 p0_ i_15 x.1 x.2)
def FR3_States_L1_E:(List GState)->Ex->St->Prop:=xX 0 0 (λ (y:(List GState))=>f38_s3 y)
def FR3_States_L1_S:((List GState)×Int)->St:=(λ (x:((List GState)×Int))=>f38_s2 p0_ x.1 x.2)
variable {p0_ out_5 i_15 out_6 out_7 k_3 out_8 out_9}
theorem FR3_States_L2_ok (x:((List GState)×Int)) (z:(((List GState)×Int)⊕(List GState))) (H:FR3_States_L2 n p0_ i_15 x.1 x.2=some z):WP (cxk 45 0) (bodyOf Try.f38) [1,1,0,1,0,0,1,0,0,1,0,0] (roundQ 0 (FR3_States_L2_S p0_ i_15) (FR3_States_L2_E p0_ i_15) z) (FR3_States_L2_S p0_ i_15 x):=by
 obtain ⟨out_7,k_3⟩:=x
 refine sq (sr (ck 3 (sp (at_len eGRule p0_.Rules) (ck 1 (en (cn H (λ H=>?_) (λ H=>?_)))))))
 ·refine sk (qz (sj (λ (x:(List GState))=>f38_s6 p0_ i_15 k_3 x) (λ (x:(List GState))=>FR3_States_J1 n k_3 x) z ?_ (λ hFR3_States_J1=>?_)))
  ·intro out_9 H
   exact rz (ck 3 (ae (by cases H;exact og (sg [1,3,4,5]))))
  refine bk 3 (sr (ck 3 (bx H λ x87 h309 H=>sp (at_idxO 1 3 h309) (sp (at_ldA eGState 1 0 (ty 51) h309) (ck 1 (bx H λ r125 h310 H=>ca false (FR3_Step_ok h310) (ck 6 (en (sr (ck 4 (bx H λ r126 h311 H=>cG (ks:=[1]) (obl:=[(0+List.length out_7,List.length (List.map eGState out_7))]) false (leK leM (leZ)) (consE takeE (consE rfl rfl)) (λ hg=>FR3_Index_ok (gimp h311 hg)) (Or.inr trivial) (impK (λ hh=>hh) (impK (λ hh=>hh) (impZ))) rfl (gc 1 r125.2 (pA (en (cn H (λ H=>?_) (λ H=>?_))))))))))))))))
  ·exact rz (ck 3 (bx H λ l32 h312 H=>sp (at_appO eGState 1 3 h312) (ck 1 (ae (qN (qs (sg [1,3,4,5]) (hFR3_States_J1 l32 H)))))))
  ·exact sk (qN (qs (sg [1,3,4,5]) (hFR3_States_J1 out_7 H)))
 ·exact ex 2 (qx (by cases H;exact xo rfl (sg [1,3,4])))
theorem FR3_States_L1_ok (x:((List GState)×Int)) (z:(((List GState)×Int)⊕(List GState))) (H:FR3_States_L1 n p0_ x.1 x.2=some z):WP (cxk 45 0) (bodyOf Try.f38) [1,1,0,1,0,0] (roundQ 0 (FR3_States_L1_S p0_) (FR3_States_L1_E) z) (FR3_States_L1_S p0_ x):=by
 obtain ⟨out_5,i_15⟩:=x
 refine sq (sr (ck 4 (en (cn H (λ H=>?_) (λ H=>?_)))))
 ·exact sk (qz (sq (bk 1 (sr (ck 1 (en (bk 2 (bx H λ y70 h313 H=>lX FR3_States_L2_ok h313 (sg [1,3,4,5]) rfl λ s hE55=>qH (qN (qs (hE55) (rz (ck 3 (ae (by cases H;exact og (sg [1,3,4])))))))))))))))
 ·exact ex 0 (qx (by cases H;exact xo rfl (sg [3])))
theorem FR3_States_ok {z} (H:FR3_States n p0_=some z):CallOK Try.prog 38 [.agg (bTable p0_)] (.own 3 (List.map eGState z)):=by
 exact fO 45 (f38_s1 p0_) Try.func38 (sr (ck 2 (en (sr (bx H λ r124 h308 H=>ca false (FR3_Start_ok h308) (ck 2 (en (sq (sr (ck 1 (en (bk 0 (bx H λ y71 h314 H=>lX FR3_States_L1_ok h314 (sg [1,3,4]) rfl λ s hE56=>qH (qs (hE56) (sr (ck 2 (en (re (by cases H;exact pr (rO (v:=.osl 0 3 0 (List.length z)) [0] (ao vo)))))))))))))))))))))
end
section
variable (p0_:GTable) (p1_:GState)
def f47_s1:St:=⟨(0,.agg [.d (.int .i64 p0_.Modes),.d (.int .u8 p0_.Accept),.d (.sl (List.map eGRule p0_.Rules))])::(1,.agg [.d (.int .i64 p1_.Mode),.d (.int .i64 p1_.Last),.d (.int .u8 p1_.Need)])::[],[]⟩
variable {p0_ p1_}
theorem FR3_Accepts_ok {z} (H:FR3_Accepts n p0_ p1_=some z):CallOK Try.prog 47 [.agg (bTable p0_),.agg (bState p1_)] (.d (.bool z)):=by
 exact fO 27 (f47_s1 p0_ p1_) Try.func47 (sr (ck 3 (en (sr (ck 5 (gc 1 (decide (p1_.Mode≥0)) (ck 1 (gc 2 (decide (p1_.Mode≥0)) (pA (ck 2 (gc 1 ((decide (p1_.Mode≥0))&&(decide (p1_.Mode<p0_.Modes))) (ck 1 (gc 1 ((decide (p1_.Mode≥0))&&(decide (p1_.Mode<p0_.Modes))) (bx H λ r127 h315 H=>cG false (leZ) rfl (λ hg=>FR3_Bit_ok (gimp h315 hg)) (Or.inl rfl) (impK (λ hh=>hh) (impK (λ hh=>hh) (impZ))) rfl (pA (ck 2 (gc 1 (((decide (p1_.Mode≥0))&&(decide (p1_.Mode<p0_.Modes)))&&r127) (bx H λ r128 h316 H=>cG false (leZ) rfl (λ hg=>FR3_Bit_ok (gimp h316 hg)) (Or.inl rfl) (impK (λ hh=>hh) (impZ)) rfl (pA (ck 1 (en (re (by cases H;exact pr rd)))))))))))))))))))))))
end
section
variable (p0_:GTable) (r129:(List GState)) (out_10:(List Bool)) (i_16:Int) (out_11:(List Bool)) (out_12:(List Bool)) (grown_1:Bool) (out_13:(List Bool)) (out_14:(List Bool)) (grown_2:Bool) (i_17:Int) (out_15:(List Bool)) (grown_3:Bool) (out_16:(List Bool)) (grown_4:Bool) (k_4:Int) (out_17:(List Bool)) (grown_5:Bool) (out_18:(List Bool)) (grown_6:Bool)
def f45_s1:St:=⟨(0,.agg [.d (.int .i64 p0_.Modes),.d (.int .u8 p0_.Accept),.d (.sl (List.map eGRule p0_.Rules))])::[],[]⟩
def f45_s2:St:=⟨(1,.ptr 0 0)::(3,.d (.sl (List.map eGState r129)))::(4,.osl 1 1 0 (List.length out_10))::(5,.d (.int .i64 i_16))::[],[some (.box (bTable p0_)),some (.arr 1 (List.map eB out_10))]⟩
def f45_s3:St:=⟨(1,.ptr 0 0)::(3,.d (.sl (List.map eGState r129)))::(4,.osl 1 1 0 (List.length out_11))::[],[some (.box (bTable p0_)),some (.arr 1 (List.map eB out_11))]⟩
def FR3_Alive_L1_E:(List Bool)->Ex->St->Prop:=xX 0 0 (λ (y:(List Bool))=>f45_s3 p0_ r129 y)
def FR3_Alive_L1_S:((List Bool)×Int)->St:=(λ (x:((List Bool)×Int))=>f45_s2 p0_ r129 x.1 x.2)
def f45_s4:St:=⟨(1,.ptr 0 0)::(3,.d (.sl (List.map eGState r129)))::(4,.osl 1 1 0 (List.length out_12))::(6,.d (.bool grown_1))::[],[some (.box (bTable p0_)),some (.arr 1 (List.map eB out_12))]⟩
def f45_s5:St:=⟨(4,.osl 0 1 0 (List.length out_13))::[],[some (.arr 1 (List.map eB out_13))]⟩
def f45_s6:St:=⟨(1,.ptr 0 0)::(3,.d (.sl (List.map eGState r129)))::(4,.osl 1 1 0 (List.length out_14))::(6,.d (.bool grown_2))::(7,.d (.int .i64 i_17))::[],[some (.box (bTable p0_)),some (.arr 1 (List.map eB out_14))]⟩
def f45_s7:St:=⟨(1,.ptr 0 0)::(3,.d (.sl (List.map eGState r129)))::(4,.osl 1 1 0 (List.length out_15))::(6,.d (.bool grown_3))::[],[some (.box (bTable p0_)),some (.arr 1 (List.map eB out_15))]⟩
def f45_s8:St:=⟨(1,.ptr 0 0)::(3,.d (.sl (List.map eGState r129)))::(4,.osl 1 1 0 (List.length out_16))::(6,.d (.bool grown_4))::(7,.d (.int .i64 i_17))::(8,.d (.int .i64 k_4))::[],[some (.box (bTable p0_)),some (.arr 1 (List.map eB out_16))]⟩
def f45_s9:St:=⟨(1,.ptr 0 0)::(3,.d (.sl (List.map eGState r129)))::(4,.osl 1 1 0 (List.length out_17))::(6,.d (.bool grown_5))::(7,.d (.int .i64 i_17))::[],[some (.box (bTable p0_)),some (.arr 1 (List.map eB out_17))]⟩
def f45_s10:St:=⟨(1,.ptr 0 0)::(3,.d (.sl (List.map eGState r129)))::(4,.osl 1 1 0 (List.length out_18))::(6,.d (.bool grown_6))::(7,.d (.int .i64 i_17))::(8,.d (.int .i64 k_4))::[],[some (.box (bTable p0_)),some (.arr 1 (List.map eB out_18))]⟩
def FR3_Alive_L4_E:((List Bool)×Bool)->Ex->St->Prop:=xX 0 6 (λ (y:((List Bool)×Bool))=>f45_s9 p0_ r129 i_17 y.1 y.2)
def FR3_Alive_L4_S:((List Bool)×Bool×Int)->St:=(λ (x:((List Bool)×Bool×Int))=>f45_s8 p0_ r129 i_17 x.1 x.2.1 x.2.2)
def FR3_Alive_L3_E:((List Bool)×Bool)->Ex->St->Prop:=xX 0 4 (λ (y:((List Bool)×Bool))=>f45_s7 p0_ r129 y.1 y.2)
def FR3_Alive_L3_S:((List Bool)×Bool×Int)->St:=(λ (x:((List Bool)×Bool×Int))=>f45_s6 p0_ r129 x.1 x.2.1 x.2.2)
def FR3_Alive_L2_E:(List Bool)->Ex->St->Prop:=xX 0 2 (λ (y:(List Bool))=>f45_s5 y)
def FR3_Alive_L2_S:((List Bool)×Bool)->St:=(λ (x:((List Bool)×Bool))=>f45_s4 p0_ r129 x.1 x.2)
variable {p0_ r129 out_10 i_16 out_11 out_12 grown_1 out_13 out_14 grown_2 i_17 out_15 grown_3 out_16 grown_4 k_4 out_17 grown_5 out_18 grown_6}
theorem FR3_Alive_L1_ok (x:((List Bool)×Int)) (z:(((List Bool)×Int)⊕(List Bool))) (H:FR3_Alive_L1 n p0_ r129 x.1 x.2=some z):WP (cxk 73 0) (bodyOf Try.f45) [1,1,0,1,0,0] (roundQ 0 (FR3_Alive_L1_S p0_ r129) (FR3_Alive_L1_E p0_ r129) z) (FR3_Alive_L1_S p0_ r129 x):=by
 obtain ⟨out_10,i_16⟩:=x
 refine sq (sr (ck 2 (sp (at_len eGState r129) (ck 1 (en (cn H (λ H=>?_) (λ H=>?_)))))))
 ·exact sk (qz (sq (bk 1 (rz (ck 4 (bx H λ x88 h318 H=>sp (at_idxD eGState h318) (ck 1 (bx H λ r130 h319 H=>ca false (FR3_Accepts_ok h319) (ck 1 (bx H λ l33 h320 H=>sp (at_appO eB 1 1 h320) (ck 1 (ae (qN (qz (rz (ck 3 (ae (by cases H;exact og (sg [1,3,4,5])))))))))))))))))))
 ·exact ex 0 (qx (by cases H;exact xo rfl (sg [1,3,4])))
theorem FR3_Alive_L4_ok (x:((List Bool)×Bool×Int)) (z:(((List Bool)×Bool×Int)⊕((List Bool)×Bool))) (H:FR3_Alive_L4 n p0_ r129 i_17 x.1 x.2.1 x.2.2=some z):WP (cxk 73 0) (bodyOf Try.f45) [1,1,1,0,1,0,0,1,0,1,1,0,0,1,0,0,1,0,0] (roundQ 0 (FR3_Alive_L4_S p0_ r129 i_17) (FR3_Alive_L4_E p0_ r129 i_17) z) (FR3_Alive_L4_S p0_ r129 i_17 x):=by
 obtain ⟨out_16,grown_4,k_4⟩:=x
 refine sq (sr (ck 3 (sp (at_len eGRule p0_.Rules) (ck 4 (bx H λ x89 h322 H=>sE (λ hg=>at_idxO 1 1 (gimp h322 hg)) (sE (g:=decide (k_4<((List.length p0_.Rules:Nat):Int))) (λ hg=>at_ldA eB 1 0 (ty 4) (gimp h322 hg)) (gc 1 (decide (k_4<((List.length p0_.Rules:Nat):Int))) (pA (en (cn H (λ H=>?_) (λ H=>?_)))))))))))
 ·refine sk (qz (sj (λ (x:((List Bool)×Bool))=>f45_s10 p0_ r129 i_17 k_4 x.1 x.2) (λ (x:((List Bool)×Bool))=>FR3_Alive_J1 n k_4 x.1 x.2) z ?_ (λ hFR3_Alive_J1=>?_)))
  ·rintro ⟨out_18,grown_6⟩ H
   exact rz (ck 3 (ae (by cases H;exact og (sg [1,3,4,6,7,8]))))
  refine bk 7 (sr (ck 3 (bx H λ x90 h323 H=>sp (at_idxD eGState h323) (ck 2 (bx H λ r131 h324 H=>ca false (FR3_Step_ok h324) (ck 6 (en (sr (ck 5 (bx H λ r132 h325 H=>cG false (leZ) rfl (λ hg=>FR3_Index_ok (gimp h325 hg)) (Or.inl rfl) (impK (λ hh=>hh) (impK (λ hh=>hh) (impZ))) rfl (bx H λ x91 h326 H=>sE (λ hg=>at_idxO 1 1 (gimp h326 hg)) (sE (g:=r131.2) (λ hg=>at_ldA eB 1 0 (ty 4) (gimp h326 hg)) (pA (en (cn H (λ H=>?_) (λ H=>?_))))))))))))))))
  ·exact sr (ck 2 (bx H λ x92 h327 H=>sp (at_idxO 1 1 h327) (bx H λ l34 h328 H=>stA eB 1 0 (ty 4) h327 h328 (en (rg (tr (sn 4 1 1 (put_len h328)) (sn 69 1 1 (put_len h328))) (ck 1 (ae (qN (qs (sg [1,3,4,6,7,8]) (hFR3_Alive_J1 (l34,true) H))))))))))
  ·exact sk (qN (qs (sg [1,3,4,6,7,8]) (hFR3_Alive_J1 (out_16,grown_4) H)))
 ·exact ex 6 (qx (by cases H;exact xo rfl (sg [1,3,4,6,7])))
theorem FR3_Alive_L3_ok (x:((List Bool)×Bool×Int)) (z:(((List Bool)×Bool×Int)⊕((List Bool)×Bool))) (H:FR3_Alive_L3 n p0_ r129 x.1 x.2.1 x.2.2=some z):WP (cxk 73 0) (bodyOf Try.f45) [1,1,1,0,1,0,0,1,0,1,1,0,0] (roundQ 0 (FR3_Alive_L3_S p0_ r129) (FR3_Alive_L3_E p0_ r129) z) (FR3_Alive_L3_S p0_ r129 x):=by
 obtain ⟨out_14,grown_2,i_17⟩:=x
 refine sq (sr (ck 2 (sp (at_len eGState r129) (ck 1 (en (cn H (λ H=>?_) (λ H=>?_)))))))
 ·exact sk (qz (sq (bk 5 (sr (ck 1 (en (bk 6 (bx H λ y73 h329 H=>lX FR3_Alive_L4_ok h329 (sg [1,3,4,6,7,8]) rfl λ s hE58=>qH (qN (qs (hE58) (rz (ck 3 (ae (by cases H;exact og (sg [1,3,4,6,7])))))))))))))))
 ·exact ex 4 (qx (by cases H;exact xo rfl (sg [1,3,4,6])))
theorem FR3_Alive_L2_ok (x:((List Bool)×Bool)) (z:(((List Bool)×Bool)⊕(List Bool))) (H:FR3_Alive_L2 n p0_ r129 x.1 x.2=some z):WP (cxk 73 0) (bodyOf Try.f45) [1,1,1,0,1,0,0] (roundQ 0 (FR3_Alive_L2_S p0_ r129) (FR3_Alive_L2_E) z) (FR3_Alive_L2_S p0_ r129 x):=by
 obtain ⟨out_12,grown_1⟩:=x
 refine sq (sr (ck 1 (en (cn H (λ H=>?_) (λ H=>?_)))))
 ·exact sk (qz (bk 3 (sr (ck 1 (en (sr (ck 1 (en (bk 4 (bx H λ y74 h330 H=>lX FR3_Alive_L3_ok h330 (sg [1,3,4,6,7]) rfl λ s hE59=>qH (qN (by cases H;exact og (tr (hE59) (sg [1,3,4,6]))))))))))))))
 ·exact ex 2 (qx (by cases H;exact xo rfl (sg [4])))
theorem FR3_Alive_ok {z} (H:FR3_Alive n p0_=some z):CallOK Try.prog 45 [.agg (bTable p0_)] (.own 1 (List.map eB z)):=by
 exact fO 73 (f45_s1 p0_) Try.func45 (sr (ck 2 (en (sr (ck 1 (bx H λ r129 h317 H=>ca false (FR3_States_ok h317) (ck 3 (en (sq (sr (ck 1 (en (bk 0 (bx H λ y72 h321 H=>lX FR3_Alive_L1_ok h321 (sg [1,3,4,5]) rfl λ s hE57=>qH (qs (hE57) (sq (sr (ck 1 (en (bk 2 (bx H λ y75 h331 H=>lX FR3_Alive_L2_ok h331 (sg [1,3,4,6]) rfl λ s hE60=>qH (qs (hE60) (sr (ck 2 (en (re (by cases H;exact pr (rO (v:=.osl 0 1 0 (List.length z)) [0] (ao vo)))))))))))))))))))))))))))))
end
section
variable (p0_:GTable) (r133:(List GState)) (out_19:(List Int)) (near_1:(List Bool)) (i_18:Int) (out_20:(List Int)) (near_2:(List Bool)) (out_21:(List Int)) (near_3:(List Bool)) (grown_7:Bool) (out_22:(List Int)) (out_23:(List Int)) (ring_1:(List Bool)) (grown_8:Bool) (i_19:Int) (out_24:(List Int)) (ring_2:(List Bool)) (grown_9:Bool) (out_25:(List Int)) (ring_3:(List Bool)) (grown_10:Bool) (k_5:Int) (out_26:(List Int)) (ring_4:(List Bool)) (grown_11:Bool) (out_27:(List Int)) (ring_5:(List Bool)) (grown_12:Bool)
def f46_s1:St:=⟨(0,.agg [.d (.int .i64 p0_.Modes),.d (.int .u8 p0_.Accept),.d (.sl (List.map eGRule p0_.Rules))])::[],[]⟩
def f46_s2:St:=⟨(1,.ptr 0 0)::(3,.d (.sl (List.map eGState r133)))::(4,.osl 1 1 0 (List.length out_19))::(5,.osl 2 1 0 (List.length near_1))::(6,.d (.int .i64 i_18))::[],[some (.box (bTable p0_)),some (.arr 1 (List.map eI64 out_19)),some (.arr 1 (List.map eB near_1))]⟩
def f46_s3:St:=⟨(1,.ptr 0 0)::(3,.d (.sl (List.map eGState r133)))::(4,.osl 1 1 0 (List.length out_20))::(5,.osl 2 1 0 (List.length near_2))::[],[some (.box (bTable p0_)),some (.arr 1 (List.map eI64 out_20)),some (.arr 1 (List.map eB near_2))]⟩
def FR3_home_L1_E:((List Int)×(List Bool))->Ex->St->Prop:=xX 0 0 (λ (y:((List Int)×(List Bool)))=>f46_s3 p0_ r133 y.1 y.2)
def FR3_home_L1_S:((List Int)×(List Bool)×Int)->St:=(λ (x:((List Int)×(List Bool)×Int))=>f46_s2 p0_ r133 x.1 x.2.1 x.2.2)
def f46_s4:St:=⟨(1,.ptr 0 0)::(3,.d (.sl (List.map eGState r133)))::(4,.osl 1 1 0 (List.length out_21))::(5,.osl 2 1 0 (List.length near_3))::(7,.d (.bool grown_7))::[],[some (.box (bTable p0_)),some (.arr 1 (List.map eI64 out_21)),some (.arr 1 (List.map eB near_3))]⟩
def f46_s5:St:=⟨(4,.osl 0 1 0 (List.length out_22))::[],[some (.arr 1 (List.map eI64 out_22))]⟩
def f46_s6:St:=⟨(1,.ptr 0 0)::(3,.d (.sl (List.map eGState r133)))::(4,.osl 1 1 0 (List.length out_23))::(5,.osl 2 1 0 (List.length near_3))::(7,.d (.bool grown_8))::(8,.osl 3 1 0 (List.length ring_1))::(9,.d (.int .i64 i_19))::[],[some (.box (bTable p0_)),some (.arr 1 (List.map eI64 out_23)),some (.arr 1 (List.map eB near_3)),some (.arr 1 (List.map eB ring_1))]⟩
def f46_s7:St:=⟨(1,.ptr 0 0)::(3,.d (.sl (List.map eGState r133)))::(4,.osl 1 1 0 (List.length out_24))::(7,.d (.bool grown_9))::(8,.osl 2 1 0 (List.length ring_2))::[],[some (.box (bTable p0_)),some (.arr 1 (List.map eI64 out_24)),some (.arr 1 (List.map eB ring_2))]⟩
def f46_s8:St:=⟨(1,.ptr 0 0)::(3,.d (.sl (List.map eGState r133)))::(4,.osl 1 1 0 (List.length out_25))::(5,.osl 2 1 0 (List.length near_3))::(7,.d (.bool grown_10))::(8,.osl 3 1 0 (List.length ring_3))::(9,.d (.int .i64 i_19))::(10,.d (.int .i64 k_5))::[],[some (.box (bTable p0_)),some (.arr 1 (List.map eI64 out_25)),some (.arr 1 (List.map eB near_3)),some (.arr 1 (List.map eB ring_3))]⟩
def f46_s9:St:=⟨(1,.ptr 0 0)::(3,.d (.sl (List.map eGState r133)))::(4,.osl 1 1 0 (List.length out_26))::(5,.osl 2 1 0 (List.length near_3))::(7,.d (.bool grown_11))::(8,.osl 3 1 0 (List.length ring_4))::(9,.d (.int .i64 i_19))::[],[some (.box (bTable p0_)),some (.arr 1 (List.map eI64 out_26)),some (.arr 1 (List.map eB near_3)),some (.arr 1 (List.map eB ring_4))]⟩
def f46_s10:St:=⟨(1,.ptr 0 0)::(3,.d (.sl (List.map eGState r133)))::(4,.osl 1 1 0 (List.length out_27))::(5,.osl 2 1 0 (List.length near_3))::(7,.d (.bool grown_12))::(8,.osl 3 1 0 (List.length ring_5))::(9,.d (.int .i64 i_19))::(10,.d (.int .i64 k_5))::[],[some (.box (bTable p0_)),some (.arr 1 (List.map eI64 out_27)),some (.arr 1 (List.map eB near_3)),some (.arr 1 (List.map eB ring_5))]⟩
def FR3_home_L4_E:((List Int)×(List Bool)×Bool)->Ex->St->Prop:=xX 0 6 (λ (y:((List Int)×(List Bool)×Bool))=>f46_s9 p0_ r133 near_3 i_19 y.1 y.2.1 y.2.2)
def FR3_home_L4_S:((List Int)×(List Bool)×Bool×Int)->St:=(λ (x:((List Int)×(List Bool)×Bool×Int))=>f46_s8 p0_ r133 near_3 i_19 x.1 x.2.1 x.2.2.1 x.2.2.2)
def FR3_home_L3_E:((List Int)×(List Bool)×Bool)->Ex->St->Prop:=xX 0 4 (λ (y:((List Int)×(List Bool)×Bool))=>f46_s7 p0_ r133 y.1 y.2.1 y.2.2)
def FR3_home_L3_S:((List Int)×(List Bool)×Bool×Int)->St:=(λ (x:((List Int)×(List Bool)×Bool×Int))=>f46_s6 p0_ r133 near_3 x.1 x.2.1 x.2.2.1 x.2.2.2)
def FR3_home_L2_E:(List Int)->Ex->St->Prop:=xX 0 2 (λ (y:(List Int))=>f46_s5 y)
def FR3_home_L2_S:((List Int)×(List Bool)×Bool)->St:=(λ (x:((List Int)×(List Bool)×Bool))=>f46_s4 p0_ r133 x.1 x.2.1 x.2.2)
variable {p0_ r133 out_19 near_1 i_18 out_20 near_2 out_21 near_3 grown_7 out_22 out_23 ring_1 grown_8 i_19 out_24 ring_2 grown_9 out_25 ring_3 grown_10 k_5 out_26 ring_4 grown_11 out_27 ring_5 grown_12}
theorem FR3_home_L1_ok (x:((List Int)×(List Bool)×Int)) (z:(((List Int)×(List Bool)×Int)⊕((List Int)×(List Bool)))) (H:FR3_home_L1 n p0_ r133 x.1 x.2.1 x.2.2=some z):WP (cxk 87 0) (bodyOf Try.f46) [1,1,0,1,0,0] (roundQ 0 (FR3_home_L1_S p0_ r133) (FR3_home_L1_E p0_ r133) z) (FR3_home_L1_S p0_ r133 x):=by
 obtain ⟨out_19,near_1,i_18⟩:=x
 refine sq (sr (ck 2 (sp (at_len eGState r133) (ck 1 (en (cn H (λ H=>?_) (λ H=>?_)))))))
 ·exact sk (qz (sq (bk 1 (sr (ck 2 (bx H λ l35 h333 H=>sp (at_appO eI64 1 1 h333) (ck 1 (en (rz (ck 4 (bx H λ x93 h334 H=>sp (at_idxD eGState h334) (ck 1 (bx H λ r134 h335 H=>ca false (FR3_Accepts_ok h335) (ck 1 (bx H λ l36 h336 H=>sp (at_appO eB 2 1 h336) (ck 1 (ae (qN (qz (rz (ck 3 (ae (by cases H;exact og (sg [1,3,4,5,6]))))))))))))))))))))))))
 ·exact ex 0 (qx (by cases H;exact xo rfl (sg [1,3,4,5])))
theorem FR3_home_L4_ok (x:((List Int)×(List Bool)×Bool×Int)) (z:(((List Int)×(List Bool)×Bool×Int)⊕((List Int)×(List Bool)×Bool))) (H:FR3_home_L4 n p0_ r133 near_3 i_19 x.1 x.2.1 x.2.2.1 x.2.2.2=some z):WP (cxk 87 0) (bodyOf Try.f46) [1,1,1,0,1,0,0,1,0,1,1,0,1,0,0,1,0,0,1,0,0] (roundQ 0 (FR3_home_L4_S p0_ r133 near_3 i_19) (FR3_home_L4_E p0_ r133 near_3 i_19) z) (FR3_home_L4_S p0_ r133 near_3 i_19 x):=by
 obtain ⟨out_25,ring_3,grown_10,k_5⟩:=x
 refine sq (sr (ck 3 (sp (at_len eGRule p0_.Rules) (ck 4 (bx H λ x94 h339 H=>sE (λ hg=>at_idxO 3 1 (gimp h339 hg)) (sE (g:=decide (k_5<((List.length p0_.Rules:Nat):Int))) (λ hg=>at_ldA eB 3 0 (ty 4) (gimp h339 hg)) (gc 1 (decide (k_5<((List.length p0_.Rules:Nat):Int))) (pA (en (cn H (λ H=>?_) (λ H=>?_)))))))))))
 ·refine sk (qz (sj (λ (x:((List Int)×(List Bool)×Bool))=>f46_s10 p0_ r133 near_3 i_19 k_5 x.1 x.2.1 x.2.2) (λ (x:((List Int)×(List Bool)×Bool))=>FR3_home_J1 n k_5 x.1 x.2.1 x.2.2) z ?_ (λ hFR3_home_J1=>?_)))
  ·rintro ⟨out_27,ring_5,grown_12⟩ H
   exact rz (ck 3 (ae (by cases H;exact og (sg [1,3,4,5,7,8,9,10]))))
  refine bk 7 (sr (ck 3 (bx H λ x95 h340 H=>sp (at_idxD eGState h340) (ck 2 (bx H λ r135 h341 H=>ca false (FR3_Step_ok h341) (ck 6 (en (sr (ck 5 (bx H λ r136 h342 H=>cG false (leZ) rfl (λ hg=>FR3_Index_ok (gimp h342 hg)) (Or.inl rfl) (impK (λ hh=>hh) (impK (λ hh=>hh) (impZ))) rfl (bx H λ x96 h343 H=>sE (λ hg=>at_idxO 2 1 (gimp h343 hg)) (sE (g:=r135.2) (λ hg=>at_ldA eB 2 0 (ty 4) (gimp h343 hg)) (pA (en (cn H (λ H=>?_) (λ H=>?_))))))))))))))))
  ·exact sr (ck 2 (bx H λ x97 h344 H=>sp (at_idxO 3 1 h344) (bx H λ l38 h345 H=>stA eB 3 0 (ty 4) h344 h345 (en (sq (rg (tr (sn 8 3 1 (put_len h345)) (sn 78 3 1 (put_len h345))) (ck 3 (bx H λ x98 h346 H=>sp (at_idxO 1 1 h346) (bx H λ l39 h347 H=>stA eI64 1 0 (ty 3) h346 h347 (en (rg (tr (sn 4 1 1 (put_len h347)) (sn 81 1 1 (put_len h347))) (ck 1 (ae (qN (qs (sg [1,3,4,5,7,8,9,10]) (hFR3_home_J1 (l39,l38,true) H))))))))))))))))
  ·exact sk (qN (qs (sg [1,3,4,5,7,8,9,10]) (hFR3_home_J1 (out_25,ring_3,grown_10) H)))
 ·exact ex 6 (qx (by cases H;exact xo rfl (sg [1,3,4,5,7,8,9])))
theorem FR3_home_L3_ok (x:((List Int)×(List Bool)×Bool×Int)) (z:(((List Int)×(List Bool)×Bool×Int)⊕((List Int)×(List Bool)×Bool))) (H:FR3_home_L3 n p0_ r133 near_3 x.1 x.2.1 x.2.2.1 x.2.2.2=some z):WP (cxk 87 0) (bodyOf Try.f46) [1,1,1,0,1,0,0,1,0,1,1,0,1,0,0] (roundQ 0 (FR3_home_L3_S p0_ r133 near_3) (FR3_home_L3_E p0_ r133) z) (FR3_home_L3_S p0_ r133 near_3 x):=by
 obtain ⟨out_23,ring_1,grown_8,i_19⟩:=x
 refine sq (sr (ck 2 (sp (at_len eGState r133) (ck 1 (en (cn H (λ H=>?_) (λ H=>?_)))))))
 ·exact sk (qz (sq (bk 5 (sr (ck 1 (en (bk 6 (bx H λ y77 h348 H=>lX FR3_home_L4_ok h348 (sg [1,3,4,5,7,8,9,10]) rfl λ s hE62=>qH (qN (qs (hE62) (rz (ck 3 (ae (by cases H;exact og (sg [1,3,4,5,7,8,9])))))))))))))))
 ·exact ex 4 (qx (by cases H;exact xo rfl (sg [1,3,4,7,8])))
theorem FR3_home_L2_ok (x:((List Int)×(List Bool)×Bool)) (z:(((List Int)×(List Bool)×Bool)⊕(List Int))) (H:FR3_home_L2 n p0_ r133 x.1 x.2.1 x.2.2=some z):WP (cxk 87 0) (bodyOf Try.f46) [1,1,1,0,1,0,0] (roundQ 0 (FR3_home_L2_S p0_ r133) (FR3_home_L2_E) z) (FR3_home_L2_S p0_ r133 x):=by
 obtain ⟨out_21,near_3,grown_7⟩:=x
 refine sq (sr (ck 1 (en (cn H (λ H=>?_) (λ H=>?_)))))
 ·exact sk (qz (bk 3 (sr (ck 1 (en (sr (ck 2 (bx H λ l37 h338 H=>sp (at_appO eB 3 1 h338) (ck 1 (en (sq (sr (ck 1 (en (bk 4 (bx H λ y78 h349 H=>lX FR3_home_L3_ok h349 (sg [1,3,4,5,7,8,9]) rfl λ s hE63=>qH (qs (hE63) (rz (ck 2 (ae (qN (by cases H;exact og (sg [1,3,4,5,7])))))))))))))))))))))))
 ·exact ex 2 (qx (by cases H;exact xo rfl (sg [4])))
theorem FR3_home_ok {z} (H:FR3_home n p0_=some z):CallOK Try.prog 46 [.agg (bTable p0_)] (.own 1 (List.map eI64 z)):=by
 exact fO 87 (f46_s1 p0_) Try.func46 (sr (ck 2 (en (sr (ck 1 (bx H λ r133 h332 H=>ca false (FR3_States_ok h332) (ck 5 (en (sq (sr (ck 1 (en (bk 0 (bx H λ y76 h337 H=>lX FR3_home_L1_ok h337 (sg [1,3,4,5,6]) rfl λ s hE61=>qH (qs (hE61) (sq (sr (ck 1 (en (bk 2 (bx H λ y79 h350 H=>lX FR3_home_L2_ok h350 (sg [1,3,4,5,7]) rfl λ s hE64=>qH (qs (hE64) (sr (ck 2 (en (re (by cases H;exact pr (rO (v:=.osl 0 1 0 (List.length z)) [0] (ao vo)))))))))))))))))))))))))))))
end
section
variable (p0_:GTable) (p1_:(List Int)) (r137:(List GState)) (r138:(List Bool)) (r139:(List Int)) (path_1:(List Int)) (s_3:GState) (size_1:Int) (i_20:Int) (path_2:(List Int)) (s_4:GState) (fit_1:(List Int)) (k_6:Int) (fit_2:(List Int)) (fit_3:(List Int)) (path_3:(List Int)) (s_5:GState) (path_4:(List Int))
def f18_s1:St:=⟨(0,.agg [.d (.int .i64 p0_.Modes),.d (.int .u8 p0_.Accept),.d (.sl (List.map eGRule p0_.Rules))])::(1,.d (.sl (List.map eU8 p1_)))::[],[]⟩
def f18_s2:St:=⟨(1,.d (.sl (List.map eU8 p1_)))::(2,.ptr 0 0)::(6,.d (.sl (List.map eGState r137)))::(7,.d (.sl (List.map eB r138)))::(8,.d (.sl (List.map eI64 r139)))::(9,.osl 1 1 0 (List.length path_1))::(10,.ptr 2 0)::(11,.d (.int .i64 size_1))::(12,.d (.int .i64 i_20))::[],[some (.box (bTable p0_)),some (.arr 1 (List.map eI64 path_1)),some (.box (bState s_3))]⟩
def f18_s3:St:=⟨(2,.ptr 0 0)::(6,.d (.sl (List.map eGState r137)))::(8,.d (.sl (List.map eI64 r139)))::(9,.osl 1 1 0 (List.length path_2))::(10,.ptr 2 0)::[],[some (.box (bTable p0_)),some (.arr 1 (List.map eI64 path_2)),some (.box (bState s_4))]⟩
def f18_s4:St:=⟨(1,.d (.sl (List.map eU8 p1_)))::(2,.ptr 0 0)::(6,.d (.sl (List.map eGState r137)))::(7,.d (.sl (List.map eB r138)))::(8,.d (.sl (List.map eI64 r139)))::(9,.osl 1 1 0 (List.length path_1))::(10,.ptr 2 0)::(11,.d (.int .i64 size_1))::(12,.d (.int .i64 i_20))::(13,.osl 3 1 0 (List.length fit_1))::(14,.d (.int .i64 k_6))::[],[some (.box (bTable p0_)),some (.arr 1 (List.map eI64 path_1)),some (.box (bState s_3)),some (.arr 1 (List.map eI64 fit_1))]⟩
def f18_s5:St:=⟨(1,.d (.sl (List.map eU8 p1_)))::(2,.ptr 0 0)::(6,.d (.sl (List.map eGState r137)))::(7,.d (.sl (List.map eB r138)))::(8,.d (.sl (List.map eI64 r139)))::(9,.osl 1 1 0 (List.length path_1))::(10,.ptr 2 0)::(11,.d (.int .i64 size_1))::(12,.d (.int .i64 i_20))::(13,.osl 3 1 0 (List.length fit_2))::[],[some (.box (bTable p0_)),some (.arr 1 (List.map eI64 path_1)),some (.box (bState s_3)),some (.arr 1 (List.map eI64 fit_2))]⟩
def f18_s6:St:=⟨(1,.d (.sl (List.map eU8 p1_)))::(2,.ptr 0 0)::(6,.d (.sl (List.map eGState r137)))::(7,.d (.sl (List.map eB r138)))::(8,.d (.sl (List.map eI64 r139)))::(9,.osl 1 1 0 (List.length path_1))::(10,.ptr 2 0)::(11,.d (.int .i64 size_1))::(12,.d (.int .i64 i_20))::(13,.osl 3 1 0 (List.length fit_3))::(14,.d (.int .i64 k_6))::[],[some (.box (bTable p0_)),some (.arr 1 (List.map eI64 path_1)),some (.box (bState s_3)),some (.arr 1 (List.map eI64 fit_3))]⟩
def FR3_Walk_L2_E:(List Int)->Ex->St->Prop:=xX 0 2 (λ (y:(List Int))=>f18_s5 p0_ p1_ r137 r138 r139 path_1 s_3 size_1 i_20 y)
def FR3_Walk_L2_S:((List Int)×Int)->St:=(λ (x:((List Int)×Int))=>f18_s4 p0_ p1_ r137 r138 r139 path_1 s_3 size_1 i_20 x.1 x.2)
def FR3_Walk_L1_E:((List Int)×GState)->Ex->St->Prop:=xX 0 0 (λ (y:((List Int)×GState))=>f18_s3 p0_ r137 r139 y.1 y.2)
def FR3_Walk_L1_S:((List Int)×GState×Int×Int)->St:=(λ (x:((List Int)×GState×Int×Int))=>f18_s2 p0_ p1_ r137 r138 r139 x.1 x.2.1 x.2.2.1 x.2.2.2)
def f18_s7:St:=⟨(2,.ptr 0 0)::(6,.d (.sl (List.map eGState r137)))::(8,.d (.sl (List.map eI64 r139)))::(9,.osl 1 1 0 (List.length path_3))::(10,.ptr 2 0)::[],[some (.box (bTable p0_)),some (.arr 1 (List.map eI64 path_3)),some (.box (bState s_5))]⟩
def f18_s8:St:=⟨(9,.osl 0 1 0 (List.length path_4))::[],[some (.arr 1 (List.map eI64 path_4))]⟩
def FR3_Walk_L3_E:(List Int)->Ex->St->Prop:=xX 0 4 (λ (y:(List Int))=>f18_s8 y)
def FR3_Walk_L3_S:((List Int)×GState)->St:=(λ (x:((List Int)×GState))=>f18_s7 p0_ r137 r139 x.1 x.2)
variable {p0_ p1_ r137 r138 r139 path_1 s_3 size_1 i_20 path_2 s_4 fit_1 k_6 fit_2 fit_3 path_3 s_5 path_4}
theorem FR3_Walk_L2_ok (x:((List Int)×Int)) (z:(((List Int)×Int)⊕(List Int))) (H:FR3_Walk_L2 n p0_ p1_ r137 r138 r139 path_1 s_3 size_1 i_20 x.1 x.2=some z):WP (cxk 130 0) (bodyOf Try.f18) [1,1,1,1,0,1,0,0,1,0,0,1,0,1,0,0] (roundQ 0 (FR3_Walk_L2_S p0_ p1_ r137 r138 r139 path_1 s_3 size_1 i_20) (FR3_Walk_L2_E p0_ p1_ r137 r138 r139 path_1 s_3 size_1 i_20) z) (FR3_Walk_L2_S p0_ p1_ r137 r138 r139 path_1 s_3 size_1 i_20 x):=by
 obtain ⟨fit_1,k_6⟩:=x
 refine sq (sr (ck 3 (sp (at_len eGRule p0_.Rules) (ck 1 (en (cn H (λ H=>?_) (λ H=>?_)))))))
 ·refine sk (qz (sj (λ (x:(List Int))=>f18_s6 p0_ p1_ r137 r138 r139 path_1 s_3 size_1 i_20 k_6 x) (λ (x:(List Int))=>FR3_Walk_J1 n k_6 x) z ?_ (λ hFR3_Walk_J1=>?_)))
  ·intro fit_3 H
   exact rz (ck 3 (ae (by cases H;exact og (sg [1,2,6,7,8,9,10,11,12,13,14]))))
  refine bk 3 (sr (ck 3 (bx H λ r141 h356 H=>ca false (FR3_Step_ok h356) (ck 6 (en (sr (ck 5 (bx H λ r142 h357 H=>cG false (leZ) rfl (λ hg=>FR3_Index_ok (gimp h357 hg)) (Or.inl rfl) (impK (λ hh=>hh) (impK (λ hh=>hh) (impZ))) rfl (bx H λ x100 h358 H=>sE (λ hg=>at_idxD eB (gimp h358 hg)) (gc 1 r141.2 (pA (en (cn H (λ H=>?_) (λ H=>?_))))))))))))))
  ·exact rz (ck 3 (bx H λ l40 h359 H=>sp (at_appO eI64 3 1 h359) (ck 1 (ae (qN (qs (sg [1,2,6,7,8,9,10,11,12,13,14]) (hFR3_Walk_J1 l40 H)))))))
  ·exact sk (qN (qs (sg [1,2,6,7,8,9,10,11,12,13,14]) (hFR3_Walk_J1 fit_1 H)))
 ·exact ex 2 (qx (by cases H;exact xo rfl (sg [1,2,6,7,8,9,10,11,12,13])))
theorem FR3_Walk_L1_ok (x:((List Int)×GState×Int×Int)) (z:(((List Int)×GState×Int×Int)⊕((List Int)×GState))) (H:FR3_Walk_L1 n p0_ p1_ r137 r138 r139 x.1 x.2.1 x.2.2.1 x.2.2.2=some z):WP (cxk 130 0) (bodyOf Try.f18) [1,1,1,1,0,1,0,0] (roundQ 0 (FR3_Walk_L1_S p0_ p1_ r137 r138 r139) (FR3_Walk_L1_E p0_ r137 r139) z) (FR3_Walk_L1_S p0_ p1_ r137 r138 r139 x):=by
 obtain ⟨path_1,s_3,size_1,i_20⟩:=x
 refine sq (sr (ck 2 (sp (at_len eU8 p1_) (ck 3 (gc 1 (decide (i_20<((List.length p1_:Nat):Int))) (pA (ck 2 (gc 1 ((decide (i_20<((List.length p1_:Nat):Int)))&&(decide (i_20<10))) (pA (en (cn H (λ H=>?_) (λ H=>?_))))))))))))
 ·refine sk (qz (sq (bk 1 (sr (ck 2 (en (sq (sr (ck 1 (en (bk 2 (bx H λ y80 h360 H=>lX FR3_Walk_L2_ok h360 (sg [1,2,6,7,8,9,10,11,12,13,14]) rfl λ s hE65=>qH (qs (hE65) (sq (sr (ck 3 (en (cn H (λ H=>?_) (λ H=>?_)))))))))))))))))))
  ·exact ex 0 (qx (qX rfl (qx (by cases H;exact xo rfl (sg [2,6,8,9,10])))))
  ·exact sk (qz (sr (ck 3 (bx H λ x101 h361 H=>sp (at_idxD eU8 h361) (ck 4 (bx H λ gd13 h362 H=>so (guard_nz h362) (bx H λ x102 h363 H=>sp (at_idxO 3 1 h363) (sp (at_ldA eI64 3 0 (ty 3) h363) (ck 1 (en (sr (ck 3 (bx H λ l41 h364 H=>sp (at_appO eI64 1 1 h364) (ck 1 (en (sr (ck 4 (bx H λ x103 h365 H=>sp (at_idxD eGRule h365) (ck 5 (en (rz (ck 3 (bx H λ r143 h366 H=>ca false (FR3_Step_ok h366) (ck 4 (ae (qN (qz (rz (ck 3 (ae (by cases H;exact og (sg [1,2,6,7,8,9,10,11,12]))))))))))))))))))))))))))))))))
 ·exact ex 0 (qx (by cases H;exact xo rfl (sg [2,6,8,9,10])))
theorem FR3_Walk_L3_ok (x:((List Int)×GState)) (z:(((List Int)×GState)⊕(List Int))) (H:FR3_Walk_L3 n p0_ r137 r139 x.1 x.2=some z):WP (cxk 130 0) (bodyOf Try.f18) [1,1,1,1,1,0,0,0] (roundQ 0 (FR3_Walk_L3_S p0_ r137 r139) (FR3_Walk_L3_E) z) (FR3_Walk_L3_S p0_ r137 r139 x):=by
 obtain ⟨path_3,s_5⟩:=x
 refine sq (sr (ck 2 (bx H λ r144 h368 H=>ca false (FR3_Accepts_ok h368) (ck 1 (en (cn H (λ H=>?_) (λ H=>?_)))))))
 ·exact sk (qz (bk 5 (sr (ck 3 (bx H λ r145 h369 H=>ca false (FR3_Index_ok h369) (bx H λ x104 h370 H=>sp (at_idxD eI64 h370) (ck 2 (en (sr (ck 3 (bx H λ l42 h371 H=>sp (at_appO eI64 1 1 h371) (ck 1 (en (rz (ck 3 (bx H λ r146 h372 H=>ca false (FR3_Step_ok h372) (ck 4 (ae (qN (by cases H;exact og (sg [2,6,8,9,10])))))))))))))))))))))
 ·exact ex 4 (qx (by cases H;exact xo rfl (sg [9])))
theorem FR3_Walk_ok {z} (H:FR3_Walk n p0_ p1_=some z):CallOK Try.prog 18 [.agg (bTable p0_),.d (.sl (List.map eU8 p1_))] (.tup [.own 1 (List.map eI64 z.1),.d (.bool z.2)]):=by
 refine fO 130 (f18_s1 p0_ p1_) Try.func18 (sr (ck 3 (en (sr (ck 1 (bx H λ r137 h351 H=>ca false (FR3_States_ok h351) (ck 1 (bx H λ r138 h352 H=>ca false (FR3_Alive_ok h352) (ck 1 (bx H λ r139 h353 H=>ca false (FR3_home_ok h353) (ck 3 (en (sq (sr (ck 1 (bx H λ x99 h354 H=>sp (at_idxD eB h354) (ck 2 (en (cn H (λ H=>?_) (λ H=>?_))))))))))))))))))))
 ·exact sr (ck 3 (en (re (qr (by cases H;exact pr (rT (vs:=[.osl 1 1 0 (List.length ([]:List Int)),.d (.bool false)]) [1] (t1 (ao vo) (t1 (ad vd) (t0)))))))))
 ·exact sk (qz (sr (ck 1 (bx H λ r140 h355 H=>ca false (FR3_Start_ok h355) (ck 4 (en (sq (sr (ck 1 (en (bk 0 (bx H λ y81 h367 H=>lX FR3_Walk_L1_ok h367 (sg [1,2,6,7,8,9,10,11,12]) rfl λ s hE66=>qH (qs (hE66) (sq (bk 4 (bx H λ y82 h373 H=>lX FR3_Walk_L3_ok h373 (sg [2,6,8,9,10]) rfl λ s hE67=>qH (qs (hE67) (sr (ck 3 (en (re (by cases H;exact pr (rT (vs:=[.osl 0 1 0 (List.length y82),.d (.bool true)]) [0] (t1 (ao vo) (t1 (ad vd) (t0))))))))))))))))))))))))))
end
section
variable (p0_:GTable) (p1_:(List Int)) (out_28:GTrace) (i_21:Int) (out_29:GTrace)
def f19_s1:St:=⟨(0,.agg [.d (.int .i64 p0_.Modes),.d (.int .u8 p0_.Accept),.d (.sl (List.map eGRule p0_.Rules))])::(1,.d (.sl (List.map eI64 p1_)))::[],[]⟩
def f19_s2:St:=⟨(1,.d (.sl (List.map eI64 p1_)))::(2,.ptr 0 0)::(4,.ptr 1 0)::(5,.ptr 2 0)::(6,.d (.int .i64 i_21))::[],[some (.box (bTable p0_)),some (.box [.d (.str []),.osl 3 1 0 (List.length ([]:List Int)),.d (.int .i64 0),.d (.int .i64 0),.d (.int .i64 0),.d (.int .u8 0),.d (.bool false)]),some (.box (bTrace_1 out_28 (.osl 4 1 0 (List.length out_28.Cells)))),some (.arr 1 (List.map eU8 ([]:List Int))),some (.arr 1 (List.map eU8 out_28.Cells))]⟩
def f19_s3:St:=⟨(2,.ptr 0 0)::(4,.ptr 1 0)::(5,.ptr 2 0)::[],[some (.box (bTable p0_)),some (.box [.d (.str []),.osl 3 1 0 (List.length ([]:List Int)),.d (.int .i64 0),.d (.int .i64 0),.d (.int .i64 0),.d (.int .u8 0),.d (.bool false)]),some (.box (bTrace_1 out_29 (.osl 4 1 0 (List.length out_29.Cells)))),some (.arr 1 (List.map eU8 ([]:List Int))),some (.arr 1 (List.map eU8 out_29.Cells))]⟩
def FR3_Run_L1_E:(GTrace⊕GTrace)->Ex->St->Prop:=xS (xX 0 0 (λ (y:GTrace)=>f19_s3 p0_ y)) (xR ty Try.f19 (λ (y:GTrace)=>.agg [.d (.str y.Text),.own 1 (List.map eU8 y.Cells),.d (.int .i64 y.At),.d (.int .i64 y.End.Mode),.d (.int .i64 y.End.Last),.d (.int .u8 y.End.Need),.d (.bool y.Ok)]))
def FR3_Run_L1_S:(GTrace×Int)->St:=(λ (x:(GTrace×Int))=>f19_s2 p0_ p1_ x.1 x.2)
variable {p0_ p1_ out_28 i_21 out_29}
theorem FR3_Run_L1_ok (x:(GTrace×Int)) (z:((GTrace×Int)⊕(GTrace⊕GTrace))) (H:FR3_Run_L1 n p0_ p1_ x.1 x.2=some z):WP (cxk 69 0) (bodyOf Try.f19) [1,1,0,1,0,0] (roundQ 0 (FR3_Run_L1_S p0_ p1_) (FR3_Run_L1_E p0_) z) (FR3_Run_L1_S p0_ p1_ x):=by
 obtain ⟨out_28,i_21⟩:=x
 refine sq (sr (ck 2 (sp (at_len eI64 p1_) (ck 1 (en (cn H (λ H=>?_) (λ H=>?_)))))))
 ·refine sk (qz (sq (bk 1 (sr (ck 5 (bx H λ x105 h375 H=>sp (at_idxD eI64 h375) (ck 1 (bx H λ r148 h376 H=>ca true (FR3_Step_ok h376) (ck 6 (en (sq (sr (ck 2 (en (cn H (λ H=>?_) (λ H=>?_))))))))))))))))
  ·exact sr (ck 2 (en (re (qr (qR (qr (by cases H;exact ro rfl (rO (v:=.agg [.d (.str out_28.Text),.osl 4 1 0 (List.length out_28.Cells),.d (.int .i64 out_28.At),.d (.int .i64 out_28.End.Mode),.d (.int .i64 out_28.End.Last),.d (.int .u8 out_28.End.Need),.d (.bool out_28.Ok)]) [4] (a1 (c1 vd (c1 vo (c1 vd (c1 vd (c1 vd (c1 vd (c1 vd (c0)))))))))))))))))
  ·exact sk (qz (sr (ck 6 (bx H λ x106 h377 H=>sp (at_idxD eI64 h377) (ck 1 (bx H λ x107 h378 H=>sp (at_idxD eGRule h378) (ck 2 (bx H λ s7 h379 H=>sp (at_cat h379) (ck 2 (en (sr (ck 6 (bx H λ x108 h380 H=>sp (at_idxD eI64 h380) (ck 1 (bx H λ x109 h381 H=>sp (at_idxD eGRule h381) (ck 2 (bx H λ l43 h382 H=>sp (at_app eU8 4 1 h382) (ck 2 (en (sr (ck 3 (en (rz (ck 5 (ae (qN (qz (rz (ck 3 (ae (by cases H;exact og (sg [1,2,4,5,6]))))))))))))))))))))))))))))))))
 ·exact ex 0 (qx (by cases H;exact xo rfl (sg [2,4,5])))
theorem FR3_Run_ok {z} (H:FR3_Run n p0_ p1_=some z):CallOK Try.prog 19 [.agg (bTable p0_),.d (.sl (List.map eI64 p1_))] (.agg [.d (.str z.Text),.own 1 (List.map eU8 z.Cells),.d (.int .i64 z.At),.d (.int .i64 z.End.Mode),.d (.int .i64 z.End.Last),.d (.int .u8 z.End.Need),.d (.bool z.Ok)]):=by
 refine fO 69 (f19_s1 p0_ p1_) Try.func19 (sr (ck 2 (en (sr (bx H λ r147 h374 H=>ca false (FR3_Start_ok h374) (ck 3 (en (sq (sr (ck 1 (en (bk 0 (bx H λ y83 h383 H=>?_)))))))))))))
 rcases y83 with y84|y85
 ·exact lX FR3_Run_L1_ok h383 (tr (tr (sh_nilc 1 1 1 (by kernel_rfl)) (sh_nilc 2 1 1 (by kernel_rfl))) (sg [1,2,4,5,6])) rfl λ s hE68=>qH (qs (hE68) (sr (ck 3 (bx H λ r149 h384 H=>ca false (FR3_Accepts_ok h384) (ck 2 (en (sr (ck 2 (en (re (by cases H;exact pr (rO (v:=.agg [.d (.str y84.Text),.osl 4 1 0 (List.length y84.Cells),.d (.int .i64 y84.At),.d (.int .i64 y84.End.Mode),.d (.int .i64 y84.End.Last),.d (.int .u8 y84.End.Need),.d (.bool r149)]) [4] (a1 (c1 vd (c1 vo (c1 vd (c1 vd (c1 vd (c1 vd (c1 vd (c0)))))))))))))))))))))
 ·exact lR FR3_Run_L1_ok h383 (tr (tr (sh_nilc 1 1 1 (by kernel_rfl)) (sh_nilc 2 1 1 (by kernel_rfl))) (sg [1,2,4,5,6])) rfl λ s hE69=>qR (qr (by cases H;exact pr hE69))
end
section
variable (p0_:GTable) (p1_:(List Int))
def f11_s1:St:=⟨(0,.agg [.d (.int .i64 p0_.Modes),.d (.int .u8 p0_.Accept),.d (.sl (List.map eGRule p0_.Rules))])::(1,.d (.sl (List.map eU8 p1_)))::[],[]⟩
variable {p0_ p1_}
theorem FR3_Text_ok {z} (H:FR3_Text n p0_ p1_=some z):CallOK Try.prog 11 [.agg (bTable p0_),.d (.sl (List.map eU8 p1_))] (.tup [.d (.str z.1),.d (.bool z.2)]):=by
 exact fO 19 (f11_s1 p0_ p1_) Try.func11 (sr (ck 3 (en (sr (ck 2 (bx H λ r150 h385 H=>cl [List.length r150.1] (FR3_Walk_ok h385) (ck 5 (en (sr (ck 2 (bx H λ r151 h386 H=>cb (ks:=[1]) (obl:=[(0+List.length r150.1,List.length (List.map eI64 r150.1))]) false (leK leM (leZ)) (consE rfl (consE takeE rfl)) (FR3_Run_ok h386) (Or.inr ⟨trivial,⟨(ownF λ _=>rfl),⟨trivial,⟨trivial,⟨trivial,⟨trivial,⟨trivial,trivial⟩⟩⟩⟩⟩⟩⟩) rfl (ck 4 (en (re (by cases H;exact pr rdT)))))))))))))))
end
section
variable (p0_:GTable) (p1_:(List Int)) (out_30:(List UInt8)) (i_22:Int) (out_31:(List UInt8)) (out_32:(List UInt8))
def f12_s1:St:=⟨(0,.agg [.d (.int .i64 p0_.Modes),.d (.int .u8 p0_.Accept),.d (.sl (List.map eGRule p0_.Rules))])::(1,.d (.sl (List.map eU8 p1_)))::[],[]⟩
def f12_s2:St:=⟨(1,.d (.sl (List.map eU8 p1_)))::(2,.ptr 0 0)::(5,.d (.str out_30))::(6,.d (.int .i64 i_22))::[],[some (.box (bTable p0_))]⟩
def f12_s3:St:=⟨(5,.d (.str out_31))::[],[]⟩
def f12_s4:St:=⟨(1,.d (.sl (List.map eU8 p1_)))::(2,.ptr 0 0)::(5,.d (.str out_32))::(6,.d (.int .i64 i_22))::[],[some (.box (bTable p0_))]⟩
def FR2_Spelled_L1_E:(List UInt8)->Ex->St->Prop:=xX 0 0 (λ (y:(List UInt8))=>f12_s3 y)
def FR2_Spelled_L1_S:((List UInt8)×Int)->St:=(λ (x:((List UInt8)×Int))=>f12_s2 p0_ p1_ x.1 x.2)
variable {p0_ p1_ out_30 i_22 out_31 out_32}
theorem FR2_Spelled_L1_ok (x:((List UInt8)×Int)) (z:(((List UInt8)×Int)⊕(List UInt8))) (H:FR2_Spelled_L1 n p0_ p1_ x.1 x.2=some z):WP (cxk 48 0) (bodyOf Try.f12) [1,1,0,1,0,0] (roundQ 0 (FR2_Spelled_L1_S p0_ p1_) (FR2_Spelled_L1_E) z) (FR2_Spelled_L1_S p0_ p1_ x):=by
 obtain ⟨out_30,i_22⟩:=x
 refine sq (sr (ck 2 (sp (at_len eU8 p1_) (ck 3 (gc 1 (decide (i_22<((List.length p1_:Nat):Int))) (pA (ck 2 (gc 1 ((decide (i_22<((List.length p1_:Nat):Int)))&&(decide (i_22<12))) (sE (g:=((decide (i_22<((List.length p1_:Nat):Int)))&&(decide (i_22<12)))) (λ hg=>at_len eGRule p0_.Rules) (gc 1 ((decide (i_22<((List.length p1_:Nat):Int)))&&(decide (i_22<12))) (pA (en (cn H (λ H=>?_) (λ H=>?_))))))))))))))
 ·refine sk (qz (sj (λ (x:(List UInt8))=>f12_s4 p0_ p1_ i_22 x) (λ (x:(List UInt8))=>FR2_Spelled_J1 n i_22 x) z ?_ (λ hFR2_Spelled_J1=>?_)))
  ·intro out_32 H
   exact rz (ck 3 (ae (by cases H;exact og (sg [1,2,5,6]))))
  refine bk 1 (sr (ck 4 (bx H λ x110 h387 H=>sp (at_idxD eU8 h387) (ck 4 (sp (at_len eGRule p0_.Rules) (bx H λ gd14 h388 H=>so (guard_nz h388) (bx H λ x111 h389 H=>sp (at_idxD eGRule h389) (ck 3 (en (sr (ck 6 (en (cn H (λ H=>?_) (λ H=>?_))))))))))))))
  ·exact rz (ck 2 (bx H λ s8 h390 H=>sp (at_cat h390) (ck 1 (ae (qN (qs (sg [1,2,5,6]) (hFR2_Spelled_J1 s8 H)))))))
  ·exact sk (qN (qs (sg [1,2,5,6]) (hFR2_Spelled_J1 out_30 H)))
 ·exact ex 0 (qx (by cases H;exact xo rfl (sg [5])))
theorem FR2_Spelled_ok {z} (H:FR2_Spelled n p0_ p1_=some z):CallOK Try.prog 12 [.agg (bTable p0_),.d (.sl (List.map eU8 p1_))] (.d (.str z)):=by
 exact fO 48 (f12_s1 p0_ p1_) Try.func12 (sr (ck 2 (en (sr (ck 1 (en (sq (sr (ck 1 (en (bk 0 (bx H λ y86 h391 H=>lX FR2_Spelled_L1_ok h391 (sg [1,2,5,6]) rfl λ s hE70=>qH (qs (hE70) (sr (ck 2 (en (re (by cases H;exact pr rd))))))))))))))))))
end
section
variable (p0_:GRaw) (p1_:(List Int)) (p2_:GRawRule) (r206:Bool) (r207:GTable) (l57:(List GRule)) (r210:((List UInt8)×Bool)) (r211:(List UInt8)) (i_28:Int)
def f6_s1:St:=⟨(0,.agg [.d (.int .u8 p0_.Base),.d (.int .u8 p0_.Drop),.d (.sl (List.map eGRawRule p0_.More))])::(1,.d (.sl (List.map eU8 p1_)))::(2,.agg [.d (.sl (List.map eU8 p2_.P)),.d (.sl (List.map eU8 p2_.C)),.d (.int .u8 p2_.L),.d (.int .u8 p2_.R),.d (.int .u8 p2_.W.a0),.d (.int .u8 p2_.W.a1)])::[],[]⟩
def f6_s2:St:=⟨(7,.d (.bool r206))::(8,.ptr 0 0)::(9,.ptr 1 0)::(12,.ptr 2 0)::(13,.d (.int .i64 i_28))::[],[some (.box (bTable r207)),some (.box (bTable_2 r207 (.osl 3 6 0 (List.length l57)))),some (.box [.d (.str r210.1),.d (.str r211)]),some (.arr 6 (List.map eGRule l57))]⟩
def f6_s3:St:=⟨(7,.d (.bool r206))::[],[]⟩
def FL6_TranslateMoreRules_L1_E:(Unit⊕Bool)->Ex->St->Prop:=xS (xX 0 0 (λ (y:Unit)=>f6_s3 r206)) (xR ty Try.f6 (λ (y:Bool)=>.d (.bool y)))
def FL6_TranslateMoreRules_L1_S:Int->St:=(λ (x:Int)=>f6_s2 r206 r207 l57 r210 r211 x)
variable {p0_ p1_ p2_ r206 r207 l57 r210 r211 i_28}
theorem FL6_TranslateMoreRules_L1_ok (x:Int) (z:(Int⊕(Unit⊕Bool))) (H:FL6_TranslateMoreRules_L1 n r206 r207 l57 r210 r211 x=some z):WP (cxk 75 0) (bodyOf Try.f6) [1,1,1,1,1,1,1,0,1,0,0] (roundQ 0 (FL6_TranslateMoreRules_L1_S r206 r207 l57 r210 r211) (FL6_TranslateMoreRules_L1_E r206) z) (FL6_TranslateMoreRules_L1_S r206 r207 l57 r210 r211 x):=by
 revert H
 generalize x=i_28
 intro H
 refine sq (sr (ck 2 (en (cn H (λ H=>?_) (λ H=>?_)))))
 ·refine sk (qz (sq (bk 1 (sr (ck 2 (bx H λ x162 h540 H=>sp (at_idxV 2 0 2 h540) (sp (at_ldV (e1:=λ x=>.str x) 2 0 2 (ty 9) h540) (bx H λ r212 h541 H=>ca false (FTr_Cost_ok h541) (ck 2 (bx H λ x163 h542 H=>sp (at_idxV 2 0 2 h542) (sp (at_ldV (e1:=λ x=>.str x) 2 0 2 (ty 9) h542) (bx H λ r213 h543 H=>cb (ks:=[3]) (obl:=[(0+List.length l57,List.length (List.map eGRule l57))]) false (leK leM (leZ)) (consE (aggE (consE rfl (consE rfl (consE takeE rfl)))) (consE rfl rfl)) (FTr_Cost_ok h543) (Or.inr trivial) rfl (ck 2 (en (sr (ck 4 (gc 2 (decide (r212≥0)) (ck 2 (gc 1 ((decide (r212≥0))&&!(decide (r213<0))) (pG (g:=decide (r212≥0)) (v:=.d (.bool ((decide (r213<0))||(decide (r213>r212))))) (λ hg=>pick_genz (c:=.gv (decide (r212≥0)) (.d (.bool (decide (r213<0))))) (a:=.d (.bool true)) (b:=.gv ((decide (r212≥0))&&!(decide (r213<0))) (.d (.bool (decide (r213>r212))))) rfl rfl rfl ((λ hh=>hh) hg) trivial (λ ht=>by rw [(λ hh=>hh) hg,ht];rfl)) (pA (en (cn H (λ H=>?_) (λ H=>?_))))))))))))))))))))))))
  ·exact sr (ck 1 (en (re (qR (qr (by cases H;exact ro rfl rd))))))
  ·exact sk (qN (qz (rz (ck 3 (ae (by cases H;exact og (sg [7,8,9,12,13])))))))
 ·exact ex 0 (qx (by cases H;exact xo rfl (sg [7])))
theorem FL6_TranslateMoreRules_ok {z} (H:FL6_TranslateMoreRules n p0_ p1_ p2_=some z):CallOK Try.prog 6 [.agg (bRaw p0_),.d (.sl (List.map eU8 p1_)),.agg (bRawRule p2_)] (.d (.bool z)):=by
 refine fO 75 (f6_s1 p0_ p1_ p2_) Try.func6 (sr (ck 3 (en (sr (bx H λ r206 h532 H=>ca true (FL6_sanity_ok h532) (ck 1 (en (sr (ck 1 (bx H λ r207 h533 H=>ca false (FR2_Made_ok h533) (ck 2 (en (sr (ck 7 (bx H λ l56 h534 H=>sp (at_app eGRule 3 6 h534) (ck 3 (bx H λ r208 h535 H=>ca false (FR2_Rule_ok h535) (ck 1 (bx H λ l57 h536 H=>sp (at_appO eGRule 4 6 h536) (ck 3 (en (sq (sr (ck 1 (bx H λ r209 h537 H=>cb (ks:=[6]) (obl:=[(0+List.length l57,List.length (List.map eGRule l57))]) false (leK leM (leZ)) (consE (aggE (consE rfl (consE rfl (consE takeE rfl)))) rfl) (FR2_Valid_ok h537) (Or.inr trivial) rfl (ck 1 (en (cn H (λ H=>?_) (λ H=>?_)))))))))))))))))))))))))))))
 ·exact sr (ck 2 (en (re (qr (by cases H;exact pr rd)))))
 ·refine sk (qz (sr (ck 2 (bx H λ r210 h538 H=>ca false (FR3_Text_ok h538) (ck 5 (en (sr (ck 3 (bx H λ r211 h539 H=>ca false (FR2_Spelled_ok h539) (ck 3 (en (sq (sr (ck 1 (en (bk 0 (bx H λ y106 h544 H=>?_)))))))))))))))))
  rcases y106 with y107|y108
  ·exact lX FL6_TranslateMoreRules_L1_ok h544 (sg [7,8,9,12,13]) rfl λ s hE88=>qH (qs (hE88) (sr (ck 2 (en (re (by cases H;exact pr rd))))))
  ·exact lR FL6_TranslateMoreRules_L1_ok h544 (sg [7,8,9,12,13]) rfl λ s hE89=>qR (qr (by cases H;exact pr hE89))
end
end Go.AI
end
section
namespace Go.AI
def CRd (F:Nat->Option Obj) (l:List D) (cs:List Value):Prop:=l.length=cs.length∧∀ (i:Nat) (y:D) (v:Value),l[i]? = some y->cs[i]? = some v->DRep F y v
def Reads {α:Type} (P:Program) (t:TypeId) (enc:α->List D) (ok:α->Prop):Prop:=
 ∀ (H:Type) (e:TypeId×Value->H) (w:World) (base:Nat) (spare:Nat->Bool) (held:Bool) (fuel:Nat) (cs:List Value) (x:DataW H×List MemPlace),DataW.trod e P w base spare held fuel t cs=some x->∃ a:α,ok a∧CRd (λ b=>w.heap[b]?) (enc a) cs
theorem crd_one {F:Nat->Option Obj} {y:D} {v:Value} (h:DRep F y v):CRd F [y] [v]:=by
 refine ⟨rfl,λ i a b ha hb=>?_⟩
 cases i with
 | zero=>simp at ha hb;subst ha;subst hb;exact h
 | succ i=>simp at ha
theorem reads_int {P:Program} {t:TypeId} {k:IntKind} (ht:P.underlying t=some (.int k)):Reads P t (λ n=>[.int k n]) (λ n=>(Lit.int k n).wf=true):=by
 intro H e w base spare held fuel cs x h
 obtain ⟨n,rfl,_,hw⟩:=DataW.trod_int ht h
 exact ⟨n,hw,crd_one (.int k n)⟩
theorem list_choose {α:Type} {Q:Nat->α->Prop}:∀ n,(∀ i,i<n->∃ a,Q i a)->∃ l:List α,l.length=n∧∀ i a,l[i]? = some a->Q i a:=by
 intro n
 induction n with
 | zero=>intro _;exact ⟨[],rfl,λ i a h=>by simp at h⟩
 | succ n ih=>
  intro h
  obtain ⟨l,hl,hq⟩:=ih λ i hi=>h i (by omega)
  obtain ⟨a,ha⟩:=h n (by omega)
  refine ⟨l++[a],by simp [hl],λ i b hb=>?_⟩
  rcases Nat.lt_or_ge i l.length with hlt|hge
  ·rw [List.getElem?_append_left hlt] at hb;exact hq i b hb
  ·rw [List.getElem?_append_right hge] at hb
   have:i-l.length=0:=by have:=getElem?_lt hb;simp at this;omega
   rw [this] at hb
   simp at hb
   subst hb
   have:i=n:=by omega
   subst this
   exact ha
theorem mapM_get {α β:Type} {f:α->Option β}:∀ {l:List α} {r:List β},l.mapM f=some r->r.length=l.length∧∀ (i:Nat) (a:α),l[i]? = some a->r[i]? = f a:=by
 intro l
 induction l with
 | nil=>intro r h;simp at h;subst h;exact ⟨rfl,λ i a h=>by simp at h⟩
 | cons a l ih=>
  intro r h
  rw [List.mapM_cons] at h
  simp only [Option.bind_eq_bind,Option.bind_eq_some_iff,Option.pure_def,Option.some.injEq] at h
  obtain ⟨b,hb,r',hr',rfl⟩:=h
  obtain ⟨h1,h2⟩:=ih hr'
  refine ⟨by simp [h1],λ i x hx=>?_⟩
  cases i with
  | zero=>simp at hx;subst hx;simp [hb]
  | succ i=>simpa using h2 i x (by simpa using hx)
theorem reads_slice {α:Type} {P:Program} {t e:TypeId} {enc:α->List D} {ok:α->Prop} {sz:Nat} (ht:P.underlying t=some (.slice e)) (hsz:P.cellsOf e=sz) (h1:Nat.ble 1 sz=true) (hl:∀ a,(enc a).length=sz) (he:Reads P e enc ok):Reads P t (eL enc) (λ l=>∀ a∈l,ok a):=by
 intro H en w base spare held fuel cs x h
 have h1:=Nat.le_of_ble_eq_true h1
 rcases DataW.trod_slice ht h with ⟨rfl,_⟩|⟨a,len,cap,elems,rest,n,_,rfl,_,_,hcap,_,hel,hget,_,_⟩
 ·exact ⟨[],λ a h=>by simp at h,crd_one (.sl0 _ _)⟩
 ·rw [hsz] at hget
  have hex:∀ i,i<len->∃ y:α,ok y∧∃ ci,w.cells? base (a.add (i*sz)) sz=some ci∧CRd (λ b=>w.heap[b]?) (enc y) ci:=λ i hi=>by
   have hg:=hget i hi
   rw [List.getElem?_eq_getElem (show i<elems.length by omega)] at hg
   simp only [Option.bind_eq_some_iff] at hg
   obtain ⟨ci,hc,htr⟩:=hg
   obtain ⟨y,hy,hcr⟩:=he H en w base spare held n ci _ htr
   exact ⟨y,hy,ci,hc,hcr⟩
  obtain ⟨l,hll,hq⟩:=list_choose len hex
  refine ⟨l,λ y hy=>?_,crd_one ?_⟩
  ·obtain ⟨i,hi⟩:=List.mem_iff_getElem?.1 hy
   exact (hq i y hi).1
  ·rcases Nat.eq_zero_or_pos len with h0|hpos
   ·have:l=[]:=List.length_eq_zero_iff.1 (by omega)
    subst this;subst h0
    exact .sl0 _ _
   ·
    have hcell:∀ i y,l[i]? = some y->∀ j,j<sz->∃ v,w.cell? ((a.add (i*sz)).add j)=some v∧∀ d,(enc y)[j]? = some d->DRep (λ b=>w.heap[b]?) d v:=λ i y hy j hj=>by
     obtain ⟨_,ci,hc,hcr⟩:=hq i y hy
     unfold World.cells? at hc
     split at hc
     ·obtain ⟨g1,g2⟩:=mapM_get hc
      have:=g2 j j (by simp [hj])
      have hjc:j<ci.length:=by rw [g1];simpa using hj
      rw [List.getElem?_eq_getElem hjc] at this
      exact ⟨ci[j],this.symm,λ d hd=>hcr.2 j d _ hd (List.getElem?_eq_getElem hjc)⟩
     ·cases hc
    have h0:l[0]? = some l[0]:=List.getElem?_eq_getElem (by omega)
    obtain ⟨v0,hv0,_⟩:=hcell 0 _ h0 0 (by omega)
    have ha0:(a.add (0*sz)).add 0=a:=by simp [Addr.add]
    rw [ha0] at hv0
    obtain ⟨b,off,spot⟩:=a
    unfold World.cell? at hv0
    simp only at hv0
    split at hv0
    ·rename_i c ty fr hblk
     cases spot with
     | some s=>simp at hv0
     | none=>
      have hcell':∀ i y,l[i]? = some y->∀ j d,(enc y)[j]? = some d->∃ v,c[off+i*sz+j]? = some v∧DRep (λ b=>w.heap[b]?) d v:=λ i y hy j d hd=>by
       have hj:j<sz:=by rw [← hl y];exact getElem?_lt hd
       obtain ⟨v,hv,hr⟩:=hcell i y hy j hj
       rw [add_none,add_none,cell_blk hblk] at hv
       exact ⟨v,hv,hr d hd⟩
      have hlen:(l.map enc).length=len:=by simp [hll]
      have:=DRep.sl (F:=λ b=>w.heap[b]?) (l.map enc) b off cap sz c ty fr (λ i j=>(c[off+i*sz+j]?).getD undef) hblk (λ e he=>by
        simp only [List.mem_map] at he
        obtain ⟨y,_,rfl⟩:=he
        exact hl y) (by omega) (λ i e hi j d hd=>by
        simp only [List.getElem?_map,Option.map_eq_some_iff] at hi
        obtain ⟨y,hy,rfl⟩:=hi
        obtain ⟨v,hv,_⟩:=hcell' i y hy j d hd
        simp only [hv,Option.getD_some]) (λ i e hi j d hd=>by
        simp only [List.getElem?_map,Option.map_eq_some_iff] at hi
        obtain ⟨y,hy,rfl⟩:=hi
        obtain ⟨v,hv,hr⟩:=hcell' i y hy j d hd
        simp only [hv,Option.getD_some]
        exact hr)
      rw [hlen] at this
      exact this
    ·cases hv0
theorem crd_part {F:Nat->Option Obj} {l m:List D} {cs:List Value} {o n:Nat} (h:CRd F l ((cs.drop o).take n)) (hn:Nat.beq l.length n=true) (h':CRd F m (cs.drop (o+n))):CRd F (l++m) (cs.drop o):=by
 have hn:=Nat.eq_of_beq_eq_true hn
 have e:cs.drop o=(cs.drop o).take n++cs.drop (o+n):=by rw [← List.drop_drop,List.take_append_drop]
 rw [e]
 refine ⟨by simp only [List.length_append,h.1,h'.1],λ i y v hy hv=>?_⟩
 rcases Nat.lt_or_ge i l.length with hlt|hge
 ·rw [List.getElem?_append_left hlt] at hy
  rw [List.getElem?_append_left (by rw [← h.1];exact hlt)] at hv
  exact h.2 i y v hy hv
 ·rw [List.getElem?_append_right hge] at hy
  rw [List.getElem?_append_right (by rw [← h.1];exact hge),← h.1] at hv
  exact h'.2 _ y v hy hv
theorem crd_end {F:Nat->Option Obj} {cs:List Value} {o:Nat} (h:cs.length≤o):CRd F [] (cs.drop o):=by
 rw [List.drop_eq_nil_of_le h];exact ⟨rfl,λ i y v hy=>by simp at hy⟩
theorem trod_array {H:Type} {enc:TypeId×Value->H} {P:Program} {w:World} {base:Nat} {spare:Nat->Bool} {held:Bool} {fuel:Nat} {t e:TypeId} {n:Nat} {cs:List Value} {x:DataW H×List MemPlace} (ht:P.underlying t=some (.array n e)) (h:DataW.trod enc P w base spare held fuel t cs=some x) :
  ∃ m,cs.length=P.cellsOf t∧∀ i,i<n->∃ y,DataW.trod enc P w base spare held m e ((cs.drop (i*P.cellsOf e)).take (P.cellsOf e))=some y:=by
 cases fuel with
 | zero=>simp [DataW.trod] at h
 | succ m=>
  unfold DataW.trod at h
  rw [ht] at h
  split at h<;>simp_all
  obtain ⟨xs,hp,_⟩:=h.2
  refine ⟨m,λ i hi=>?_⟩
  obtain ⟨g1,g2⟩:=mapM_get hp
  have:=g2 i i (by simp [hi])
  have hlt:i<xs.length:=by rw [g1];simpa using hi
  rw [List.getElem?_eq_getElem hlt] at this
  exact ⟨_,_,this.symm⟩
end Go.AI
end
section
namespace Go.AI
open Go.ChangeShapes Go.WideShapes Go.ChangeAt Go.RowKit
variable {P:Program} {H:Type} {en:TypeId×Value->H} {W W':World} {base:Nat} {spare:Nat->Bool} {held:Bool} {t e:TypeId} {v:Value} {d:DataW H} {ps:List MemPlace} {α:Type} {enc:α->List D} {ok:α->Prop}
theorem arg_agg {cs:Array Value} (hv:v=.agg cs) (hd:DataW.Trod en P W base spare held t v d ps) (hr:Reads P t enc ok):∃ a,ok a∧ARep (λ b=>W.heap[b]?) noR (.agg ((enc a).map .d)) v:=by
 subst hv
 obtain ⟨fuel,hf⟩:=hd
 obtain ⟨a,h1,h2,h3⟩:=hr H en W base spare held fuel _ _ hf
 refine ⟨a,h1,.agg _ _ (by simpa [Value.cells] using h2) λ i x u hx hu=>?_⟩
 simp only [List.getElem?_map,Option.map_eq_some_iff] at hx
 obtain ⟨y,hy,rfl⟩:=hx
 exact .d _ _ (h3 i y u hy (by simpa [Value.cells] using hu))
theorem arg_one {y:α->D} (hc:v.cells=#[v]) (hd:DataW.Trod en P W base spare held t v d ps) (hr:Reads P t enc ok) (he:∀ a,enc a=[y a]):∃ a,ok a∧ARep (λ b=>W.heap[b]?) noR (.d (y a)) v:=by
 obtain ⟨fuel,hf⟩:=hd
 obtain ⟨a,h1,h2,h3⟩:=hr H en W base spare held fuel _ _ hf
 refine ⟨a,h1,.d _ _ (h3 0 (y a) v (by rw [he];rfl) (by rw [hc];rfl))⟩
theorem cr_nil {F:Nat->Option Obj} {ρ:Nat->Option Loc}:CR F ρ [] []:=⟨rfl,λ i a v h=>by simp at h⟩
theorem cr_cons {F:Nat->Option Obj} {ρ:Nat->Option Loc} {a:AV} {v:Value} {l:List AV} {vs:List Value} (h:ARep F ρ a v) (h':CR F ρ l vs):CR F ρ (a::l) (v::vs):=by
 refine ⟨by simp [h'.1],λ i x u hx hu=>?_⟩
 cases i with
 | zero=>simp at hx hu;subst hx;subst hu;exact h
 | succ i=>exact h'.2 i x u (by simpa using hx) (by simpa using hu)
theorem fld {w:World} {fuel:Nat} {cs:List Value} {fs:Array Field} {xs:List (DataW H×List MemPlace)} (hg:∀ (i:Nat) (f:Field),fs[i]? = some f->DataW.trod en P w base spare held fuel f.type ((cs.drop f.offset).take (P.cellsOf f.type))=xs[i]?) (hxl:xs.length=fs.size) (i:Nat) {f:Field} (hf:fs[i]? = some f) (u o n:Nat) (hu:f.type=u) (ho:f.offset=o) (hn:P.cellsOf u=n) (hr:Reads P u enc ok) :
  ∃ a,ok a∧CRd (λ b=>w.heap[b]?) (enc a) ((cs.drop o).take n):=by
 have:=hg i f hf
 have hi:i<xs.length:=by rw [hxl];exact getElem?_ltA hf
 rw [List.getElem?_eq_getElem hi,hu,ho,hn] at this
 exact hr H en w base spare held fuel _ _ this
theorem fldA {w:World} {fuel:Nat} {cs:List Value} {m:Nat} (hg:∀ i,i<m->∃ y,DataW.trod en P w base spare held fuel e ((cs.drop (i*P.cellsOf e)).take (P.cellsOf e))=some y) (i:Nat) (hi:Nat.ble (i+1) m=true) (o n:Nat) (hn:P.cellsOf e=n) (ho:i*n=o) (hr:Reads P e enc ok) :
  ∃ a,ok a∧CRd (λ b=>w.heap[b]?) (enc a) ((cs.drop o).take n):=by
 obtain ⟨y,hy⟩:=hg i (Nat.le_of_ble_eq_true hi)
 rw [hn,ho] at hy
 exact hr H en w base spare held fuel _ _ hy
theorem law_walk {f:FuncId} {args:List AV} {vs:Array Value} (hc:CallOK P f args (.d (.bool true))) (hcr:CR (λ b=>W.heap[b]?) noR args vs.toList):Calls P f vs W λ e W'=>e=.returned (.bool true)∧(∀ before:List MemPlace,W.keptBut W' (·∈before))∧∀ b,b<W.heap.size->W'.heap[b]? = W.heap[b]? := by
 refine (hc.2 (λ b=>W.heap[b]?) W vs hcr λ b o h=>h).mono λ e W' h=>?_
 obtain ⟨v,F',ρ,rfl,hS,hr,hmu⟩:=h
 have hv:v=.bool true:=by
  have:(impR true 0 (.d (.bool true))).1=.d (.bool true):=rfl
  rw [this] at hr
  exact hr.bool
 subst hv
 have hold:∀ b,b<W.heap.size->W'.heap[b]? = W.heap[b]? := λ b hb=>hS.old b (by omega)
 refine ⟨rfl,λ before=>World.keptBut_mono (λ p hp=>hp.elim) (?_:W.keptBut W' λ _=>False),hold⟩
 refine ⟨hmu.1,hmu.2.1,λ i hi=>?_⟩
 rw [hold i hi]
 cases hh:W.heap[i]? with
 | none=>rfl
 | some o=>cases o<;>first|exact ⟨rfl,rfl,rfl,λ _ _=>rfl⟩|exact .inr ⟨rfl,rfl⟩|rfl
theorem post_same {f:Func} {s:ChangeSpec} {apart fresh handsOn again:Bool} {args:Array Value} {ds gs:List (DataW H)} {before pa pv:List MemPlace}
  (hW:DataW.Whole en P f.params.toList s.vars apart W args.toList ds gs before)
  (hres:∀ (b:Nat) (sp:Nat->Bool) (hd:Bool),DataW.TrodAll en P W' b sp hd f.resultTypes.toList (v.resultList f.resultTypes.size) (s.fn H (ds++gs)).results [])
  (hargs:∀ sp:Nat->Bool,(∀ p∈before,sp p.block=true)->DataW.TrodAll en P W' 0 sp true f.params.toList args.toList (s.fn H (ds++gs)).args pa)
  (hvars:∀ sp:Nat->Bool,(∀ p∈before,sp p.block=true)->DataW.TrodVars en P W' sp s.vars (s.fn H (ds++gs)).vars pv)
  (hps:before=pa++pv) (hk:W.keptBut W' (·∈before)) (hold:∀ b,b<W.heap.size->W'.heap[b]? = W.heap[b]?)
  (hok:∀ (j:Nat) (t:TypeId) (r:Value),f.resultTypes[j]? = some t->(v.resultList f.resultTypes.size)[j]? = some r->Value.okWide P W' .any 0 t r) :
  s.post en P f apart fresh handsOn again W args v W':=by
 have hin:∀ p∈before,(λ b=>decide (b<W.heap.size)) p.block=true:=λ p hp=>by simpa using hW.lt p hp
 have hlt:=hW.lt
 refine ⟨ds,gs,before,[],pa,pv,hW,hres _ _ _,hargs _ hin,hvars _ hin,World.keptBut_mono (λ p hp=>⟨hp,?_⟩) hk,λ _=>?_⟩
 ·rw [hps,List.mem_append] at hp
  exact Or.inr hp
 ·obtain ⟨_,_,_,_,_,hz,hn⟩:=hW
  refine ⟨hok,_,_,([]++pa)++pv,⟨[]++pa,pv,trodAll_append (hargs _ (λ _ _=>rfl)) (hres _ _ _),hvars _ (λ _ _=>rfl),rfl,?_,?_⟩,?_⟩
  ·intro b off hp
   have hp:MemPlace.cell b off∈before:=by rw [hps];simpa using hp
   have:=hz b off hp
   simp only [World.frozen?,hold b (hlt _ hp)] at this ⊢
   exact this
  ·intro ha
   have:=hn ha
   rw [hps] at this
   simpa using this
  ·intro p hp _
   rw [hps]
   simpa using hp
theorem stays (hl:laidOutB P=true) (hr:P.readableRec t=true) (hrow:t<P.types.size) (h:DataW.Trod en P W 0 (λ _=>true) true t v d ps) (hb:∀ p∈ps,p.block<W.heap.size) {sp:Nat->Bool} (hs:∀ p∈ps,sp p.block=true) (hold:∀ b,b<W.heap.size->W'.heap[b]? = W.heap[b]?):DataW.Trod en P W' 0 sp true t v d ps:=by
 refine WideElems.Trod_stays hl hr hrow h (λ p hp=>?_) hs
 have:=hb p hp
 cases p with
 | cell b o=>exact World.cell?_of_block (w:=W) (hold b this)
 | map b=>exact hold b this
end Go.AI
end
section
namespace Go.AI
open Go.Proofs Go.ChangeShapes Go.WideShapes Go.ChangeAt Go.RowKit
def okI (k:IntKind) (n:Int):Prop:=(Lit.int k n).wf=true
theorem rd5:Reads Try.prog 5 eU8 (okI .u8):=reads_int Try.underlying5
theorem rd25:Reads Try.prog 25 (eL eU8) (λ l=>∀ a∈l,okI .u8 a):=reads_slice (sz:=1) Try.underlying25 (by kernel_rfl) rfl (λ _=>rfl) rd5
theorem rd60:Reads Try.prog 60 (eArr2 eU8) (λ x=>okI .u8 x.a0∧okI .u8 x.a1):=by
 intro H e w base spare held fuel cs x h
 obtain ⟨m,hcl,hg⟩:=trod_array Try.underlying60 h
 have hcl:cs.length=2:=hcl.trans (by kernel_rfl)
 obtain ⟨a0,k0,c0⟩:=fldA hg 0 rfl 0 1 (by kernel_rfl) rfl rd5
 obtain ⟨a1,k1,c1⟩:=fldA hg 1 rfl 1 1 (by kernel_rfl) rfl rd5
 refine ⟨⟨a0,a1⟩,⟨k0,k1⟩,?_⟩
 have:=crd_part c0 rfl (crd_part c1 rfl (crd_end (Nat.le_of_eq hcl)))
 exact this
def okGRawRule (x:GRawRule):Prop:=(∀ a∈x.P,okI .u8 a)∧(∀ a∈x.C,okI .u8 a)∧okI .u8 x.L∧okI .u8 x.R∧(okI .u8 x.W.a0∧okI .u8 x.W.a1)
theorem rd62:Reads Try.prog 62 eGRawRule okGRawRule:=by
 intro H e w base spare held fuel cs x h
 obtain ⟨xs,n,_,_,hcl,hxl,hg⟩:=DataW.trod_struct Try.underlying62 h
 have hcl:cs.length=6:=hcl.trans (by kernel_rfl)
 obtain ⟨a0,k0,c0⟩:=fld hg hxl 0 rfl 25 0 1 rfl rfl (by kernel_rfl) rd25
 obtain ⟨a1,k1,c1⟩:=fld hg hxl 1 rfl 25 1 1 rfl rfl (by kernel_rfl) rd25
 obtain ⟨a2,k2,c2⟩:=fld hg hxl 2 rfl 5 2 1 rfl rfl (by kernel_rfl) rd5
 obtain ⟨a3,k3,c3⟩:=fld hg hxl 3 rfl 5 3 1 rfl rfl (by kernel_rfl) rd5
 obtain ⟨a4,k4,c4⟩:=fld hg hxl 4 rfl 60 4 2 rfl rfl (by kernel_rfl) rd60
 refine ⟨⟨a0,a1,a2,a3,a4⟩,⟨k0,k1,k2,k3,k4⟩,?_⟩
 have:=crd_part c0 rfl (crd_part c1 rfl (crd_part c2 rfl (crd_part c3 rfl (crd_part c4 rfl (crd_end (Nat.le_of_eq hcl))))))
 exact this
theorem rd22:Reads Try.prog 22 (eL eGRawRule) (λ l=>∀ a∈l,okGRawRule a):=reads_slice (sz:=6) Try.underlying22 (by kernel_rfl) rfl (λ _=>rfl) rd62
def okGRaw (x:GRaw):Prop:=okI .u8 x.Base∧okI .u8 x.Drop∧(∀ a∈x.More,okGRawRule a)
theorem rd24:Reads Try.prog 24 eGRaw okGRaw:=by
 intro H e w base spare held fuel cs x h
 obtain ⟨xs,n,_,_,hcl,hxl,hg⟩:=DataW.trod_struct Try.underlying24 h
 have hcl:cs.length=3:=hcl.trans (by kernel_rfl)
 obtain ⟨a0,k0,c0⟩:=fld hg hxl 0 rfl 5 0 1 rfl rfl (by kernel_rfl) rd5
 obtain ⟨a1,k1,c1⟩:=fld hg hxl 1 rfl 5 1 1 rfl rfl (by kernel_rfl) rd5
 obtain ⟨a2,k2,c2⟩:=fld hg hxl 2 rfl 22 2 1 rfl rfl (by kernel_rfl) rd22
 refine ⟨⟨a0,a1,a2⟩,⟨k0,k1,k2⟩,?_⟩
 have:=crd_part c0 rfl (crd_part c1 rfl (crd_part c2 rfl (crd_end (Nat.le_of_eq hcl))))
 exact this
end Go.AI
end
section
namespace Go.AI
def Le {α:Type} (a b:Option α):Prop:=∀ z,a=some z->b=some z
theorem Le.refl {α:Type} (a:Option α):Le a a:=λ _ h=>h
theorem Le.bind {α β:Type} {a a':Option α} {f f':α->Option β} (h:Le a a') (hf:∀ x,Le (f x) (f' x)):Le (a.bind f) (a'.bind f'):=by
 intro z hz
 obtain ⟨x,h1,h2⟩:=bind_some hz
 rw [h x h1]
 exact hf x z h2
theorem Le.ite {α:Type} {c:Prop} [Decidable c] {a a' b b':Option α} (h:Le a a') (h':Le b b'):Le (if c then a else b) (if c then a' else b'):=by
 split
 ·exact h
 ·exact h'
theorem Le.whl {σ ρ:Type} {body body':σ->Option (σ⊕ρ)} (hb:∀ x,Le (body x) (body' x)):∀ {n m:Nat},n≤m->∀ x,Le (whl body n x) (whl body' m x):=by
 intro n
 induction n with
 | zero=>intro m _ x z hz;cases hz
 | succ n ih=>
  intro m hm x z hz
  cases m with
  | zero=>omega
  | succ m=>
   simp only [Go.AI.whl] at hz ⊢
   cases hx:body x with
   | none=>rw [hx] at hz;cases hz
   | some y=>
    rw [hb x y hx]
    rw [hx] at hz
    cases y with
    | inl y=>exact ih (by omega) y z hz
    | inr r=>exact hz
theorem Le.sum {α β γ:Type} {y:α⊕β} {f f':α->Option γ} {g g':β->Option γ} (hf:∀ a,Le (f a) (f' a)) (hg:∀ b,Le (g b) (g' b)):Le (match y with | .inl a=>f a | .inr b=>g b) (match y with | .inl a=>f' a | .inr b=>g' b):=by
 cases y with
 | inl a=>exact hf a
 | inr b=>exact hg b
def Ev {α:Type} (f:Nat->Option α) (z:α):Prop:=∃ n,∀ m,n≤m->f m=some z
theorem Ev.const {α:Type} {z:α}:Ev (λ _=>some z) z:=⟨0,λ _ _=>rfl⟩
theorem Ev.of {α:Type} {f:Nat->Option α} {z:α} (hm:∀ n m,n≤m->Le (f n) (f m)) {n:Nat} (h:f n=some z):Ev f z:=⟨n,λ m hnm=>hm n m hnm z h⟩
theorem Ev.all {α:Type} {f:Nat->Option α} {z:α} (h:∀ n,f n=some z):Ev f z:=⟨0,λ m _=>h m⟩
theorem Ev.bind {α β:Type} {f:Nat->Option α} {g:Nat->α->Option β} {x:α} {z:β} (h:Ev f x) (hg:Ev (λ n=>g n x) z):Ev (λ n=>(f n).bind (g n)) z:=by
 obtain ⟨n,hn⟩:=h
 obtain ⟨m,hm⟩:=hg
 refine ⟨max n m,λ k hk=>?_⟩
 show (f k).bind (g k)=_
 rw [hn k (by omega)]
 exact hm k (by omega)
theorem Ev.out {α:Type} {f:Nat->Option α} {z:α} (h:Ev f z):∃ n,f n=some z:=by
 obtain ⟨n,hn⟩:=h
 exact ⟨n,hn n (Nat.le_refl n)⟩
theorem Ev.congr {α:Type} {f g:Nat->Option α} {z:α} (h:Ev f z) (e:∀ n,g n=f n):Ev g z:=by
 obtain ⟨n,hn⟩:=h
 exact ⟨n,λ m hm=>by rw [e m];exact hn m hm⟩
theorem Ev.whl {σ ρ:Type} {body:Nat->σ->Option (σ⊕ρ)} {r:ρ} (I:Nat->σ->Prop) (h:∀ k x,I k x->(∃ y j,j<k∧I j y∧Ev (λ n=>body n x) (.inl y))∨Ev (λ n=>body n x) (.inr r)):∀ (k:Nat) (x:σ),I k x->Ev (λ n=>Go.AI.whl (body n) n x) r:=by
 have key:∀ (k:Nat) (x:σ),I k x->∃ N c,∀ n fuel,N≤n->c≤fuel->Go.AI.whl (body n) fuel x=some r:=by
  intro k
  induction k using Nat.strongRecOn with
  | _ k ih=>
   intro x hx
   rcases h k x hx with ⟨y,j,hj,hy,N1,h1⟩|⟨N1,h1⟩
   ·obtain ⟨N2,c,h2⟩:=ih j hj y hy
    refine ⟨max N1 N2,c+1,λ n fuel hn hf=>?_⟩
    cases fuel with
    | zero=>omega
    | succ fuel=>
     have e:=h1 n (by omega)
     simp only at e
     simp only [Go.AI.whl,e]
     exact h2 n fuel (by omega) (by omega)
   ·refine ⟨N1,1,λ n fuel hn hf=>?_⟩
    cases fuel with
    | zero=>omega
    | succ fuel=>
     have e:=h1 n hn
     simp only at e
     simp only [Go.AI.whl,e]
 intro k x hx
 obtain ⟨N,c,hh⟩:=key k x hx
 exact ⟨max N c,λ m hm=>hh m m (by omega) (by omega)⟩
end Go.AI
end
section
namespace Go.AI
theorem lr {α:Type} {x:Option α}:Le x x:=Le.refl x
theorem FL6_rule_le {n m} (_:n≤m) (a b c):Le (FL6_rule n a b c) (FL6_rule m a b c):=lr
theorem FTb_isCharacter_le {n m} (_:n≤m) (a):Le (FTb_isCharacter n a) (FTb_isCharacter m a):=lr
theorem FTb_Text_L1_le {n m} (h:n≤m) (a b):Le (FTb_Text_L1 n a b) (FTb_Text_L1 m a b):=.ite (.bind lr λ _=>.bind (FTb_isCharacter_le h _) λ _=>.ite lr lr) lr
theorem FTb_Text_le {n m} (h:n≤m) (a):Le (FTb_Text n a) (FTb_Text m a):=.bind (Le.whl (λ _=>FTb_Text_L1_le h _ _) h _) λ y1=>by rcases y1 with _|_;exact lr;exact lr
theorem FTb_Class_le {n m} (_:n≤m) (a):Le (FTb_Class n a) (FTb_Class m a):=.ite lr (.ite lr (.ite lr (.ite lr lr)))
theorem FTb_hasSpace_L1_le {n m} (h:n≤m) (a b):Le (FTb_hasSpace_L1 n a b) (FTb_hasSpace_L1 m a b):=.ite (.bind lr λ _=>.bind (FTb_Class_le h _) λ _=>.ite lr lr) lr
theorem FTb_hasSpace_le {n m} (h:n≤m) (a):Le (FTb_hasSpace n a) (FTb_hasSpace m a):=.bind (Le.whl (λ _=>FTb_hasSpace_L1_le h _ _) h _) λ y4=>by rcases y4 with _|_;exact lr;exact lr
theorem FCe_Valid_le {n m} (_:n≤m) (a):Le (FCe_Valid n a) (FCe_Valid m a):=lr
theorem FTb_sound_L1_le {n m} (h:n≤m) (a b):Le (FTb_sound_L1 n a b) (FTb_sound_L1 m a b):=.ite (.bind lr λ _=>.bind (FCe_Valid_le h _) λ _=>.ite lr lr) lr
theorem FTb_sound_le {n m} (h:n≤m) (a b):Le (FTb_sound n a b) (FTb_sound m a b):=.ite lr (.bind (FTb_Text_le h _) λ _=>.ite lr (.ite lr (.ite lr (.bind (FTb_hasSpace_le h _) λ _=>.ite (.bind (Le.ite (lr) (lr)) λ _=>lr) (.bind (Le.whl (λ _=>FTb_sound_L1_le h _ _) h _) λ y7=>by rcases y7 with _|_;exact lr;exact lr)))))
theorem FApi_Cell_L1_le {n m} (_:n≤m) (a b c):Le (FApi_Cell_L1 n a b c) (FApi_Cell_L1 m a b c):=.ite (.bind lr λ _=>.bind lr λ _=>.ite lr lr) lr
theorem FApi_Cell_le {n m} (h:n≤m) (a b):Le (FApi_Cell n a b) (FApi_Cell m a b):=.ite lr (.bind (Le.whl (λ _=>FApi_Cell_L1_le h _ _ _) h _) λ y10=>by rcases y10 with _|_;exact lr;exact lr)
theorem FTb_equal_le {n m} (h:n≤m) (a b):Le (FTb_equal n a b) (FTb_equal m a b):=.bind (Le.ite (FApi_Cell_le h _ _) (lr)) λ _=>lr
theorem FTb_Check_L2_le {n m} (h:n≤m) (a b c d e):Le (FTb_Check_L2 n a b c d e) (FTb_Check_L2 m a b c d e):=.ite (.bind lr λ _=>.bind (FTb_equal_le h _ _) λ _=>.ite lr lr) lr
theorem FTb_Check_L1_le {n m} (h:n≤m) (a b):Le (FTb_Check_L1 n a b) (FTb_Check_L1 m a b):=.ite (.bind lr λ _=>.bind (FTb_sound_le h _ _) λ _=>.ite lr (.bind lr λ _=>.bind (Le.whl (λ _=>FTb_Check_L2_le h _ _ _ _ _) h _) λ y13=>by rcases y13 with _|_;exact lr;exact lr)) lr
theorem FTb_Check_le {n m} (h:n≤m) (a):Le (FTb_Check n a) (FTb_Check m a):=.ite lr (.bind (Le.ite (lr) (lr)) λ _=>.ite lr (.ite lr (.bind (Le.whl (λ _=>FTb_Check_L1_le h _ _) h _) λ y16=>by rcases y16 with _|_;exact lr;exact lr)))
theorem FTb_Valid_le {n m} (h:n≤m) (a):Le (FTb_Valid n a) (FTb_Valid m a):=.bind (FTb_Check_le h _) λ _=>lr
theorem FAu_Start_le {n m} (_:n≤m):Le (FAu_Start n) (FAu_Start m):=lr
theorem FAu_has_le {n m} (_:n≤m) (a b):Le (FAu_has n a b) (FAu_has m a b):=.bind (Le.ite (lr) (lr)) λ _=>lr
theorem FAu_Step_le {n m} (h:n≤m) (a b c):Le (FAu_Step n a b c) (FAu_Step m a b c):=.ite lr (.bind lr λ _=>.bind (Le.ite (FAu_has_le h _ _) (lr)) λ _=>.ite lr (.ite (.ite lr lr) (.bind lr λ _=>.bind (FTb_Class_le h _) λ _=>.bind (FAu_has_le h _ _) λ _=>.ite lr (.bind lr λ _=>.bind (FTb_Class_le h _) λ _=>lr))))
theorem FAu_explore_J1_le {n m} (_:n≤m) (a b c d):Le (FAu_explore_J1 n a b c d) (FAu_explore_J1 m a b c d):=lr
theorem FAu_explore_J2_le {n m} (h:n≤m) (a b c d e f):Le (FAu_explore_J2 n a b c d e f) (FAu_explore_J2 m a b c d e f):=.bind lr λ _=>.bind lr λ _=>FAu_explore_J1_le h _ _ _ _
theorem FAu_explore_L2_le {n m} (h:n≤m) (a b c d e f):Le (FAu_explore_L2 n a b c d e f) (FAu_explore_L2 m a b c d e f):=.ite (.bind lr λ _=>.bind (FAu_Step_le h _ _ _) λ _=>.ite (FAu_explore_J1_le h _ _ _ _) (.ite (.bind lr λ _=>.bind lr λ _=>FAu_explore_J2_le h _ _ _ _ _ _) (FAu_explore_J2_le h _ _ _ _ _ _))) lr
theorem FAu_explore_L1_le {n m} (h:n≤m) (a b c d e):Le (FAu_explore_L1 n a b c d e) (FAu_explore_L1 m a b c d e):=.ite (.bind (Le.whl (λ _=>FAu_explore_L2_le h _ _ _ _ _ _) h _) λ _=>lr) lr
theorem FAu_explore_le {n m} (h:n≤m) (a):Le (FAu_explore n a) (FAu_explore m a):=.bind (FAu_Start_le h) λ _=>.bind (Le.whl (λ _=>FAu_explore_L1_le h _ _ _ _ _) h _) λ _=>lr
theorem FAu_States_le {n m} (h:n≤m) (a):Le (FAu_States n a) (FAu_States m a):=.bind (FAu_explore_le h _) λ _=>lr
theorem FSl_HasPrefix_le {n m} (_:n≤m) (a b):Le (FSl_HasPrefix n a b) (FSl_HasPrefix m a b):=.bind (Le.ite (lr) (lr)) λ _=>lr
theorem FSt_HasPrefix_le {n m} (h:n≤m) (a b):Le (FSt_HasPrefix n a b) (FSt_HasPrefix m a b):=.bind (FSl_HasPrefix_le h _ _) λ _=>lr
theorem FAu_Accepts_le {n m} (h:n≤m) (a b):Le (FAu_Accepts n a b) (FAu_Accepts m a b):=.bind (Le.ite (FAu_has_le h _ _) (lr)) λ _=>.bind (Le.ite (FAu_has_le h _ _) (lr)) λ _=>lr
theorem FCmp_isNaN_int_le {n m} (_:n≤m) (a):Le (FCmp_isNaN_int n a) (FCmp_isNaN_int m a):=lr
theorem FCmp_Less_int_le {n m} (h:n≤m) (a b):Le (FCmp_Less_int n a b) (FCmp_Less_int m a b):=.bind (FCmp_isNaN_int_le h _) λ _=>.bind (Le.ite (FCmp_isNaN_int_le h _) (lr)) λ _=>lr
theorem FSl_isNaN_int_le {n m} (_:n≤m) (a):Le (FSl_isNaN_int n a) (FSl_isNaN_int m a):=lr
theorem FSl_BinarySearch_int_int_L1_le {n m} (h:n≤m) (a b c d):Le (FSl_BinarySearch_int_int_L1 n a b c d) (FSl_BinarySearch_int_int_L1 m a b c d):=.ite (.bind lr λ _=>.bind (FCmp_Less_int_le h _ _) λ _=>.ite lr lr) lr
theorem FSl_BinarySearch_int_int_le {n m} (h:n≤m) (a b):Le (FSl_BinarySearch_int_int n a b) (FSl_BinarySearch_int_int m a b):=.bind (Le.whl (λ _=>FSl_BinarySearch_int_int_L1_le h _ _ _ _) h _) λ _=>.bind (Le.ite (lr) (lr)) λ _=>.bind (Le.ite (lr) (lr)) λ _=>.bind (Le.ite (FSl_isNaN_int_le h _) (lr)) λ _=>.bind (Le.ite (FSl_isNaN_int_le h _) (lr)) λ _=>lr
theorem FTr_column_find_le {n m} (h:n≤m) (a b):Le (FTr_column_find n a b) (FTr_column_find m a b):=.bind (FSl_BinarySearch_int_int_le h _ _) λ _=>.ite lr (.bind lr λ _=>lr)
theorem FTr_newWriter_L1_le {n m} (_:n≤m) (a b c d e f):Le (FTr_newWriter_L1 n a b c d e f) (FTr_newWriter_L1 m a b c d e f):=.ite (.bind lr λ _=>lr) lr
theorem FTr_newWriter_J1_le {n m} (_:n≤m) (a b):Le (FTr_newWriter_J1 n a b) (FTr_newWriter_J1 m a b):=lr
theorem FTr_newWriter_L3_le {n m} (h:n≤m) (a b c d e f g):Le (FTr_newWriter_L3 n a b c d e f g) (FTr_newWriter_L3 m a b c d e f g):=.ite (.bind (FAu_Step_le h _ _ _) λ _=>.ite (.bind lr λ _=>.bind lr λ _=>FTr_newWriter_J1_le h _ _) (FTr_newWriter_J1_le h _ _)) lr
theorem FTr_newWriter_L2_le {n m} (h:n≤m) (a b c d e):Le (FTr_newWriter_L2 n a b c d e) (FTr_newWriter_L2 m a b c d e):=.ite (.bind lr λ _=>.bind (Le.whl (λ _=>FTr_newWriter_L3_le h _ _ _ _ _ _ _) h _) λ _=>lr) lr
theorem FTr_newWriter_le {n m} (h:n≤m) (a b):Le (FTr_newWriter n a b) (FTr_newWriter m a b):=.bind (FAu_States_le h _) λ _=>.bind lr λ _=>.bind (Le.whl (λ _=>FTr_newWriter_L1_le h _ _ _ _ _ _) h _) λ _=>.bind lr λ _=>.bind (Le.whl (λ _=>FTr_newWriter_L2_le h _ _ _ _ _) h _) λ _=>lr
theorem FTr_writer_reach_1_le {n m} (_:n≤m) (a b c d):Le (FTr_writer_reach_1 n a b c d) (FTr_writer_reach_1 m a b c d):=.bind lr λ _=>.bind lr λ _=>.bind lr λ _=>.ite (.bind lr λ _=>.bind lr λ _=>.bind lr λ _=>.bind lr λ _=>lr) lr
theorem FTr_writer_printsx_le {n m} (h:n≤m) (a b c):Le (FTr_writer_printsx n a b c) (FTr_writer_printsx m a b c):=.bind lr λ _=>.bind lr λ _=>.bind (FSt_HasPrefix_le h _ _) λ _=>lr
theorem FSort_le {n m} (_:n≤m) (a):Le (FSort n a) (FSort m a):=lr
theorem FTr_writer_reach_L1_le {n m} (_:n≤m) (a b c):Le (FTr_writer_reach_L1 n a b c) (FTr_writer_reach_L1 m a b c):=.ite (.bind lr λ _=>.bind lr λ _=>.bind lr λ _=>lr) lr
theorem FTr_writer_reach_J3_le {n m} (_:n≤m) (a b c):Le (FTr_writer_reach_J3 n a b c) (FTr_writer_reach_J3 m a b c):=lr
theorem FTr_writer_reach_L4_le {n m} (h:n≤m) (a b c d e f g i):Le (FTr_writer_reach_L4 n a b c d e f g i) (FTr_writer_reach_L4 m a b c d e f g i):=.ite (.bind lr λ _=>.bind (FTr_writer_printsx_le h _ _ _) λ _=>.ite (.bind (FTr_writer_reach_1_le h _ _ _ _) λ _=>FTr_writer_reach_J3_le h _ _ _) (FTr_writer_reach_J3_le h _ _ _)) lr
theorem FTr_writer_reach_J2_le {n m} (h:n≤m) (a b c d e f g):Le (FTr_writer_reach_J2 n a b c d e f g) (FTr_writer_reach_J2 m a b c d e f g):=.bind lr λ _=>.bind (Le.whl (λ _=>FTr_writer_reach_L4_le h _ _ _ _ _ _ _ _) h _) λ _=>lr
theorem FTr_writer_reach_L3_le {n m} (h:n≤m) (a b c d e f):Le (FTr_writer_reach_L3 n a b c d e f) (FTr_writer_reach_L3 m a b c d e f):=.bind lr λ _=>.ite (.bind lr λ _=>.bind lr λ _=>.bind lr λ _=>.bind lr λ _=>.ite (FTr_writer_reach_J2_le h _ _ _ _ _ _ _) (FTr_writer_reach_J2_le h _ _ _ _ _ _ _)) lr
theorem FTr_writer_reach_J1_le {n m} (h:n≤m) (a b c d e):Le (FTr_writer_reach_J1 n a b c d e) (FTr_writer_reach_J1 m a b c d e):=.bind (Le.whl (λ _=>FTr_writer_reach_L3_le h _ _ _ _ _ _) h _) λ _=>.bind lr λ _=>.bind (FSort_le h _) λ _=>.bind lr λ _=>.bind lr λ _=>.bind lr λ _=>lr
theorem FTr_writer_reach_L2_le {n m} (h:n≤m) (a b c d):Le (FTr_writer_reach_L2 n a b c d) (FTr_writer_reach_L2 m a b c d):=.ite (.ite (.bind lr λ _=>.bind (FTb_Class_le h _) λ _=>FTr_writer_reach_J1_le h _ _ _ _ _) (FTr_writer_reach_J1_le h _ _ _ _ _)) lr
theorem FTr_writer_reach_le {n m} (h:n≤m) (a):Le (FTr_writer_reach n a) (FTr_writer_reach m a):=.bind (Le.whl (λ _=>FTr_writer_reach_L1_le h _ _ _) h _) λ _=>.bind (FTr_writer_reach_1_le h _ _ _ _) λ _=>.bind (Le.whl (λ _=>FTr_writer_reach_L2_le h _ _ _ _) h _) λ _=>lr
theorem FTr_writer_price_1_J1_le {n m} (_:n≤m) (a b c):Le (FTr_writer_price_1_J1 n a b c) (FTr_writer_price_1_J1 m a b c):=lr
theorem FTr_writer_price_1_L1_le {n m} (h:n≤m) (a b c d e f g i):Le (FTr_writer_price_1_L1 n a b c d e f g i) (FTr_writer_price_1_L1 m a b c d e f g i):=.ite (.bind lr λ _=>.bind (FTr_writer_printsx_le h _ _ _) λ _=>.ite (FTr_writer_price_1_J1_le h _ _ _) (.bind lr λ _=>.bind (FTr_column_find_le h _ _) λ _=>.bind lr λ _=>.bind lr λ _=>.bind (Le.ite (lr) (lr)) λ _=>.bind (Le.ite (lr) (lr)) λ _=>.ite (.bind lr λ _=>.bind lr λ _=>.bind lr λ _=>FTr_writer_price_1_J1_le h _ _ _) (FTr_writer_price_1_J1_le h _ _ _))) lr
theorem FTr_writer_price_1_le {n m} (h:n≤m) (a b c d e):Le (FTr_writer_price_1 n a b c d e) (FTr_writer_price_1 m a b c d e):=.bind lr λ _=>.bind lr λ _=>.bind lr λ _=>.bind (Le.whl (λ _=>FTr_writer_price_1_L1_le h _ _ _ _ _ _ _ _) h _) λ _=>lr
theorem FTr_writer_price_J1_le {n m} (_:n≤m) (a b):Le (FTr_writer_price_J1 n a b) (FTr_writer_price_J1 m a b):=lr
theorem FTr_writer_price_L2_le {n m} (h:n≤m) (a b c d e f g):Le (FTr_writer_price_L2 n a b c d e f g) (FTr_writer_price_L2 m a b c d e f g):=.ite (.bind lr λ _=>.bind lr λ _=>.bind lr λ _=>.bind lr λ _=>.bind (Le.ite (lr) (lr)) λ _=>.bind (Le.ite (FAu_Accepts_le h _ _) (lr)) λ _=>.ite (.bind lr λ _=>.bind lr λ _=>FTr_writer_price_J1_le h _ _) (FTr_writer_price_J1_le h _ _)) lr
theorem FTr_writer_price_L3_le {n m} (h:n≤m) (a b c d):Le (FTr_writer_price_L3 n a b c d) (FTr_writer_price_L3 m a b c d):=.ite (.bind (FTr_writer_price_1_le h _ _ _ _ _) λ _=>lr) lr
theorem FTr_writer_price_L5_le {n m} (h:n≤m) (a b c d e):Le (FTr_writer_price_L5 n a b c d e) (FTr_writer_price_L5 m a b c d e):=.ite (.bind (FTr_writer_price_1_le h _ _ _ _ _) λ _=>lr) lr
theorem FTr_writer_price_L4_le {n m} (h:n≤m) (a b):Le (FTr_writer_price_L4 n a b) (FTr_writer_price_L4 m a b):=.bind lr λ _=>.bind (Le.whl (λ _=>FTr_writer_price_L5_le h _ _ _ _ _) h _) λ _=>.ite lr lr
theorem FTr_writer_price_L1_le {n m} (h:n≤m) (a b):Le (FTr_writer_price_L1 n a b) (FTr_writer_price_L1 m a b):=.ite (.bind lr λ _=>.bind lr λ _=>.bind lr λ _=>.bind lr λ _=>.bind (Le.whl (λ _=>FTr_writer_price_L2_le h _ _ _ _ _ _ _) h _) λ _=>.bind lr λ _=>.bind (Le.whl (λ _=>FTr_writer_price_L3_le h _ _ _ _) h _) λ _=>.bind (Le.whl (λ _=>FTr_writer_price_L4_le h _ _) h _) λ _=>lr) lr
theorem FTr_writer_price_le {n m} (h:n≤m) (a):Le (FTr_writer_price n a) (FTr_writer_price m a):=.bind (Le.whl (λ _=>FTr_writer_price_L1_le h _ _) h _) λ _=>lr
theorem FTr_writer_writingx_J1_le {n m} (_:n≤m) (a):Le (FTr_writer_writingx_J1 n a) (FTr_writer_writingx_J1 m a):=lr
theorem FTr_writer_writingx_L2_le {n m} (h:n≤m) (a b c d e f):Le (FTr_writer_writingx_L2 n a b c d e f) (FTr_writer_writingx_L2 m a b c d e f):=.ite (.bind lr λ _=>.bind (FTr_writer_printsx_le h _ _ _) λ _=>.ite (FTr_writer_writingx_J1_le h _) (.bind lr λ _=>.bind lr λ _=>.bind (FTr_column_find_le h _ _) λ _=>.ite (FTr_writer_writingx_J1_le h _) (.bind lr λ _=>.bind lr λ _=>lr))) lr
theorem FTr_writer_writingx_L1_le {n m} (h:n≤m) (a b c d e):Le (FTr_writer_writingx_L1 n a b c d e) (FTr_writer_writingx_L1 m a b c d e):=.ite (.bind lr λ _=>.bind (Le.whl (λ _=>FTr_writer_writingx_L2_le h _ _ _ _ _ _) h _) λ y39=>by rcases y39 with _|_;exact lr;exact lr) lr
theorem FTr_writer_writingx_le {n m} (h:n≤m) (a):Le (FTr_writer_writingx n a) (FTr_writer_writingx m a):=.bind lr λ _=>.bind (FTr_column_find_le h _ _) λ _=>.bind (Le.whl (λ _=>FTr_writer_writingx_L1_le h _ _ _ _ _) h _) λ _=>lr
theorem FTr_Write_le {n m} (h:n≤m) (a b):Le (FTr_Write n a b) (FTr_Write m a b):=.bind (FTb_Text_le h _) λ _=>.ite lr (.bind (FTb_Valid_le h _) λ _=>.ite lr (.bind (FTr_newWriter_le h _ _) λ _=>.bind (FTr_writer_reach_le h _) λ _=>.bind (FTr_writer_price_le h _) λ _=>.bind lr λ _=>.bind lr λ _=>.ite lr (.bind (FTr_writer_writingx_le h _) λ _=>lr)))
theorem FR2_SameCells_L1_le {n m} (_:n≤m) (a b c):Le (FR2_SameCells_L1 n a b c) (FR2_SameCells_L1 m a b c):=.ite (.bind lr λ _=>.bind lr λ _=>.ite lr lr) lr
theorem FR2_SameCells_le {n m} (h:n≤m) (a b):Le (FR2_SameCells n a b) (FR2_SameCells m a b):=.ite lr (.bind (Le.whl (λ _=>FR2_SameCells_L1_le h _ _ _) h _) λ y43=>by rcases y43 with _|_;exact lr;exact lr)
theorem FR6_Ints_L1_le {n m} (_:n≤m) (a b c):Le (FR6_Ints_L1 n a b c) (FR6_Ints_L1 m a b c):=.ite (.bind lr λ _=>.bind lr λ _=>.ite lr lr) lr
theorem FR6_Ints_le {n m} (h:n≤m) (a b):Le (FR6_Ints n a b) (FR6_Ints m a b):=.ite lr (.bind (Le.whl (λ _=>FR6_Ints_L1_le h _ _ _) h _) λ y46=>by rcases y46 with _|_;exact lr;exact lr)
theorem FR6_Same_le {n m} (h:n≤m) (a b):Le (FR6_Same n a b) (FR6_Same m a b):=.bind (FR2_SameCells_le h _ _) λ _=>.bind (Le.ite (FR6_Ints_le h _ _) (lr)) λ _=>lr
theorem FL6_writes_le {n m} (h:n≤m) (a b c):Le (FL6_writes n a b c) (FL6_writes m a b c):=.bind (FTr_Write_le h _ _) λ _=>.bind (Le.ite (FR6_Same_le h _ _) (lr)) λ _=>lr
theorem FL6_refuses_le {n m} (h:n≤m) (a b c):Le (FL6_refuses n a b c) (FL6_refuses m a b c):=.bind (FTr_Write_le h _ _) λ _=>.ite lr lr
theorem FTr_Cost_le {n m} (h:n≤m) (a b):Le (FTr_Cost n a b) (FTr_Cost m a b):=.bind (FTr_Write_le h _ _) λ _=>.ite lr lr
theorem FAu_Run_L1_le {n m} (h:n≤m) (a b c d e f g):Le (FAu_Run_L1 n a b c d e f g) (FAu_Run_L1 m a b c d e f g):=.ite (.bind lr λ _=>.bind (FAu_Step_le h _ _ _) λ _=>.ite lr (.bind lr λ _=>.bind lr λ _=>.bind lr λ _=>.bind lr λ _=>lr)) lr
theorem FAu_Run_le {n m} (h:n≤m) (a b):Le (FAu_Run n a b) (FAu_Run m a b):=.bind (FAu_Start_le h) λ _=>.bind (Le.whl (λ _=>FAu_Run_L1_le h _ _ _ _ _ _ _) h _) λ _=>.bind lr λ _=>.bind (Le.ite (FAu_Accepts_le h _ _) (lr)) λ _=>lr
theorem FTr_Writes_le {n m} (h:n≤m) (a b c):Le (FTr_Writes n a b c) (FTr_Writes m a b c):=.bind (FAu_Run_le h _ _) λ _=>.bind (Le.ite (FApi_Cell_le h _ _) (lr)) λ _=>lr
theorem FL6_sanity_le {n m} (h:n≤m):Le (FL6_sanity n) (FL6_sanity m):=.bind (FL6_rule_le h _ _ _) λ _=>.bind (FL6_rule_le h _ _ _) λ _=>.bind (FL6_rule_le h _ _ _) λ _=>.bind (FL6_rule_le h _ _ _) λ _=>.bind (FL6_rule_le h _ _ _) λ _=>.bind (FL6_rule_le h _ _ _) λ _=>.bind (FL6_rule_le h _ _ _) λ _=>.bind (FL6_writes_le h _ _ _) λ _=>.bind (Le.ite (FL6_writes_le h _ _ _) (lr)) λ _=>.bind (Le.ite (FL6_writes_le h _ _ _) (lr)) λ _=>.bind (Le.ite (FL6_writes_le h _ _ _) (lr)) λ _=>.bind (FL6_refuses_le h _ _ _) λ _=>.bind (Le.ite (FL6_refuses_le h _ _ _) (lr)) λ _=>.bind (Le.ite (FL6_refuses_le h _ _ _) (lr)) λ _=>.bind (Le.ite (FTr_Cost_le h _ _) (lr)) λ _=>.bind (Le.ite (FTr_Cost_le h _ _) (lr)) λ _=>.bind (Le.ite (FTr_Cost_le h _ _) (lr)) λ _=>.bind (Le.ite (FTr_Writes_le h _ _ _) (lr)) λ _=>.bind (Le.ite (FTr_Writes_le h _ _ _) (lr)) λ _=>.bind (Le.ite (FTr_Writes_le h _ _ _) (lr)) λ _=>lr
end Go.AI
end
section
namespace Go.AI
theorem wrap64_def (a:Int):IntKind.i64.wrap a=if decide (a % 18446744073709551616≥9223372036854775808)=true then a % 18446744073709551616-18446744073709551616 else a % 18446744073709551616:=rfl
theorem wrap8_def (a:Int):IntKind.u8.wrap a=a % 256:=rfl
theorem wrap64 {a:Int} (h:-9223372036854775808≤a) (h':a<9223372036854775808):IntKind.i64.wrap a=a:=by
 rw [wrap64_def]
 split
 ·rename_i hc;simp at hc;omega
 ·rename_i hc;simp at hc;omega
theorem iadd64 {a b:Int} (h:-9223372036854775808≤a+b) (h':a+b<9223372036854775808):iadd .i64 a b=a+b:=wrap64 h h'
theorem isub64 {a b:Int} (h:-9223372036854775808≤a-b) (h':a-b<9223372036854775808):isub .i64 a b=a-b:=wrap64 h h'
theorem wrap8 {a:Int} (h:0≤a) (h':a<256):IntKind.u8.wrap a=a:=by
 rw [wrap8_def];omega
theorem wrap8_range (a:Int):0≤IntKind.u8.wrap a∧IntKind.u8.wrap a<256:=by
 rw [wrap8_def];omega
def hasS (m k:Int):Bool:=decide (0≤k)&&decide (k<8)&&(iand .u8 (ishr .u8 m k) 1==1)
theorem has_eq (n:Nat) (m k:Int):FAu_has n m k=some (hasS m k):=by
 unfold FAu_has hasS
 by_cases h:0≤k
 ·by_cases h':k<8<;>simp [h,h',guardB]
 ·simp [h]
theorem bit_eq (n:Nat) (m k:Int):FR3_Bit n m k=some (hasS m k):=by
 unfold FR3_Bit hasS
 by_cases h:0≤k
 ·by_cases h':k<8<;>simp [h,h',guardB]
 ·simp [h]
def classS (b:Int):Int:=
 if (decide (97≤iand .u8 b 127)&&decide (iand .u8 b 127≤122))=true then 1
 else if (decide (65≤iand .u8 b 127)&&decide (iand .u8 b 127≤90))=true then 2
 else if (decide (48≤iand .u8 b 127)&&decide (iand .u8 b 127≤57))=true then 3
 else if (iand .u8 b 127==32)=true then 4 else 5
theorem class_eq (n:Nat) (b:Int):FTb_Class n b=some (classS b):=by
 unfold FTb_Class classS
 split
 ·rfl
 ·split
  ·rfl
  ·split
   ·rfl
   ·split<;>rfl
theorem class2_eq (n:Nat) (b:Int):FR2_Class n b=some (classS b):=by
 unfold FR2_Class classS
 simp only [ge_iff_le]
 split
 ·rfl
 ·split
  ·rfl
  ·split
   ·rfl
   ·split<;>rfl
theorem class_range (b:Int):1≤classS b∧classS b≤5:=by
 unfold classS
 split
 ·omega
 ·split
  ·omega
  ·split
   ·omega
   ·split<;>omega
def byteS (s:List UInt8) (i:Nat):Int:=(s[i]?.getD 0).toNat
theorem sidx_eq {s:List UInt8} {i:Nat} (h:i<s.length):sidx s (i:Int)=some (byteS s i):=by
 unfold sidx byteS
 rw [if_pos (by omega)]
 simp
def noneS:GState:=⟨0,0,0⟩
def stepR (r:GRule) (s:GState):GState×Bool:=
 if ((r.From != s.Mode)||!hasS r.Left s.Last)=true then (noneS,false)
 else if (r.Print==[])=true then
  (if (iand .u8 s.Need r.Right==0)=true then (noneS,false) else (⟨r.To,s.Last,iand .u8 s.Need r.Right⟩,true))
 else if (!hasS s.Need (classS (byteS r.Print 0)))=true then (noneS,false)
 else (⟨r.To,classS (byteS r.Print (r.Print.length-1)),r.Right⟩,true)
def stepS (t:GTable) (s:GState) (k:Int):GState×Bool:=
 if (decide (k<0)||decide (k≥(t.Rules.length:Int)))=true then (noneS,false) else stepR (t.Rules[k.toNat]?.getD default) s
def Short (t:GTable):Prop:=∀ r∈t.Rules,r.Print.length<9223372036854775808
theorem idx_getD {α:Type} [Inhabited α] {l:List α} {k:Int} (h:0≤k) (h':k<l.length):idx l k=some (l[k.toNat]?.getD default):=by
 unfold idx
 rw [if_pos h]
 have:k.toNat<l.length:=by omega
 simp [this]
theorem step_eq {t:GTable} (ht:Short t) (n:Nat) (s:GState) (k:Int):FAu_Step n t s k=some (stepS t s k):=by
 unfold FAu_Step stepS
 by_cases hk:(decide (k<0)||decide (k≥(t.Rules.length:Int)))=true
 ·rw [if_pos hk,if_pos hk];rfl
 ·rw [if_neg hk,if_neg hk]
  simp only [Bool.or_eq_true,decide_eq_true_eq,not_or,Int.not_lt,ge_iff_le,Int.not_le] at hk
  rw [idx_getD hk.1 hk.2]
  have hmem:(t.Rules[k.toNat]?.getD default)∈t.Rules:=by
   have:k.toNat<t.Rules.length:=by omega
   simp [this]
  have hlen:=ht _ hmem
  generalize t.Rules[k.toNat]?.getD default=r at hlen ⊢
  simp only [Option.bind_some,has_eq,class_eq]
  unfold stepR
  by_cases h1:r.From=s.Mode
  ·simp only [h1,bne_self_eq_false,Bool.not_false,if_true,Option.bind_some,Bool.false_or]
   by_cases h2:hasS r.Left s.Last=true
   ·simp only [h2,Bool.not_true,Bool.false_eq_true,if_false]
    by_cases h3:r.Print=[]
    ·simp only [h3,beq_self_eq_true,if_true]
     split<;>rfl
    ·have h3':(r.Print==[])=false:=by simpa using h3
     have hpos:0<r.Print.length:=List.length_pos_iff.2 h3
     simp only [h3',Bool.false_eq_true,if_false]
     have e0:=sidx_eq (s:=r.Print) (i:=0) hpos
     simp only [Int.natCast_zero] at e0
     rw [e0]
     have e1:isub .i64 ((r.Print.length:Nat):Int) 1=((r.Print.length-1:Nat):Int):=by rw [isub64 (by omega) (by omega)];omega
     rw [e1,sidx_eq (by omega)]
     simp only [Option.bind_some]
     split<;>rfl
   ·have h2:hasS r.Left s.Last=false:=by simpa using h2
    simp only [h2,Bool.not_false,if_true];rfl
  ·have h1':(r.From != s.Mode)=true:=by simpa using h1
   simp only [h1',Bool.not_true,Bool.false_eq_true,if_false,Option.bind_some,Bool.true_or,if_true];rfl
end Go.AI
end
section
namespace Go.AI
theorem getElem?_lt' {α:Type} {l:List α} {i:Nat} {x:α} (h:l[i]? = some x):i<l.length:=(List.getElem?_eq_some_iff.1 h).1
theorem step3_eq {t:GTable} (ht:Short t) (n:Nat) (s:GState) (k:Int):FR3_Step n t s k=some (stepS t s k):=by
 unfold FR3_Step stepS
 by_cases hk:(decide (k<0)||decide (k≥(t.Rules.length:Int)))=true
 ·rw [if_pos hk,if_pos hk];rfl
 ·rw [if_neg hk,if_neg hk]
  simp only [Bool.or_eq_true,decide_eq_true_eq,not_or,Int.not_lt,ge_iff_le,Int.not_le] at hk
  rw [idx_getD hk.1 hk.2]
  have hmem:(t.Rules[k.toNat]?.getD default)∈t.Rules:=by
   have:k.toNat<t.Rules.length:=by omega
   simp [this]
  have hlen:=ht _ hmem
  generalize t.Rules[k.toNat]?.getD default=r at hlen ⊢
  simp only [Option.bind_some,bit_eq,class2_eq]
  unfold stepR
  by_cases h1:r.From=s.Mode
  ·simp only [h1,bne_self_eq_false,Bool.not_false,if_true,Option.bind_some,Bool.false_or]
   by_cases h2:hasS r.Left s.Last=true
   ·simp only [h2,Bool.not_true,Bool.false_eq_true,if_false]
    by_cases h3:r.Print=[]
    ·simp only [h3,List.length_nil,Int.natCast_zero,beq_self_eq_true,Bool.true_and,if_true]
     split<;>rfl
    ·have h3':(r.Print==[])=false:=by simpa using h3
     have hpos:0<r.Print.length:=List.length_pos_iff.2 h3
     have h4:(((r.Print.length:Nat):Int)==0)=false:=by simp;omega
     simp only [h3',h4,Bool.false_and,Bool.false_eq_true,if_false]
     have e0:=sidx_eq (s:=r.Print) (i:=0) hpos
     simp only [Int.natCast_zero] at e0
     rw [e0]
     have e1:isub .i64 ((r.Print.length:Nat):Int) 1=((r.Print.length-1:Nat):Int):=by rw [isub64 (by omega) (by omega)];omega
     rw [e1,sidx_eq (by omega)]
     simp only [Option.bind_some]
     split<;>rfl
   ·have h2:hasS r.Left s.Last=false:=by simpa using h2
    simp only [h2,Bool.not_false,if_true];rfl
  ·have h1':(r.From != s.Mode)=true:=by simpa using h1
   simp only [h1',Bool.not_true,Bool.false_eq_true,if_false,Option.bind_some,Bool.true_or,if_true];rfl
def acceptsS (t:GTable) (s:GState):Bool:=decide (s.Mode<t.Modes)&&hasS t.Accept s.Mode&&hasS s.Need 0
theorem accepts_eq (n:Nat) (t:GTable) (s:GState):FAu_Accepts n t s=some (acceptsS t s):=by
 unfold FAu_Accepts acceptsS
 simp only [has_eq]
 by_cases h1:s.Mode<t.Modes
 ·cases h2:hasS t.Accept s.Mode<;>simp [h1]
 ·simp [h1]
theorem accepts3_eq (n:Nat) (t:GTable) (s:GState):FR3_Accepts n t s=some (acceptsS t s):=by
 unfold FR3_Accepts acceptsS
 simp only [bit_eq]
 have h0:¬ (0≤s.Mode)->hasS t.Accept s.Mode=false:=λ h=>by simp [hasS,h]
 by_cases h:0≤s.Mode
 ·by_cases h1:s.Mode<t.Modes
  ·cases h2:hasS t.Accept s.Mode<;>simp [h,h1]
  ·simp [h1]
 ·simp [h,h0 h]
theorem eqS (a b:GState):((a.Mode==b.Mode)&&((a.Last==b.Last)&&((a.Need==b.Need)&&true)))=decide (a=b):=by
 cases a;cases b
 simp [Bool.decide_and]
 rfl
def indexS (l:List GState) (s:GState):Int:=match l.findIdx? (λ x=>decide (x=s)) with
 | some i=>i
 | none=>-1
theorem index_ev {l:List GState} {s:GState} (hl:l.length<9223372036854775807):Ev (λ n=>FR3_Index n l s) (indexS l s):=by
 have loop:Ev (λ n=>whl (λ x=>FR3_Index_L1 n l s x) n (0:Int)) (match l.findIdx? (λ x=>decide (x=s)) with|some i=>(.inr (i:Int):Unit⊕Int)|none=>.inl ()):=by
  refine Ev.whl (body:=λ n x=>FR3_Index_L1 n l s x) (λ k x=>∃ i:Nat,x=i∧i≤l.length∧k=l.length-i∧∀ j,j<i->∀ y,l[j]? = some y->y≠s) ?_ l.length 0 ⟨0,rfl,by omega,by omega,λ j hj=>by omega⟩
  rintro k x ⟨i,rfl,hi,rfl,hbefore⟩
  by_cases hlt:i<l.length
  ·have hg:l[i]? = some l[i]:=List.getElem?_eq_getElem hlt
   have hidx:idx l (i:Int)=some l[i]:=by
    unfold idx
    rw [if_pos (by omega)]
    simp
   by_cases he:l[i]=s
   ·right
    refine Ev.all λ n=>?_
    unfold FR3_Index_L1
    rw [if_pos (by simpa using hlt),hidx]
    simp only [Option.bind_some,eqS,he,decide_true,if_true]
    have:l.findIdx? (λ x=>decide (x=s))=some i:=by
     rw [List.findIdx?_eq_some_iff_getElem]
     refine ⟨hlt,by simpa using he,λ j hj=>?_⟩
     have hj':j<l.length:=by omega
     have:=hbefore j hj l[j] (List.getElem?_eq_getElem hj')
     simpa using this
    rw [this]
   ·left
    refine ⟨((i+1:Nat):Int),l.length-(i+1),by omega,⟨i+1,rfl,by omega,rfl,λ j hj y hy=>?_⟩,Ev.all λ n=>?_⟩
    ·by_cases hji:j=i
     ·subst hji;rw [hg] at hy;cases hy;exact he
     ·exact hbefore j (by omega) y hy
    ·unfold FR3_Index_L1
     rw [if_pos (by simpa using hlt),hidx]
     simp only [Option.bind_some,eqS,he,decide_false,Bool.false_eq_true,if_false]
     rw [iadd64 (by omega) (by omega)]
     rfl
  ·right
   have hi':i=l.length:=by omega
   subst hi'
   refine Ev.all λ n=>?_
   unfold FR3_Index_L1
   rw [if_neg (by simp)]
   have:l.findIdx? (λ x=>decide (x=s))=none:=by
    rw [List.findIdx?_eq_none_iff]
    intro y hy
    obtain ⟨j,hj⟩:=List.mem_iff_getElem?.1 hy
    have:=hbefore j (getElem?_lt' hj) y hj
    simpa using this
   rw [this]
 refine (Ev.bind loop (g:=λ _ y=>match y with|Sum.inl _=>some (-1)|Sum.inr z=>some z) (z:=indexS l s) ?_).congr λ n=>?_
 ·unfold indexS
  cases l.findIdx? (λ x=>decide (x=s)) with
  | none=>exact Ev.const
  | some i=>exact Ev.const
 ·rfl
end Go.AI
end
