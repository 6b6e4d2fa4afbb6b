/- Part 5 of 7 of the proof: lemmas about the model and the program's functions, with no condition beyond those that each states. -/
import Derived.Test.YtjaogfjfamffnaaGreatLD
section
namespace Go.AI
open Go.Proofs
set_option maxRecDepth 10000
theorem xok (n kl:Nat):XOK Tryz.prog (cxk n kl):=⟨tyOK,rfl⟩
theorem fO (k:Nat) (s:St) {fn:Func} {f:FuncId} {args:List AV} {r:AV} (hf:Tryz.prog.funcs[f]? = some fn) (h:WP (cxk k 0) (bodyOf fn) [] (postA (cxk k 0).ty fn.results.toList r) s) (hb:fn.body=some (bodyOf fn):=by kernel_rfl) (hnm:(fn.name == "runtime.NumGoroutine")=false:=by kernel_rfl) (hnt:(cxk k 0).nt.n=fn.ntmps:=by kernel_rfl) (hlen:Nat.ble args.length fn.ntmps=true:=by kernel_rfl) (hs:(⟨(List.range args.length).zip args,[]⟩:St)=s:=by kernel_rfl):CallOK Tryz.prog f args r:=fo follows (cxkOK k 0) hf h hb hnm hnt hlen hs
theorem fL (k nb:Nat) (s:St) {fn:Func} {f:FuncId} {args:List AV} {O0 O1:List (Option Ob)} {r:AV} (hf:Tryz.prog.funcs[f]? = some fn) (h:WP (cxk k nb) (bodyOf fn) [] (postL nb (cxk k nb).ty fn.results.toList r O1) s) (hb:fn.body=some (bodyOf fn):=by kernel_rfl) (hnm:(fn.name == "runtime.NumGoroutine")=false:=by kernel_rfl) (hnt:(cxk k nb).nt=⟨fn.ntmps,[],nb⟩:=by kernel_rfl) (hlen:Nat.ble args.length fn.ntmps=true:=by kernel_rfl) (hs:(⟨(List.range args.length).zip args,O0⟩:St)=s:=by kernel_rfl):LentOK Tryz.prog f args O0 nb r O1:=fl follows (cxkOK k nb) hf h hb hnm hnt hlen hs
variable {n:Nat}
def eGRule (x:GRule):List D:=[.str x.Print,.sl<|x.Cells.map eU8,.int .u8 x.Left,.int .u8 x.Right,.int .i64 x.From,.int .i64 x.To]
def eGState (x:GState):List D:=[.int .i64 x.Mode,.int .i64 x.Last,.int .u8 x.Need]
def eGArc (x:GArc):List D:=[.str x.Print,.int .i64 x.Cells,.int .i64 x.To]
def eGColumn (x:GColumn):List D:=[.sl<|x.States.map eI64,.sl<|x.Costs.map eI64]
def eGTranslateArc (x:GTranslateArc):List D:=[.int .i64 x.Rule,.int .i64 x.To]
@[reducible] def eArr2 {α:Type} (e:α->List D) (x:Arr2 α):List D:=e x.a0++e x.a1
def eGRawRule (x:GRawRule):List D:=[.sl<|x.P.map eU8,.sl<|x.C.map eU8,.int .u8 x.L,.int .u8 x.R,.int .u8 x.W.a0,.int .u8 x.W.a1]
def eGRaw (x:GRaw):List D:=[.int .u8 x.Base,.int .u8 x.Drop,.sl<|x.More.map eGRawRule]
def eGSixdotref07Raw (x:GSixdotref07Raw):List D:=[.int .u8 x.At,.int .u8 x.Cut,.sl<|x.L.map eU8]
def bTable_2 (x:GTable) (v2:AV):List AV:=[.d<|.int .i64 x.Modes,.d<|.int .u8 x.Accept,v2]
def bTable (x:GTable):List AV:=[.d<|.int .i64 x.Modes,.d<|.int .u8 x.Accept,.d<|.sl<|x.Rules.map eGRule]
def bState (x:GState):List AV:=[.d<|.int .i64 x.Mode,.d<|.int .i64 x.Last,.d<|.int .u8 x.Need]
def bMemo (x:GMemo):List AV:=[.d<|.str x.Text,.d<|.sl<|x.Costs.map<|eL eI64,.d<|.sl<|x.Least.map eI64]
def bSplice (x:GSplice):List AV:=[.d<|.int .i64 x.At,.d<|.int .i64 x.Cut,.d<|.str x.Put]
def bRule (x:GRule):List AV:=[.d<|.str x.Print,.d<|.sl<|x.Cells.map eU8,.d<|.int .u8 x.Left,.d<|.int .u8 x.Right,.d<|.int .i64 x.From,.d<|.int .i64 x.To]
def bWriter_5_6 (x:GWriter) (v5:AV) (v6:AV):List AV:=[.d<|.int .i64 x.T.Modes,.d<|.int .u8 x.T.Accept,.d<|.sl<|x.T.Rules.map eGRule,.d<|.str x.S,.d<|.sl<|x.States.map eGState,v5,v6,.d<|.int .i64 x.Last]
def bWriter_6 (x:GWriter) (v6:AV):List AV:=[.d<|.int .i64 x.T.Modes,.d<|.int .u8 x.T.Accept,.d<|.sl<|x.T.Rules.map eGRule,.d<|.str x.S,.d<|.sl<|x.States.map eGState,.d<|.sl<|x.Arcs.map<|eL eGTranslateArc,v6,.d<|.int .i64 x.Last]
def bRawRule (x:GRawRule):List AV:=[.d<|.sl<|x.P.map eU8,.d<|.sl<|x.C.map eU8,.d<|.int .u8 x.L,.d<|.int .u8 x.R,.d<|.int .u8 x.W.a0,.d<|.int .u8 x.W.a1]
def bRule_1 (x:GRule) (v1:AV):List AV:=[.d<|.str x.Print,v1,.d<|.int .u8 x.Left,.d<|.int .u8 x.Right,.d<|.int .i64 x.From,.d<|.int .i64 x.To]
def bRaw (x:GRaw):List AV:=[.d<|.int .u8 x.Base,.d<|.int .u8 x.Drop,.d<|.sl<|x.More.map eGRawRule]
def bPoint (x:GPoint):List AV:=[.d<|.str x.S,.d<|.int .i64 x.I,.d<|.int .i64 x.State.Mode,.d<|.int .i64 x.State.Last,.d<|.int .u8 x.State.Need,.d<|.sl<|x.L.map eGState]
def bMemo_1_2 (x:GMemo) (v1:AV) (v2:AV):List AV:=[.d<|.str x.Text,v1,v2]
def bSixdotref07Raw (x:GSixdotref07Raw):List AV:=[.d<|.int .u8 x.At,.d<|.int .u8 x.Cut,.d<|.sl<|x.L.map eU8]
def bResult_0_1 (x:GResult) (v0:AV) (v1:AV):List AV:=[v0,v1,.d<|.int .i64 x.At,.d<|.int .i64 x.E]
def nGColumn (x:GColumn):List AV:=[.own 1<|x.States.map eI64,.own 1<|x.Costs.map eI64]
theorem eqk93:∀ a b:GState,eqCells [.int .i64,.int .i64,.int .u8] ((eGState a).map .d) ((eGState b).map .d)=some (decide (a=b)):=by
  intro a b;cases a;cases b;simp [eqCells,eGState,Bool.decide_and]
  try rfl
section
variable (a:GTable) (c:Int) (b:GTable)
def f19_s0:St:=⟨[],[]⟩
def f19_s2:St:=⟨(0,.ptr 0 0)::(1,.ptr 1 0)::(2,.osl 2 1 0<|List.length<|[[97],[98],[97,98]])::(3,.osl 3 1 0<|List.length [1,3,7])::(4,.d<|.int .i64 c)::[],[some<|.box [.d<|.int .i64 0,.d<|.int .u8 0,.osl 4 6 0<|List.length ([]:List GRule)],some<|.box<|bTable_2 a<|.osl 5 6 0<|a.Rules.length,some<|.arr 1<|List.map eS<|[[97],[98],[97,98]],some<|.arr 1<|List.map eU8 [1,3,7],some<|.arr 6<|List.map eGRule ([]:List GRule),some<|.arr 6<|a.Rules.map eGRule]⟩
def f19_s3:St:=⟨(0,.ptr 0 0)::(1,.ptr 1 0)::[],[some<|.box [.d<|.int .i64 0,.d<|.int .u8 0,.osl 2 6 0<|List.length ([]:List GRule)],some<|.box<|bTable_2 b<|.osl 3 6 0<|b.Rules.length,some<|.arr 6<|List.map eGRule ([]:List GRule),some<|.arr 6<|b.Rules.map eGRule]⟩
def FL7_simple_L1_E:GTable->Ex->St->Prop:=xX 0 0<|λ (y:GTable)=>f19_s3 y
def FL7_simple_L1_S:(GTable×Int)->St:=(λ (x:(GTable×Int))=>f19_s2 x.1 x.2)
variable {a c b}
theorem FL7_simple_L1_ok (x:(GTable×Int)) (z:((GTable×Int)⊕GTable)) (H:FL7_simple_L1 n x.1 x.2=some z):WP (cxk 28 0) (bodyOf Tryz.f19) [1,1,1,1,0,1,0,0] (roundQ 0 (FL7_simple_L1_S) (FL7_simple_L1_E) z) (FL7_simple_L1_S x):=by
 obtain ⟨a,c⟩:=x;refine sq<|sr<|ck 2<|en<|cn H (λ H=>?_)<|λ H=>?_
 ·exact sk<|qz<|sq<|bk 1<|rz<|ck 4<|bx H λ j f H=>sp (at_idxO 2 1 f)<|sp (at_ldA eS 2 0 (ty 9) f)<|ck 2<|bx H λ k g H=>sp (at_idxO 3 1 g)<|sp (at_ldA eU8 3 0 (ty 64) g)<|sF<|ck 2<|bx H λ l h H=>sp (at_appO eGRule 5 6 h)<|ck 2<|ae<|qN<|qz<|rz<|ck 3<|ae (by cases H;exact og<|sg [0,1,2,3,4])
 ·exact ex 0<|qx (by cases H;exact xo rfl<|sg [0,1])
theorem FL7_simple_ok {z} (H:FL7_simple n=some z):CallOK Tryz.prog 19 [] (.agg [.d (.int .i64 z.Modes),.d (.int .u8 z.Accept),.own 6 (z.Rules.map eGRule)]):=by
 exact fO 28 f19_s0 Tryz.func19<|sr<|ck 1<|en<|sr<|ck 3<|en<|sr<|ck 2<|en<|sr<|ck 2<|en<|sq<|sr<|ck 1<|en<|bk 0<|bx H λ m i H=>lX FL7_simple_L1_ok i (tr (tr (sh_nilc 0 2 6 (by kernel_rfl))<|sh_nilc 1 2 6 (by kernel_rfl))<|sg [0,1,2,3,4]) rfl λ s e=>qH<|qs (e)<|sr<|ck 2<|en<|re (by cases H;exact pr<|rO (v:=.agg [.d<|.int .i64 z.Modes,.d<|.int .u8 z.Accept,.osl 3 6 0<|z.Rules.length]) [3]<|a1<|c1 vd<|c1 vd<|c1 vo<|c0)
end
section
variable (a:Int)
def f49_s1:St:=⟨(0,.d<|.int .u8 a)::[],[]⟩
variable {a}
theorem FTb_isCharacter_ok {z} (H:FTb_isCharacter n a=some z):CallOK Tryz.prog 49 [.d (.int .u8 a)] (.d (.bool z)):=by
 exact fO 12 (f49_s1 a) Tryz.func49<|sr<|ck 1<|en<|sr<|ck 3<|en<|sr<|ck 4<|gc 1 (decide<|32<=iand .u8 a 127)<|pA<|ck 1<|en<|re (by cases H;exact pr rd)
end
section
variable (a:(List UInt8)) (b:Int)
def f25_s1:St:=⟨(0,.d<|.str a)::[],[]⟩
def f25_s2:St:=⟨(0,.d<|.str a)::(6,.d<|.int .i64 ((a.length:Nat):Int))::(7,.d<|.int .i64 b)::[],[]⟩
def f25_s3:St:=⟨(0,.d<|.str a)::[],[]⟩
def FTb_Text_L1_E:(Unit⊕(Int×Int))->Ex->St->Prop:=xS (xX 0 0<|λ (_:Unit)=>f25_s3 a)<|xR ty Tryz.f25<|λ (y:(Int×Int))=>.tup [.d<|.int .i64 y.1,.d<|.int .i64 y.2]
def FTb_Text_L1_S:Int->St:=(λ (x:Int)=>f25_s2 a x)
variable {a b}
theorem FTb_Text_L1_ok (x:Int) (z:(Int⊕(Unit⊕(Int×Int)))) (H:FTb_Text_L1 n a x=some z):WP (cxk 19 0) (bodyOf Tryz.f25) [1,0,1,0,0] (roundQ 0 (FTb_Text_L1_S a) (FTb_Text_L1_E a) z) (FTb_Text_L1_S a x):=by
 revert H;generalize x=b;intro H;refine sr<|ck 1<|en<|sq<|cn H (λ H=>?_)<|λ H=>?_
 ·refine sk<|qz<|sq<|bk 1<|sr<|ck 2<|en<|sr<|ck 2<|bx H λ j g H=>sp (at_sidx g)<|bx H λ k h H=>ca false (FTb_isCharacter_ok h)<|ck 1<|en<|cn H (λ H=>?_)<|λ H=>?_
  ·exact sr<|ck 3<|en<|re<|qR<|qr (by cases H;exact ro rfl rdT)
  ·exact sk<|qN<|qz<|rz<|ck 2<|ae (by cases H;exact og<|sg [0,6,7])
 ·exact ex 0<|qx (by cases H;exact xo rfl<|sg [0])
theorem FTb_Text_ok {z} (H:FTb_Text n a=some z):CallOK Tryz.prog 25 [.d (.str a)] (.tup [.d (.int .i64 z.1),.d (.int .i64 z.2)]):=by
 refine fO 19 (f25_s1 a) Tryz.func25<|sr<|ck 2<|en<|sq<|sr<|ck 3<|en<|bk 0<|bx H λ i f H=>?_;rcases i with l|m
 ·exact lX FTb_Text_L1_ok f (sg [0,6,7]) rfl λ s c=>qH<|qs (c)<|sr<|ck 4<|en<|re (by cases H;exact pr rdT)
 ·exact lR FTb_Text_L1_ok f (sg [0,6,7]) rfl λ s e=>qR<|qr (by cases H;exact pr e)
end
def f82_s0:St:=⟨[],[]⟩
theorem FAu_Start_ok {z} (H:FAu_Start n=some z):CallOK Tryz.prog 82 [] (.agg [.d (.int .i64 z.Mode),.d (.int .i64 z.Last),.d (.int .u8 z.Need)]):=by
 exact fO 2 f82_s0 Tryz.func82<|sr<|ck 1<|en<|sr<|ck 2<|en<|re (by cases H;exact pr rd)
section
variable (b:Int) (a:Int)
def f72_s1:St:=⟨(0,.d<|.int .u8 b)::(1,.d<|.int .i64 a)::[],[]⟩
variable {b a}
theorem FAu_has_ok {z} (H:FAu_has n b a=some z):CallOK Tryz.prog 72 [.d (.int .u8 b),.d (.int .i64 a)] (.d (.bool z)):=by
 exact fO 18 (f72_s1 b a) Tryz.func72<|sr<|ck 1<|en<|sr<|ck 4<|gc 1 (decide<|0<=a)<|pA<|ck 3<|bx H λ c e H=>soG (λ hg=>guard_ge<|gimp e hg) (impK (λ hh=>hh)<|impK (λ hh=>hh)<|impZ)<|gc 2 ((decide<|0<=a)&&(decide<|a<8))<|pA<|ck 1<|en<|re (by cases H;exact pr rd)
end
section
variable (a:Int)
def f73_s1:St:=⟨(0,.d<|.int .u8 a)::[],[]⟩
variable {a}
theorem FTb_Class_ok {z} (H:FTb_Class n a=some z):CallOK Tryz.prog 73 [.d (.int .u8 a)] (.d (.int .i64 z)):=by
 refine fO 30 (f73_s1 a) Tryz.func73<|sr<|ck 1<|en<|sr<|ck 3<|en<|sq<|bk 0<|sr<|ck 4<|gc 1 (decide<|97<=iand .u8 a 127)<|pA<|ck 1<|en<|cn H (λ H=>?_)<|λ H=>?_
 ·exact sr<|ck 1<|en<|re<|qR<|qr (by cases H;exact pr rd)
 ·refine sr<|ck 4<|gc 1 (decide<|65<=iand .u8 a 127)<|pA<|ck 1<|en<|cn H (λ H=>?_)<|λ H=>?_
  ·exact sr<|ck 1<|en<|re<|qR<|qr (by cases H;exact pr rd)
  ·refine sr<|ck 4<|gc 1 (decide<|48<=iand .u8 a 127)<|pA<|ck 1<|en<|cn H (λ H=>?_)<|λ H=>?_
   ·exact sr<|ck 1<|en<|re<|qR<|qr (by cases H;exact pr rd)
   ·refine sr<|ck 3<|en<|cn H (λ H=>?_)<|λ H=>?_
    ·exact sr<|ck 1<|en<|re<|qR<|qr (by cases H;exact pr rd)
    ·exact sk<|qN<|qz<|sr<|ck 1<|en<|re (by cases H;exact pr rd)
end
section
variable (b:GTable) (a:GState) (c:Int)
def f52_s1:St:=⟨(0,.agg [.d<|.int .i64 b.Modes,.d<|.int .u8 b.Accept,.d<|.sl<|b.Rules.map eGRule])::(1,.agg [.d<|.int .i64 a.Mode,.d<|.int .i64 a.Last,.d<|.int .u8 a.Need])::(2,.d<|.int .i64 c)::[],[]⟩
variable {b a c}
theorem FAu_Step_ok {z} (H:FAu_Step n b a c=some z):CallOK Tryz.prog 52 [.agg (bTable b),.agg (bState a),.d (.int .i64 c)] (.tup [.agg [.d (.int .i64 z.1.Mode),.d (.int .i64 z.1.Last),.d (.int .u8 z.1.Need)],.d (.bool z.2)]):=by
 refine fO 78 (f52_s1 b a c) Tryz.func52<|sr<|ck 4<|en<|sq<|sr<|ck 5<|gc 1 (!(decide<|c<0))<|sE (g:=(!(decide<|c<0))) (λ hg=>at_len eGRule b.Rules)<|gc 1 (!(decide<|c<0))<|pO<|en<|cn H (λ H=>?_)<|λ H=>?_
 ·exact sr<|ck 3<|en<|re<|qr (by cases H;exact pr rdT)
 ·refine sk<|qz<|sr<|ck 3<|bx H λ e m H=>sp (at_idxD eGRule m)<|ck 3<|en<|sq<|sr<|ck 7<|gc 1 (!(e.From != a.Mode))<|ck 1<|gc 1 (!(e.From != a.Mode))<|bx H λ o f H=>cG false (leZ) rfl (λ hg=>FAu_has_ok<|gimp f hg) (Or.inl rfl) (impK (λ hh=>hh)<|impK (λ hh=>hh)<|impZ) rfl<|gc 1 (!(e.From != a.Mode))<|pO<|en<|cn H (λ H=>?_)<|λ H=>?_
  ·exact sr<|ck 3<|en<|re<|qr (by cases H;exact pr rdT)
  ·refine sk<|qz<|sq<|sr<|ck 3<|en<|cn H (λ H=>?_)<|λ H=>?_
   ·refine sr<|ck 6<|en<|sq<|sr<|ck 2<|en<|cn H (λ H=>?_)<|λ H=>?_
    ·exact sr<|ck 3<|en<|re<|qr<|qr (by cases H;exact pr rdT)
    ·exact sk<|qz<|sr<|ck 8<|en<|re<|qr (by cases H;exact pr rdT)
   ·refine sk<|qz<|sq<|sr<|ck 4<|bx H λ p h H=>sp (at_sidx h)<|bx H λ q i H=>ca false (FTb_Class_ok i)<|bx H λ r j H=>ca false (FAu_has_ok j)<|ck 1<|en<|cn H (λ H=>?_)<|λ H=>?_
    ·exact sr<|ck 3<|en<|re<|qr (by cases H;exact pr rdT)
    ·exact sk<|qz<|sr<|ck 8<|bx H λ s k H=>sp (at_sidx k)<|bx H λ t l H=>ca false (FTb_Class_ok l)<|ck 5<|en<|re (by cases H;exact pr rdT)
end
section
variable (f:GTable) (o:(List GState)) (p:(List (List Int))) (A:(List (GState×Int))) (u:Int) (B:(List GState)) (J:(List (List Int))) (a:(List GState)) (g:(List (List Int))) (b:(List (GState×Int))) (K:Int) (C:(List GState)) (L:(List (List Int))) (I:(List (GState×Int))) (q:(List GState)) (w:(List (List Int))) (E:(List (GState×Int))) (h:(List GState)) (c:(List (List Int))) (r:(List (GState×Int))) (G:Int)
def f71_s1:St:=⟨(0,.agg [.d<|.int .i64 f.Modes,.d<|.int .u8 f.Accept,.d<|.sl<|f.Rules.map eGRule])::[],[]⟩
def f71_s2:St:=⟨(1,.ptr 0 0)::(5,.osl 1 3 0<|o.length)::(6,.osl 2 1 0<|p.length)::(7,.mp 3)::(8,.d<|.int .i64 u)::[],[some<|.box<|bTable f,some<|.arr 3<|o.map eGState,some<|.narr 1<|p.map<|nL 1 eI64,some<|.map true false<|encM eGState eI64 A]⟩
def f71_s3:St:=⟨(5,.osl 0 3 0<|B.length)::(6,.osl 1 1 0<|J.length)::[],[some<|.arr 3<|B.map eGState,some<|.narr 1<|J.map<|nL 1 eI64]⟩
def f71_s4:St:=⟨(1,.ptr 0 0)::(5,.osl 1 3 0<|a.length)::(6,.osl 2 1 0<|g.length)::(7,.mp 3)::(8,.d<|.int .i64 u)::(29,.d<|.int .i64 ((f.Rules.length:Nat):Int))::(30,.d<|.int .i64 K)::[],[some<|.box<|bTable f,some<|.arr 3<|a.map eGState,some<|.narr 1<|g.map<|nL 1 eI64,some<|.map true false<|encM eGState eI64 b]⟩
def f71_s5:St:=⟨(1,.ptr 0 0)::(5,.osl 1 3 0<|C.length)::(6,.osl 2 1 0<|L.length)::(7,.mp 3)::(8,.d<|.int .i64 u)::[],[some<|.box<|bTable f,some<|.arr 3<|C.map eGState,some<|.narr 1<|L.map<|nL 1 eI64,some<|.map true false<|encM eGState eI64 I]⟩
def f71_s6:St:=⟨(1,.ptr 0 0)::(5,.osl 1 3 0<|q.length)::(6,.osl 2 1 0<|w.length)::(7,.mp 3)::(8,.d<|.int .i64 u)::(29,.d<|.int .i64 ((f.Rules.length:Nat):Int))::(30,.d<|.int .i64 K)::[],[some<|.box<|bTable f,some<|.arr 3<|q.map eGState,some<|.narr 1<|w.map<|nL 1 eI64,some<|.map true false<|encM eGState eI64 E]⟩
def f71_s7:St:=⟨(1,.ptr 0 0)::(5,.osl 1 3 0<|h.length)::(6,.osl 2 1 0<|c.length)::(7,.mp 3)::(8,.d<|.int .i64 u)::(12,.d<|.int .i64 G)::(29,.d<|.int .i64 ((f.Rules.length:Nat):Int))::(30,.d<|.int .i64 K)::[],[some<|.box<|bTable f,some<|.arr 3<|h.map eGState,some<|.narr 1<|c.map<|nL 1 eI64,some<|.map true false<|encM eGState eI64 r]⟩
def FAu_explore_L2_E:((List GState)×(List<|List Int)×(List<|GState×Int))->Ex->St->Prop:=xX 0 2<|λ (y:((List GState)×(List<|List Int)×(List<|GState×Int)))=>f71_s5 f u y.1 y.2.1 y.2.2
def FAu_explore_L2_S:((List GState)×(List<|List Int)×(List<|GState×Int)×Int)->St:=(λ (x:((List GState)×(List<|List Int)×(List<|GState×Int)×Int))=>f71_s4 f u x.1 x.2.1 x.2.2.1 x.2.2.2)
def FAu_explore_L1_E:((List GState)×(List<|List Int))->Ex->St->Prop:=xX 0 0<|λ (y:((List GState)×(List<|List Int)))=>f71_s3 y.1 y.2
def FAu_explore_L1_S:((List GState)×(List<|List Int)×(List<|GState×Int)×Int)->St:=(λ (x:((List GState)×(List<|List Int)×(List<|GState×Int)×Int))=>f71_s2 f x.1 x.2.1 x.2.2.1 x.2.2.2)
variable {f o p A u B J a g b K C L I q w E h c r G}
theorem FAu_explore_L2_ok (x:((List GState)×(List (List Int))×(List (GState×Int))×Int)) (z:(((List GState)×(List (List Int))×(List (GState×Int))×Int)⊕((List GState)×(List (List Int))×(List (GState×Int))))) (H:FAu_explore_L2 n f u x.1 x.2.1 x.2.2.1 x.2.2.2=some z):WP (cxk 78 0) (bodyOf Tryz.f71) [1,1,1,1,0,1,0,0,1,0,0,1,0,0] (roundQ 0 (FAu_explore_L2_S f u) (FAu_explore_L2_E f u) z) (FAu_explore_L2_S f u x):=by
 obtain ⟨a,g,b,K⟩:=x;refine sr<|ck 1<|en<|sq<|cn H (λ H=>?_)<|λ H=>?_
 ·refine sk<|qz<|sj (λ (x:((List GState)×(List<|List Int)×(List<|GState×Int)))=>f71_s6 f u K x.1 x.2.1 x.2.2) (λ (x:((List GState)×(List<|List Int)×(List<|GState×Int)))=>FAu_explore_J1 n K x.1 x.2.1 x.2.2) z ?_ (λ i=>?_)
  ·rintro ⟨q,w,E⟩ H;exact rz<|ck 2<|ae (by cases H;exact og<|gP [1,5,6,7,8,29,30] [0,1,2,3]<|po1<|po1<|pn1 (nL 1 eI64) w<|po1<|Pl.z)
  refine bk 3<|sr<|ck 2<|en<|sr<|ck 3<|bx H λ x4 Q H=>sp (at_idxO 1 3 Q)<|sp (at_ldA eGState 1 0 (ty 93) Q)<|ck 1<|bx H λ P U H=>ca false (FAu_Step_ok U)<|ck 6<|en<|sq<|sr<|ck 2<|en<|cn H (λ H=>?_)<|λ H=>?_
  ·exact ex 3<|qx<|qH<|qs (gP [1,5,6,7,8,29,30] [0,1,2,3]<|po1<|po1<|pn1 (nL 1 eI64) g<|po1<|Pl.z)<|i (a,g,b) H
  ·refine sk<|qz<|sr<|ck 2<|sp (at_look1 (enc:=eI64) (encK:=eGState) (k:=3) (e1:=λ x=>.int .i64 x) (m:=b) (l:=[.d<|.int .i64 P.1.Mode,.d<|.int .i64 P.1.Last,.d<|.int .u8 P.1.Need]) (key:=P.1) (z:=0) (vz:=[.int .i64 0]) eqk93 true)<|ck 5<|en<|sj (λ (x:((List GState)×(List<|List Int)×(List<|GState×Int)×Int))=>f71_s7 f u K x.1 x.2.1 x.2.2.1 x.2.2.2) (λ (x:((List GState)×(List<|List Int)×(List<|GState×Int)×Int))=>FAu_explore_J2 n u K x.1 x.2.1 x.2.2.1 x.2.2.2) z ?_ (λ j=>?_)
   ·rintro ⟨h,c,r,G⟩ H;exact bx H λ R M H=>rg (tr (so1 (encN:=(nL 1 eI64)) 2 1 M)<|sno (encN:=(nL 1 eI64)) (enc:=eI64) M [.own 1<|R.map eI64] R 1 2 0 1)<|ck 4<|sp (at_idxO 2 1 M)<|sp (at_ldN (encN:=(nL 1 eI64)) (row:=[.osl 4 1 0<|R.length]) (k:=2) (sz:=1) (off:=0) (t:=ty 35) (v:=.osl 4 1 0<|R.length) M)<|ck 2<|bx H λ O V H=>sp (at_appO eI64 4 1 V)<|sp (at_idxO 2 1 M)<|sp (at_stN (encN:=(nL 1 eI64)) (row:=[.osl 4 1 0<|R.length]) (row':=[.osl 6 1 0<|O.length]) (k:=2) (sz:=1) (off:=0) (t:=ty 35) (v:=.osl 6 1 0<|O.length) M)<|ae<|qN<|qs (tr (tr (tr (tr (tr (sni (encN:=(nL 1 eI64)) (xs:=c) (n:=G) (enc:=eI64) [.osl 6 1 0<|O.length] O 1 2 0 6 1)<|scl (encN:=(nL 1 eI64)) (xss:=c) G [.own 1<|O.map eI64] 1 2 O)<|sn 6 2 1<|lsS c G.toNat O)<|sn 65 2 1<|lsS c G.toNat O)<|sn 67 2 1<|lsS c G.toNat O)<|gP [1,5,6,7,8,29,30] [0,1,2,3]<|po1<|po1<|pn1 (nL 1 eI64) (List.set c G.toNat O)<|po1<|Pl.z)<|i (h,(List.set c G.toNat O),r) H
   refine sr<|ck 2<|en<|cn H (λ H=>?_)<|λ H=>?_
   ·exact sr<|ck 3<|en<|sr<|ck 3<|sp (at_put1 (enc:=eI64) (encK:=eGState) (k:=3) (e1:=λ x=>.int .i64 x) (m:=b) (l:=[.d<|.int .i64 P.1.Mode,.d<|.int .i64 P.1.Last,.d<|.int .u8 P.1.Need]) (key:=P.1) (y:=((a.length:Nat):Int)) (v:=.d<|.int .i64 ((a.length:Nat):Int)) (vz:=[.int .i64 0]) eqk93)<|en<|rz<|ck 3<|bx H λ l3 W H=>sp (at_appO eGState 1 3 W)<|ck 1<|sK false<|bx H λ X S H=>sp (at_appN (encN:=(nL 1 eI64)) (esz:=1) (k:=2) (e:=[.nil]) S)<|ck 2<|ae<|qs (tr (sh_reN (encN:=(nL 1 eI64)) (xss:=g) (yss:=X) (y:=([]:(List Int))) (row:=[.own 0 []]) (sz:=1) 7 (by kernel_rfl) (app_one S) (by kernel_rfl))<|gP [1,5,6,7,8,12,29,30] [0,6,7,3]<|po1<|po1<|pn1 (nL 1 eI64) X<|po1<|Pl.z)<|j (l3,X,(mput P.1 ((a.length:Nat):Int) b),((a.length:Nat):Int)) H
   ·exact sk<|qs (gP [1,5,6,7,8,12,29,30] [0,1,2,3]<|po1<|po1<|pn1 (nL 1 eI64) g<|po1<|Pl.z)<|j (a,g,b,(Option.getD (mget P.1 b) 0)) H
 ·exact ex 2<|qx (by cases H;exact xo rfl<|gP [1,5,6,7,8] [0,1,2,3]<|po1<|po1<|pn1 (nL 1 eI64) g<|po1<|Pl.z)
theorem FAu_explore_L1_ok (x:((List GState)×(List (List Int))×(List (GState×Int))×Int)) (z:(((List GState)×(List (List Int))×(List (GState×Int))×Int)⊕((List GState)×(List (List Int))))) (H:FAu_explore_L1 n f x.1 x.2.1 x.2.2.1 x.2.2.2=some z):WP (cxk 78 0) (bodyOf Tryz.f71) [1,1,1,1,0,1,0,0] (roundQ 0 (FAu_explore_L1_S f) (FAu_explore_L1_E) z) (FAu_explore_L1_S f x):=by
 obtain ⟨o,p,A,u⟩:=x;refine sq<|sr<|ck 4<|en<|cn H (λ H=>?_)<|λ H=>?_
 ·exact sk<|qz<|sq<|bk 1<|sr<|ck 2<|sp (at_len eGRule f.Rules)<|ck 1<|en<|bk 2<|bx H λ y5 Y H=>lX FAu_explore_L2_ok Y (gP [1,5,6,7,8,29,30] [0,1,2,3]<|po1<|po1<|pn1 (nL 1 eI64) p<|po1<|Pl.z) rfl λ s Z=>qH<|qN<|qs (Z)<|rz<|ck 3<|ae (by cases H;exact og<|gP [1,5,6,7,8] [0,1,2,3]<|po1<|po1<|pn1 (nL 1 eI64) y5.2.1<|po1<|Pl.z)
 ·exact ex 0<|qx (by cases H;exact xo rfl<|gP [5,6] [1,2]<|po1<|pn1 (nL 1 eI64) p<|Pl.z)
theorem FAu_explore_ok {z} (H:FAu_explore n f=some z):CallOK Tryz.prog 71 [.agg (bTable f)] (.tup [.own 3 (z.1.map eGState),.d (.sl (z.2.map (eL eI64)))]):=by
 exact fO 78 (f71_s1 f) Tryz.func71<|sr<|ck 3<|en<|sr<|bx H λ T aa H=>ca false (FAu_Start_ok aa)<|ck 2<|en<|sr<|ck 2<|sK true<|ck 2<|en<|sq<|rg (sh_toN (sz:=1) (es:=[[.nil]]) 3 (List.map (nL 1 eI64) ([[]]:List (List Int))) (by kernel_rfl) (by kernel_rfl))<|ck 2<|sp (at_put1 (enc:=eI64) (encK:=eGState) (k:=4) (e1:=λ x=>.int .i64 x) (m:=[]) (l:=[.d<|.int .i64 T.Mode,.d<|.int .i64 T.Last,.d<|.int .u8 T.Need]) (key:=T) (y:=0) (v:=.d<|.int .i64 0) (vz:=[.int .i64 0]) eqk93)<|ck 2<|en<|sq<|sr<|ck 1<|en<|bk 0<|bx H λ y6 ac H=>lX FAu_explore_L1_ok ac (gP [1,5,6,7,8] [0,2,3,4]<|po1<|po1<|pn1 (nL 1 eI64) ([[]]:List (List Int))<|po1<|Pl.z) rfl λ s af=>qH<|qs (af)<|sr<|ck 4<|ae<|qs (sh_frzN (encN:=(nL 1 eI64)) (encD:=(eL eI64)) (xss:=y6.2) (k:=1) (sz:=1) 3 (by kernel_rfl) (λ _=>rfl)<|λ _=>rfl)<|re (by cases H;exact pr<|rT (vs:=[.osl 0 3 0<|y6.1.length,.d<|.sl<|y6.2.map<|eL eI64]) [0]<|t1 (ao vo)<|t1 (ad vd)<|t0)
end
section
variable (a:GTable)
def f50_s1:St:=⟨(0,.agg [.d<|.int .i64 a.Modes,.d<|.int .u8 a.Accept,.d<|.sl<|a.Rules.map eGRule])::[],[]⟩
variable {a}
theorem FAu_States_ok {z} (H:FAu_States n a=some z):CallOK Tryz.prog 50 [.agg (bTable a)] (.own 3 (z.map eGState)):=by
 exact fO 11 (f50_s1 a) Tryz.func50<|sr<|ck 2<|en<|sr<|ck 1<|bx H λ c b H=>cl [List.length c.1] (FAu_explore_ok b)<|ck 5<|en<|sr<|ck 2<|en<|re (by cases H;exact pr<|rO (v:=.osl 1 3 0<|c.1.length) [1]<|ao vo)
end
section
variable (a:GTable) (b:GState)
def f51_s1:St:=⟨(0,.agg [.d<|.int .i64 a.Modes,.d<|.int .u8 a.Accept,.d<|.sl<|a.Rules.map eGRule])::(1,.agg [.d<|.int .i64 b.Mode,.d<|.int .i64 b.Last,.d<|.int .u8 b.Need])::[],[]⟩
variable {a b}
theorem FAu_Accepts_ok {z} (H:FAu_Accepts n a b=some z):CallOK Tryz.prog 51 [.agg (bTable a),.agg (bState b)] (.d (.bool z)):=by
 exact fO 22 (f51_s1 a b) Tryz.func51<|sr<|ck 3<|en<|sr<|ck 7<|gc 1 (decide<|b.Mode<a.Modes)<|ck 1<|gc 1 (decide<|b.Mode<a.Modes)<|bx H λ f c H=>cG false (leZ) rfl (λ hg=>FAu_has_ok<|gimp c hg) (Or.inl rfl) (impK (λ hh=>hh)<|impK (λ hh=>hh)<|impZ) rfl<|pA<|ck 2<|gc 1 ((decide<|b.Mode<a.Modes)&&f)<|bx H λ g e H=>cG false (leZ) rfl (λ hg=>FAu_has_ok<|gimp e hg) (Or.inl rfl) (impK (λ hh=>hh)<|impZ) rfl<|pA<|ck 1<|en<|re (by cases H;exact pr rd)
end
section
variable (a:(List UInt8)) (b:(List UInt8))
def f74_s1:St:=⟨(0,.d<|.str a)::(1,.d<|.str b)::[],[]⟩
variable {a b}
theorem FSl_HasPrefix_ok {z} (H:FSl_HasPrefix n a b=some z):CallOK Tryz.prog 74 [.d (.str a),.d (.str b)] (.d (.bool z)):=by
 exact fO 18 (f74_s1 a b) Tryz.func74<|sr<|ck 1<|en<|sr<|ck 8<|gc 1 (decide<|((a.length:Nat):Int)>=((b.length:Nat):Int))<|bx H λ e c H=>sE (λ hg=>at_ssub<|gimp c hg)<|ck 1<|gc 1 (decide<|((a.length:Nat):Int)>=((b.length:Nat):Int))<|pA<|ck 1<|en<|re (by cases H;exact pr rd)
end
section
variable (a:(List UInt8)) (b:(List UInt8))
def f55_s1:St:=⟨(0,.d<|.str a)::(1,.d<|.str b)::[],[]⟩
variable {a b}
theorem FSt_HasPrefix_ok {z} (H:FSt_HasPrefix n a b=some z):CallOK Tryz.prog 55 [.d (.str a),.d (.str b)] (.d (.bool z)):=by
 exact fO 8 (f55_s1 a b) Tryz.func55<|sr<|ck 1<|en<|sr<|ck 2<|bx H λ e c H=>ca true (FSl_HasPrefix_ok c)<|ck 1<|en<|re (by cases H;exact pr rd)
end
section
variable (b:GTable) (w:GGraph) (a:(List GState)) (g:(List (GState×Int))) (A:Int) (i:(List (GState×Int))) (o:(List (GState×Int))) (p:GGraph) (c:Int) (B:GGraph) (j:GState) (f:GGraph) (r:Int) (C:GGraph) (q:GGraph)
def f26k0_s1:St:=⟨(0,.agg [.d<|.int .i64 b.Modes,.d<|.int .u8 b.Accept,.d<|.sl<|b.Rules.map eGRule])::[],[]⟩
def f26k0_s2:St:=⟨(2,.ptr 0 0)::[],[some<|.box [.osl 1 1 0<|w.Arcs.length,.osl 2 1 0<|w.Accepts.length],some<|.narr 1<|w.Arcs.map<|nL 3 eGArc,some<|.arr 1<|w.Accepts.map eB]⟩
def f26k0_s3:St:=⟨(1,.ptr 0 0)::(3,.d<|.sl<|a.map eGState)::(4,.mp 1)::(19,.d<|.sl<|a.map eGState)::(20,.d<|.int .i64 ((a.length:Nat):Int))::(21,.d<|.int .i64 A)::[],[some<|.box<|bTable b,some<|.map true false<|encM eGState eI64 g]⟩
def f26k0_s4:St:=⟨(1,.ptr 0 0)::(3,.d<|.sl<|a.map eGState)::(4,.mp 1)::[],[some<|.box<|bTable b,some<|.map true false<|encM eGState eI64 i]⟩
def FRv_newGraph_L1_E:(List<|GState×Int)->Ex->St->Prop:=xX 0 0<|λ (y:(List<|GState×Int))=>f26k0_s4 b a y
def FRv_newGraph_L1_S:((List<|GState×Int)×Int)->St:=(λ (x:((List<|GState×Int)×Int))=>f26k0_s3 b a x.1 x.2)
def f26k0_s5:St:=⟨(1,.ptr 0 0)::(4,.mp 1)::(7,.ptr 2 0)::(38,.d<|.sl<|a.map eGState)::(39,.d<|.int .i64 ((a.length:Nat):Int))::(40,.d<|.int .i64 c)::[],[some<|.box<|bTable b,some<|.map true false<|encM eGState eI64 o,some<|.box [.osl 3 1 0<|p.Arcs.length,.osl 4 1 0<|p.Accepts.length],some<|.narr 1<|p.Arcs.map<|nL 3 eGArc,some<|.arr 1<|p.Accepts.map eB]⟩
def f26k0_s6:St:=⟨(7,.ptr 0 0)::[],[some<|.box [.osl 1 1 0<|B.Arcs.length,.osl 2 1 0<|B.Accepts.length],some<|.narr 1<|B.Arcs.map<|nL 3 eGArc,some<|.arr 1<|B.Accepts.map eB]⟩
def f26k0_s7:St:=⟨(1,.ptr 0 0)::(4,.mp 1)::(7,.ptr 2 0)::(8,.d<|.int .i64 c)::(9,.ptr 3 0)::(38,.d<|.sl<|a.map eGState)::(39,.d<|.int .i64 ((a.length:Nat):Int))::(40,.d<|.int .i64 c)::(55,.d<|.sl<|b.Rules.map eGRule)::(56,.d<|.int .i64 ((b.Rules.length:Nat):Int))::(57,.d<|.int .i64 r)::[],[some<|.box<|bTable b,some<|.map true false<|encM eGState eI64 o,some<|.box [.osl 4 1 0<|f.Arcs.length,.osl 5 1 0<|f.Accepts.length],some<|.box<|bState j,some<|.narr 1<|f.Arcs.map<|nL 3 eGArc,some<|.arr 1<|f.Accepts.map eB]⟩
def f26k0_s8:St:=⟨(1,.ptr 0 0)::(4,.mp 1)::(7,.ptr 2 0)::(38,.d<|.sl<|a.map eGState)::(39,.d<|.int .i64 ((a.length:Nat):Int))::(40,.d<|.int .i64 c)::[],[some<|.box<|bTable b,some<|.map true false<|encM eGState eI64 o,some<|.box [.osl 3 1 0<|C.Arcs.length,.osl 4 1 0<|C.Accepts.length],some<|.narr 1<|C.Arcs.map<|nL 3 eGArc,some<|.arr 1<|C.Accepts.map eB]⟩
def f26k0_s9:St:=⟨(1,.ptr 0 0)::(4,.mp 1)::(7,.ptr 2 0)::(8,.d<|.int .i64 c)::(9,.ptr 3 0)::(38,.d<|.sl<|a.map eGState)::(39,.d<|.int .i64 ((a.length:Nat):Int))::(40,.d<|.int .i64 c)::(55,.d<|.sl<|b.Rules.map eGRule)::(56,.d<|.int .i64 ((b.Rules.length:Nat):Int))::(57,.d<|.int .i64 r)::[],[some<|.box<|bTable b,some<|.map true false<|encM eGState eI64 o,some<|.box [.osl 4 1 0<|q.Arcs.length,.osl 5 1 0<|q.Accepts.length],some<|.box<|bState j,some<|.narr 1<|q.Arcs.map<|nL 3 eGArc,some<|.arr 1<|q.Accepts.map eB]⟩
def FRv_newGraph_L3_E:GGraph->Ex->St->Prop:=xX 0 4<|λ (y:GGraph)=>f26k0_s8 b a o c y
def FRv_newGraph_L3_S:(GGraph×Int)->St:=(λ (x:(GGraph×Int))=>f26k0_s7 b a o c j x.1 x.2)
def FRv_newGraph_L2_E:GGraph->Ex->St->Prop:=xX 0 2<|λ (y:GGraph)=>f26k0_s6 y
def FRv_newGraph_L2_S:(GGraph×Int)->St:=(λ (x:(GGraph×Int))=>f26k0_s5 b a o x.1 x.2)
variable {b w a g A i o p c B j f r C q}
theorem FRv_newGraph_L1_ok (x:((List (GState×Int))×Int)) (z:(((List (GState×Int))×Int)⊕(List (GState×Int)))) (H:FRv_newGraph_L1 n b a x.1 x.2=some z):WP (cxk 97 0) (bodyOf Tryz.f26) [1,1,1,0,1,0,0] (roundQ 0 (FRv_newGraph_L1_S b a) (FRv_newGraph_L1_E b a) z) (FRv_newGraph_L1_S b a x):=by
 obtain ⟨g,A⟩:=x;refine sr<|ck 1<|en<|sq<|cn H (λ H=>?_)<|λ H=>?_
 ·exact sk<|qz<|sq<|bk 1<|sr<|ck 1<|bx H λ G M H=>sp (at_idxD eGState M)<|ck 4<|en<|rz<|ck 3<|sp (at_put1 (enc:=eI64) (encK:=eGState) (k:=1) (e1:=λ x=>.int .i64 x) (m:=g) (l:=[.d<|.int .i64 G.Mode,.d<|.int .i64 G.Last,.d<|.int .u8 G.Need]) (key:=G) (y:=A) (v:=.d<|.int .i64 A) (vz:=[.int .i64 0]) eqk93)<|ae<|qN<|qz<|rz<|ck 2<|ae (by cases H;exact og<|sg [1,3,4,19,20,21])
 ·exact ex 0<|qx (by cases H;exact xo rfl<|sg [1,3,4])
theorem FRv_newGraph_L3_ok (x:(GGraph×Int)) (z:((GGraph×Int)⊕GGraph)) (H:FRv_newGraph_L3 n b a o c j x.1 x.2=some z):WP (cxk 97 0) (bodyOf Tryz.f26) [1,1,1,1,1,0,1,0,0,1,1,0,0,1,1,1,0,0] (roundQ 0 (FRv_newGraph_L3_S b a o c j) (FRv_newGraph_L3_E b a o c) z) (FRv_newGraph_L3_S b a o c j x):=by
 obtain ⟨f,r⟩:=x;refine sr<|ck 1<|en<|sq<|cn H (λ H=>?_)<|λ H=>?_
 ·refine sk<|qz<|sj (λ (x:GGraph)=>f26k0_s9 b a o c j r x) (λ (x:GGraph)=>FRv_newGraph_J1 n r x) z ?_ (λ e=>?_)
  ·intro q H;exact rz<|ck 2<|ae (by cases H;exact og<|gP [1,4,7,8,9,38,39,40,55,56,57] [0,1,2,3,4,5]<|po1<|po1<|po1<|po1<|pn1 (nL 3 eGArc) q.Arcs<|po1<|Pl.z)
  refine bk 5<|sr<|ck 1<|bx H λ O P H=>sp (at_idxD eGRule P)<|ck 4<|en<|sr<|ck 3<|bx H λ I Q H=>ca false (FAu_Step_ok Q)<|ck 6<|en<|sr<|ck 1<|en<|cn H (λ H=>?_)<|λ H=>?_
  ·exact bx H λ E u H=>rg (tr (so1 (encN:=(nL 3 eGArc)) 4 1 u)<|sno (encN:=(nL 3 eGArc)) (enc:=eGArc) u [.own 3<|E.map eGArc] E 1 4 0 3)<|ck 10<|sp (at_idxO 4 1 u)<|sp (at_ldN (encN:=(nL 3 eGArc)) (row:=[.osl 8 3 0<|E.length]) (k:=4) (sz:=1) (off:=0) (t:=ty 116) (v:=.osl 8 3 0<|E.length) u)<|ck 4<|sp (at_len eU8 O.Cells)<|ck 2<|sp (at_look1 (enc:=eI64) (encK:=eGState) (k:=1) (e1:=λ x=>.int .i64 x) (m:=o) (l:=[.d<|.int .i64 I.1.Mode,.d<|.int .i64 I.1.Last,.d<|.int .u8 I.1.Need]) (key:=I.1) (z:=0) (vz:=[.int .i64 0]) eqk93 false)<|ck 2<|bx H λ h R H=>sp (at_appO eGArc 8 3 R)<|sp (at_idxO 4 1 u)<|sp (at_stN (encN:=(nL 3 eGArc)) (row:=[.osl 8 3 0<|E.length]) (row':=[.osl 10 3 0<|h.length]) (k:=4) (sz:=1) (off:=0) (t:=ty 116) (v:=.osl 10 3 0<|h.length) u)<|ae<|qN<|qs (tr (tr (tr (tr (tr (sni (encN:=(nL 3 eGArc)) (xs:=f.Arcs) (n:=c) (enc:=eGArc) [.osl 10 3 0<|h.length] h 1 4 0 10 3)<|scl (encN:=(nL 3 eGArc)) (xss:=f.Arcs) c [.own 3<|h.map eGArc] 1 4 h)<|sn 73 4 1<|lsS f.Arcs c.toNat h)<|sn 78 4 1<|lsS f.Arcs c.toNat h)<|snc 2 0 4 1<|lsS f.Arcs c.toNat h)<|gP [1,4,7,8,9,38,39,40,55,56,57] [0,1,2,3,4,5]<|po1<|po1<|po1<|po1<|pn1 (nL 3 eGArc) (List.set f.Arcs c.toNat h)<|po1<|Pl.z)<|e ({ Arcs:=List.set f.Arcs c.toNat h,Accepts:=f.Accepts }:GGraph) H
  ·exact sk<|qN<|qs (gP [1,4,7,8,9,38,39,40,55,56,57] [0,1,2,3,4,5]<|po1<|po1<|po1<|po1<|pn1 (nL 3 eGArc) f.Arcs<|po1<|Pl.z)<|e f H
 ·exact ex 4<|qx (by cases H;exact xo rfl<|gP [1,4,7,38,39,40] [0,1,2,4,5]<|po1<|po1<|po1<|pn1 (nL 3 eGArc) f.Arcs<|po1<|Pl.z)
theorem FRv_newGraph_L2_ok (x:(GGraph×Int)) (z:((GGraph×Int)⊕GGraph)) (H:FRv_newGraph_L2 n b a o x.1 x.2=some z):WP (cxk 97 0) (bodyOf Tryz.f26) [1,1,1,1,1,0,1,0,0] (roundQ 0 (FRv_newGraph_L2_S b a o) (FRv_newGraph_L2_E) z) (FRv_newGraph_L2_S b a o x):=by
 obtain ⟨p,c⟩:=x;refine sr<|ck 1<|en<|sq<|cn H (λ H=>?_)<|λ H=>?_
 ·exact sk<|qz<|sq<|bk 3<|sr<|ck 1<|bx H λ j S H=>sp (at_idxD eGState S)<|ck 4<|en<|sr<|ck 7<|bx H λ ac T H=>ca false (FAu_Accepts_ok T)<|bx H λ af L H=>sp (at_idxO 4 1 L)<|bx H λ ag K H=>stA eB 4 0 (ty 4) L K<|en<|sq<|rg (tr (sn 48 4 1<|put_len K)<|snc 2 1 4 1<|put_len K)<|ck 2<|sp (at_len eGRule b.Rules)<|ck 1<|en<|bk 4<|bx H λ y9 U H=>lX FRv_newGraph_L3_ok U (gP [1,4,7,8,9,38,39,40,55,56,57] [0,1,2,5,3,4]<|po1<|po1<|po1<|po1<|pn1 (nL 3 eGArc) p.Arcs<|po1<|Pl.z) rfl λ s V=>qH<|qN<|qs (V)<|rz<|ck 2<|ae (by cases H;exact og<|gP [1,4,7,38,39,40] [0,1,2,3,4]<|po1<|po1<|po1<|pn1 (nL 3 eGArc) y9.Arcs<|po1<|Pl.z)
 ·exact ex 2<|qx (by cases H;exact xo rfl<|gP [7] [2,3,4]<|po1<|pn1 (nL 3 eGArc) p.Arcs<|po1<|Pl.z)
theorem FRv_newGraph_ok {z} (H:FRv_newGraph n b=some z):LentOK Tryz.prog 26 [.agg (bTable b)] [] 0 (.ptr 0 0) [some (.box [.osl 1 1 0 (z.Arcs.length),.osl 2 1 0 (z.Accepts.length)]),some (.narr 1 (z.Arcs.map (nL 3 eGArc))),some (.arr 1 (z.Accepts.map eB))]:=by
 exact fL 97 0 (f26k0_s1 b) Tryz.func26<|sr<|ck 2<|en<|sr<|ck 1<|bx H λ a W H=>ca false (FAu_States_ok W)<|ck 1<|en<|sr<|ck 1<|sp (at_len eGState a)<|ck 2<|en<|sq<|sr<|ck 1<|sp (at_len eGState a)<|ck 1<|en<|bk 0<|bx H λ o X H=>lX FRv_newGraph_L1_ok X (sg [1,3,4,19,20,21]) rfl λ s Y=>qH<|qs (Y)<|sr<|ck 1<|sp (at_len eGState a)<|bx H λ l9 J H=>sp (at_mkZ 1 (ez:=[.nil]) J)<|ck 1<|sp (at_len eGState a)<|bx H λ aj Z H=>sp (at_mk eB 1 Z)<|ck 3<|en<|sq<|sq<|rg (tr (tr (sh_toM (encN:=(nL 3 eGArc)) (sz:=1) (z:=[.nil]) (n:=((a.length:Nat):Int)) 2 (mkl_rep J) (by kernel_rfl) (by kernel_rfl))<|sn 32 2 1<|mkl_len J)<|snc 4 0 2 1<|mkl_len J)<|ck 1<|sp (at_len eGState a)<|ck 1<|en<|bk 2<|bx H λ ak aa H=>lX FRv_newGraph_L2_ok aa (gP [1,4,7,38,39,40] [0,1,4,2,3]<|po1<|po1<|po1<|pn1 (nL 3 eGArc) l9<|po1<|Pl.z) rfl λ s ab=>qH<|qs (ab)<|sr<|ck 2<|en<|re (by cases H;exact pL<|rl (s':=f26k0_s2 z)<|gP [2] [0,1,2]<|po1<|pn1 (nL 3 eGArc) z.Arcs<|po1<|Pl.z)
end
section
variable (b:(List UInt8)) (a:GGraph) (j:(List (Nat×Nat))) (k:(List Int)) (i:(List Int)) (e:(List Int)) (f:(List Int)) (g:(List (Nat×Nat))) (c:Int) (l:(List (Nat×Nat)))
def f28k0_s1:St:=⟨(0,.ptr 0 0)::(1,.d<|.str b)::[],[some<|.box [.d<|.sl<|a.Arcs.map<|eL eGArc,.d<|.sl<|a.Accepts.map eB]]⟩
def f28k0_s2:St:=⟨(4,.ptr 1 0)::[],[some<|.box [.d<|.sl<|a.Arcs.map<|eL eGArc,.d<|.sl<|a.Accepts.map eB],some<|.box [.d<|.str b,.osl 2 1 0<|j.length,.osl 3 1 0<|k.length],some<|.cut 4 1 j,some<|.arr 1<|k.map eI64,some<|.arr 1<|i.map eI64]⟩
def f28k0_s3:St:=⟨(4,.ptr 1 0)::(5,.d<|.int .i64 ((a.Arcs.length:Nat):Int))::(7,.ptr 2 0)::(8,.osl 3 1 0<|f.length)::(28,.d<|.int .i64<|iadd .i64 ((b.length:Nat):Int) 1)::(29,.d<|.int .i64 c)::[],[some<|.box [.d<|.sl<|a.Arcs.map<|eL eGArc,.d<|.sl<|a.Accepts.map eB],some<|.box [.d<|.str [],.osl 4 1 0<|List.length ([]:List (List Int)),.osl 5 1 0<|List.length ([]:List Int)],some<|.box [.d<|.str b,.osl 6 1 0<|g.length,.osl 7 1 0<|e.length],some<|.arr 1<|f.map eI64,some<|.arr 1<|List.map (eL eI64) ([]:List (List Int)),some<|.arr 1<|List.map eI64 ([]:List Int),some<|.cut 3 1 g,some<|.arr 1<|e.map eI64]⟩
def f28k0_s4:St:=⟨(4,.ptr 1 0)::(7,.ptr 2 0)::[],[some<|.box [.d<|.sl<|a.Arcs.map<|eL eGArc,.d<|.sl<|a.Accepts.map eB],some<|.box [.d<|.str [],.osl 3 1 0<|List.length ([]:List (List Int)),.osl 4 1 0<|List.length ([]:List Int)],some<|.box [.d<|.str b,.osl 5 1 0<|l.length,.osl 6 1 0<|e.length],some<|.arr 1<|List.map (eL eI64) ([]:List (List Int)),some<|.arr 1<|List.map eI64 ([]:List Int),some<|.cut 7 1 l,some<|.arr 1<|e.map eI64,some<|.arr 1<|f.map eI64]⟩
def FRv_graph_emptyx_L1_E:(List<|Nat×Nat)->Ex->St->Prop:=xX 1 0<|λ (y:(List<|Nat×Nat))=>f28k0_s4 b a e f y
def FRv_graph_emptyx_L1_S:((List<|Nat×Nat)×Int)->St:=(λ (x:((List<|Nat×Nat)×Int))=>f28k0_s3 b a e f x.1 x.2)
variable {b a j k i e f g c l}
theorem FRv_graph_emptyx_L1_ok (x:((List (Nat×Nat))×Int)) (z:(((List (Nat×Nat))×Int)⊕(List (Nat×Nat)))) (H:FRv_graph_emptyx_L1 n b a e f x.1 x.2=some z):WP (cxk 51 1) (bodyOf Tryz.f28) [1,1,1,1,0,1,0,0] (roundQ 1 (FRv_graph_emptyx_L1_S b a e f) (FRv_graph_emptyx_L1_E b a e f) z) (FRv_graph_emptyx_L1_S b a e f x):=by
 obtain ⟨g,c⟩:=x;refine sr<|ck 1<|en<|sq<|cn H (λ H=>?_)<|λ H=>?_
 ·exact sk<|qz<|sq<|bk 1<|sr<|ck 2<|en<|rg (sh_cn (xs:=g) 6 3 1 (by kernel_rfl))<|ck 15<|bx H λ C q H=>sp (at_sl3 3 1 (f.length) q)<|bx H λ E r H=>sp (at_idxO 6 1 r)<|bx H λ u m H=>sp (at_stC (t:=ty 35) 6 3 1 ((0+Int.toNat (imul .i64 c ((a.Arcs.length:Nat):Int)),Int.toNat (imul .i64 (iadd .i64 c 1) ((a.Arcs.length:Nat):Int))-Int.toNat (imul .i64 c ((a.Arcs.length:Nat):Int))):Nat×Nat).1 ((0+Int.toNat (imul .i64 c ((a.Arcs.length:Nat):Int)),Int.toNat (imul .i64 (iadd .i64 c 1) ((a.Arcs.length:Nat):Int))-Int.toNat (imul .i64 c ((a.Arcs.length:Nat):Int))):Nat×Nat).2 m)<|ae<|qN<|qz<|rg (tr (tr (sh_nc (xs:=u) 6 3 1 (by kernel_rfl))<|sn 33 6 1<|put_len m)<|snc 2 1 6 1<|put_len m)<|ck 2<|ae (by cases H;exact og<|sg [4,5,7,8,28,29])
 ·exact ex 0<|qx (by cases H;exact xo rfl<|sg [4,7])
theorem FRv_graph_emptyx_ok {z} (H:FRv_graph_emptyx n b a=some z):LentOK Tryz.prog 28 [.ptr 0 0,.d (.str b)] [some (.box [.d (.sl (a.Arcs.map (eL eGArc))),.d (.sl (a.Accepts.map eB))])] 1 (.agg [.d (.str b),.osl 2 1 0 (z.1.length),.osl 3 1 0 (z.2.1.length)]) [some (.box [.d (.sl (a.Arcs.map (eL eGArc))),.d (.sl (a.Accepts.map eB))]),some (.box [.d (.str b),.osl 2 1 0 (z.1.length),.osl 3 1 0 (z.2.1.length)]),some (.cut 4 1 z.1),some (.arr 1 (z.2.1.map eI64)),some (.arr 1 (z.2.2.map eI64))]:=by
 exact fL 51 1 (f28k0_s1 b a) Tryz.func28<|sr<|ck 1<|en<|sr<|ck 4<|sp (at_len (eL eGArc) a.Arcs)<|ck 5<|en<|sr<|ck 2<|bx H λ o h H=>sp (at_mkZ 1 (ez:=[.nil]) h)<|ck 1<|bx H λ e v H=>sp (at_mk eI64 1 v)<|ck 3<|en<|sr<|ck 3<|bx H λ f w H=>sp (at_mk eI64 1 w)<|ck 1<|en<|sq<|sq<|rg (tr (tr (tr (sh_toC (zs:=o) 2 5 1 (mkl_rep h) (by kernel_rfl))<|sh_nc (xs:=List.replicate (o.length) ((0,0):Nat×Nat)) 2 5 1 (by kernel_rfl))<|sn 20 2 1<|(mkl_len h).trans (lrN (x:=((0,0):Nat×Nat))))<|snc 4 1 2 1<|(mkl_len h).trans (lrN (x:=((0,0):Nat×Nat))))<|ck 2<|en<|bk 0<|bx H λ A B H=>lX FRv_graph_emptyx_L1_ok B (tr (tr (sh_nilc 1 1 1 (by kernel_rfl))<|sh_nilc 1 2 1 (by kernel_rfl))<|sg [4,5,7,8,28,29]) rfl λ s p=>qH<|qs (p)<|sr<|ck 2<|en<|re (by cases H;exact pL<|rl (s':=f28k0_s2 b a A e f)<|sg [4])
end
section
variable (a:(List UInt8)) (b:GGraph) (c:(List (Nat×Nat))) (e:(List Int)) (f:(List Int))
def f29k0_s1:St:=⟨(0,.ptr 0 0)::(1,.agg [.d<|.str a,.osl 1 1 0<|c.length,.osl 2 1 0<|e.length])::[],[some<|.box [.d<|.sl<|b.Arcs.map<|eL eGArc,.d<|.sl<|b.Accepts.map eB],some<|.cut 3 1 c,some<|.arr 1<|e.map eI64,some<|.arr 1<|f.map eI64]⟩
def f29k0_s2:St:=⟨(4,.clo 53 [.ptr 4 0,.ptr 5 0])::[],[some<|.box [.d<|.sl<|b.Arcs.map<|eL eGArc,.d<|.sl<|b.Accepts.map eB],some<|.cut 3 1 c,some<|.arr 1<|e.map eI64,some<|.arr 1<|f.map eI64,some<|.box [.d<|.str a,.osl 1 1 0<|c.length,.osl 2 1 0<|e.length],some<|.box [.ptr 0 0]]⟩
variable {a b c e f}
theorem FRv_graph_columns_ok {z} (H:FRv_graph_columns n a b c e f=some z):LentOK Tryz.prog 29 [.ptr 0 0,.agg [.d (.str a),.osl 1 1 0 (c.length),.osl 2 1 0 (e.length)]] [some (.box [.d (.sl (b.Arcs.map (eL eGArc))),.d (.sl (b.Accepts.map eB))]),some (.cut 3 1 c),some (.arr 1 (e.map eI64)),some (.arr 1 (f.map eI64))] 4 (.clo 53 [.ptr 4 0,.ptr 5 0]) [some (.box [.d (.sl (b.Arcs.map (eL eGArc))),.d (.sl (b.Accepts.map eB))]),some (.cut 3 1 c),some (.arr 1 (e.map eI64)),some (.arr 1 (f.map eI64)),some (.box [.d (.str a),.osl 1 1 0 (c.length),.osl 2 1 0 (e.length)]),some (.box [.ptr 0 0])]:=by
 exact fL 6 4 (f29k0_s1 a b c e f) Tryz.func29<|sr<|ck 3<|en<|sr<|xm (xok _ _)<|ck 1<|en<|re (by cases H;exact pL<|rl (s':=f29k0_s2 a b c e f)<|sg [4])
end
section
variable (b:(List UInt8)) (f:Int) (g:Int) (a:(List (Nat×Nat))) (c:(List Int)) (e:(List Int)) (h:Int)
def f56k0_s1:St:=⟨(0,.agg [.d<|.str b,.osl 0 1 0<|a.length,.osl 1 1 0<|c.length])::(1,.d<|.int .i64 f)::(2,.d<|.int .i64 g)::[],[some<|.cut 2 1 a,some<|.arr 1<|c.map eI64,some<|.arr 1<|e.map eI64]⟩
def f56k0_s2:St:=⟨(6,.d<|.int .i64 h)::[],[some<|.cut 2 1 a,some<|.arr 1<|c.map eI64,some<|.arr 1<|e.map eI64]⟩
variable {b f g a c e h}
theorem FRv_suffixx_ok {z} (H:FRv_suffixx n b f g a c e=some z):LentOK Tryz.prog 56 [.agg [.d (.str b),.osl 0 1 0 (a.length),.osl 1 1 0 (c.length)],.d (.int .i64 f),.d (.int .i64 g)] [some (.cut 2 1 a),some (.arr 1 (c.map eI64)),some (.arr 1 (e.map eI64))] 3 (.d (.int .i64 z)) [some (.cut 2 1 a),some (.arr 1 (c.map eI64)),some (.arr 1 (e.map eI64))]:=by
 refine fL 30 3 (f56k0_s1 b f g a c e) Tryz.func56<|sr<|ck 2<|en<|sq<|sq<|rg (sh_cn (xs:=a) 0 2 1 (by kernel_rfl))<|ck 3<|bx H λ i j H=>sp (at_idxO 0 1 j)<|sp (at_ldC (t:=ty 35) 0 2 1 j)<|ck 1<|bx H λ s k H=>sp (at_idxP 2 1 i.1 i.2<|ixP_in k)<|sp (at_ldP eI64 2 0 (ty 3)<|ixP_idx k)<|ck 1<|en<|cn H (λ H=>?_)<|λ H=>?_
 ·exact sq<|rg (sh_nc (xs:=a) 0 2 1 (by kernel_rfl))<|ck 1<|en<|re<|qr (by cases H;exact pL<|rl (s':=f56k0_s2 a c e (-1))<|sg [6])
 ·exact sk<|qz<|sq<|rg (tr (sh_nc (xs:=a) 0 2 1 (by kernel_rfl))<|sh_cn (xs:=a) 0 2 1 (by kernel_rfl))<|ck 3<|bx H λ q l H=>sp (at_idxO 1 1 l)<|sp (at_ldA eI64 1 0 (ty 3) l)<|ck 3<|bx H λ m o H=>sp (at_idxO 0 1 o)<|sp (at_ldC (t:=ty 35) 0 2 1 o)<|ck 1<|bx H λ r p H=>sp (at_idxP 2 1 m.1 m.2<|ixP_in p)<|sp (at_ldP eI64 2 0 (ty 3)<|ixP_idx p)<|ck 2<|en<|re (by cases H;exact pL<|rl (s':=f56k0_s2 a c e<|iadd .i64 q r)<|tr (sh_nc (xs:=a) 0 2 1 (by kernel_rfl))<|sg [6])
end
section
variable (i:Int) (f:Int) (h:Int) (e:(Nat×Nat)) (j:(List Int)) (l:(List Int)) (m:Bool)
def f54k0_s1:St:=⟨(0,.d<|.int .i64 i)::(1,.d<|.int .i64 f)::(2,.d<|.int .i64 h)::(3,.ptr 0 0)::[],[some<|.box [.osl 1 1 e.1 e.2],some<|.arr 1<|j.map eI64]⟩
def f54k0_s2:St:=⟨(7,.d<|.bool m)::[],[some<|.box [.osl 1 1 e.1 e.2],some<|.arr 1<|l.map eI64]⟩
variable {i f h e j l m}
theorem FRv_graph_columns_1_1_ok {z} (H:FRv_graph_columns_1_1 n i f h e j=some z):LentOK Tryz.prog 54 [.d (.int .i64 i),.d (.int .i64 f),.d (.int .i64 h),.ptr 0 0] [some (.box [.osl 1 1 e.1 e.2]),some (.arr 1 (j.map eI64))] 2 (.d (.bool z.2)) [some (.box [.osl 1 1 e.1 e.2]),some (.arr 1 (z.1.map eI64))]:=by
 refine fL 33 2 (f54k0_s1 i f h e j) Tryz.func54<|sr<|ck 1<|en<|sq<|sr<|ck 5<|bx H λ k o H=>sE (λ hg=>at_idxP 1 1 e.1 e.2<|ixP_in<|gimp o hg)<|sE (g:=(!(decide<|f<0))) (λ hg=>at_ldP eI64 1 0 (ty 3)<|ixP_idx<|gimp o hg)<|gc 2 (!(decide<|f<0))<|ck 2<|bx H λ p q H=>sE (λ hg=>at_idxP 1 1 e.1 e.2<|ixP_in<|gimp q hg)<|sE (g:=((!(decide<|f<0))&&(decide<|k>=0))) (λ hg=>at_ldP eI64 1 0 (ty 3)<|ixP_idx<|gimp q hg)<|ck 2<|gc 2 ((!(decide<|f<0))&&(decide<|k>=0))<|pG (g:=(!(decide<|f<0))) (v:=.d<|.bool<|(decide<|k>=0)&&(decide<|p<=iadd .i64 f h)) (λ hg=>pick_genz (c:=.gv (!(decide<|f<0))<|.d<|.bool<|decide<|k>=0) (a:=.gv ((!(decide<|f<0))&&(decide<|k>=0))<|.d<|.bool<|decide<|p<=iadd .i64 f h) (b:=.d<|.bool false) rfl rfl rfl ((λ hh=>hh) hg) (λ ht=>by rw [(λ hh=>hh) hg,ht];rfl) trivial)<|pO<|en<|cn H (λ H=>?_)<|λ H=>?_
 ·exact sr<|ck 1<|en<|re<|qr (by cases H;exact pL<|rl (s':=f54k0_s2 e j false)<|sg [7])
 ·exact sk<|qz<|sr<|ck 5<|bx H λ u r H=>sp (at_idxP 1 1 e.1 e.2<|ixP_in r)<|bx H λ s t H=>stP eI64 1 0 (e.1+Int.toNat i) (ty 3) (ixP_idx r) t<|en<|sr<|ck 1<|en<|re (by cases H;exact pL<|rl (s':=f54k0_s2 e s true)<|sg [7])
end
section
variable (e:(Nat×Nat)) (k:(List Int)) (u:(List Int)) (w:Int) (f:Int) (q:Int) (r:Int) (o:Int) (l:Int) (j:(List Int)) (p:Int) (A:(List Int)) (m:(List Int))
def f57k0_s1:St:=⟨(0,.osl 0 1 e.1 e.2)::[],[some<|.arr 1<|k.map eI64]⟩
def f57k0_s2:St:=⟨(2,.d<|.int .i64 w)::[],[some<|.arr 1<|u.map eI64]⟩
def f57k0_s3:St:=⟨(0,.osl 0 1 e.1 e.2)::(3,.d<|.int .i64 f)::(8,.osl 0 1 e.1 e.2)::(9,.d<|.int .i64 ((e.2:Nat):Int))::(10,.d<|.int .i64 q)::[],[some<|.arr 1<|k.map eI64]⟩
def f57k0_s4:St:=⟨(0,.osl 0 1 e.1 e.2)::(3,.d<|.int .i64 r)::[],[some<|.arr 1<|k.map eI64]⟩
def f57k0_s5:St:=⟨(0,.osl 0 1 e.1 e.2)::(3,.d<|.int .i64 o)::(8,.osl 0 1 e.1 e.2)::(9,.d<|.int .i64 ((e.2:Nat):Int))::(10,.d<|.int .i64 q)::[],[some<|.arr 1<|k.map eI64]⟩
def FRv_reduce_L1_E:Int->Ex->St->Prop:=xX 1 0<|λ (y:Int)=>f57k0_s4 e k y
def FRv_reduce_L1_S:(Int×Int)->St:=(λ (x:(Int×Int))=>f57k0_s3 e k x.1 x.2)
def f57k0_s6:St:=⟨(0,.osl 0 1 e.1 e.2)::(3,.d<|.int .i64 l)::(27,.osl 0 1 e.1 e.2)::(28,.d<|.int .i64 ((e.2:Nat):Int))::(29,.d<|.int .i64 p)::[],[some<|.arr 1<|j.map eI64]⟩
def f57k0_s7:St:=⟨(3,.d<|.int .i64 l)::[],[some<|.arr 1<|A.map eI64]⟩
def f57k0_s8:St:=⟨(0,.osl 0 1 e.1 e.2)::(3,.d<|.int .i64 l)::(27,.osl 0 1 e.1 e.2)::(28,.d<|.int .i64 ((e.2:Nat):Int))::(29,.d<|.int .i64 p)::[],[some<|.arr 1<|m.map eI64]⟩
def FRv_reduce_L2_E:(List Int)->Ex->St->Prop:=xX 1 2<|λ (y:(List Int))=>f57k0_s7 l y
def FRv_reduce_L2_S:((List Int)×Int)->St:=(λ (x:((List Int)×Int))=>f57k0_s6 e l x.1 x.2)
variable {e k u w f q r o l j p A m}
theorem FRv_reduce_L1_ok (x:(Int×Int)) (z:((Int×Int)⊕Int)) (H:FRv_reduce_L1 n e k x.1 x.2=some z):WP (cxk 44 1) (bodyOf Tryz.f57) [1,1,0,1,0,0] (roundQ 1 (FRv_reduce_L1_S e k) (FRv_reduce_L1_E e k) z) (FRv_reduce_L1_S e k x):=by
 obtain ⟨f,q⟩:=x;refine sr<|ck 1<|en<|sq<|cn H (λ H=>?_)<|λ H=>?_
 ·refine sk<|qz<|sj (λ (x:Int)=>f57k0_s5 e k q x) (λ (x:Int)=>FRv_reduce_J1 n q x) z ?_ (λ h=>?_)
  ·intro o H;exact rz<|ck 2<|ae (by cases H;exact og<|sg [0,3,8,9,10])
  refine bk 1<|sr<|bx H λ t B H=>sp (at_idxP 0 1 e.1 e.2<|ixP_in B)<|sp (at_ldP eI64 0 0 (ty 3)<|ixP_idx B)<|ck 1<|en<|sr<|ck 4<|gc 2 (decide<|t>=0)<|ck 2<|gc 1 ((decide<|t>=0)&&!(decide<|f<0))<|pG (g:=decide<|t>=0) (v:=.d<|.bool<|(decide<|f<0)||(decide<|t<f)) (λ hg=>pick_genz (c:=.gv (decide<|t>=0)<|.d<|.bool<|decide<|f<0) (a:=.d<|.bool true) (b:=.gv ((decide<|t>=0)&&!(decide<|f<0))<|.d<|.bool<|decide<|t<f) rfl rfl rfl ((λ hh=>hh) hg) trivial (λ ht=>by rw [(λ hh=>hh) hg,ht];rfl))<|pA<|en<|cn H (λ H=>?_)<|λ H=>?_
  ·exact rz<|ck 2<|ae<|qN<|qs (sg [0,3,8,9,10])<|h t H
  ·exact sk<|qN<|qs (sg [0,3,8,9,10])<|h f H
 ·exact ex 0<|qx (by cases H;exact xo rfl<|sg [0,3])
theorem FRv_reduce_L2_ok (x:((List Int)×Int)) (z:(((List Int)×Int)⊕(List Int))) (H:FRv_reduce_L2 n e l x.1 x.2=some z):WP (cxk 44 1) (bodyOf Tryz.f57) [1,1,1,0,1,0,0] (roundQ 1 (FRv_reduce_L2_S e l) (FRv_reduce_L2_E l) z) (FRv_reduce_L2_S e l x):=by
 obtain ⟨j,p⟩:=x;refine sr<|ck 1<|en<|sq<|cn H (λ H=>?_)<|λ H=>?_
 ·refine sk<|qz<|sj (λ (x:(List Int))=>f57k0_s8 e l p x) (λ (x:(List Int))=>FRv_reduce_J2 n p x) z ?_ (λ i=>?_)
  ·intro m H;exact rz<|ck 2<|ae (by cases H;exact og<|sg [0,3,27,28,29])
  refine bk 3<|sr<|ck 1<|bx H λ P C H=>sp (at_idxP 0 1 e.1 e.2<|ixP_in C)<|sp (at_ldP eI64 0 0 (ty 3)<|ixP_idx C)<|ck 2<|en<|sr<|ck 2<|en<|cn H (λ H=>?_)<|λ H=>?_
  ·exact rz<|ck 5<|bx H λ Q E H=>sp (at_idxP 0 1 e.1 e.2<|ixP_in E)<|bx H λ J K H=>stP eI64 0 0 (e.1+Int.toNat p) (ty 3) (ixP_idx E) K<|ae<|qN<|qs (sg [0,3,27,28,29])<|i J H
  ·exact sk<|qN<|qs (sg [0,3,27,28,29])<|i j H
 ·exact ex 2<|qx (by cases H;exact xo rfl<|sg [3])
theorem FRv_reduce_ok {z} (H:FRv_reduce n e k=some z):LentOK Tryz.prog 57 [.osl 0 1 e.1 e.2] [some (.arr 1 (k.map eI64))] 1 (.d (.int .i64 z.2)) [some (.arr 1 (z.1.map eI64))]:=by
 exact fL 44 1 (f57k0_s1 e k) Tryz.func57<|sr<|ck 1<|en<|sr<|ck 1<|en<|sq<|sr<|ck 3<|en<|bk 0<|bx H λ l L H=>lX FRv_reduce_L1_ok L (sg [0,3,8,9,10]) rfl λ s G=>qH<|qs (G)<|sq<|sr<|ck 3<|en<|bk 2<|bx H λ M O H=>lX FRv_reduce_L2_ok O (sg [0,3,27,28,29]) rfl λ s I=>qH<|qs (I)<|sr<|ck 2<|en<|re (by cases H;exact pL<|rl (s':=f57k0_s2 M l)<|sg [2])
end
section
variable (i:Int) (a:(List UInt8)) (b:GGraph) (c:(List (Nat×Nat))) (e:(List Int)) (X:(List Int)) (Z:(List Int)) (aa:Int) (f:(Nat×Nat)) (A:(List Int)) (J:Int) (Q:(List Int)) (B:(List Int)) (C:(List Int)) (l:Int) (R:(List Int)) (K:(List GArc)) (q:(List Int)) (S:Int) (T:(List Int)) (r:(List Int)) (u:(List Int)) (E:Bool) (M:(List Int)) (v:(List Int)) (G:Bool) (m:Int) (O:(List Int)) (U:Bool) (L:(List GArc)) (o:(List Int)) (p:Bool) (V:Int) (P:(List Int)) (W:Bool) (w:(List Int)) (I:Bool)
def f53k0_s1:St:=⟨(0,.d<|.int .i64 i)::(1,.ptr 0 0)::(2,.ptr 1 0)::[],[some<|.box [.d<|.str a,.osl 2 1 0<|c.length,.osl 3 1 0<|e.length],some<|.box [.ptr 4 0],some<|.cut 5 1 c,some<|.arr 1<|e.map eI64,some<|.box [.d<|.sl<|b.Arcs.map<|eL eGArc,.d<|.sl<|b.Accepts.map eB],some<|.arr 1<|X.map eI64]⟩
def f53k0_s2:St:=⟨(4,.d<|.int .i64 aa)::[],[some<|.box [.d<|.str a,.osl 2 1 0<|c.length,.osl 3 1 0<|e.length],some<|.box [.ptr 4 0],some<|.cut 5 1 c,some<|.arr 1<|e.map eI64,some<|.box [.d<|.sl<|b.Arcs.map<|eL eGArc,.d<|.sl<|b.Accepts.map eB],some<|.arr 1<|Z.map eI64]⟩
def f53k0_s3:St:=⟨(0,.d<|.int .i64 i)::(1,.ptr 0 0)::(2,.ptr 1 0)::(5,.ptr 6 0)::(23,.d<|.int .i64 ((f.2:Nat):Int))::(24,.d<|.int .i64 J)::[],[some<|.box [.d<|.str a,.osl 2 1 0<|c.length,.osl 3 1 0<|e.length],some<|.box [.ptr 4 0],some<|.cut 5 1 c,some<|.arr 1<|e.map eI64,some<|.box [.d<|.sl<|b.Arcs.map<|eL eGArc,.d<|.sl<|b.Accepts.map eB],some<|.arr 1<|A.map eI64,some<|.box [.osl 5 1 f.1 f.2]]⟩
def f53k0_s4:St:=⟨(0,.d<|.int .i64 i)::(1,.ptr 0 0)::(2,.ptr 1 0)::(5,.ptr 6 0)::[],[some<|.box [.d<|.str a,.osl 2 1 0<|c.length,.osl 3 1 0<|e.length],some<|.box [.ptr 4 0],some<|.cut 5 1 c,some<|.arr 1<|e.map eI64,some<|.box [.d<|.sl<|b.Arcs.map<|eL eGArc,.d<|.sl<|b.Accepts.map eB],some<|.arr 1<|Q.map eI64,some<|.box [.osl 5 1 f.1 f.2]]⟩
def f53k0_s5:St:=⟨(0,.d<|.int .i64 i)::(1,.ptr 0 0)::(2,.ptr 1 0)::(5,.ptr 6 0)::(23,.d<|.int .i64 ((f.2:Nat):Int))::(24,.d<|.int .i64 J)::[],[some<|.box [.d<|.str a,.osl 2 1 0<|c.length,.osl 3 1 0<|e.length],some<|.box [.ptr 4 0],some<|.cut 5 1 c,some<|.arr 1<|e.map eI64,some<|.box [.d<|.sl<|b.Arcs.map<|eL eGArc,.d<|.sl<|b.Accepts.map eB],some<|.arr 1<|B.map eI64,some<|.box [.osl 5 1 f.1 f.2]]⟩
def FRv_graph_columns_1_L1_E:(List Int)->Ex->St->Prop:=xX 6 0<|λ (y:(List Int))=>f53k0_s4 i a b c e f y
def FRv_graph_columns_1_L1_S:((List Int)×Int)->St:=(λ (x:((List Int)×Int))=>f53k0_s3 i a b c e f x.1 x.2)
def f53k0_s6:St:=⟨(0,.d<|.int .i64 i)::(1,.ptr 0 0)::(2,.ptr 1 0)::(5,.ptr 6 0)::(7,.clo 54 [.ptr 6 0])::(52,.d<|.sl<|b.Arcs.map<|eL eGArc)::(53,.d<|.int .i64 ((b.Arcs.length:Nat):Int))::(54,.d<|.int .i64 l)::[],[some<|.box [.d<|.str a,.osl 2 1 0<|c.length,.osl 3 1 0<|e.length],some<|.box [.ptr 4 0],some<|.cut 5 1 c,some<|.arr 1<|e.map eI64,some<|.box [.d<|.sl<|b.Arcs.map<|eL eGArc,.d<|.sl<|b.Accepts.map eB],some<|.arr 1<|C.map eI64,some<|.box [.osl 5 1 f.1 f.2]]⟩
def f53k0_s7:St:=⟨(2,.ptr 1 0)::(5,.ptr 6 0)::(7,.clo 54 [.ptr 6 0])::[],[some<|.box [.d<|.str a,.osl 2 1 0<|c.length,.osl 3 1 0<|e.length],some<|.box [.ptr 4 0],some<|.cut 5 1 c,some<|.arr 1<|e.map eI64,some<|.box [.d<|.sl<|b.Arcs.map<|eL eGArc,.d<|.sl<|b.Accepts.map eB],some<|.arr 1<|R.map eI64,some<|.box [.osl 5 1 f.1 f.2]]⟩
def f53k0_s8:St:=⟨(0,.d<|.int .i64 i)::(1,.ptr 0 0)::(2,.ptr 1 0)::(5,.ptr 6 0)::(7,.clo 54 [.ptr 6 0])::(8,.d<|.int .i64 l)::(52,.d<|.sl<|b.Arcs.map<|eL eGArc)::(53,.d<|.int .i64 ((b.Arcs.length:Nat):Int))::(54,.d<|.int .i64 l)::(59,.d<|.sl<|K.map eGArc)::(60,.d<|.int .i64 ((K.length:Nat):Int))::(61,.d<|.int .i64 S)::[],[some<|.box [.d<|.str a,.osl 2 1 0<|c.length,.osl 3 1 0<|e.length],some<|.box [.ptr 4 0],some<|.cut 5 1 c,some<|.arr 1<|e.map eI64,some<|.box [.d<|.sl<|b.Arcs.map<|eL eGArc,.d<|.sl<|b.Accepts.map eB],some<|.arr 1<|q.map eI64,some<|.box [.osl 5 1 f.1 f.2]]⟩
def f53k0_s9:St:=⟨(0,.d<|.int .i64 i)::(1,.ptr 0 0)::(2,.ptr 1 0)::(5,.ptr 6 0)::(7,.clo 54 [.ptr 6 0])::(52,.d<|.sl<|b.Arcs.map<|eL eGArc)::(53,.d<|.int .i64 ((b.Arcs.length:Nat):Int))::(54,.d<|.int .i64 l)::[],[some<|.box [.d<|.str a,.osl 2 1 0<|c.length,.osl 3 1 0<|e.length],some<|.box [.ptr 4 0],some<|.cut 5 1 c,some<|.arr 1<|e.map eI64,some<|.box [.d<|.sl<|b.Arcs.map<|eL eGArc,.d<|.sl<|b.Accepts.map eB],some<|.arr 1<|T.map eI64,some<|.box [.osl 5 1 f.1 f.2]]⟩
def f53k0_s10:St:=⟨(0,.d<|.int .i64 i)::(1,.ptr 0 0)::(2,.ptr 1 0)::(5,.ptr 6 0)::(7,.clo 54 [.ptr 6 0])::(8,.d<|.int .i64 l)::(52,.d<|.sl<|b.Arcs.map<|eL eGArc)::(53,.d<|.int .i64 ((b.Arcs.length:Nat):Int))::(54,.d<|.int .i64 l)::(59,.d<|.sl<|K.map eGArc)::(60,.d<|.int .i64 ((K.length:Nat):Int))::(61,.d<|.int .i64 S)::[],[some<|.box [.d<|.str a,.osl 2 1 0<|c.length,.osl 3 1 0<|e.length],some<|.box [.ptr 4 0],some<|.cut 5 1 c,some<|.arr 1<|e.map eI64,some<|.box [.d<|.sl<|b.Arcs.map<|eL eGArc,.d<|.sl<|b.Accepts.map eB],some<|.arr 1<|r.map eI64,some<|.box [.osl 5 1 f.1 f.2]]⟩
def FRv_graph_columns_1_L3_E:(List Int)->Ex->St->Prop:=xX 6 4<|λ (y:(List Int))=>f53k0_s9 i a b c e f l y
def FRv_graph_columns_1_L3_S:((List Int)×Int)->St:=(λ (x:((List Int)×Int))=>f53k0_s8 i a b c e f l K x.1 x.2)
def FRv_graph_columns_1_L2_E:(List Int)->Ex->St->Prop:=xX 6 2<|λ (y:(List Int))=>f53k0_s7 a b c e f y
def FRv_graph_columns_1_L2_S:((List Int)×Int)->St:=(λ (x:((List Int)×Int))=>f53k0_s6 i a b c e f x.1 x.2)
def f53k0_s11:St:=⟨(2,.ptr 1 0)::(5,.ptr 6 0)::(7,.clo 54 [.ptr 6 0])::(12,.d<|.bool E)::[],[some<|.box [.d<|.str a,.osl 2 1 0<|c.length,.osl 3 1 0<|e.length],some<|.box [.ptr 4 0],some<|.cut 5 1 c,some<|.arr 1<|e.map eI64,some<|.box [.d<|.sl<|b.Arcs.map<|eL eGArc,.d<|.sl<|b.Accepts.map eB],some<|.arr 1<|u.map eI64,some<|.box [.osl 5 1 f.1 f.2]]⟩
def f53k0_s12:St:=⟨(5,.ptr 6 0)::[],[some<|.box [.d<|.str a,.osl 2 1 0<|c.length,.osl 3 1 0<|e.length],some<|.box [.ptr 4 0],some<|.cut 5 1 c,some<|.arr 1<|e.map eI64,some<|.box [.d<|.sl<|b.Arcs.map<|eL eGArc,.d<|.sl<|b.Accepts.map eB],some<|.arr 1<|M.map eI64,some<|.box [.osl 5 1 f.1 f.2]]⟩
def f53k0_s13:St:=⟨(2,.ptr 1 0)::(5,.ptr 6 0)::(7,.clo 54 [.ptr 6 0])::(12,.d<|.bool G)::(97,.d<|.sl<|b.Arcs.map<|eL eGArc)::(98,.d<|.int .i64 ((b.Arcs.length:Nat):Int))::(99,.d<|.int .i64 m)::[],[some<|.box [.d<|.str a,.osl 2 1 0<|c.length,.osl 3 1 0<|e.length],some<|.box [.ptr 4 0],some<|.cut 5 1 c,some<|.arr 1<|e.map eI64,some<|.box [.d<|.sl<|b.Arcs.map<|eL eGArc,.d<|.sl<|b.Accepts.map eB],some<|.arr 1<|v.map eI64,some<|.box [.osl 5 1 f.1 f.2]]⟩
def f53k0_s14:St:=⟨(2,.ptr 1 0)::(5,.ptr 6 0)::(7,.clo 54 [.ptr 6 0])::(12,.d<|.bool U)::[],[some<|.box [.d<|.str a,.osl 2 1 0<|c.length,.osl 3 1 0<|e.length],some<|.box [.ptr 4 0],some<|.cut 5 1 c,some<|.arr 1<|e.map eI64,some<|.box [.d<|.sl<|b.Arcs.map<|eL eGArc,.d<|.sl<|b.Accepts.map eB],some<|.arr 1<|O.map eI64,some<|.box [.osl 5 1 f.1 f.2]]⟩
def f53k0_s15:St:=⟨(2,.ptr 1 0)::(5,.ptr 6 0)::(7,.clo 54 [.ptr 6 0])::(12,.d<|.bool p)::(13,.d<|.int .i64 m)::(97,.d<|.sl<|b.Arcs.map<|eL eGArc)::(98,.d<|.int .i64 ((b.Arcs.length:Nat):Int))::(99,.d<|.int .i64 m)::(104,.d<|.sl<|L.map eGArc)::(105,.d<|.int .i64 ((L.length:Nat):Int))::(106,.d<|.int .i64 V)::[],[some<|.box [.d<|.str a,.osl 2 1 0<|c.length,.osl 3 1 0<|e.length],some<|.box [.ptr 4 0],some<|.cut 5 1 c,some<|.arr 1<|e.map eI64,some<|.box [.d<|.sl<|b.Arcs.map<|eL eGArc,.d<|.sl<|b.Accepts.map eB],some<|.arr 1<|o.map eI64,some<|.box [.osl 5 1 f.1 f.2]]⟩
def f53k0_s16:St:=⟨(2,.ptr 1 0)::(5,.ptr 6 0)::(7,.clo 54 [.ptr 6 0])::(12,.d<|.bool W)::(97,.d<|.sl<|b.Arcs.map<|eL eGArc)::(98,.d<|.int .i64 ((b.Arcs.length:Nat):Int))::(99,.d<|.int .i64 m)::[],[some<|.box [.d<|.str a,.osl 2 1 0<|c.length,.osl 3 1 0<|e.length],some<|.box [.ptr 4 0],some<|.cut 5 1 c,some<|.arr 1<|e.map eI64,some<|.box [.d<|.sl<|b.Arcs.map<|eL eGArc,.d<|.sl<|b.Accepts.map eB],some<|.arr 1<|P.map eI64,some<|.box [.osl 5 1 f.1 f.2]]⟩
def f53k0_s17:St:=⟨(2,.ptr 1 0)::(5,.ptr 6 0)::(7,.clo 54 [.ptr 6 0])::(12,.d<|.bool I)::(13,.d<|.int .i64 m)::(97,.d<|.sl<|b.Arcs.map<|eL eGArc)::(98,.d<|.int .i64 ((b.Arcs.length:Nat):Int))::(99,.d<|.int .i64 m)::(104,.d<|.sl<|L.map eGArc)::(105,.d<|.int .i64 ((L.length:Nat):Int))::(106,.d<|.int .i64 V)::[],[some<|.box [.d<|.str a,.osl 2 1 0<|c.length,.osl 3 1 0<|e.length],some<|.box [.ptr 4 0],some<|.cut 5 1 c,some<|.arr 1<|e.map eI64,some<|.box [.d<|.sl<|b.Arcs.map<|eL eGArc,.d<|.sl<|b.Accepts.map eB],some<|.arr 1<|w.map eI64,some<|.box [.osl 5 1 f.1 f.2]]⟩
def FRv_graph_columns_1_L6_E:((List Int)×Bool)->Ex->St->Prop:=xX 6 10<|λ (y:((List Int)×Bool))=>f53k0_s16 a b c e f m y.1 y.2
def FRv_graph_columns_1_L6_S:((List Int)×Bool×Int)->St:=(λ (x:((List Int)×Bool×Int))=>f53k0_s15 a b c e f m L x.1 x.2.1 x.2.2)
def FRv_graph_columns_1_L5_E:((List Int)×Bool)->Ex->St->Prop:=xX 6 8<|λ (y:((List Int)×Bool))=>f53k0_s14 a b c e f y.1 y.2
def FRv_graph_columns_1_L5_S:((List Int)×Bool×Int)->St:=(λ (x:((List Int)×Bool×Int))=>f53k0_s13 a b c e f x.1 x.2.1 x.2.2)
def FRv_graph_columns_1_L4_E:(List Int)->Ex->St->Prop:=xX 6 6<|λ (y:(List Int))=>f53k0_s12 a b c e f y
def FRv_graph_columns_1_L4_S:((List Int)×Bool)->St:=(λ (x:((List Int)×Bool))=>f53k0_s11 a b c e f x.1 x.2)
variable {i a b c e X Z aa f A J Q B C l R K q S T r u E M v G m O U L o p V P W w I}
theorem FRv_graph_columns_1_L1_ok (x:((List Int)×Int)) (z:(((List Int)×Int)⊕(List Int))) (H:FRv_graph_columns_1_L1 n i a b c e f x.1 x.2=some z):WP (cxk 129 6) (bodyOf Tryz.f53) [1,1,0,1,0,0] (roundQ 6 (FRv_graph_columns_1_L1_S i a b c e f) (FRv_graph_columns_1_L1_E i a b c e f) z) (FRv_graph_columns_1_L1_S i a b c e f x):=by
 obtain ⟨A,J⟩:=x;refine sr<|ck 1<|en<|sq<|cn H (λ H=>?_)<|λ H=>?_
 ·refine sk<|qz<|sj (λ (x:(List Int))=>f53k0_s5 i a b c e f J x) (λ (x:(List Int))=>FRv_graph_columns_1_J1 n J x) z ?_ (λ j=>?_)
  ·intro B H;exact rz<|ck 2<|ae (by cases H;exact og<|sg [0,1,2,5,23,24])
  refine bk 1<|sr<|ck 2<|en<|sr<|ck 2<|bx H λ bj ab H=>sp (at_idxP 5 1 f.1 f.2<|ixP_in ab)<|bx H λ az a0 H=>stP eI64 5 0 (f.1+Int.toNat J) (ty 3) (ixP_idx ab) a0<|en<|sr<|ck 7<|gc 3 (i==((a.length:Nat):Int))<|ck 1<|bx H λ bl a2 H=>sE (λ hg=>at_idxD eB<|gimp a2 hg)<|gc 1 (i==((a.length:Nat):Int))<|pA<|en<|cn H (λ H=>?_)<|λ H=>?_
  ·exact rz<|ck 2<|bx H λ bm ac H=>sp (at_idxP 5 1 f.1 f.2<|ixP_in ac)<|bx H λ a3 a4 H=>stP eI64 5 0 (f.1+Int.toNat J) (ty 3) (ixP_idx ac) a4<|ae<|qN<|qs (sg [0,1,2,5,23,24])<|j a3 H
  ·exact sk<|qN<|qs (sg [0,1,2,5,23,24])<|j az H
 ·exact ex 0<|qx (by cases H;exact xo rfl<|sg [0,1,2,5])
theorem FRv_graph_columns_1_L3_ok (x:((List Int)×Int)) (z:(((List Int)×Int)⊕(List Int))) (H:FRv_graph_columns_1_L3 n i a b c e f l K x.1 x.2=some z):WP (cxk 129 6) (bodyOf Tryz.f53) [1,1,1,1,0,1,0,0,1,1,0,0,1,1,0,0] (roundQ 6 (FRv_graph_columns_1_L3_S i a b c e f l K) (FRv_graph_columns_1_L3_E i a b c e f l) z) (FRv_graph_columns_1_L3_S i a b c e f l K x):=by
 obtain ⟨q,S⟩:=x;refine sr<|ck 1<|en<|sq<|cn H (λ H=>?_)<|λ H=>?_
 ·refine sk<|qz<|sj (λ (x:(List Int))=>f53k0_s10 i a b c e f l K S x) (λ (x:(List Int))=>FRv_graph_columns_1_J2 n S x) z ?_ (λ k=>?_)
  ·intro r H;exact rz<|ck 2<|ae (by cases H;exact og<|sg [0,1,2,5,7,8,52,53,54,59,60,61])
  refine bk 5<|sr<|bx H λ af a5 H=>sp (at_idxD eGArc a5)<|ck 3<|en<|sr<|ck 5<|gc 1 (!(af.Print==[]))<|ck 1<|bx H λ s2 a6 H=>sE (λ hg=>at_ssub<|gimp a6 hg)<|ck 1<|gc 1 (!(af.Print==[]))<|bx H λ bn a7 H=>cG false (leZ) rfl (λ hg=>FSt_HasPrefix_ok<|gimp a7 hg) (Or.inl rfl) (impK (λ hh=>hh)<|impK (λ hh=>hh)<|impZ) rfl<|pA<|en<|cn H (λ H=>?_)<|λ H=>?_
  ·exact rx 10 (.refl _)<|ck 10<|bx H λ bp a8 H=>xs (xok _ _) (g:=true) rfl (impZ) [2,3,5] (FRv_suffixx_ok a8) rfl<|ck 2<|mx 13<|bx H λ a9 ba H=>xc (xok _ _) [6,5] (FRv_graph_columns_1_1_ok ba)<|ax<|qN<|qs (sg [0,1,2,5,7,8,52,53,54,59,60,61])<|k a9.1 H
  ·exact sk<|qN<|qs (sg [0,1,2,5,7,8,52,53,54,59,60,61])<|k q H
 ·exact ex 4<|qx (by cases H;exact xo rfl<|sg [0,1,2,5,7,52,53,54])
theorem FRv_graph_columns_1_L2_ok (x:((List Int)×Int)) (z:(((List Int)×Int)⊕(List Int))) (H:FRv_graph_columns_1_L2 n i a b c e f x.1 x.2=some z):WP (cxk 129 6) (bodyOf Tryz.f53) [1,1,1,1,0,1,0,0] (roundQ 6 (FRv_graph_columns_1_L2_S i a b c e f) (FRv_graph_columns_1_L2_E a b c e f) z) (FRv_graph_columns_1_L2_S i a b c e f x):=by
 obtain ⟨C,l⟩:=x;refine sr<|ck 1<|en<|sq<|cn H (λ H=>?_)<|λ H=>?_
 ·exact sk<|qz<|sq<|bk 3<|sr<|ck 1<|bx H λ K bb H=>sp (at_idxD (eL eGArc) bb)<|ck 3<|en<|sr<|ck 1<|sp (at_len eGArc K)<|ck 1<|en<|bk 4<|bx H λ bq bc H=>lX FRv_graph_columns_1_L3_ok bc (sg [0,1,2,5,7,8,52,53,54,59,60,61]) rfl λ s ag=>qH<|qN<|qs (ag)<|rz<|ck 2<|ae (by cases H;exact og<|sg [0,1,2,5,7,52,53,54])
 ·exact ex 2<|qx (by cases H;exact xo rfl<|sg [2,5,7])
theorem FRv_graph_columns_1_L6_ok (x:((List Int)×Bool×Int)) (z:(((List Int)×Bool×Int)⊕((List Int)×Bool))) (H:FRv_graph_columns_1_L6 n a b c e f m L x.1 x.2.1 x.2.2=some z):WP (cxk 129 6) (bodyOf Tryz.f53) [1,1,1,1,1,0,1,0,0,1,0,1,1,0,0,1,1,0,0,1,1,0,0] (roundQ 6 (FRv_graph_columns_1_L6_S a b c e f m L) (FRv_graph_columns_1_L6_E a b c e f m) z) (FRv_graph_columns_1_L6_S a b c e f m L x):=by
 obtain ⟨o,p,V⟩:=x;refine sr<|ck 1<|en<|sq<|cn H (λ H=>?_)<|λ H=>?_
 ·refine sk<|qz<|sj (λ (x:((List Int)×Bool))=>f53k0_s17 a b c e f m L V x.1 x.2) (λ (x:((List Int)×Bool))=>FRv_graph_columns_1_J3 n V x.1 x.2) z ?_ (λ h=>?_)
  ·rintro ⟨w,I⟩ H;exact rz<|ck 2<|ae (by cases H;exact og<|sg [2,5,7,12,13,97,98,99,104,105,106])
  refine bk 11<|sr<|bx H λ Y bd H=>sp (at_idxD eGArc bd)<|ck 3<|en<|sq<|rx 13 (.refl _)<|ck 8<|gc 1 (Y.Print==[])<|bx H λ br ah H=>sE (λ hg=>at_idxP 5 1 f.1 f.2<|ixP_in<|gimp ah hg)<|sE (g:=(Y.Print==[])) (λ hg=>at_ldP eI64 5 0 (ty 3)<|ixP_idx<|gimp ah hg)<|ck 1<|gc 1 (Y.Print==[])<|gsp (Y.Print==[]) H (λ hg H=>?_)<|λ hg H=>?_
  ·refine bx H λ ai be H=>xs (xok _ _) hg (impK (λ hh=>hh)<|impK (λ hh=>hh)<|impK (λ hh=>hh)<|impK (λ hh=>hh)<|impZ) [6,5] (FRv_graph_columns_1_1_ok be) rfl<|mx 14<|pA<|ax<|qz<|cn H (λ H=>?_)<|λ H=>?_
   ·exact rz<|ck 1<|ae<|qN<|qs (sg [2,5,7,12,13,97,98,99,104,105,106])<|h (ai.1,true) H
   ·exact sk<|qN<|qs (sg [2,5,7,12,13,97,98,99,104,105,106])<|h (ai.1,p) H
  ·refine gsk hg (.d<|.bool false)<|mx 14<|pA<|ax<|qz<|cn H (λ H=>?_)<|λ H=>?_
   ·exact rz<|ck 1<|ae<|qN<|qs (sg [2,5,7,12,13,97,98,99,104,105,106])<|h (o,true) H
   ·exact sk<|qN<|qs (sg [2,5,7,12,13,97,98,99,104,105,106])<|h (o,p) H
 ·exact ex 10<|qx (by cases H;exact xo rfl<|sg [2,5,7,12,97,98,99])
theorem FRv_graph_columns_1_L5_ok (x:((List Int)×Bool×Int)) (z:(((List Int)×Bool×Int)⊕((List Int)×Bool))) (H:FRv_graph_columns_1_L5 n a b c e f x.1 x.2.1 x.2.2=some z):WP (cxk 129 6) (bodyOf Tryz.f53) [1,1,1,1,1,0,1,0,0,1,0,1,1,0,0] (roundQ 6 (FRv_graph_columns_1_L5_S a b c e f) (FRv_graph_columns_1_L5_E a b c e f) z) (FRv_graph_columns_1_L5_S a b c e f x):=by
 obtain ⟨v,G,m⟩:=x;refine sr<|ck 1<|en<|sq<|cn H (λ H=>?_)<|λ H=>?_
 ·exact sk<|qz<|sq<|bk 9<|sr<|ck 1<|bx H λ L bf H=>sp (at_idxD (eL eGArc) bf)<|ck 3<|en<|sr<|ck 1<|sp (at_len eGArc L)<|ck 1<|en<|bk 10<|bx H λ bt bg H=>lX FRv_graph_columns_1_L6_ok bg (sg [2,5,7,12,13,97,98,99,104,105,106]) rfl λ s aj=>qH<|qN<|qs (aj)<|rz<|ck 2<|ae (by cases H;exact og<|sg [2,5,7,12,97,98,99])
 ·exact ex 8<|qx (by cases H;exact xo rfl<|sg [2,5,7,12])
theorem FRv_graph_columns_1_L4_ok (x:((List Int)×Bool)) (z:(((List Int)×Bool)⊕(List Int))) (H:FRv_graph_columns_1_L4 n a b c e f x.1 x.2=some z):WP (cxk 129 6) (bodyOf Tryz.f53) [1,1,1,1,1,0,1,0,0] (roundQ 6 (FRv_graph_columns_1_L4_S a b c e f) (FRv_graph_columns_1_L4_E a b c e f) z) (FRv_graph_columns_1_L4_S a b c e f x):=by
 obtain ⟨u,E⟩:=x;refine sq<|sr<|ck 1<|en<|cn H (λ H=>?_)<|λ H=>?_
 ·exact sk<|qz<|bk 7<|sr<|ck 1<|en<|sr<|ck 4<|sp (at_len (eL eGArc) b.Arcs)<|ck 1<|en<|bk 8<|bx H λ bu ak H=>lX FRv_graph_columns_1_L5_ok ak (sg [2,5,7,12,97,98,99]) rfl λ s al=>qH<|qN (by cases H;exact og<|tr (al)<|sg [2,5,7,12])
 ·exact ex 6<|qx (by cases H;exact xo rfl<|sg [5])
theorem FRv_graph_columns_1_ok {z} (H:FRv_graph_columns_1 n i a b c e X=some z):LentOK Tryz.prog 53 [.d (.int .i64 i),.ptr 0 0,.ptr 1 0] [some (.box [.d (.str a),.osl 2 1 0 (c.length),.osl 3 1 0 (e.length)]),some (.box [.ptr 4 0]),some (.cut 5 1 c),some (.arr 1 (e.map eI64)),some (.box [.d (.sl (b.Arcs.map (eL eGArc))),.d (.sl (b.Accepts.map eB))]),some (.arr 1 (X.map eI64))] 6 (.d (.int .i64 z.2)) [some (.box [.d (.str a),.osl 2 1 0 (c.length),.osl 3 1 0 (e.length)]),some (.box [.ptr 4 0]),some (.cut 5 1 c),some (.arr 1 (e.map eI64)),some (.box [.d (.sl (b.Arcs.map (eL eGArc))),.d (.sl (b.Accepts.map eB))]),some (.arr 1 (z.1.map eI64))]:=by
 exact fL 129 6 (f53k0_s1 i a b c e X) Tryz.func53<|sr<|ck 1<|en<|sq<|rg (sh_cn (xs:=c) 2 5 1 (by kernel_rfl))<|ck 3<|bx H λ f am H=>sp (at_idxO 2 1 am)<|sp (at_ldC (t:=ty 35) 2 5 1 am)<|ck 2<|en<|sq<|sq<|rg (sh_nc (xs:=c) 2 5 1 (by kernel_rfl))<|ck 3<|en<|bk 0<|bx H λ bv bh H=>lX FRv_graph_columns_1_L1_ok bh (sg [0,1,2,5,23,24]) rfl λ s ap=>qH<|qs (ap)<|sr<|xm (xok _ _)<|ck 1<|en<|sq<|sr<|ck 4<|sp (at_len (eL eGArc) b.Arcs)<|ck 1<|en<|bk 2<|bx H λ bw bi H=>lX FRv_graph_columns_1_L2_ok bi (sg [0,1,2,5,7,52,53,54]) rfl λ s ar=>qH<|qs (ar)<|sq<|sr<|ck 1<|en<|bk 6<|bx H λ bz au H=>lX FRv_graph_columns_1_L4_ok au (sg [2,5,7,12]) rfl λ s av=>qH<|qs (av)<|sr<|ck 1<|bx H λ aw ay H=>lt [5] (FRv_reduce_ok ay)<|ck 1<|en<|re (by cases H;exact pL<|rl (s':=f53k0_s2 a b c e aw.1 aw.2)<|sg [4])
end
section
variable (e:GTable) (b:(List UInt8)) (c:GGraph) (a:((List (Nat×Nat))×(List Int)×(List Int))) (i:(List Int)) (j:(List Int)) (o:Int) (p:(List Int)) (l:(List Int))
def f14_s1:St:=⟨(0,.agg [.d<|.int .i64 e.Modes,.d<|.int .u8 e.Accept,.d<|.sl<|e.Rules.map eGRule])::(1,.d<|.str b)::[],[]⟩
def f14_s2:St:=⟨(4,.ptr 0 0)::(9,.ptr 1 0)::(10,.clo 53 [.ptr 2 0,.ptr 3 0])::(11,.d<|.int .i64 o)::[],[some<|.box [.d<|.str [],.osl 4 1 0<|List.length ([]:List (List Int)),.osl 5 1 0<|List.length ([]:List Int)],some<|.box [.d<|.str b,.osl 6 1 0<|a.1.length,.osl 7 1 0<|i.length],some<|.box [.d<|.str b,.osl 6 1 0<|a.1.length,.osl 7 1 0<|i.length],some<|.box [.ptr 8 0],some<|.arr 1<|List.map (eL eI64) ([]:List (List Int)),some<|.arr 1<|List.map eI64 ([]:List Int),some<|.cut 9 1 a.1,some<|.arr 1<|i.map eI64,some<|.box [.d<|.sl<|c.Arcs.map<|eL eGArc,.d<|.sl<|c.Accepts.map eB],some<|.arr 1<|j.map eI64]⟩
def f14_s3:St:=⟨(4,.ptr 0 0)::(9,.ptr 1 0)::[],[some<|.box [.d<|.str [],.osl 2 1 0<|List.length ([]:List (List Int)),.osl 3 1 0<|List.length ([]:List Int)],some<|.box [.d<|.str b,.osl 4 1 0<|a.1.length,.osl 5 1 0<|p.length],some<|.arr 1<|List.map (eL eI64) ([]:List (List Int)),some<|.arr 1<|List.map eI64 ([]:List Int),some<|.cut 6 1 a.1,some<|.arr 1<|p.map eI64,some<|.arr 1<|l.map eI64]⟩
def FRv_Start_L1_E:((List Int)×(List Int))->Ex->St->Prop:=xX 0 0<|λ (y:((List Int)×(List Int)))=>f14_s3 b a y.1 y.2
def FRv_Start_L1_S:((List Int)×(List Int)×Int)->St:=(λ (x:((List Int)×(List Int)×Int))=>f14_s2 b c a x.1 x.2.1 x.2.2)
variable {e b c a i j o p l}
theorem FRv_Start_L1_ok (x:((List Int)×(List Int)×Int)) (z:(((List Int)×(List Int)×Int)⊕((List Int)×(List Int)))) (H:FRv_Start_L1 n b c a x.1 x.2.1 x.2.2=some z):WP (cxk 43 0) (bodyOf Tryz.f14) [1,1,1,1,1,0,1,0,0] (roundQ 0 (FRv_Start_L1_S b c a) (FRv_Start_L1_E b a) z) (FRv_Start_L1_S b c a x):=by
 obtain ⟨i,j,o⟩:=x;refine sq<|sr<|ck 2<|en<|cn H (λ H=>?_)<|λ H=>?_
 ·exact sk<|qz<|sq<|bk 1<|rx 5 (.refl _)<|ck 5<|bx H λ E q H=>xs (xok _ _) (g:=true) rfl (impZ) [2,3,6,7,8,9] (FRv_graph_columns_1_ok q) rfl<|bx H λ G m H=>sp (at_idxO 7 1 m)<|mx 7<|bx H λ I h H=>stA eI64 7 0 (ty 3) m h<|ax<|qN<|qz<|rg (tr (tr (sn 36 7 1<|put_len h)<|snc 1 2 7 1<|put_len h)<|snc 2 2 7 1<|put_len h)<|ck 3<|ae (by cases H;exact og<|sg [4,9,10,11])
 ·exact ex 0<|qx (by cases H;exact xo rfl<|sg [4,9])
theorem FRv_Start_ok {z} (H:FRv_Start n e b=some z):CallOK Tryz.prog 14 [.agg (bTable e),.d (.str b)] (.tup [.agg [.d (.str z.1.Text),.d (.sl (z.1.Costs.map (eL eI64))),.own 1 (z.1.Least.map eI64)],.d (.int .i64 z.2)]):=by
 refine fO 43 (f14_s1 e b) Tryz.func14<|sr<|ck 3<|en<|sq<|sr<|ck 1<|bx H λ C r H=>ca true (FTb_Text_ok r)<|ck 5<|en<|sr<|ck 2<|en<|cn H (λ H=>?_)<|λ H=>?_
 ·exact sr<|ck 4<|en<|re<|qr (by cases H;exact pr<|rT (vs:=[.agg [.d<|.str [],.d<|.nil,.d<|.nil],.d<|.int .i64 C.2]) []<|t1 (a1<|c1 vd<|c1 vn<|c1 vz<|c0)<|t1 (ad vd)<|t0)
 ·exact sk<|qz<|sr<|ck 1<|bx H λ c t H=>lt [] (FRv_newGraph_ok t)<|tb (f:=mapA1<|backN [] 2 0) [some<|.box<|bTable e,some<|.box [.d<|.str [],.d<|.nil,.d<|.nil],some<|.box [.osl 3 1 0<|c.Arcs.length,.osl 4 1 0<|c.Accepts.length],some<|.narr 1<|c.Arcs.map<|nL 3 eGArc,some<|.arr 1<|c.Accepts.map eB] (po1<|po1<|po1<|pn1 (nL 3 eGArc) c.Arcs<|po1<|Pl.z)<|ck 1<|en<|sq<|rg (tr (sh_frzNc (encN:=(nL 3 eGArc)) (encD:=(eL eGArc)) (xss:=c.Arcs) (sz:=1) 2 0 3 (by kernel_rfl) (by kernel_rfl) (λ _=>rfl)<|λ _=>rfl)<|fzc (enc:=eB) (xs:=c.Accepts) 2 1 4 1)<|ck 2<|bx H λ a u H=>lt [2] (FRv_graph_emptyx_ok u)<|ck 2<|en<|sr<|ck 2<|bx H λ J v H=>lt [2,6,7,8] (FRv_graph_columns_ok v)<|ck 1<|en<|sq<|sr<|ck 3<|en<|bk 0<|bx H λ k w H=>lX FRv_Start_L1_ok w (tr (tr (sh_nilc 1 1 1 (by kernel_rfl))<|sh_nilc 1 2 1 (by kernel_rfl))<|sg [4,9,10,11]) rfl λ s A=>qH<|qs (A)<|sr<|ck 3<|ae<|bx H λ _ B H=>qs (tr (tr (sh_cn (xs:=a.1) 4 6 1 (by kernel_rfl))<|sh_frzC1 (enc:=eI64) (ys:=k.2) (xs:=a.1) 6 4 1 B (by kernel_rfl) (by kernel_rfl))<|sh_frzNgc (sz:=1) (encN:=cutD eI64) (encD:=(eL eI64)) (xss:=cutL k.2 a.1) 0 1 4 cutL_len (by kernel_rfl) (by kernel_rfl) (λ _=>rfl)<|λ _=>rfl)<|re (by cases H;exact pr<|rT (vs:=[.agg [.d<|.str b,.d<|.sl<|List.map (eL eI64)<|cutL k.2 a.1,.osl 5 1 0<|k.1.length],.d<|.int .i64 0]) [5]<|t1 (a1<|c1 vd<|c1 vd<|c1 vo<|c0)<|t1 (ad vd)<|t0)
end
section
variable (b:GMemo) (a:GGraph) (e:Bool) (c:Int)
def f27k0_s1:St:=⟨(0,.ptr 0 0)::(1,.agg [.d<|.str b.Text,.d<|.sl<|b.Costs.map<|eL eI64,.d<|.sl<|b.Least.map eI64])::[],[some<|.box [.osl 1 1 0<|a.Arcs.length,.osl 2 1 0<|a.Accepts.length],some<|.narr 1<|a.Arcs.map<|nL 3 eGArc,some<|.arr 1<|a.Accepts.map eB]⟩
def f27k0_s2:St:=⟨(4,.d<|.bool e)::[],[some<|.box [.osl 1 1 0<|a.Arcs.length,.osl 2 1 0<|a.Accepts.length],some<|.narr 1<|a.Arcs.map<|nL 3 eGArc,some<|.arr 1<|a.Accepts.map eB]⟩
def f27k0_s3:St:=⟨(0,.ptr 0 0)::(26,.d<|.sl<|b.Costs.map<|eL eI64)::(27,.d<|.int .i64 ((b.Costs.length:Nat):Int))::(28,.d<|.int .i64 c)::[],[some<|.box [.osl 1 1 0<|a.Arcs.length,.osl 2 1 0<|a.Accepts.length],some<|.narr 1<|a.Arcs.map<|nL 3 eGArc,some<|.arr 1<|a.Accepts.map eB]⟩
def f27k0_s4:St:=⟨[],[some<|.box [.osl 1 1 0<|a.Arcs.length,.osl 2 1 0<|a.Accepts.length],some<|.narr 1<|a.Arcs.map<|nL 3 eGArc,some<|.arr 1<|a.Accepts.map eB]⟩
def FRv_graph_hasx_L1_E:(Unit⊕Bool)->Ex->St->Prop:=xS (xX 3 0<|λ (_:Unit)=>f27k0_s4 a)<|xL 3 ty Tryz.f27 (λ (y:Bool)=>.d<|.bool y)<|λ (_:Bool)=>[some<|.box [.osl 1 1 0<|a.Arcs.length,.osl 2 1 0<|a.Accepts.length],some<|.narr 1<|a.Arcs.map<|nL 3 eGArc,some<|.arr 1<|a.Accepts.map eB]
def FRv_graph_hasx_L1_S:Int->St:=(λ (x:Int)=>f27k0_s3 b a x)
variable {b a e c}
theorem FRv_graph_hasx_L1_ok (x:Int) (z:(Int⊕(Unit⊕Bool))) (H:FRv_graph_hasx_L1 n b a x=some z):WP (cxk 41 3) (bodyOf Tryz.f27) [1,1,0,1,0,0] (roundQ 3 (FRv_graph_hasx_L1_S b a) (FRv_graph_hasx_L1_E a) z) (FRv_graph_hasx_L1_S b a x):=by
 revert H;generalize x=c;intro H;refine sr<|ck 1<|en<|sq<|cn H (λ H=>?_)<|λ H=>?_
 ·refine sk<|qz<|sq<|bk 1<|sr<|bx H λ k h H=>sp (at_idxD (eL eI64) h)<|ck 2<|en<|sr<|ck 1<|sp (at_len eI64 k)<|ck 6<|en<|cn H (λ H=>?_)<|λ H=>?_
  ·exact sr<|ck 1<|en<|re<|qR<|qr (by cases H;exact lo rfl<|rl (s':=f27k0_s2 a false)<|gP [4] [0,1,2]<|po1<|pn1 (nL 3 eGArc) a.Arcs<|po1<|Pl.z)
  ·exact sk<|qN<|qz<|rz<|ck 2<|ae (by cases H;exact og<|gP [0,26,27,28] [0,1,2]<|po1<|pn1 (nL 3 eGArc) a.Arcs<|po1<|Pl.z)
 ·exact ex 0<|qx (by cases H;exact xo rfl<|gP [] [0,1,2]<|po1<|pn1 (nL 3 eGArc) a.Arcs<|po1<|Pl.z)
theorem FRv_graph_hasx_ok {z} (H:FRv_graph_hasx n b a=some z):LentOK Tryz.prog 27 [.ptr 0 0,.agg (bMemo b)] [some (.box [.osl 1 1 0 (a.Arcs.length),.osl 2 1 0 (a.Accepts.length)]),some (.narr 1 (a.Arcs.map (nL 3 eGArc))),some (.arr 1 (a.Accepts.map eB))] 3 (.d (.bool z)) [some (.box [.osl 1 1 0 (a.Arcs.length),.osl 2 1 0 (a.Accepts.length)]),some (.narr 1 (a.Arcs.map (nL 3 eGArc))),some (.arr 1 (a.Accepts.map eB))]:=by
 refine fL 41 3 (f27k0_s1 b a) Tryz.func27<|sr<|ck 2<|en<|sq<|sr<|ck 2<|sp (at_len (eL eI64) b.Costs)<|ck 7<|gc 1 (!(((b.Costs.length:Nat):Int) != (iadd .i64 ((b.Text.length:Nat):Int) 1)))<|sE (g:=(!(((b.Costs.length:Nat):Int) != (iadd .i64 ((b.Text.length:Nat):Int) 1)))) (λ hg=>at_len eI64 b.Least)<|ck 1<|gc 4 (!(((b.Costs.length:Nat):Int) != (iadd .i64 ((b.Text.length:Nat):Int) 1)))<|pO<|en<|cn H (λ H=>?_)<|λ H=>?_
 ·exact sr<|ck 1<|en<|re<|qr (by cases H;exact pL<|rl (s':=f27k0_s2 a false)<|gP [4] [0,1,2]<|po1<|pn1 (nL 3 eGArc) a.Arcs<|po1<|Pl.z)
 ·refine sk<|qz<|sq<|sr<|ck 2<|sp (at_len (eL eI64) b.Costs)<|ck 1<|en<|bk 0<|bx H λ l f H=>?_;rcases l with m|o
  ·exact lX FRv_graph_hasx_L1_ok f (gP [0,26,27,28] [0,1,2]<|po1<|pn1 (nL 3 eGArc) a.Arcs<|po1<|Pl.z) rfl λ s i=>qH<|qs (i)<|sr<|ck 1<|en<|re (by cases H;exact pL<|rl (s':=f27k0_s2 a true)<|gP [4] [0,1,2]<|po1<|pn1 (nL 3 eGArc) a.Arcs<|po1<|Pl.z)
  ·exact lL FRv_graph_hasx_L1_ok f (gP [0,26,27,28] [0,1,2]<|po1<|pn1 (nL 3 eGArc) a.Arcs<|po1<|Pl.z) rfl λ s j=>qR<|qr (by cases H;exact pL j)
end
section
variable (c:(List Int)) (b:(Nat×Nat)) (a:(List Int)) (f:Bool) (e:Int)
def f58k0_s1:St:=⟨(0,.d<|.sl<|c.map eI64)::(1,.osl 0 1 b.1 b.2)::[],[some<|.arr 1<|a.map eI64]⟩
def f58k0_s2:St:=⟨(4,.d<|.bool f)::[],[some<|.arr 1<|a.map eI64]⟩
def f58k0_s3:St:=⟨(0,.d<|.sl<|c.map eI64)::(1,.osl 0 1 b.1 b.2)::(12,.d<|.int .i64 ((c.length:Nat):Int))::(13,.d<|.int .i64 e)::[],[some<|.arr 1<|a.map eI64]⟩
def f58k0_s4:St:=⟨[],[some<|.arr 1<|a.map eI64]⟩
def FSl_Equal_int_intx_L1_E:(Unit⊕Bool)->Ex->St->Prop:=xS (xX 1 0<|λ (_:Unit)=>f58k0_s4 a)<|xL 1 ty Tryz.f58 (λ (y:Bool)=>.d<|.bool y)<|λ (_:Bool)=>[some<|.arr 1<|a.map eI64]
def FSl_Equal_int_intx_L1_S:Int->St:=(λ (x:Int)=>f58k0_s3 c b a x)
variable {c b a f e}
theorem FSl_Equal_int_intx_L1_ok (x:Int) (z:(Int⊕(Unit⊕Bool))) (H:FSl_Equal_int_intx_L1 n c b a x=some z):WP (cxk 26 1) (bodyOf Tryz.f58) [1,1,0,1,0,0] (roundQ 1 (FSl_Equal_int_intx_L1_S c b a) (FSl_Equal_int_intx_L1_E a) z) (FSl_Equal_int_intx_L1_S c b a x):=by
 revert H;generalize x=e;intro H;refine sr<|ck 1<|en<|sq<|cn H (λ H=>?_)<|λ H=>?_
 ·refine sk<|qz<|sq<|bk 1<|sr<|ck 2<|en<|sr<|ck 2<|bx H λ m i H=>sp (at_idxD eI64 i)<|ck 3<|bx H λ o g H=>sp (at_idxP 0 1 b.1 b.2<|ixP_in g)<|sp (at_ldP eI64 0 0 (ty 3)<|ixP_idx g)<|ck 1<|en<|cn H (λ H=>?_)<|λ H=>?_
  ·exact sr<|ck 1<|en<|re<|qR<|qr (by cases H;exact lo rfl<|rl (s':=f58k0_s2 a false)<|sg [4])
  ·exact sk<|qN<|qz<|rz<|ck 2<|ae (by cases H;exact og<|sg [0,1,12,13])
 ·exact ex 0<|qx (by cases H;exact xo rfl<|sg [])
theorem FSl_Equal_int_intx_ok {z} (H:FSl_Equal_int_intx n c b a=some z):LentOK Tryz.prog 58 [.d (.sl (c.map eI64)),.osl 0 1 b.1 b.2] [some (.arr 1 (a.map eI64))] 1 (.d (.bool z)) [some (.arr 1 (a.map eI64))]:=by
 refine fL 26 1 (f58k0_s1 c b a) Tryz.func58<|sr<|ck 1<|en<|sq<|sr<|ck 1<|sp (at_len eI64 c)<|ck 3<|en<|cn H (λ H=>?_)<|λ H=>?_
 ·exact sr<|ck 1<|en<|re<|qr (by cases H;exact pL<|rl (s':=f58k0_s2 a false)<|sg [4])
 ·refine sk<|qz<|sq<|sr<|ck 1<|sp (at_len eI64 c)<|ck 1<|en<|bk 0<|bx H λ l h H=>?_;rcases l with p|q
  ·exact lX FSl_Equal_int_intx_L1_ok h (sg [0,1,12,13]) rfl λ s j=>qH<|qs (j)<|sr<|ck 1<|en<|re (by cases H;exact pL<|rl (s':=f58k0_s2 a true)<|sg [4])
  ·exact lL FSl_Equal_int_intx_L1_ok h (sg [0,1,12,13]) rfl λ s k=>qR<|qr (by cases H;exact pL k)
end
section
variable (i:GMemo) (b:(List UInt8)) (k:Int) (a:(List (Nat×Nat))) (c:(List Int)) (f:(List Int)) (q:Int) (r:Bool) (j:Int) (h:Bool) (p:Int) (o:Int) (l:Int) (m:Bool)
def f30k0_s1:St:=⟨(0,.agg [.d<|.str i.Text,.d<|.sl<|i.Costs.map<|eL eI64,.d<|.sl<|i.Least.map eI64])::(1,.agg [.d<|.str b,.osl 0 1 0<|a.length,.osl 1 1 0<|c.length])::(2,.d<|.int .i64 k)::[],[some<|.cut 2 1 a,some<|.arr 1<|c.map eI64,some<|.arr 1<|f.map eI64]⟩
def f30k0_s2:St:=⟨(6,.d<|.int .i64 q)::(7,.d<|.bool r)::[],[some<|.cut 2 1 a,some<|.arr 1<|c.map eI64,some<|.arr 1<|f.map eI64]⟩
def f30k0_s3:St:=⟨(2,.d<|.int .i64 k)::(3,.ptr 3 0)::(4,.ptr 4 0)::(8,.d<|.int .i64 j)::(9,.d<|.bool h)::(10,.d<|.int .i64 p)::[],[some<|.cut 2 1 a,some<|.arr 1<|c.map eI64,some<|.arr 1<|f.map eI64,some<|.box<|bMemo i,some<|.box [.d<|.str b,.osl 0 1 0<|a.length,.osl 1 1 0<|c.length]]⟩
def f30k0_s4:St:=⟨(8,.d<|.int .i64 o)::[],[some<|.cut 2 1 a,some<|.arr 1<|c.map eI64,some<|.arr 1<|f.map eI64]⟩
def f30k0_s5:St:=⟨(2,.d<|.int .i64 k)::(3,.ptr 3 0)::(4,.ptr 4 0)::(8,.d<|.int .i64 l)::(9,.d<|.bool m)::(10,.d<|.int .i64 p)::[],[some<|.cut 2 1 a,some<|.arr 1<|c.map eI64,some<|.arr 1<|f.map eI64,some<|.box<|bMemo i,some<|.box [.d<|.str b,.osl 0 1 0<|a.length,.osl 1 1 0<|c.length]]⟩
def FRv_settledx_L1_E:(Int⊕(Int×Bool))->Ex->St->Prop:=xS (xX 3 0<|λ (y:Int)=>f30k0_s4 a c f y)<|xL 3 ty Tryz.f30 (λ (y:(Int×Bool))=>.tup [.d<|.int .i64 y.1,.d<|.bool y.2])<|λ (_:(Int×Bool))=>[some<|.cut 2 1 a,some<|.arr 1<|c.map eI64,some<|.arr 1<|f.map eI64]
def FRv_settledx_L1_S:(Int×Bool×Int)->St:=(λ (x:(Int×Bool×Int))=>f30k0_s3 i b k a c f x.1 x.2.1 x.2.2)
variable {i b k a c f q r j h p o l m}
theorem FRv_settledx_L1_ok (x:(Int×Bool×Int)) (z:((Int×Bool×Int)⊕(Int⊕(Int×Bool)))) (H:FRv_settledx_L1 n i b k a c f x.1 x.2.1 x.2.2=some z):WP (cxk 64 3) (bodyOf Tryz.f30) [1,1,0,1,0,0] (roundQ 3 (FRv_settledx_L1_S i b k a c f) (FRv_settledx_L1_E a c f) z) (FRv_settledx_L1_S i b k a c f x):=by
 obtain ⟨j,h,p⟩:=x;refine sq<|sr<|ck 4<|en<|cn H (λ H=>?_)<|λ H=>?_
 ·refine sk<|qz<|sj (λ (x:(Int×Bool))=>f30k0_s5 i b k a c f p x.1 x.2) (λ (x:(Int×Bool))=>FRv_settledx_J1 n p x.1 x.2) z ?_ (λ e=>?_)
  ·rintro ⟨l,m⟩ H;exact rz<|ck 3<|ae (by cases H;exact og<|sg [2,3,4,8,9,10])
  refine bk 1<|sq<|sq<|rx 10 (sh_cn (xs:=a) 0 2 1 (by kernel_rfl))<|ck 3<|bx H λ Q C H=>sp (at_idxD (eL eI64) C)<|ck 4<|bx H λ R u H=>sp (at_idxO 0 1 u)<|sp (at_ldC (t:=ty 35) 0 2 1 u)<|bx H λ S E H=>xs (xok _ _) (g:=true) rfl (impZ) [2] (FSl_Equal_int_intx_ok E) rfl<|mx 11<|ck 1<|ax<|qz<|cn H (λ H=>?_)<|λ H=>?_
  ·exact sq<|rg (sh_nc (xs:=a) 0 2 1 (by kernel_rfl))<|ck 2<|en<|re<|qr<|qR<|qr (by cases H;exact lo rfl<|rl (s':=f30k0_s2 a c f 0 false)<|sg [6,7])
  ·refine sk<|qz<|sq<|sq<|rg (sh_nc (xs:=a) 0 2 1 (by kernel_rfl))<|ck 3<|bx H λ B G H=>sp (at_idxD eI64 G)<|ck 4<|gc 1 (!(decide<|B<0))<|ck 1<|bx H λ T v H=>sE (λ hg=>at_idxO 1 1<|gimp v hg)<|sE (g:=(!(decide<|B<0))) (λ hg=>at_ldA eI64 1 0 (ty 3)<|gimp v hg)<|gc 1 (!(decide<|B<0))<|pO<|en<|cn H (λ H=>?_)<|λ H=>?_
   ·exact ex 1<|qx<|qH<|qs (sg [2,3,4,8,9,10])<|e (j,h) H
   ·refine sk<|qz<|sr<|ck 3<|bx H λ L w H=>sp (at_idxO 1 1 w)<|sp (at_ldA eI64 1 0 (ty 3) w)<|ck 3<|bx H λ M I H=>sp (at_idxD eI64 I)<|ck 3<|en<|sq<|sr<|ck 4<|gc 1 h<|pA<|en<|cn H (λ H=>?_)<|λ H=>?_
    ·exact sr<|ck 2<|en<|re<|qr<|qR<|qr (by cases H;exact lo rfl<|rl (s':=f30k0_s2 a c f 0 false)<|sg [6,7])
    ·exact sk<|qz<|rz<|ck 3<|ae<|qN<|qs (sg [2,3,4,8,9,10])<|e ((isub .i64 L M),true) H
 ·exact ex 0<|qx (by cases H;exact xo rfl<|sg [8])
theorem FRv_settledx_ok {z} (H:FRv_settledx n i b k a c f=some z):LentOK Tryz.prog 30 [.agg (bMemo i),.agg [.d (.str b),.osl 0 1 0 (a.length),.osl 1 1 0 (c.length)],.d (.int .i64 k)] [some (.cut 2 1 a),some (.arr 1 (c.map eI64)),some (.arr 1 (f.map eI64))] 3 (.tup [.d (.int .i64 z.1),.d (.bool z.2)]) [some (.cut 2 1 a),some (.arr 1 (c.map eI64)),some (.arr 1 (f.map eI64))]:=by
 refine fL 64 3 (f30k0_s1 i b k a c f) Tryz.func30<|sr<|ck 4<|en<|sr<|ck 2<|en<|sq<|sr<|ck 2<|en<|bk 0<|bx H λ O A H=>?_;rcases O with P|U
 ·exact lX FRv_settledx_L1_ok A (sg [2,3,4,8,9,10]) rfl λ s J=>qH<|qs (J)<|sr<|ck 3<|en<|re (by cases H;exact pL<|rl (s':=f30k0_s2 a c f P true)<|sg [6,7])
 ·exact lL FRv_settledx_L1_ok A (sg [2,3,4,8,9,10]) rfl λ s K=>qR<|qr (by cases H;exact pL K)
end
section
variable (B:GTable) (c:GMemo) (b:GSplice) (o:(List UInt8)) (e:GGraph) (a:((List (Nat×Nat))×(List Int)×(List Int))) (p:(List Int)) (L:(List Int)) (ag:Int) (u:(List Int)) (U:(List Int)) (h:(List Int)) (M:(List Int)) (i:Int) (K:Int) (v:(List Int)) (V:(List Int)) (C:Int) (G:Int) (E:Int) (j:(List Int)) (O:(List Int)) (m:((List Int)×(List Int)×Int×Int×Int)) (q:(List Int)) (P:(List Int)) (A:Int) (w:(List Int)) (W:(List Int)) (r:(List Int)) (Q:(List Int))
def f11_s1:St:=⟨(0,.agg [.d<|.int .i64 B.Modes,.d<|.int .u8 B.Accept,.d<|.sl<|B.Rules.map eGRule])::(1,.agg [.d<|.str c.Text,.d<|.sl<|c.Costs.map<|eL eI64,.d<|.sl<|c.Least.map eI64])::(2,.agg [.d<|.int .i64 b.At,.d<|.int .i64 b.Cut,.d<|.str b.Put])::[],[]⟩
def f11_s2:St:=⟨(4,.ptr 0 0)::(5,.ptr 1 0)::(6,.ptr 2 0)::(10,.d<|.str o)::(13,.ptr 3 0)::(14,.ptr 4 0)::(15,.d<|.int .i64<|iadd .i64 b.At ((b.Put.length:Nat):Int))::(16,.d<|.int .i64 ag)::[],[some<|.box<|bMemo c,some<|.box<|bSplice b,some<|.box [.d<|.str [],.osl 5 1 0<|List.length ([]:List (List Int)),.osl 6 1 0<|List.length ([]:List Int)],some<|.box [.d<|.sl<|e.Arcs.map<|eL eGArc,.d<|.sl<|e.Accepts.map eB],some<|.box [.d<|.str o,.osl 7 1 0<|a.1.length,.osl 8 1 0<|p.length],some<|.arr 1<|List.map (eL eI64) ([]:List (List Int)),some<|.arr 1<|List.map eI64 ([]:List Int),some<|.cut 9 1 a.1,some<|.arr 1<|p.map eI64,some<|.arr 1<|L.map eI64]⟩
def f11_s3:St:=⟨(4,.ptr 0 0)::(5,.ptr 1 0)::(6,.ptr 2 0)::(13,.ptr 3 0)::(14,.ptr 4 0)::(15,.d<|.int .i64<|iadd .i64 b.At ((b.Put.length:Nat):Int))::[],[some<|.box<|bMemo c,some<|.box<|bSplice b,some<|.box [.d<|.str [],.osl 5 1 0<|List.length ([]:List (List Int)),.osl 6 1 0<|List.length ([]:List Int)],some<|.box [.d<|.sl<|e.Arcs.map<|eL eGArc,.d<|.sl<|e.Accepts.map eB],some<|.box [.d<|.str o,.osl 7 1 0<|a.1.length,.osl 8 1 0<|u.length],some<|.arr 1<|List.map (eL eI64) ([]:List (List Int)),some<|.arr 1<|List.map eI64 ([]:List Int),some<|.cut 9 1 a.1,some<|.arr 1<|u.map eI64,some<|.arr 1<|U.map eI64]⟩
def FRv_Change_L1_E:((List Int)×(List Int))->Ex->St->Prop:=xX 0 0<|λ (y:((List Int)×(List Int)))=>f11_s3 c b o e a y.1 y.2
def FRv_Change_L1_S:((List Int)×(List Int)×Int)->St:=(λ (x:((List Int)×(List Int)×Int))=>f11_s2 c b o e a x.1 x.2.1 x.2.2)
def f11_s4:St:=⟨(4,.ptr 0 0)::(5,.ptr 1 0)::(6,.ptr 2 0)::(14,.ptr 3 0)::(18,.clo 53 [.ptr 4 0,.ptr 5 0])::(19,.d<|.int .i64 i)::(20,.d<|.int .i64 0)::(21,.d<|.int .i64 0)::(22,.d<|.int .i64 K)::[],[some<|.box<|bMemo c,some<|.box<|bSplice b,some<|.box [.d<|.str [],.osl 6 1 0<|List.length ([]:List (List Int)),.osl 7 1 0<|List.length ([]:List Int)],some<|.box [.d<|.str o,.osl 8 1 0<|a.1.length,.osl 9 1 0<|h.length],some<|.box [.d<|.str o,.osl 8 1 0<|a.1.length,.osl 9 1 0<|h.length],some<|.box [.ptr 10 0],some<|.arr 1<|List.map (eL eI64) ([]:List (List Int)),some<|.arr 1<|List.map eI64 ([]:List Int),some<|.cut 11 1 a.1,some<|.arr 1<|h.map eI64,some<|.box [.d<|.sl<|e.Arcs.map<|eL eGArc,.d<|.sl<|e.Accepts.map eB],some<|.arr 1<|M.map eI64]⟩
def f11_s5:St:=⟨(4,.ptr 0 0)::(6,.ptr 1 0)::(14,.ptr 2 0)::(19,.d<|.int .i64 C)::(20,.d<|.int .i64 G)::(21,.d<|.int .i64 E)::[],[some<|.box<|bMemo c,some<|.box [.d<|.str [],.osl 3 1 0<|List.length ([]:List (List Int)),.osl 4 1 0<|List.length ([]:List Int)],some<|.box [.d<|.str o,.osl 5 1 0<|a.1.length,.osl 6 1 0<|v.length],some<|.arr 1<|List.map (eL eI64) ([]:List (List Int)),some<|.arr 1<|List.map eI64 ([]:List Int),some<|.cut 7 1 a.1,some<|.arr 1<|v.map eI64,some<|.arr 1<|V.map eI64]⟩
def f11_s6:St:=⟨(4,.ptr 0 0)::(5,.ptr 1 0)::(6,.ptr 2 0)::(14,.ptr 3 0)::(18,.clo 53 [.ptr 4 0,.ptr 5 0])::(19,.d<|.int .i64<|iadd .i64 i 1)::(20,.d<|.int .i64 0)::(21,.d<|.int .i64 0)::(22,.d<|.int .i64 K)::[],[some<|.box<|bMemo c,some<|.box<|bSplice b,some<|.box [.d<|.str [],.osl 6 1 0<|List.length ([]:List (List Int)),.osl 7 1 0<|List.length ([]:List Int)],some<|.box [.d<|.str o,.osl 8 1 0<|a.1.length,.osl 9 1 0<|j.length],some<|.box [.d<|.str o,.osl 8 1 0<|a.1.length,.osl 9 1 0<|j.length],some<|.box [.ptr 10 0],some<|.arr 1<|List.map (eL eI64) ([]:List (List Int)),some<|.arr 1<|List.map eI64 ([]:List Int),some<|.cut 11 1 a.1,some<|.arr 1<|j.map eI64,some<|.box [.d<|.sl<|e.Arcs.map<|eL eGArc,.d<|.sl<|e.Accepts.map eB],some<|.arr 1<|O.map eI64]⟩
def FRv_Change_L2_E:((List Int)×(List Int)×Int×Int×Int)->Ex->St->Prop:=xX 0 2<|λ (y:((List Int)×(List Int)×Int×Int×Int))=>f11_s5 c o a y.1 y.2.1 y.2.2.1 y.2.2.2.1 y.2.2.2.2
def FRv_Change_L2_S:((List Int)×(List Int)×Int×Int)->St:=(λ (x:((List Int)×(List Int)×Int×Int))=>f11_s4 c b o e a x.1 x.2.1 x.2.2.1 x.2.2.2)
def f11_s7:St:=⟨(4,.ptr 0 0)::(6,.ptr 1 0)::(14,.ptr 2 0)::(19,.d<|.int .i64 m.2.2.1)::(21,.d<|.int .i64 m.2.2.2.2)::(163,.d<|.int .i64 m.2.2.2.1)::(164,.d<|.int .i64 A)::[],[some<|.box<|bMemo c,some<|.box [.d<|.str [],.osl 3 1 0<|List.length ([]:List (List Int)),.osl 4 1 0<|List.length ([]:List Int)],some<|.box [.d<|.str o,.osl 5 1 0<|a.1.length,.osl 6 1 0<|q.length],some<|.arr 1<|List.map (eL eI64) ([]:List (List Int)),some<|.arr 1<|List.map eI64 ([]:List Int),some<|.cut 7 1 a.1,some<|.arr 1<|q.map eI64,some<|.arr 1<|P.map eI64]⟩
def f11_s8:St:=⟨(6,.ptr 0 0)::(14,.ptr 1 0)::(19,.d<|.int .i64 m.2.2.1)::[],[some<|.box [.d<|.str [],.osl 2 1 0<|List.length ([]:List (List Int)),.osl 3 1 0<|List.length ([]:List Int)],some<|.box [.d<|.str o,.osl 4 1 0<|a.1.length,.osl 5 1 0<|w.length],some<|.arr 1<|List.map (eL eI64) ([]:List (List Int)),some<|.arr 1<|List.map eI64 ([]:List Int),some<|.cut 6 1 a.1,some<|.arr 1<|w.map eI64,some<|.arr 1<|W.map eI64]⟩
def f11_s9:St:=⟨(4,.ptr 0 0)::(6,.ptr 1 0)::(14,.ptr 2 0)::(19,.d<|.int .i64 m.2.2.1)::(21,.d<|.int .i64 m.2.2.2.2)::(163,.d<|.int .i64 m.2.2.2.1)::(164,.d<|.int .i64 A)::[],[some<|.box<|bMemo c,some<|.box [.d<|.str [],.osl 3 1 0<|List.length ([]:List (List Int)),.osl 4 1 0<|List.length ([]:List Int)],some<|.box [.d<|.str o,.osl 5 1 0<|a.1.length,.osl 6 1 0<|r.length],some<|.arr 1<|List.map (eL eI64) ([]:List (List Int)),some<|.arr 1<|List.map eI64 ([]:List Int),some<|.cut 7 1 a.1,some<|.arr 1<|r.map eI64,some<|.arr 1<|Q.map eI64]⟩
def FRv_Change_L3_E:((List Int)×(List Int))->Ex->St->Prop:=xX 0 4<|λ (y:((List Int)×(List Int)))=>f11_s8 o a m y.1 y.2
def FRv_Change_L3_S:((List Int)×(List Int)×Int)->St:=(λ (x:((List Int)×(List Int)×Int))=>f11_s7 c o a m x.1 x.2.1 x.2.2)
variable {B c b o e a p L ag u U h M i K v V C G E j O m q P A w W r Q}
theorem FRv_Change_L1_ok (x:((List Int)×(List Int)×Int)) (z:(((List Int)×(List Int)×Int)⊕((List Int)×(List Int)))) (H:FRv_Change_L1 n c b o e a x.1 x.2.1 x.2.2=some z):WP (cxk 204 0) (bodyOf Tryz.f11) [1,0,1,1,1,1,1,1,1,1,0,1,0,0] (roundQ 0 (FRv_Change_L1_S c b o e a) (FRv_Change_L1_E c b o e a) z) (FRv_Change_L1_S c b o e a x):=by
 obtain ⟨p,L,ag⟩:=x;refine sq<|sr<|ck 4<|en<|cn H (λ H=>?_)<|λ H=>?_
 ·exact sk<|qz<|sq<|bk 1<|sr<|ck 9<|en<|sq<|rx 11 (sh_cn (xs:=a.1) 7 9 1 (by kernel_rfl))<|ck 3<|bx H λ ah X H=>sp (at_idxO 7 1 X)<|sp (at_ldC (t:=ty 35) 7 9 1 X)<|ck 3<|bx H λ bm ai H=>sp (at_idxD (eL eI64) ai)<|ck 1<|mx 10<|bx H λ bn aj H=>xpP (xok _ _) eI64 9 1 ah.1 ah.2 aj srcD (λ _=>rfl)<|ax<|qz<|rg (sh_nc (xs:=a.1) 7 9 1 (by kernel_rfl))<|ck 6<|bx H λ bp ak H=>sp (at_idxD eI64 ak)<|ck 1<|bx H λ bq Y H=>sp (at_idxO 8 1 Y)<|bx H λ br R H=>stA eI64 8 0 (ty 3) Y R<|ae<|qN<|qz<|rg (tr (sn 122 8 1<|put_len R)<|snc 4 2 8 1<|put_len R)<|ck 3<|ae (by cases H;exact og<|sg [4,5,6,10,13,14,15,16])
 ·exact ex 0<|qx (by cases H;exact xo rfl<|sg [4,5,6,13,14,15])
theorem FRv_Change_L2_ok (x:((List Int)×(List Int)×Int×Int)) (z:(((List Int)×(List Int)×Int×Int)⊕((List Int)×(List Int)×Int×Int×Int))) (H:FRv_Change_L2 n c b o e a x.1 x.2.1 x.2.2.1 x.2.2.2=some z):WP (cxk 204 0) (bodyOf Tryz.f11) [1,0,1,1,1,1,1,1,1,1,1,1,1,1,0,1,0,0] (roundQ 0 (FRv_Change_L2_S c b o e a) (FRv_Change_L2_E c o a) z) (FRv_Change_L2_S c b o e a x):=by
 obtain ⟨h,M,i,K⟩:=x;refine sq<|sr<|ck 2<|en<|cn H (λ H=>?_)<|λ H=>?_
 ·refine sk<|qz<|sj (λ (x:((List Int)×(List Int)))=>f11_s6 c b o e a i K x.1 x.2) (λ (x:((List Int)×(List Int)))=>FRv_Change_J1 n i K x.1 x.2) z ?_ (λ k=>?_)
  ·rintro ⟨j,O⟩ H;exact rz<|ck 3<|ae (by cases H;exact og<|sg [4,5,6,14,18,19,20,21,22])
  refine bk 3<|sq<|rx 5 (.refl _)<|ck 5<|bx H λ al am H=>xs (xok _ _) (g:=true) rfl (impZ) [4,5,8,9,10,11] (FRv_graph_columns_1_ok am) rfl<|bx H λ bt Z H=>sp (at_idxO 9 1 Z)<|mx 7<|bx H λ ap I H=>stA eI64 9 0 (ty 3) Z I<|ax<|qz<|sq<|rg (tr (tr (sn 140 9 1<|put_len I)<|snc 3 2 9 1<|put_len I)<|snc 4 2 9 1<|put_len I)<|ck 3<|en<|sq<|sr<|ck 5<|en<|cn H (λ H=>?_)<|λ H=>?_
  ·exact ex 3<|qx<|qH<|qs (sg [4,5,6,14,18,19,20,21,22])<|k (ap,al.1) H
  ·refine sk<|qz<|sr<|ck 3<|bx H λ bu ar H=>lt [8,9,11] (FRv_settledx_ok ar)<|ck 5<|en<|sr<|ck 1<|en<|cn H (λ H=>?_)<|λ H=>?_
   ·exact sr<|ck 4<|en<|ex 2<|qX rfl<|qx (by cases H;exact xo rfl<|sg [4,6,14,19,20,21])
   ·exact sk<|qN<|qs (sg [4,5,6,14,18,19,20,21,22])<|k (ap,al.1) H
 ·exact ex 2<|qx (by cases H;exact xo rfl<|sg [4,6,14,19,20,21])
theorem FRv_Change_L3_ok (x:((List Int)×(List Int)×Int)) (z:(((List Int)×(List Int)×Int)⊕((List Int)×(List Int)))) (H:FRv_Change_L3 n c o a m x.1 x.2.1 x.2.2=some z):WP (cxk 204 0) (bodyOf Tryz.f11) [1,0,1,1,1,1,1,1,1,1,1,1,1,1,1,0,1,0,0] (roundQ 0 (FRv_Change_L3_S c o a m) (FRv_Change_L3_E o a m) z) (FRv_Change_L3_S c o a m x):=by
 obtain ⟨q,P,A⟩:=x;refine sr<|ck 1<|en<|sq<|cn H (λ H=>?_)<|λ H=>?_
 ·refine sk<|qz<|sj (λ (x:((List Int)×(List Int)))=>f11_s9 c o a m A x.1 x.2) (λ (x:((List Int)×(List Int)))=>FRv_Change_J2 n A x.1 x.2) z ?_ (λ l=>?_)
  ·rintro ⟨r,Q⟩ H;exact rz<|ck 2<|ae (by cases H;exact og<|sg [4,6,14,19,21,163,164])
  refine bk 5<|sr<|ck 2<|en<|sq<|rx 11 (sh_cn (xs:=a.1) 5 7 1 (by kernel_rfl))<|ck 3<|bx H λ au aa H=>sp (at_idxO 5 1 aa)<|sp (at_ldC (t:=ty 35) 5 7 1 aa)<|ck 3<|bx H λ bv av H=>sp (at_idxD (eL eI64) av)<|ck 1<|mx 10<|bx H λ aw ay H=>xpP (xok _ _) eI64 7 1 au.1 au.2 ay srcD (λ _=>rfl)<|ax<|qz<|sq<|rg (sh_nc (xs:=a.1) 5 7 1 (by kernel_rfl))<|ck 6<|bx H λ bw az H=>sp (at_idxD eI64 az)<|ck 1<|bx H λ bz ab H=>sp (at_idxO 6 1 ab)<|bx H λ bi S H=>stA eI64 6 0 (ty 3) ab S<|en<|sq<|rg (tr (sn 179 6 1<|put_len S)<|snc 2 2 6 1<|put_len S)<|ck 3<|bx H λ b0 a0 H=>sp (at_idxD eI64 a0)<|ck 2<|en<|cn H (λ H=>?_)<|λ H=>?_
  ·exact rz<|ck 3<|bx H λ b1 ac H=>sp (at_idxO 6 1 ac)<|sp (at_ldA eI64 6 0 (ty 3) ac)<|ck 2<|bx H λ b2 af H=>sp (at_idxO 6 1 af)<|bx H λ bj J H=>stA eI64 6 0 (ty 3) af J<|ae<|qN<|qs (tr (tr (tr (sn 179 6 1<|put_len J)<|sn 194 6 1<|put_len J)<|snc 2 2 6 1<|put_len J)<|sg [4,6,14,19,21,163,164])<|l (bj,aw) H
  ·exact sk<|qN<|qs (sg [4,6,14,19,21,163,164])<|l (bi,aw) H
 ·exact ex 4<|qx (by cases H;exact xo rfl<|sg [6,14,19])
theorem FRv_Change_ok {z} (H:FRv_Change n B c b=some z):CallOK Tryz.prog 11 [.agg (bTable B),.agg (bMemo c),.agg (bSplice b)] (.tup [.agg [.d (.str z.1.Text),.d (.sl (z.1.Costs.map (eL eI64))),.own 1 (z.1.Least.map eI64)],.d (.int .i64 z.2.1),.d (.int .i64 z.2.2)]):=by
 refine fO 204 (f11_s1 B c b) Tryz.func11<|sr<|ck 6<|en<|sc<|sr<|ck 4<|en<|sq<|sr<|ck 5<|gc 2 (!(decide<|b.At<0))<|pO<|ck 2<|gc 1 (!((decide<|b.At<0)||(decide<|b.Cut<0)))<|ck 1<|gc 1 (!((decide<|b.At<0)||(decide<|b.Cut<0)))<|pO<|ck 2<|gc 1 (!(((decide<|b.At<0)||(decide<|b.Cut<0))||(decide<|b.At>((c.Text.length:Nat):Int))))<|ck 2<|gc 3 (!(((decide<|b.At<0)||(decide<|b.Cut<0))||(decide<|b.At>((c.Text.length:Nat):Int))))<|pO<|en<|cn H (λ H=>?_)<|λ H=>?_
 ·exact sr<|ck 4<|en<|re<|qr (by cases H;exact pr<|rT (vs:=[.agg [.d<|.str [],.d<|.nil,.d<|.nil],.d<|.int .i64 0,.d<|.int .i64 1]) []<|t1 (a1<|c1 vd<|c1 vn<|c1 vz<|c0)<|t1 (ad vd)<|t1 (ad vd)<|t0)
 ·refine sk<|qz<|sr<|ck 4<|bx H λ s3 a2 H=>sp (at_ssub a2)<|ck 2<|bx H λ s4 a3 H=>sp (at_cat a3)<|ck 7<|bx H λ s5 a4 H=>sp (at_ssub a4)<|bx H λ o a5 H=>sp (at_cat a5)<|ck 1<|en<|sq<|sr<|ck 1<|bx H λ bl a6 H=>ca true (FTb_Text_ok a6)<|ck 5<|en<|sr<|ck 2<|en<|cn H (λ H=>?_)<|λ H=>?_
  ·exact sr<|ck 5<|en<|re<|qr (by cases H;exact pr<|rT (vs:=[.agg [.d<|.str [],.d<|.nil,.d<|.nil],.d<|.int .i64 0,.d<|.int .i64 bl.2]) []<|t1 (a1<|c1 vd<|c1 vn<|c1 vz<|c0)<|t1 (ad vd)<|t1 (ad vd)<|t0)
  ·refine sk<|qz<|sr<|ck 1<|bx H λ e a7 H=>lt [] (FRv_newGraph_ok a7)<|tb (f:=mapA1<|backN [] 4 0) [some<|.box<|bTable B,some<|.box<|bMemo c,some<|.box<|bSplice b,some<|.box [.d<|.str [],.d<|.nil,.d<|.nil],some<|.box [.osl 5 1 0<|e.Arcs.length,.osl 6 1 0<|e.Accepts.length],some<|.narr 1<|e.Arcs.map<|nL 3 eGArc,some<|.arr 1<|e.Accepts.map eB] (po1<|po1<|po1<|po1<|po1<|pn1 (nL 3 eGArc) e.Arcs<|po1<|Pl.z)<|ck 1<|en<|sq<|sr<|ck 2<|bx H λ b3 a8 H=>ltP [4,5,6] (FRv_graph_hasx_ok a8) (po1<|pn1 (nL 3 eGArc) e.Arcs<|po1<|Pl.z)<|tb (f:=mapA1<|backN [4,5,6] 7 3) [some<|.box<|bTable B,some<|.box<|bMemo c,some<|.box<|bSplice b,some<|.box [.d<|.str [],.d<|.nil,.d<|.nil],some<|.box [.osl 5 1 0<|e.Arcs.length,.osl 6 1 0<|e.Accepts.length],some<|.narr 1<|e.Arcs.map<|nL 3 eGArc,some<|.arr 1<|e.Accepts.map eB] (po1<|po1<|po1<|po1<|po1<|pn1 (nL 3 eGArc) e.Arcs<|po1<|Pl.z)<|ck 1<|en<|cn H (λ H=>?_)<|λ H=>?_
   ·exact sr<|ck 4<|en<|re<|qr (by cases H;exact pr<|rT (vs:=[.agg [.d<|.str [],.d<|.nil,.d<|.nil],.d<|.int .i64 0,.d<|.int .i64 1]) []<|t1 (a1<|c1 vd<|c1 vn<|c1 vz<|c0)<|t1 (ad vd)<|t1 (ad vd)<|t0)
   ·exact sk<|qz<|sq<|rg (tr (sh_frzNc (encN:=(nL 3 eGArc)) (encD:=(eL eGArc)) (xss:=e.Arcs) (sz:=1) 4 0 5 (by kernel_rfl) (by kernel_rfl) (λ _=>rfl)<|λ _=>rfl)<|fzc (enc:=eB) (xs:=e.Accepts) 4 1 6 1)<|ck 2<|bx H λ a a9 H=>lt [4] (FRv_graph_emptyx_ok a9)<|ck 2<|en<|sr<|ck 7<|en<|sq<|sr<|ck 2<|en<|bk 0<|bx H λ b4 ba H=>lX FRv_Change_L1_ok ba (tr (tr (sh_nilc 3 1 1 (by kernel_rfl))<|sh_nilc 3 2 1 (by kernel_rfl))<|sg [4,5,6,10,13,14,15,16]) rfl λ s bb=>qH<|qs (bb)<|sr<|ck 2<|bx H λ b5 bc H=>lt [3,7,8,9] (FRv_graph_columns_ok bc)<|ck 1<|en<|sr<|ck 3<|en<|sq<|lbl<|qz<|sq<|sr<|ck 3<|en<|bk 2<|bx H λ m bd H=>lX FRv_Change_L2_ok bd (sg [4,5,6,14,18,19,20,21,22]) rfl λ s be=>qH<|qs (be)<|sq<|sr<|ck 2<|en<|bk 4<|bx H λ T bf H=>lX FRv_Change_L3_ok bf (sg [4,6,14,19,21,163,164]) rfl λ s bg=>qH<|qs (bg)<|sr<|ck 5<|ae<|bx H λ _ bh H=>qs (tr (tr (sh_cn (xs:=a.1) 4 6 1 (by kernel_rfl))<|sh_frzC1 (enc:=eI64) (ys:=T.2) (xs:=a.1) 6 4 1 bh (by kernel_rfl) (by kernel_rfl))<|sh_frzNgc (sz:=1) (encN:=cutD eI64) (encD:=(eL eI64)) (xss:=cutL T.2 a.1) 0 1 4 cutL_len (by kernel_rfl) (by kernel_rfl) (λ _=>rfl)<|λ _=>rfl)<|re (by cases H;exact pr<|rT (vs:=[.agg [.d<|.str o,.d<|.sl<|List.map (eL eI64)<|cutL T.2 a.1,.osl 5 1 0<|T.1.length],.d<|.int .i64 m.2.2.1,.d<|.int .i64 0]) [5]<|t1 (a1<|c1 vd<|c1 vd<|c1 vo<|c0)<|t1 (ad vd)<|t1 (ad vd)<|t0)
end
section
variable (a:(List UInt8)) (b:Int)
def f88_s1:St:=⟨(0,.d<|.str a)::[],[]⟩
def f88_s2:St:=⟨(0,.d<|.str a)::(5,.d<|.int .i64 ((a.length:Nat):Int))::(6,.d<|.int .i64 b)::[],[]⟩
def f88_s3:St:=⟨[],[]⟩
def FTb_hasSpace_L1_E:(Unit⊕Bool)->Ex->St->Prop:=xS (xX 0 0<|λ (_:Unit)=>f88_s3)<|xR ty Tryz.f88<|λ (y:Bool)=>.d<|.bool y
def FTb_hasSpace_L1_S:Int->St:=(λ (x:Int)=>f88_s2 a x)
variable {a b}
theorem FTb_hasSpace_L1_ok (x:Int) (z:(Int⊕(Unit⊕Bool))) (H:FTb_hasSpace_L1 n a x=some z):WP (cxk 15 0) (bodyOf Tryz.f88) [1,0,1,0,0] (roundQ 0 (FTb_hasSpace_L1_S a) (FTb_hasSpace_L1_E) z) (FTb_hasSpace_L1_S a x):=by
 revert H;generalize x=b;intro H;refine sr<|ck 1<|en<|sq<|cn H (λ H=>?_)<|λ H=>?_
 ·refine sk<|qz<|sq<|bk 1<|sr<|ck 2<|en<|sr<|ck 2<|bx H λ m e H=>sp (at_sidx e)<|bx H λ j f H=>ca false (FTb_Class_ok f)<|ck 1<|en<|cn H (λ H=>?_)<|λ H=>?_
  ·exact sr<|ck 1<|en<|re<|qR<|qr (by cases H;exact ro rfl rd)
  ·exact sk<|qN<|qz<|rz<|ck 2<|ae (by cases H;exact og<|sg [0,5,6])
 ·exact ex 0<|qx (by cases H;exact xo rfl<|sg [])
theorem FTb_hasSpace_ok {z} (H:FTb_hasSpace n a=some z):CallOK Tryz.prog 88 [.d (.str a)] (.d (.bool z)):=by
 refine fO 15 (f88_s1 a) Tryz.func88<|sr<|ck 1<|en<|sq<|sr<|ck 3<|en<|bk 0<|bx H λ i c H=>?_;rcases i with k|l
 ·exact lX FTb_hasSpace_L1_ok c (sg [0,5,6]) rfl λ s g=>qH<|qs (g)<|sr<|ck 1<|en<|re (by cases H;exact pr rd)
 ·exact lR FTb_hasSpace_L1_ok c (sg [0,5,6]) rfl λ s h=>qR<|qr (by cases H;exact pr h)
end
section
variable (a:Int)
def f89_s1:St:=⟨(0,.d<|.int .u8 a)::[],[]⟩
variable {a}
theorem FCe_Valid_ok {z} (H:FCe_Valid n a=some z):CallOK Tryz.prog 89 [.d (.int .u8 a)] (.d (.bool z)):=by
 exact fO 5 (f89_s1 a) Tryz.func89<|sr<|ck 1<|en<|sr<|ck 3<|en<|re (by cases H;exact pr rd)
end
section
variable (a:GRule) (b:Int) (c:Int)
def f83_s1:St:=⟨(0,.agg [.d<|.str a.Print,.d<|.sl<|a.Cells.map eU8,.d<|.int .u8 a.Left,.d<|.int .u8 a.Right,.d<|.int .i64 a.From,.d<|.int .i64 a.To])::(1,.d<|.int .i64 b)::[],[]⟩
def f83_s2:St:=⟨(92,.d<|.sl<|a.Cells.map eU8)::(93,.d<|.int .i64 ((a.Cells.length:Nat):Int))::(94,.d<|.int .i64 c)::[],[]⟩
def f83_s3:St:=⟨[],[]⟩
def FTb_sound_L1_E:(Unit⊕Bool)->Ex->St->Prop:=xS (xX 0 0<|λ (_:Unit)=>f83_s3)<|xR ty Tryz.f83<|λ (y:Bool)=>.d<|.bool y
def FTb_sound_L1_S:Int->St:=(λ (x:Int)=>f83_s2 a x)
variable {a b c}
theorem FTb_sound_L1_ok (x:Int) (z:(Int⊕(Unit⊕Bool))) (H:FTb_sound_L1 n a x=some z):WP (cxk 110 0) (bodyOf Tryz.f83) [1,1,1,1,1,1,0,1,0,0] (roundQ 0 (FTb_sound_L1_S a) (FTb_sound_L1_E) z) (FTb_sound_L1_S a x):=by
 revert H;generalize x=c;intro H;refine sr<|ck 1<|en<|sq<|cn H (λ H=>?_)<|λ H=>?_
 ·refine sk<|qz<|sq<|bk 1<|sr<|bx H λ p f H=>sp (at_idxD eU8 f)<|ck 2<|en<|sr<|ck 1<|bx H λ h i H=>ca false (FCe_Valid_ok i)<|ck 3<|gc 1 (!(!h))<|pO<|ck 2<|gc 1 (!((!h)||(p==63)))<|pO<|en<|cn H (λ H=>?_)<|λ H=>?_
  ·exact sr<|ck 1<|en<|re<|qR<|qr (by cases H;exact ro rfl rd)
  ·exact sk<|qN<|qz<|rz<|ck 2<|ae (by cases H;exact og<|sg [92,93,94])
 ·exact ex 0<|qx (by cases H;exact xo rfl<|sg [])
theorem FTb_sound_ok {z} (H:FTb_sound n a b=some z):CallOK Tryz.prog 83 [.agg (bRule a),.d (.int .i64 b)] (.d (.bool z)):=by
 refine fO 110 (f83_s1 a b) Tryz.func83<|sr<|ck 2<|en<|sq<|sr<|ck 6<|gc 1 (!(decide<|((a.Print.length:Nat):Int)>4))<|sE (g:=(!(decide<|((a.Print.length:Nat):Int)>4))) (λ hg=>at_len eU8 a.Cells)<|gc 1 (!(decide<|((a.Print.length:Nat):Int)>4))<|pO<|ck 2<|gc 1 (!((decide<|((a.Print.length:Nat):Int)>4)||(decide<|((a.Cells.length:Nat):Int)<1)))<|sE (g:=(!((decide<|((a.Print.length:Nat):Int)>4)||(decide<|((a.Cells.length:Nat):Int)<1)))) (λ hg=>at_len eU8 a.Cells)<|gc 1 (!((decide<|((a.Print.length:Nat):Int)>4)||(decide<|((a.Cells.length:Nat):Int)<1)))<|pO<|en<|cn H (λ H=>?_)<|λ H=>?_
 ·exact sr<|ck 1<|en<|re<|qr (by cases H;exact pr rd)
 ·refine sk<|qz<|sq<|sr<|ck 2<|bx H λ r j H=>ca false (FTb_Text_ok j)<|ck 5<|en<|sr<|ck 2<|en<|cn H (λ H=>?_)<|λ H=>?_
  ·exact sr<|ck 1<|en<|re<|qr (by cases H;exact pr rd)
  ·refine sk<|qz<|sq<|sr<|ck 5<|gc 2 (!(decide<|a.Left<1))<|pO<|ck 2<|gc 2 (!((decide<|a.Left<1)||(decide<|a.Left>63)))<|pO<|ck 2<|gc 2 (!(((decide<|a.Left<1)||(decide<|a.Left>63))||(decide<|a.Right<1)))<|pO<|en<|cn H (λ H=>?_)<|λ H=>?_
   ·exact sr<|ck 1<|en<|re<|qr (by cases H;exact pr rd)
   ·refine sk<|qz<|sq<|sr<|ck 5<|gc 1 (!(decide<|a.From<0))<|ck 1<|gc 1 (!(decide<|a.From<0))<|pO<|ck 2<|gc 2 (!((decide<|a.From<0)||(decide<|a.From>=b)))<|pO<|ck 2<|gc 1 (!(((decide<|a.From<0)||(decide<|a.From>=b))||(decide<|a.To<0)))<|ck 1<|gc 1 (!(((decide<|a.From<0)||(decide<|a.From>=b))||(decide<|a.To<0)))<|pO<|en<|cn H (λ H=>?_)<|λ H=>?_
    ·exact sr<|ck 1<|en<|re<|qr (by cases H;exact pr rd)
    ·refine sk<|qz<|sq<|sr<|ck 2<|bx H λ t k H=>ca false (FTb_hasSpace_ok k)<|en<|cn H (λ H=>?_)<|λ H=>?_
     ·exact sr<|ck 6<|gc 1 (((a.Print.length:Nat):Int)==1)<|sE (g:=(((a.Print.length:Nat):Int)==1)) (λ hg=>at_len eU8 a.Cells)<|gc 1 (((a.Print.length:Nat):Int)==1)<|pA<|ck 2<|gc 1 ((((a.Print.length:Nat):Int)==1)&&(((a.Cells.length:Nat):Int)==1))<|bx H λ u l H=>sE (λ hg=>at_idxD eU8<|gimp l hg)<|gc 2 ((((a.Print.length:Nat):Int)==1)&&(((a.Cells.length:Nat):Int)==1))<|pA<|ck 1<|en<|re<|qr (by cases H;exact pr rd)
     ·refine sk<|qz<|sq<|sr<|ck 2<|sp (at_len eU8 a.Cells)<|ck 1<|en<|bk 0<|bx H λ q e H=>?_;rcases q with v|w
      ·exact lX FTb_sound_L1_ok e (sg [92,93,94]) rfl λ s m=>qH<|qs (m)<|sr<|ck 1<|en<|re (by cases H;exact pr rd)
      ·exact lR FTb_sound_L1_ok e (sg [92,93,94]) rfl λ s o=>qR<|qr (by cases H;exact pr o)
end
section
variable (a:(List Int)) (b:(List Int)) (c:Int)
def f90_s1:St:=⟨(0,.d<|.sl<|a.map eU8)::(1,.d<|.sl<|b.map eU8)::[],[]⟩
def f90_s2:St:=⟨(0,.d<|.sl<|a.map eU8)::(1,.d<|.sl<|b.map eU8)::(12,.d<|.int .i64 ((a.length:Nat):Int))::(13,.d<|.int .i64 c)::[],[]⟩
def f90_s3:St:=⟨[],[]⟩
def FApi_Cell_L1_E:(Unit⊕Bool)->Ex->St->Prop:=xS (xX 0 0<|λ (_:Unit)=>f90_s3)<|xR ty Tryz.f90<|λ (y:Bool)=>.d<|.bool y
def FApi_Cell_L1_S:Int->St:=(λ (x:Int)=>f90_s2 a b x)
variable {a b c}
theorem FApi_Cell_L1_ok (x:Int) (z:(Int⊕(Unit⊕Bool))) (H:FApi_Cell_L1 n a b x=some z):WP (cxk 26 0) (bodyOf Tryz.f90) [1,1,0,1,0,0] (roundQ 0 (FApi_Cell_L1_S a b) (FApi_Cell_L1_E) z) (FApi_Cell_L1_S a b x):=by
 revert H;generalize x=c;intro H;refine sr<|ck 1<|en<|sq<|cn H (λ H=>?_)<|λ H=>?_
 ·refine sk<|qz<|sq<|bk 1<|sr<|ck 2<|en<|sr<|ck 2<|bx H λ k f H=>sp (at_idxD eU8 f)<|ck 3<|bx H λ l g H=>sp (at_idxD eU8 g)<|ck 2<|en<|cn H (λ H=>?_)<|λ H=>?_
  ·exact sr<|ck 1<|en<|re<|qR<|qr (by cases H;exact ro rfl rd)
  ·exact sk<|qN<|qz<|rz<|ck 2<|ae (by cases H;exact og<|sg [0,1,12,13])
 ·exact ex 0<|qx (by cases H;exact xo rfl<|sg [])
theorem FApi_Cell_ok {z} (H:FApi_Cell n a b=some z):CallOK Tryz.prog 90 [.d (.sl (a.map eU8)),.d (.sl (b.map eU8))] (.d (.bool z)):=by
 refine fO 26 (f90_s1 a b) Tryz.func90<|sr<|ck 1<|en<|sq<|sr<|ck 1<|sp (at_len eU8 a)<|ck 1<|sp (at_len eU8 b)<|ck 1<|en<|cn H (λ H=>?_)<|λ H=>?_
 ·exact sr<|ck 1<|en<|re<|qr (by cases H;exact pr rd)
 ·refine sk<|qz<|sq<|sr<|ck 1<|sp (at_len eU8 a)<|ck 1<|en<|bk 0<|bx H λ j e H=>?_;rcases j with m|o
  ·exact lX FApi_Cell_L1_ok e (sg [0,1,12,13]) rfl λ s h=>qH<|qs (h)<|sr<|ck 1<|en<|re (by cases H;exact pr rd)
  ·exact lR FApi_Cell_L1_ok e (sg [0,1,12,13]) rfl λ s i=>qR<|qr (by cases H;exact pr i)
end
section
variable (a:GRule) (b:GRule)
def f84_s1:St:=⟨(0,.agg [.d<|.str a.Print,.d<|.sl<|a.Cells.map eU8,.d<|.int .u8 a.Left,.d<|.int .u8 a.Right,.d<|.int .i64 a.From,.d<|.int .i64 a.To])::(1,.agg [.d<|.str b.Print,.d<|.sl<|b.Cells.map eU8,.d<|.int .u8 b.Left,.d<|.int .u8 b.Right,.d<|.int .i64 b.From,.d<|.int .i64 b.To])::[],[]⟩
variable {a b}
theorem FTb_equal_ok {z} (H:FTb_equal n a b=some z):CallOK Tryz.prog 84 [.agg (bRule a),.agg (bRule b)] (.d (.bool z)):=by
 exact fO 45 (f84_s1 a b) Tryz.func84<|sr<|ck 3<|en<|sr<|ck 7<|gc 1 (a.From==b.From)<|ck 1<|gc 2 (a.From==b.From)<|pA<|ck 2<|gc 1 ((a.From==b.From)&&(a.To==b.To))<|ck 1<|gc 2 ((a.From==b.From)&&(a.To==b.To))<|pA<|ck 2<|gc 1 (((a.From==b.From)&&(a.To==b.To))&&(a.Left==b.Left))<|ck 1<|gc 2 (((a.From==b.From)&&(a.To==b.To))&&(a.Left==b.Left))<|pA<|ck 2<|gc 1 ((((a.From==b.From)&&(a.To==b.To))&&(a.Left==b.Left))&&(a.Right==b.Right))<|ck 1<|gc 2 ((((a.From==b.From)&&(a.To==b.To))&&(a.Left==b.Left))&&(a.Right==b.Right))<|pA<|ck 2<|gc 1 (((((a.From==b.From)&&(a.To==b.To))&&(a.Left==b.Left))&&(a.Right==b.Right))&&(a.Print==b.Print))<|ck 1<|gc 1 (((((a.From==b.From)&&(a.To==b.To))&&(a.Left==b.Left))&&(a.Right==b.Right))&&(a.Print==b.Print))<|bx H λ e c H=>cG false (leZ) rfl (λ hg=>FApi_Cell_ok<|gimp c hg) (Or.inl rfl) (impK (λ hh=>hh)<|impK (λ hh=>hh)<|impZ) rfl<|pA<|ck 1<|en<|re (by cases H;exact pr rd)
end
section
variable (a:GTable) (b:Int) (e:GRule) (c:(List GRule)) (f:Int)
def f75_s1:St:=⟨(0,.agg [.d<|.int .i64 a.Modes,.d<|.int .u8 a.Accept,.d<|.sl<|a.Rules.map eGRule])::[],[]⟩
def f75_s2:St:=⟨(1,.ptr 0 0)::(39,.d<|.sl<|a.Rules.map eGRule)::(40,.d<|.int .i64 ((a.Rules.length:Nat):Int))::(41,.d<|.int .i64 b)::[],[some<|.box<|bTable a]⟩
def f75_s3:St:=⟨[],[]⟩
def f75_s4:St:=⟨(1,.ptr 0 0)::(4,.d<|.int .i64 b)::(5,.ptr 1 0)::(39,.d<|.sl<|a.Rules.map eGRule)::(40,.d<|.int .i64 ((a.Rules.length:Nat):Int))::(41,.d<|.int .i64 b)::(55,.d<|.sl<|c.map eGRule)::(56,.d<|.int .i64 ((c.length:Nat):Int))::(57,.d<|.int .i64 f)::[],[some<|.box<|bTable a,some<|.box<|bRule e]⟩
def f75_s5:St:=⟨(1,.ptr 0 0)::(39,.d<|.sl<|a.Rules.map eGRule)::(40,.d<|.int .i64 ((a.Rules.length:Nat):Int))::(41,.d<|.int .i64 b)::[],[some<|.box<|bTable a]⟩
def FTb_Check_L2_E:(Unit⊕(Int×Int))->Ex->St->Prop:=xS (xX 0 2<|λ (_:Unit)=>f75_s5 a b)<|xR ty Tryz.f75<|λ (y:(Int×Int))=>.tup [.d<|.int .i64 y.1,.d<|.int .i64 y.2]
def FTb_Check_L2_S:Int->St:=(λ (x:Int)=>f75_s4 a b e c x)
def FTb_Check_L1_E:(Unit⊕(Int×Int))->Ex->St->Prop:=xS (xX 0 0<|λ (_:Unit)=>f75_s3)<|xR ty Tryz.f75<|λ (y:(Int×Int))=>.tup [.d<|.int .i64 y.1,.d<|.int .i64 y.2]
def FTb_Check_L1_S:Int->St:=(λ (x:Int)=>f75_s2 a x)
variable {a b e c f}
theorem FTb_Check_L2_ok (x:Int) (z:(Int⊕(Unit⊕(Int×Int)))) (H:FTb_Check_L2 n a b e c x=some z):WP (cxk 67 0) (bodyOf Tryz.f75) [1,1,1,1,0,1,0,0,1,1,0,0,1,1,1,0,0] (roundQ 0 (FTb_Check_L2_S a b e c) (FTb_Check_L2_E a b) z) (FTb_Check_L2_S a b e c x):=by
 revert H;generalize x=f;intro H;refine sr<|ck 1<|en<|sq<|cn H (λ H=>?_)<|λ H=>?_
 ·refine sk<|qz<|sq<|bk 3<|sr<|bx H λ A j H=>sp (at_idxD eGRule j)<|ck 3<|en<|sr<|ck 2<|bx H λ B k H=>ca false (FTb_equal_ok k)<|en<|cn H (λ H=>?_)<|λ H=>?_
  ·exact sr<|ck 3<|en<|re<|qR<|qr (by cases H;exact ro rfl rdT)
  ·exact sk<|qN<|qz<|rz<|ck 2<|ae (by cases H;exact og<|sg [1,4,5,39,40,41,55,56,57])
 ·exact ex 2<|qx (by cases H;exact xo rfl<|sg [1,39,40,41])
theorem FTb_Check_L1_ok (x:Int) (z:(Int⊕(Unit⊕(Int×Int)))) (H:FTb_Check_L1 n a x=some z):WP (cxk 67 0) (bodyOf Tryz.f75) [1,1,1,1,0,1,0,0] (roundQ 0 (FTb_Check_L1_S a) (FTb_Check_L1_E) z) (FTb_Check_L1_S a x):=by
 revert H;generalize x=b;intro H;refine sr<|ck 1<|en<|sq<|cn H (λ H=>?_)<|λ H=>?_
 ·refine sk<|qz<|sq<|bk 1<|sr<|ck 1<|bx H λ e l H=>sp (at_idxD eGRule l)<|ck 4<|en<|sq<|sr<|ck 3<|bx H λ C m H=>ca false (FTb_sound_ok m)<|ck 1<|en<|cn H (λ H=>?_)<|λ H=>?_
  ·exact sr<|ck 3<|en<|re<|qr<|qR<|qr (by cases H;exact ro rfl rdT)
  ·refine sk<|qz<|sr<|ck 3<|bx H λ c o H=>sp (at_sub eGRule 6 o)<|sp (at_len eGRule c)<|ck 1<|en<|bk 2<|bx H λ v h H=>?_;rcases v with E|G
   ·exact lX FTb_Check_L2_ok h (sg [1,4,5,39,40,41,55,56,57]) rfl λ s p=>qH<|qN<|qs (p)<|rz<|ck 2<|ae (by cases H;exact og<|sg [1,39,40,41])
   ·exact lR FTb_Check_L2_ok h (sg [1,4,5,39,40,41,55,56,57]) rfl λ s q=>qR<|qR<|qr (by cases H;exact ro rfl q)
 ·exact ex 0<|qx (by cases H;exact xo rfl<|sg [])
theorem FTb_Check_ok {z} (H:FTb_Check n a=some z):CallOK Tryz.prog 75 [.agg (bTable a)] (.tup [.d (.int .i64 z.1),.d (.int .i64 z.2)]):=by
 refine fO 67 (f75_s1 a) Tryz.func75<|sr<|ck 3<|en<|sq<|sr<|ck 5<|gc 2 (!(decide<|a.Modes<1))<|pO<|en<|cn H (λ H=>?_)<|λ H=>?_
 ·exact sr<|ck 2<|en<|re<|qr (by cases H;exact pr rdT)
 ·refine sk<|qz<|sq<|sr<|ck 5<|gc 2 (!(a.Accept==0))<|ck 1<|gc 1 (!(a.Accept==0))<|bx H λ I r H=>soG (λ hg=>guard_ge<|gimp r hg) (impK (λ hh=>hh)<|impZ)<|gc 1 (!(a.Accept==0))<|pO<|en<|cn H (λ H=>?_)<|λ H=>?_
  ·exact sr<|ck 2<|en<|re<|qr (by cases H;exact pr rdT)
  ·refine sk<|qz<|sq<|sr<|ck 2<|sp (at_len eGRule a.Rules)<|ck 3<|gc 1 (!(decide<|((a.Rules.length:Nat):Int)<1))<|sE (g:=(!(decide<|((a.Rules.length:Nat):Int)<1))) (λ hg=>at_len eGRule a.Rules)<|gc 1 (!(decide<|((a.Rules.length:Nat):Int)<1))<|pO<|en<|cn H (λ H=>?_)<|λ H=>?_
   ·exact sr<|ck 2<|en<|re<|qr (by cases H;exact pr rdT)
   ·refine sk<|qz<|sq<|sr<|ck 2<|sp (at_len eGRule a.Rules)<|ck 1<|en<|bk 0<|bx H λ w i H=>?_;rcases w with J|K
    ·exact lX FTb_Check_L1_ok i (sg [1,39,40,41]) rfl λ s t=>qH<|qs (t)<|sr<|ck 2<|en<|re (by cases H;exact pr rdT)
    ·exact lR FTb_Check_L1_ok i (sg [1,39,40,41]) rfl λ s u=>qR<|qr (by cases H;exact pr u)
end
section
variable (a:GTable)
def f60_s1:St:=⟨(0,.agg [.d<|.int .i64 a.Modes,.d<|.int .u8 a.Accept,.d<|.sl<|a.Rules.map eGRule])::[],[]⟩
variable {a}
theorem FTb_Valid_ok {z} (H:FTb_Valid n a=some z):CallOK Tryz.prog 60 [.agg (bTable a)] (.d (.bool z)):=by
 exact fO 12 (f60_s1 a) Tryz.func60<|sr<|ck 2<|en<|sr<|ck 1<|bx H λ c b H=>ca false (FTb_Check_ok b)<|ck 5<|en<|sr<|ck 3<|en<|re (by cases H;exact pr rd)
end
section
variable (a:Int)
def f108_s1:St:=⟨(0,.d<|.int .i64 a)::[],[]⟩
variable {a}
theorem FCmp_isNaN_int_ok {z} (H:FCmp_isNaN_int n a=some z):CallOK Tryz.prog 108 [.d (.int .i64 a)] (.d (.bool z)):=by
 exact fO 6 (f108_s1 a) Tryz.func108<|sr<|ck 1<|en<|sr<|ck 4<|en<|re (by cases H;exact pr rd)
end
section
variable (a:Int) (b:Int)
def f97_s1:St:=⟨(0,.d<|.int .i64 a)::(1,.d<|.int .i64 b)::[],[]⟩
variable {a b}
theorem FCmp_Less_int_ok {z} (H:FCmp_Less_int n a b=some z):CallOK Tryz.prog 97 [.d (.int .i64 a),.d (.int .i64 b)] (.d (.bool z)):=by
 exact fO 17 (f97_s1 a b) Tryz.func97<|sr<|ck 1<|en<|sr<|ck 1<|bx H λ c e H=>ca false (FCmp_isNaN_int_ok e)<|ck 2<|bx H λ g f H=>cG false (leZ) rfl (λ hg=>FCmp_isNaN_int_ok<|gimp f hg) (Or.inl rfl) (impK (λ hh=>hh)<|impZ) rfl<|gc 1 c<|pA<|ck 3<|gc 1 (!(c&&(!g)))<|pO<|ck 1<|en<|re (by cases H;exact pr rd)
end
section
variable (a:Int)
def f102_s1:St:=⟨(0,.d<|.int .i64 a)::[],[]⟩
variable {a}
theorem FSl_isNaN_int_ok {z} (H:FSl_isNaN_int n a=some z):CallOK Tryz.prog 102 [.d (.int .i64 a)] (.d (.bool z)):=by
 exact fO 6 (f102_s1 a) Tryz.func102<|sr<|ck 1<|en<|sr<|ck 4<|en<|re (by cases H;exact pr rd)
end
section
variable (e:(List Int)) (f:Int) (l:Int) (m:Int) (o:Int)
def f87_s1:St:=⟨(0,.d<|.sl<|e.map eI64)::(1,.d<|.int .i64 f)::[],[]⟩
def f87_s2:St:=⟨(0,.d<|.sl<|e.map eI64)::(1,.d<|.int .i64 f)::(6,.d<|.int .i64 ((e.length:Nat):Int))::(7,.d<|.int .i64 l)::(8,.d<|.int .i64 m)::[],[]⟩
def f87_s3:St:=⟨(0,.d<|.sl<|e.map eI64)::(1,.d<|.int .i64 f)::(6,.d<|.int .i64 ((e.length:Nat):Int))::(7,.d<|.int .i64 o)::[],[]⟩
def FSl_BinarySearch_int_int_L1_E:Int->Ex->St->Prop:=xX 0 0<|λ (y:Int)=>f87_s3 e f y
def FSl_BinarySearch_int_int_L1_S:(Int×Int)->St:=(λ (x:(Int×Int))=>f87_s2 e f x.1 x.2)
variable {e f l m o}
theorem FSl_BinarySearch_int_int_L1_ok (x:(Int×Int)) (z:((Int×Int)⊕Int)) (H:FSl_BinarySearch_int_int_L1 n e f x.1 x.2=some z):WP (cxk 54 0) (bodyOf Tryz.f87) [1,1,1,0,0,0] (roundQ 0 (FSl_BinarySearch_int_int_L1_S e f) (FSl_BinarySearch_int_int_L1_E e f) z) (FSl_BinarySearch_int_int_L1_S e f x):=by
 obtain ⟨l,m⟩:=x;refine sq<|sr<|ck 3<|en<|cn H (λ H=>?_)<|λ H=>?_
 ·refine sk<|qz<|bk 1<|sr<|ck 7<|en<|sr<|ck 2<|bx H λ C p H=>sp (at_idxD eI64 p)<|ck 2<|bx H λ E q H=>ca false (FCmp_Less_int_ok q)<|en<|cn H (λ H=>?_)<|λ H=>?_
  ·exact rz<|ck 3<|ae<|qN (by cases H;exact og<|sg [0,1,6,7,8])
  ·exact rz<|ck 2<|ae<|qN (by cases H;exact og<|sg [0,1,6,7,8])
 ·exact ex 0<|qx (by cases H;exact xo rfl<|sg [0,1,6,7])
theorem FSl_BinarySearch_int_int_ok {z} (H:FSl_BinarySearch_int_int n e f=some z):CallOK Tryz.prog 87 [.d (.sl (e.map eI64)),.d (.int .i64 f)] (.tup [.d (.int .i64 z.1),.d (.bool z.2)]):=by
 exact fO 54 (f87_s1 e f) Tryz.func87<|sr<|ck 2<|en<|sr<|ck 1<|sp (at_len eI64 e)<|ck 1<|en<|sr<|ck 3<|en<|sq<|bk 0<|bx H λ h r H=>lX FSl_BinarySearch_int_int_L1_ok r (sg [0,1,6,7,8]) rfl λ s t=>qH<|qs (t)<|sr<|ck 7<|bx H λ i u H=>sE (λ hg=>at_idxD eI64<|gimp u hg)<|gc 1 (decide<|h<((e.length:Nat):Int))<|ck 1<|gc 2 (decide<|h<((e.length:Nat):Int))<|ck 2<|bx H λ G w H=>sE (λ hg=>at_idxD eI64<|gimp w hg)<|gc 1 ((decide<|h<((e.length:Nat):Int))&&!(i==f))<|bx H λ j A H=>cG false (leZ) rfl (λ hg=>FSl_isNaN_int_ok<|gimp A hg) (Or.inl rfl) (impK (λ hh=>hh)<|impZ) rfl<|gc 1 ((decide<|h<((e.length:Nat):Int))&&!(i==f))<|ck 1<|bx H λ k B H=>cG false (leZ) rfl (λ hg=>FSl_isNaN_int_ok<|gimp B hg) (Or.inl rfl) (impK (λ hh=>hh)<|impZ) rfl<|pG (g:=((decide<|h<((e.length:Nat):Int))&&!(i==f))) (v:=.d<|.bool<|j&&k) (λ hg=>pick_genz (c:=.gv ((decide<|h<((e.length:Nat):Int))&&!(i==f))<|.d<|.bool j) (a:=.gv (((decide<|h<((e.length:Nat):Int))&&!(i==f))&&j)<|.d<|.bool k) (b:=.d<|.bool false) rfl rfl rfl ((λ hh=>hh) hg) (λ ht=>by rw [(λ hh=>hh) hg,ht];rfl) trivial)<|pG (g:=decide<|h<((e.length:Nat):Int)) (v:=.d<|.bool<|(i==f)||(j&&k)) (λ hg=>pick_genz (c:=.gv (decide<|h<((e.length:Nat):Int))<|.d<|.bool<|i==f) (a:=.d<|.bool true) (b:=.gv ((decide<|h<((e.length:Nat):Int))&&!(i==f))<|.d<|.bool<|j&&k) rfl rfl rfl ((λ hh=>hh) hg) trivial (λ ht=>by rw [(λ hh=>hh) hg,ht];rfl))<|pA<|ck 2<|en<|re (by cases H;exact pr rdT)
end
section
variable (a:GColumn) (b:Int)
def f80_s1:St:=⟨(0,.dptr (eGColumn a) 0)::(1,.d<|.int .i64 b)::[],[]⟩
variable {a b}
theorem FTr_column_find_ok {z} (H:FTr_column_find n a b=some z):CallOK Tryz.prog 80 [.dptr (eGColumn a) 0,.d (.int .i64 b)] (.d (.int .i64 z)):=by
 refine fO 25 (f80_s1 a b) Tryz.func80<|sr<|ck 1<|en<|sr<|ck 5<|bx H λ f c H=>ca false (FSl_BinarySearch_int_int_ok c)<|ck 5<|en<|sq<|sr<|ck 2<|en<|cn H (λ H=>?_)<|λ H=>?_
 ·exact sr<|ck 1<|en<|re<|qr (by cases H;exact pr rd)
 ·exact sk<|qz<|sr<|ck 5<|bx H λ g e H=>sp (at_idxD eI64 e)<|ck 2<|en<|re (by cases H;exact pr rd)
end
section
variable (a:GTable) (j:(List UInt8)) (C:GWriter) (b:(List GState)) (i:(List GColumn)) (h:(List (GState×Int))) (B:Int) (q:(List (GState×Int))) (g:(List (GState×Int))) (o:GWriter) (c:Int) (I:GWriter) (w:GState) (e:GWriter) (r:Int) (J:GWriter) (A:GWriter)
def f61k0_s1:St:=⟨(0,.agg [.d<|.int .i64 a.Modes,.d<|.int .u8 a.Accept,.d<|.sl<|a.Rules.map eGRule])::(1,.d<|.str j)::[],[]⟩
def f61k0_s2:St:=⟨(4,.ptr 0 0)::[],[some<|.box<|bWriter_6 C<|.osl 1 2 0<|C.Columns.length,some<|.narr 2<|C.Columns.map nGColumn]⟩
def f61k0_s3:St:=⟨(2,.ptr 0 0)::(5,.ptr 1 0)::(6,.mp 2)::(33,.d<|.sl<|b.map eGState)::(34,.d<|.int .i64 ((b.length:Nat):Int))::(35,.d<|.int .i64 B)::[],[some<|.box<|bTable a,some<|.box [.d<|.int .i64 a.Modes,.d<|.int .u8 a.Accept,.d<|.sl<|a.Rules.map eGRule,.d<|.str j,.d<|.sl<|b.map eGState,.osl 3 1 0<|List.length ([]:List (List GTranslateArc)),.osl 4 2 0<|i.length,.d<|.int .i64 0],some<|.map true false<|encM eGState eI64 h,some<|.arr 1<|List.map (eL eGTranslateArc) ([]:List (List GTranslateArc)),some<|.narr 2<|i.map nGColumn]⟩
def f61k0_s4:St:=⟨(2,.ptr 0 0)::(5,.ptr 1 0)::(6,.mp 2)::[],[some<|.box<|bTable a,some<|.box [.d<|.int .i64 a.Modes,.d<|.int .u8 a.Accept,.d<|.sl<|a.Rules.map eGRule,.d<|.str j,.d<|.sl<|b.map eGState,.osl 3 1 0<|List.length ([]:List (List GTranslateArc)),.osl 4 2 0<|i.length,.d<|.int .i64 0],some<|.map true false<|encM eGState eI64 q,some<|.arr 1<|List.map (eL eGTranslateArc) ([]:List (List GTranslateArc)),some<|.narr 2<|i.map nGColumn]⟩
def FTr_newWriter_L1_E:(List<|GState×Int)->Ex->St->Prop:=xX 0 0<|λ (y:(List<|GState×Int))=>f61k0_s4 a j b i y
def FTr_newWriter_L1_S:((List<|GState×Int)×Int)->St:=(λ (x:((List<|GState×Int)×Int))=>f61k0_s3 a j b i x.1 x.2)
def f61k0_s5:St:=⟨(2,.ptr 0 0)::(5,.ptr 1 0)::(6,.mp 2)::(56,.d<|.sl<|b.map eGState)::(57,.d<|.int .i64 ((b.length:Nat):Int))::(58,.d<|.int .i64 c)::[],[some<|.box<|bTable a,some<|.box<|bWriter_5_6 o (.osl 3 1 0<|o.Arcs.length)<|.osl 4 2 0<|o.Columns.length,some<|.map true false<|encM eGState eI64 g,some<|.narr 1<|o.Arcs.map<|nL 2 eGTranslateArc,some<|.narr 2<|o.Columns.map nGColumn]⟩
def f61k0_s6:St:=⟨(5,.ptr 0 0)::[],[some<|.box<|bWriter_5_6 I (.osl 1 1 0<|I.Arcs.length)<|.osl 2 2 0<|I.Columns.length,some<|.narr 1<|I.Arcs.map<|nL 2 eGTranslateArc,some<|.narr 2<|I.Columns.map nGColumn]⟩
def f61k0_s7:St:=⟨(2,.ptr 0 0)::(5,.ptr 1 0)::(6,.mp 2)::(9,.d<|.int .i64 c)::(10,.ptr 3 0)::(56,.d<|.sl<|b.map eGState)::(57,.d<|.int .i64 ((b.length:Nat):Int))::(58,.d<|.int .i64 c)::(65,.d<|.int .i64 ((a.Rules.length:Nat):Int))::(66,.d<|.int .i64 r)::[],[some<|.box<|bTable a,some<|.box<|bWriter_5_6 e (.osl 4 1 0<|e.Arcs.length)<|.osl 5 2 0<|e.Columns.length,some<|.map true false<|encM eGState eI64 g,some<|.box<|bState w,some<|.narr 1<|e.Arcs.map<|nL 2 eGTranslateArc,some<|.narr 2<|e.Columns.map nGColumn]⟩
def f61k0_s8:St:=⟨(2,.ptr 0 0)::(5,.ptr 1 0)::(6,.mp 2)::(56,.d<|.sl<|b.map eGState)::(57,.d<|.int .i64 ((b.length:Nat):Int))::(58,.d<|.int .i64 c)::[],[some<|.box<|bTable a,some<|.box<|bWriter_5_6 J (.osl 3 1 0<|J.Arcs.length)<|.osl 4 2 0<|J.Columns.length,some<|.map true false<|encM eGState eI64 g,some<|.narr 1<|J.Arcs.map<|nL 2 eGTranslateArc,some<|.narr 2<|J.Columns.map nGColumn]⟩
def f61k0_s9:St:=⟨(2,.ptr 0 0)::(5,.ptr 1 0)::(6,.mp 2)::(9,.d<|.int .i64 c)::(10,.ptr 3 0)::(56,.d<|.sl<|b.map eGState)::(57,.d<|.int .i64 ((b.length:Nat):Int))::(58,.d<|.int .i64 c)::(65,.d<|.int .i64 ((a.Rules.length:Nat):Int))::(66,.d<|.int .i64 r)::[],[some<|.box<|bTable a,some<|.box<|bWriter_5_6 A (.osl 4 1 0<|A.Arcs.length)<|.osl 5 2 0<|A.Columns.length,some<|.map true false<|encM eGState eI64 g,some<|.box<|bState w,some<|.narr 1<|A.Arcs.map<|nL 2 eGTranslateArc,some<|.narr 2<|A.Columns.map nGColumn]⟩
def FTr_newWriter_L3_E:GWriter->Ex->St->Prop:=xX 0 4<|λ (y:GWriter)=>f61k0_s8 a b g c y
def FTr_newWriter_L3_S:(GWriter×Int)->St:=(λ (x:(GWriter×Int))=>f61k0_s7 a b g c w x.1 x.2)
def FTr_newWriter_L2_E:GWriter->Ex->St->Prop:=xX 0 2<|λ (y:GWriter)=>f61k0_s6 y
def FTr_newWriter_L2_S:(GWriter×Int)->St:=(λ (x:(GWriter×Int))=>f61k0_s5 a b g x.1 x.2)
variable {a j C b i h B q g o c I w e r J A}
theorem FTr_newWriter_L1_ok (x:((List (GState×Int))×Int)) (z:(((List (GState×Int))×Int)⊕(List (GState×Int)))) (H:FTr_newWriter_L1 n a j b i x.1 x.2=some z):WP (cxk 100 0) (bodyOf Tryz.f61) [1,1,1,0,1,0,0] (roundQ 0 (FTr_newWriter_L1_S a j b i) (FTr_newWriter_L1_E a j b i) z) (FTr_newWriter_L1_S a j b i x):=by
 obtain ⟨h,B⟩:=x;refine sr<|ck 1<|en<|sq<|cn H (λ H=>?_)<|λ H=>?_
 ·exact sk<|qz<|sq<|bk 1<|sr<|ck 1<|bx H λ L O H=>sp (at_idxD eGState O)<|ck 4<|en<|rz<|ck 3<|sp (at_put1 (enc:=eI64) (encK:=eGState) (k:=2) (e1:=λ x=>.int .i64 x) (m:=h) (l:=[.d<|.int .i64 L.Mode,.d<|.int .i64 L.Last,.d<|.int .u8 L.Need]) (key:=L) (y:=B) (v:=.d<|.int .i64 B) (vz:=[.int .i64 0]) eqk93)<|ae<|qN<|qz<|rz<|ck 2<|ae (by cases H;exact og<|gP [2,5,6,33,34,35] [0,1,2,3,4]<|po1<|po1<|po1<|po1<|pn1 nGColumn i<|Pl.z)
 ·exact ex 0<|qx (by cases H;exact xo rfl<|gP [2,5,6] [0,1,2,3,4]<|po1<|po1<|po1<|po1<|pn1 nGColumn i<|Pl.z)
theorem FTr_newWriter_L3_ok (x:(GWriter×Int)) (z:((GWriter×Int)⊕GWriter)) (H:FTr_newWriter_L3 n a b g c w x.1 x.2=some z):WP (cxk 100 0) (bodyOf Tryz.f61) [1,1,1,1,1,0,1,0,0,1,1,0,0,1,1,0,0] (roundQ 0 (FTr_newWriter_L3_S a b g c w) (FTr_newWriter_L3_E a b g c) z) (FTr_newWriter_L3_S a b g c w x):=by
 obtain ⟨e,r⟩:=x;refine sr<|ck 1<|en<|sq<|cn H (λ H=>?_)<|λ H=>?_
 ·refine sk<|qz<|sj (λ (x:GWriter)=>f61k0_s9 a b g c w r x) (λ (x:GWriter)=>FTr_newWriter_J1 n r x) z ?_ (λ f=>?_)
  ·intro A H;exact rz<|ck 2<|ae (by cases H;exact og<|gP [2,5,6,9,10,56,57,58,65,66] [0,1,2,3,4,5]<|po1<|po1<|po1<|po1<|pn1 (nL 2 eGTranslateArc) A.Arcs<|pn1 nGColumn A.Columns<|Pl.z)
  refine bk 5<|sr<|ck 2<|en<|sr<|ck 3<|bx H λ M P H=>ca false (FAu_Step_ok P)<|ck 6<|en<|sr<|ck 1<|en<|cn H (λ H=>?_)<|λ H=>?_
  ·exact bx H λ K u H=>rg (tr (so1 (encN:=(nL 2 eGTranslateArc)) 4 1 u)<|sno (encN:=(nL 2 eGTranslateArc)) (enc:=eGTranslateArc) u [.own 2<|K.map eGTranslateArc] K 1 4 0 2)<|ck 10<|sp (at_idxO 4 1 u)<|sp (at_ldN (encN:=(nL 2 eGTranslateArc)) (row:=[.osl 7 2 0<|K.length]) (k:=4) (sz:=1) (off:=0) (t:=ty 141) (v:=.osl 7 2 0<|K.length) u)<|ck 3<|sp (at_look1 (enc:=eI64) (encK:=eGState) (k:=2) (e1:=λ x=>.int .i64 x) (m:=g) (l:=[.d<|.int .i64 M.1.Mode,.d<|.int .i64 M.1.Last,.d<|.int .u8 M.1.Need]) (key:=M.1) (z:=0) (vz:=[.int .i64 0]) eqk93 false)<|ck 2<|bx H λ p Q H=>sp (at_appO eGTranslateArc 7 2 Q)<|sp (at_idxO 4 1 u)<|sp (at_stN (encN:=(nL 2 eGTranslateArc)) (row:=[.osl 7 2 0<|K.length]) (row':=[.osl 9 2 0<|p.length]) (k:=4) (sz:=1) (off:=0) (t:=ty 141) (v:=.osl 9 2 0<|p.length) u)<|ae<|qN<|qs (tr (tr (tr (tr (tr (sni (encN:=(nL 2 eGTranslateArc)) (xs:=e.Arcs) (n:=c) (enc:=eGTranslateArc) [.osl 9 2 0<|p.length] p 1 4 0 9 2)<|scl (encN:=(nL 2 eGTranslateArc)) (xss:=e.Arcs) c [.own 2<|p.map eGTranslateArc] 1 4 p)<|sn 80 4 1<|lsS e.Arcs c.toNat p)<|sn 85 4 1<|lsS e.Arcs c.toNat p)<|snc 1 5 4 1<|lsS e.Arcs c.toNat p)<|gP [2,5,6,9,10,56,57,58,65,66] [0,1,2,3,4,5]<|po1<|po1<|po1<|po1<|pn1 (nL 2 eGTranslateArc) (List.set e.Arcs c.toNat p)<|pn1 nGColumn e.Columns<|Pl.z)<|f ({ T:=e.T,S:=e.S,States:=e.States,Arcs:=List.set e.Arcs c.toNat p,Columns:=e.Columns,Last:=e.Last }:GWriter) H
  ·exact sk<|qN<|qs (gP [2,5,6,9,10,56,57,58,65,66] [0,1,2,3,4,5]<|po1<|po1<|po1<|po1<|pn1 (nL 2 eGTranslateArc) e.Arcs<|pn1 nGColumn e.Columns<|Pl.z)<|f e H
 ·exact ex 4<|qx (by cases H;exact xo rfl<|gP [2,5,6,56,57,58] [0,1,2,4,5]<|po1<|po1<|po1<|pn1 (nL 2 eGTranslateArc) e.Arcs<|pn1 nGColumn e.Columns<|Pl.z)
theorem FTr_newWriter_L2_ok (x:(GWriter×Int)) (z:((GWriter×Int)⊕GWriter)) (H:FTr_newWriter_L2 n a b g x.1 x.2=some z):WP (cxk 100 0) (bodyOf Tryz.f61) [1,1,1,1,1,0,1,0,0] (roundQ 0 (FTr_newWriter_L2_S a b g) (FTr_newWriter_L2_E) z) (FTr_newWriter_L2_S a b g x):=by
 obtain ⟨o,c⟩:=x;refine sr<|ck 1<|en<|sq<|cn H (λ H=>?_)<|λ H=>?_
 ·exact sk<|qz<|sq<|bk 3<|sr<|ck 1<|bx H λ w R H=>sp (at_idxD eGState R)<|ck 4<|en<|sr<|ck 2<|sp (at_len eGRule a.Rules)<|ck 1<|en<|bk 4<|bx H λ U V H=>lX FTr_newWriter_L3_ok V (gP [2,5,6,9,10,56,57,58,65,66] [0,1,2,5,3,4]<|po1<|po1<|po1<|po1<|pn1 (nL 2 eGTranslateArc) o.Arcs<|pn1 nGColumn o.Columns<|Pl.z) rfl λ s W=>qH<|qN<|qs (W)<|rz<|ck 2<|ae (by cases H;exact og<|gP [2,5,6,56,57,58] [0,1,2,3,4]<|po1<|po1<|po1<|pn1 (nL 2 eGTranslateArc) U.Arcs<|pn1 nGColumn U.Columns<|Pl.z)
 ·exact ex 2<|qx (by cases H;exact xo rfl<|gP [5] [1,3,4]<|po1<|pn1 (nL 2 eGTranslateArc) o.Arcs<|pn1 nGColumn o.Columns<|Pl.z)
theorem FTr_newWriter_ok {z} (H:FTr_newWriter n a j=some z):LentOK Tryz.prog 61 [.agg (bTable a),.d (.str j)] [] 0 (.ptr 0 0) [some (.box (bWriter_6 z (.osl 1 2 0 (z.Columns.length)))),some (.narr 2 (z.Columns.map nGColumn))]:=by
 exact fL 100 0 (f61k0_s1 a j) Tryz.func61<|sr<|ck 2<|en<|sr<|ck 3<|bx H λ b X H=>ca false (FAu_States_ok X)<|ck 3<|bx H λ i E H=>sp (at_mkZ 2 (ez:=[.nil,.nil]) E)<|ck 3<|en<|sq<|rg (tr (tr (sh_toM (encN:=nGColumn) (sz:=2) (z:=[.nil,.nil]) (n:=(iadd .i64 ((j.length:Nat):Int) 1)) 1 (mkl_rep E) (by kernel_rfl) (by kernel_rfl))<|sn 21 1 2<|mkl_len E)<|snc 2 6 1 2<|mkl_len E)<|ck 4<|sp (at_len eGState b)<|ck 2<|en<|sq<|sr<|ck 4<|sp (at_len eGState b)<|ck 1<|en<|bk 0<|bx H λ g Y H=>lX FTr_newWriter_L1_ok Y (tr (sh_nilc 2 5 1 (by kernel_rfl))<|gP [2,5,6,33,34,35] [0,2,3,4,1]<|po1<|po1<|po1<|po1<|pn1 nGColumn i<|Pl.z) rfl λ s Z=>qH<|qs (Z)<|sr<|ck 5<|sp (at_len eGState b)<|bx H λ ac G H=>sp (at_mkZ 1 (ez:=[.nil]) G)<|ck 3<|en<|sq<|sq<|rg (tr (tr (sh_toM (encN:=(nL 2 eGTranslateArc)) (sz:=1) (z:=[.nil]) (n:=((b.length:Nat):Int)) 5 (mkl_rep G) (by kernel_rfl) (by kernel_rfl))<|sn 50 5 1<|mkl_len G)<|snc 1 5 5 1<|mkl_len G)<|ck 4<|sp (at_len eGState b)<|ck 1<|en<|bk 2<|bx H λ af aa H=>lX FTr_newWriter_L2_ok aa (gP [2,5,6,56,57,58] [0,1,2,5,4]<|po1<|po1<|po1<|pn1 (nL 2 eGTranslateArc) ac<|pn1 nGColumn i<|Pl.z) rfl λ s ab=>qH<|qs (ab)<|sr<|ck 2<|en<|re (by cases H;exact pL<|rl (s':=f61k0_s2 z)<|tr (sh_frzNc (encN:=(nL 2 eGTranslateArc)) (encD:=(eL eGTranslateArc)) (xss:=z.Arcs) (sz:=1) 0 5 1 (by kernel_rfl) (by kernel_rfl) (λ _=>rfl)<|λ _=>rfl)<|gP [4] [0,2]<|po1<|pn1 nGColumn z.Columns<|Pl.z)
end
section
variable (b:Int) (o:Int) (a:GWriter) (e:(List (List Bool))) (l:GWriter) (q:(List (List Bool)))
def f76k0_s1:St:=⟨(0,.d<|.int .i64 b)::(1,.d<|.int .i64 o)::(2,.eptr 0 1 0 0)::(3,.ptr 1 0)::[],[some<|.narr 1<|e.map<|nL 1 eB,some<|.box [.ptr 2 0],some<|.box<|bWriter_6 a<|.osl 3 2 0<|a.Columns.length,some<|.narr 2<|a.Columns.map nGColumn]⟩
def f76k0_s2:St:=⟨[],[some<|.narr 1<|q.map<|nL 1 eB,some<|.box [.ptr 2 0],some<|.box<|bWriter_6 l<|.osl 3 2 0<|l.Columns.length,some<|.narr 2<|l.Columns.map nGColumn]⟩
variable {b o a e l q}
theorem FTr_writer_reach_1_ok {z} (H:FTr_writer_reach_1 n b o a e=some z):LentOK Tryz.prog 76 [.d (.int .i64 b),.d (.int .i64 o),.eptr 0 1 0 0,.ptr 1 0] [some (.narr 1 (e.map (nL 1 eB))),some (.box [.ptr 2 0]),some (.box (bWriter_6 a (.osl 3 2 0 (a.Columns.length)))),some (.narr 2 (a.Columns.map nGColumn))] 4 (.tup []) [some (.narr 1 (z.2.map (nL 1 eB))),some (.box [.ptr 2 0]),some (.box (bWriter_6 z.1 (.osl 3 2 0 (z.1.Columns.length)))),some (.narr 2 (z.1.Columns.map nGColumn))]:=by
 refine fL 37 4 (f76k0_s1 b o a e) Tryz.func76<|sq<|bx H λ f p H=>rg (tr (so1 (encN:=(nL 1 eB)) 0 1 p)<|sno (encN:=(nL 1 eB)) (enc:=eB) p [.own 1<|f.map eB] f 1 0 0 1)<|ck 2<|bx H λ x u H=>sp (at_idxE 0 1 0 5 (j:=0) u)<|sp (at_ldN (encN:=(nL 1 eB)) (row:=[.osl 4 1 0<|f.length]) (k:=0) (sz:=1) (off:=0) (t:=ty 113) (v:=.osl 4 1 0<|f.length) p)<|ck 1<|en<|sr<|ck 2<|bx H λ y r H=>sp (at_idxO 4 1 r)<|sp (at_ldA eB 4 0 (ty 4) r)<|ck 1<|en<|cn H (λ H=>?_)<|λ H=>?_
 ·exact sr<|ck 2<|bx H λ A s H=>sp (at_idxO 4 1 s)<|bx H λ m h H=>stA eB 4 0 (ty 4) s h<|en<|bx H λ c i H=>rg (tr (tr (tr (tr (tr (tr (tr (tr (sn 10 4 1<|put_len h)<|sn 6 4 1<|put_len h)<|sn 11 4 1<|put_len h)<|sn 16 4 1<|put_len h)<|snr (encN:=(nL 1 eB)) (xs:=e) (n:=irem b 5) [.osl 4 1 0<|f.length] 1 0 0 4 1<|put_len h)<|sni (encN:=(nL 1 eB)) (xs:=e) (n:=irem b 5) (enc:=eB) [.osl 4 1 0<|m.length] m 1 0 0 4 1)<|scl (encN:=(nL 1 eB)) (xss:=e) (irem b 5) [.own 1<|m.map eB] 1 0 m)<|so1 (encN:=nGColumn) 3 2 i)<|sno (encN:=nGColumn) (enc:=eI64) i [.own 1<|c.States.map eI64,.own 1<|c.Costs.map eI64] c.States 2 3 0 1)<|ck 10<|sp (at_idxO 3 2 i)<|ck 1<|sp (at_ldN (encN:=nGColumn) (row:=[.osl 5 1 0<|c.States.length,.own 1<|c.Costs.map eI64]) (k:=3) (sz:=2) (off:=0) (t:=ty 35) (v:=.osl 5 1 0<|c.States.length) i)<|ck 2<|bx H λ g w H=>sp (at_appO eI64 5 1 w)<|sp (at_idxO 3 2 i)<|ck 1<|sp (at_stN (encN:=nGColumn) (row:=[.osl 5 1 0<|c.States.length,.own 1<|c.Costs.map eI64]) (row':=[.osl 7 1 0<|g.length,.own 1<|c.Costs.map eI64]) (k:=3) (sz:=2) (off:=0) (t:=ty 35) (v:=.osl 7 1 0<|g.length) i)<|ae (by cases H;exact pL'<|rl (s':=f76k0_s2 ({ T:=a.T,S:=a.S,States:=a.States,Arcs:=a.Arcs,Columns:=List.set a.Columns b.toNat ({ States:=g,Costs:=c.Costs }:GColumn),Last:=a.Last }:GWriter)<|List.set e (Int.toNat<|irem b 5) m)<|tr (tr (tr (tr (tr (sni (encN:=nGColumn) (xs:=a.Columns) (n:=b) (enc:=eI64) [.osl 7 1 0<|g.length,.own 1<|c.Costs.map eI64] g 2 3 0 7 1)<|scl (encN:=nGColumn) (xss:=a.Columns) b [.own 1<|g.map eI64,.own 1<|c.Costs.map eI64] 2 3 ({ States:=g,Costs:=c.Costs }:GColumn))<|sn 22 3 2<|lsS a.Columns b.toNat ({ States:=g,Costs:=c.Costs }:GColumn))<|sn 27 3 2<|lsS a.Columns b.toNat ({ States:=g,Costs:=c.Costs }:GColumn))<|snc 2 6 3 2<|lsS a.Columns b.toNat ({ States:=g,Costs:=c.Costs }:GColumn))<|gP [] [0,1,2,3]<|pn1 (nL 1 eB) (List.set e (Int.toNat<|irem b 5) m)<|po1<|po1<|pn1 nGColumn (List.set a.Columns b.toNat ({ States:=g,Costs:=c.Costs }:GColumn))<|Pl.z)
 ·exact sk (by cases H;exact pL'<|rl (s':=f76k0_s2 a<|List.set e (Int.toNat<|irem b 5) f)<|tr (tr (sni (encN:=(nL 1 eB)) (xs:=e) (n:=irem b 5) (enc:=eB) [.osl 4 1 0<|f.length] f 1 0 0 4 1)<|scl (encN:=(nL 1 eB)) (xss:=e) (irem b 5) [.own 1<|f.map eB] 1 0 f)<|gP [] [0,1,2,3]<|pn1 (nL 1 eB) (List.set e (Int.toNat<|irem b 5) f)<|po1<|po1<|pn1 nGColumn a.Columns<|Pl.z)
end
section
variable (b:Int) (c:Int) (a:GWriter) (e:Int) (f:Bool)
def f77k0_s1:St:=⟨(0,.ptr 0 0)::(1,.d<|.int .i64 b)::(2,.d<|.int .i64 c)::[],[some<|.box<|bWriter_6 a<|.osl 1 2 0<|a.Columns.length,some<|.narr 2<|a.Columns.map nGColumn]⟩
def f77k0_s2:St:=⟨(6,.d<|.int .i64 e)::(7,.d<|.bool f)::[],[some<|.box<|bWriter_6 a<|.osl 1 2 0<|a.Columns.length,some<|.narr 2<|a.Columns.map nGColumn]⟩
variable {b c a e f}
theorem FTr_writer_printsx_ok {z} (H:FTr_writer_printsx n b c a=some z):LentOK Tryz.prog 77 [.ptr 0 0,.d (.int .i64 b),.d (.int .i64 c)] [some (.box (bWriter_6 a (.osl 1 2 0 (a.Columns.length)))),some (.narr 2 (a.Columns.map nGColumn))] 2 (.tup [.d (.int .i64 z.1),.d (.bool z.2)]) [some (.box (bWriter_6 a (.osl 1 2 0 (a.Columns.length)))),some (.narr 2 (a.Columns.map nGColumn))]:=by
 exact fL 30 2 (f77k0_s1 b c a) Tryz.func77<|sr<|ck 2<|en<|sr<|ck 6<|bx H λ j g H=>sp (at_idxD eGRule g)<|ck 3<|en<|sr<|ck 9<|bx H λ l h H=>sp (at_ssub h)<|ck 1<|bx H λ k i H=>ca true (FSt_HasPrefix_ok i)<|ck 2<|en<|re (by cases H;exact pL<|rl (s':=f77k0_s2 a (iadd .i64 b ((j.Print.length:Nat):Int)) k)<|gP [6,7] [0,1]<|po1<|pn1 nGColumn a.Columns<|Pl.z)
end
theorem FSort_ok {n:Nat} {a:List Int} {z:List Int} (H:FSort n a=some z):LentOK Tryz.prog 78 [.osl 0 1 0 (a.length)] [some (.arr 1 (a.map eI64))] 1 (.tup []) [some (.arr 1 (z.map eI64))]:=sort_lent Tryz.laysSort ⟨_,_,Tryz.func78,rfl,rfl⟩ H
section
variable (q:GWriter) (W:GWriter) (r:(List (List Bool))) (L:Int) (Q:(List (List Bool))) (c:(GWriter×(List (List Bool)))) (G:GWriter) (l:(List (List Bool))) (a:Int) (X:GWriter) (b:Int) (e:GWriter) (g:(List (List Bool))) (E:Int) (ah:GWriter) (R:(List (List Bool))) (af:Int) (ac:GWriter) (I:(List GTranslateArc)) (u:GWriter) (i:(List (List Bool))) (M:Int) (Y:GWriter) (O:(List (List Bool))) (P:GWriter) (C:(List (List Bool)))
def f62k0_s1:St:=⟨(0,.ptr 0 0)::[],[some<|.box<|bWriter_6 q<|.osl 1 2 0<|q.Columns.length,some<|.narr 2<|q.Columns.map nGColumn]⟩
def f62k0_s2:St:=⟨[],[some<|.box<|bWriter_6 W<|.osl 1 2 0<|W.Columns.length,some<|.narr 2<|W.Columns.map nGColumn]⟩
def f62k0_s3:St:=⟨(1,.ptr 2 0)::(2,.eptr 3 1 0 0)::(13,.d<|.int .i64 L)::[],[some<|.box<|bWriter_6 q<|.osl 1 2 0<|q.Columns.length,some<|.narr 2<|q.Columns.map nGColumn,some<|.box [.ptr 0 0],some<|.narr 1<|r.map<|nL 1 eB]⟩
def f62k0_s4:St:=⟨(1,.ptr 2 0)::(2,.eptr 3 1 0 0)::[],[some<|.box<|bWriter_6 q<|.osl 1 2 0<|q.Columns.length,some<|.narr 2<|q.Columns.map nGColumn,some<|.box [.ptr 0 0],some<|.narr 1<|Q.map<|nL 1 eB]⟩
def FTr_writer_reach_L1_E:(List<|List Bool)->Ex->St->Prop:=xX 2 0<|λ (y:(List<|List Bool))=>f62k0_s4 q y
def FTr_writer_reach_L1_S:((List<|List Bool)×Int)->St:=(λ (x:((List<|List Bool)×Int))=>f62k0_s3 q x.1 x.2)
def f62k0_s5:St:=⟨(1,.ptr 2 0)::(2,.eptr 3 1 0 0)::(4,.clo 76 [.eptr 3 1 0 0,.ptr 2 0])::(32,.d<|.int .i64 ((c.1.Columns.length:Nat):Int))::(33,.d<|.int .i64 a)::[],[some<|.box<|bWriter_6 G<|.osl 1 2 0<|G.Columns.length,some<|.narr 2<|G.Columns.map nGColumn,some<|.box [.ptr 0 0],some<|.narr 1<|l.map<|nL 1 eB]⟩
def f62k0_s6:St:=⟨[],[some<|.box<|bWriter_6 X<|.osl 1 2 0<|X.Columns.length,some<|.narr 2<|X.Columns.map nGColumn]⟩
def f62k0_s7:St:=⟨(1,.ptr 2 0)::(2,.eptr 3 1 0 0)::(4,.clo 76 [.eptr 3 1 0 0,.ptr 2 0])::(5,.d<|.int .i64 a)::(6,.d<|.int .i64 b)::(32,.d<|.int .i64 ((c.1.Columns.length:Nat):Int))::(33,.d<|.int .i64 a)::[],[some<|.box<|bWriter_6 G<|.osl 1 2 0<|G.Columns.length,some<|.narr 2<|G.Columns.map nGColumn,some<|.box [.ptr 0 0],some<|.narr 1<|l.map<|nL 1 eB]⟩
def f62k0_s8:St:=⟨(1,.ptr 2 0)::(2,.eptr 3 1 0 0)::(4,.clo 76 [.eptr 3 1 0 0,.ptr 2 0])::(5,.d<|.int .i64 a)::(6,.d<|.int .i64 b)::(7,.d<|.int .i64 E)::(32,.d<|.int .i64 ((c.1.Columns.length:Nat):Int))::(33,.d<|.int .i64 a)::[],[some<|.box<|bWriter_6 e<|.osl 1 2 0<|e.Columns.length,some<|.narr 2<|e.Columns.map nGColumn,some<|.box [.ptr 0 0],some<|.narr 1<|g.map<|nL 1 eB]⟩
def f62k0_s9:St:=⟨(1,.ptr 2 0)::(2,.eptr 3 1 0 0)::(4,.clo 76 [.eptr 3 1 0 0,.ptr 2 0])::(5,.d<|.int .i64 a)::(32,.d<|.int .i64 ((c.1.Columns.length:Nat):Int))::(33,.d<|.int .i64 a)::[],[some<|.box<|bWriter_6 ah<|.osl 1 2 0<|ah.Columns.length,some<|.narr 2<|ah.Columns.map nGColumn,some<|.box [.ptr 0 0],some<|.narr 1<|R.map<|nL 1 eB]⟩
def f62k0_s10:St:=⟨(1,.ptr 2 0)::(2,.eptr 3 1 0 0)::(4,.clo 76 [.eptr 3 1 0 0,.ptr 2 0])::(5,.d<|.int .i64 a)::(6,.d<|.int .i64 b)::(7,.d<|.int .i64 E)::(8,.d<|.int .i64 af)::(32,.d<|.int .i64 ((c.1.Columns.length:Nat):Int))::(33,.d<|.int .i64 a)::[],[some<|.box<|bWriter_6 ac<|.osl 1 2 0<|ac.Columns.length,some<|.narr 2<|ac.Columns.map nGColumn,some<|.box [.ptr 0 0],some<|.narr 1<|g.map<|nL 1 eB]⟩
def f62k0_s11:St:=⟨(1,.ptr 2 0)::(2,.eptr 3 1 0 0)::(4,.clo 76 [.eptr 3 1 0 0,.ptr 2 0])::(5,.d<|.int .i64 a)::(6,.d<|.int .i64 b)::(7,.d<|.int .i64 E)::(32,.d<|.int .i64 ((c.1.Columns.length:Nat):Int))::(33,.d<|.int .i64 a)::(96,.d<|.sl<|I.map eGTranslateArc)::(97,.d<|.int .i64 ((I.length:Nat):Int))::(98,.d<|.int .i64 M)::[],[some<|.box<|bWriter_6 u<|.osl 1 2 0<|u.Columns.length,some<|.narr 2<|u.Columns.map nGColumn,some<|.box [.ptr 0 0],some<|.narr 1<|i.map<|nL 1 eB]⟩
def f62k0_s12:St:=⟨(1,.ptr 2 0)::(2,.eptr 3 1 0 0)::(4,.clo 76 [.eptr 3 1 0 0,.ptr 2 0])::(5,.d<|.int .i64 a)::(6,.d<|.int .i64 b)::(7,.d<|.int .i64 E)::(32,.d<|.int .i64 ((c.1.Columns.length:Nat):Int))::(33,.d<|.int .i64 a)::[],[some<|.box<|bWriter_6 Y<|.osl 1 2 0<|Y.Columns.length,some<|.narr 2<|Y.Columns.map nGColumn,some<|.box [.ptr 0 0],some<|.narr 1<|O.map<|nL 1 eB]⟩
def f62k0_s13:St:=⟨(1,.ptr 2 0)::(2,.eptr 3 1 0 0)::(4,.clo 76 [.eptr 3 1 0 0,.ptr 2 0])::(5,.d<|.int .i64 a)::(6,.d<|.int .i64 b)::(7,.d<|.int .i64 E)::(32,.d<|.int .i64 ((c.1.Columns.length:Nat):Int))::(33,.d<|.int .i64 a)::(96,.d<|.sl<|I.map eGTranslateArc)::(97,.d<|.int .i64 ((I.length:Nat):Int))::(98,.d<|.int .i64 M)::[],[some<|.box<|bWriter_6 P<|.osl 1 2 0<|P.Columns.length,some<|.narr 2<|P.Columns.map nGColumn,some<|.box [.ptr 0 0],some<|.narr 1<|C.map<|nL 1 eB]⟩
def FTr_writer_reach_L4_E:(GWriter×(List<|List Bool))->Ex->St->Prop:=xX 2 6<|λ (y:(GWriter×(List<|List Bool)))=>f62k0_s12 c a b E y.1 y.2
def FTr_writer_reach_L4_S:(GWriter×(List<|List Bool)×Int)->St:=(λ (x:(GWriter×(List<|List Bool)×Int))=>f62k0_s11 c a b E I x.1 x.2.1 x.2.2)
def FTr_writer_reach_L3_E:(GWriter×(List<|List Bool))->Ex->St->Prop:=xX 2 4<|λ (y:(GWriter×(List<|List Bool)))=>f62k0_s9 c a y.1 y.2
def FTr_writer_reach_L3_S:(GWriter×(List<|List Bool)×Int)->St:=(λ (x:(GWriter×(List<|List Bool)×Int))=>f62k0_s8 c a b x.1 x.2.1 x.2.2)
def FTr_writer_reach_L2_E:GWriter->Ex->St->Prop:=xX 2 2<|λ (y:GWriter)=>f62k0_s6 y
def FTr_writer_reach_L2_S:(GWriter×(List<|List Bool)×Int)->St:=(λ (x:(GWriter×(List<|List Bool)×Int))=>f62k0_s5 c x.1 x.2.1 x.2.2)
variable {q W r L Q c G l a X b e g E ah R af ac I u i M Y O P C}
theorem FTr_writer_reach_L1_ok (x:((List (List Bool))×Int)) (z:(((List (List Bool))×Int)⊕(List (List Bool)))) (H:FTr_writer_reach_L1 n q x.1 x.2=some z):WP (cxk 131 2) (bodyOf Tryz.f62) [1,1,0,1,0,0] (roundQ 2 (FTr_writer_reach_L1_S q) (FTr_writer_reach_L1_E q) z) (FTr_writer_reach_L1_S q x):=by
 obtain ⟨r,L⟩:=x;refine sr<|ck 1<|en<|sq<|cn H (λ H=>?_)<|λ H=>?_
 ·exact sk<|qz<|sq<|bk 1<|sr<|ck 2<|en<|bx H λ bf aj H=>rg (so1 (encN:=(nL 1 eB)) 3 1 aj)<|ck 5<|sp (at_len eGState q.States)<|bx H λ U am H=>sp (at_mk eB 1 am)<|bx H λ bi ap H=>sp (at_idxE 3 1 0 5 (j:=0) ap)<|sp (at_stN (encN:=(nL 1 eB)) (row:=[.own 1<|bf.map eB]) (row':=[.osl 4 1 0<|U.length]) (k:=3) (sz:=1) (off:=0) (t:=ty 113) (v:=.osl 4 1 0<|U.length) aj)<|ae<|qN<|qz<|rg (tr (sni (encN:=(nL 1 eB)) (xs:=r) (n:=L) (enc:=eB) [.osl 4 1 0<|U.length] U 1 3 0 4 1)<|scl (encN:=(nL 1 eB)) (xss:=r) L [.own 1<|U.map eB] 1 3 U)<|ck 2<|ae (by cases H;exact og<|gP [1,2,13] [0,1,2,3]<|po1<|pn1 nGColumn q.Columns<|po1<|pn1 (nL 1 eB) (List.set r L.toNat U)<|Pl.z)
 ·exact ex 0<|qx (by cases H;exact xo rfl<|gP [1,2] [0,1,2,3]<|po1<|pn1 nGColumn q.Columns<|po1<|pn1 (nL 1 eB) r<|Pl.z)
theorem FTr_writer_reach_L4_ok (x:(GWriter×(List (List Bool))×Int)) (z:((GWriter×(List (List Bool))×Int)⊕(GWriter×(List (List Bool))))) (H:FTr_writer_reach_L4 n c a b E I x.1 x.2.1 x.2.2=some z):WP (cxk 131 2) (bodyOf Tryz.f62) [1,1,1,1,1,1,0,0,1,1,0,0,1,1,1,0,1,0,0,1,0,0,1,1,1,0,0] (roundQ 2 (FTr_writer_reach_L4_S c a b E I) (FTr_writer_reach_L4_E c a b E) z) (FTr_writer_reach_L4_S c a b E I x):=by
 obtain ⟨u,i,M⟩:=x;refine sr<|ck 1<|en<|sq<|cn H (λ H=>?_)<|λ H=>?_
 ·refine sk<|qz<|sj (λ (x:(GWriter×(List<|List Bool)))=>f62k0_s13 c a b E I M x.1 x.2) (λ (x:(GWriter×(List<|List Bool)))=>FTr_writer_reach_J3 n M x.1 x.2) z ?_ (λ m=>?_)
  ·rintro ⟨P,C⟩ H;exact rz<|ck 2<|ae (by cases H;exact og<|gP [1,2,4,5,6,7,32,33,96,97,98] [0,1,2,3]<|po1<|pn1 nGColumn P.Columns<|po1<|pn1 (nL 1 eB) C<|Pl.z)
  refine bk 7<|sr<|bx H λ ai ar H=>sp (at_idxD eGTranslateArc ar)<|ck 3<|en<|sr<|ck 4<|bx H λ bj au H=>ltP [0,1] (FTr_writer_printsx_ok au) (po1<|pn1 nGColumn u.Columns<|Pl.z)<|tb (f:=mapA1<|backN [0,1] 5 2) [some<|.box<|bWriter_6 u<|.osl 1 2 0<|u.Columns.length,some<|.narr 2<|u.Columns.map nGColumn,some<|.box [.ptr 0 0],some<|.narr 1<|i.map<|nL 1 eB,some<|.box [.d<|.int .i64 ai.Rule,.d<|.int .i64 ai.To]] (po1<|pn1 nGColumn u.Columns<|po1<|po1<|po1<|Pl.z)<|ck 5<|en<|sr<|ck 1<|en<|cn H (λ H=>?_)<|λ H=>?_
  ·exact rz<|ck 4<|bx H λ J av H=>xcP (xok _ _) [3,2,0,1] (FTr_writer_reach_1_ok av) (pn1 (nL 1 eB) i<|po1<|po1<|pn1 nGColumn u.Columns<|Pl.z)<|tb (f:=mapA1<|backN [3,2,0,1] 5 4) [some<|.box<|bWriter_6 J.1<|.osl 1 2 0<|J.1.Columns.length,some<|.narr 2<|J.1.Columns.map nGColumn,some<|.box [.ptr 0 0],some<|.narr 1<|J.2.map<|nL 1 eB,some<|.box [.d<|.int .i64 ai.Rule,.d<|.int .i64 ai.To]] (po1<|pn1 nGColumn J.1.Columns<|po1<|pn1 (nL 1 eB) J.2<|po1<|Pl.z)<|ae<|qN<|qs (gP [1,2,4,5,6,7,32,33,96,97,98] [0,1,2,3]<|po1<|pn1 nGColumn J.1.Columns<|po1<|pn1 (nL 1 eB) J.2<|Pl.z)<|m (J.1,J.2) H
  ·exact sk<|qN<|qs (gP [1,2,4,5,6,7,32,33,96,97,98] [0,1,2,3]<|po1<|pn1 nGColumn u.Columns<|po1<|pn1 (nL 1 eB) i<|Pl.z)<|m (u,i) H
 ·exact ex 6<|qx (by cases H;exact xo rfl<|gP [1,2,4,5,6,7,32,33] [0,1,2,3]<|po1<|pn1 nGColumn u.Columns<|po1<|pn1 (nL 1 eB) i<|Pl.z)
theorem FTr_writer_reach_L3_ok (x:(GWriter×(List (List Bool))×Int)) (z:((GWriter×(List (List Bool))×Int)⊕(GWriter×(List (List Bool))))) (H:FTr_writer_reach_L3 n c a b x.1 x.2.1 x.2.2=some z):WP (cxk 131 2) (bodyOf Tryz.f62) [1,1,1,1,1,1,0,0,1,1,0,0,1,1,1,0,1,0,0] (roundQ 2 (FTr_writer_reach_L3_S c a b) (FTr_writer_reach_L3_E c a) z) (FTr_writer_reach_L3_S c a b x):=by
 obtain ⟨e,g,E⟩:=x;refine sq<|sq<|bx H λ h Z H=>rg (tr (so1 (encN:=nGColumn) 1 2 Z)<|sno (encN:=nGColumn) (enc:=eI64) Z [.own 1<|h.States.map eI64,.own 1<|h.Costs.map eI64] h.States 2 1 0 1)<|ck 6<|sp (at_idxO 1 2 Z)<|ck 1<|sp (at_ldN (encN:=nGColumn) (row:=[.osl 4 1 0<|h.States.length,.own 1<|h.Costs.map eI64]) (k:=1) (sz:=2) (off:=0) (t:=ty 35) (v:=.osl 4 1 0<|h.States.length) Z)<|ck 2<|en<|cn H (λ H=>?_)<|λ H=>?_
 ·refine sk<|qz<|sq<|bk 5<|sq<|bx H λ B aa H=>rg (tr (tr (tr (tr (tr (sni (encN:=nGColumn) (xs:=e.Columns) (n:=a) (enc:=eI64) [.osl 4 1 0<|h.States.length,.own 1<|h.Costs.map eI64] h.States 2 1 0 4 1)<|scl (encN:=nGColumn) (xss:=e.Columns) a [.own 1<|h.States.map eI64,.own 1<|h.Costs.map eI64] 2 1 h)<|sn 54 1 2<|lsS e.Columns a.toNat h)<|snc 0 6 1 2<|lsS e.Columns a.toNat h)<|so1 (encN:=nGColumn) 1 2 aa)<|sno (encN:=nGColumn) (enc:=eI64) aa [.own 1<|B.States.map eI64,.own 1<|B.Costs.map eI64] B.States 2 1 0 1)<|ck 5<|sp (at_idxO 1 2 aa)<|ck 1<|sp (at_ldN (encN:=nGColumn) (row:=[.osl 5 1 0<|B.States.length,.own 1<|B.Costs.map eI64]) (k:=1) (sz:=2) (off:=0) (t:=ty 35) (v:=.osl 5 1 0<|B.States.length) aa)<|ck 1<|bx H λ af ak H=>sp (at_idxO 5 1 ak)<|sp (at_ldA eI64 5 0 (ty 3) ak)<|ck 1<|en<|sj (λ (x:GWriter)=>f62k0_s10 c a b g E af x) (λ (x:GWriter)=>FTr_writer_reach_J2 n c a b g E af x) z ?_ (λ o=>?_)
  ·intro ac H;exact sr<|ck 5<|bx H λ I aw H=>sp (at_idxD (eL eGTranslateArc) aw)<|ck 1<|sp (at_len eGTranslateArc I)<|ck 1<|en<|bk 6<|bx H λ ay az H=>lX FTr_writer_reach_L4_ok az (gP [1,2,4,5,6,7,32,33,96,97,98] [0,1,2,3]<|po1<|pn1 nGColumn ac.Columns<|po1<|pn1 (nL 1 eB) g<|Pl.z) rfl λ s a0=>qH<|qN<|qs (a0)<|rz<|ck 3<|ae (by cases H;exact og<|gP [1,2,4,5,6,7,32,33] [0,1,2,3]<|po1<|pn1 nGColumn ay.1.Columns<|po1<|pn1 (nL 1 eB) ay.2<|Pl.z)
  refine sq<|rg (tr (tr (tr (tr (sni (encN:=nGColumn) (xs:=List.set e.Columns a.toNat h) (n:=a) (enc:=eI64) [.osl 5 1 0<|B.States.length,.own 1<|B.Costs.map eI64] B.States 2 1 0 5 1)<|scl (encN:=nGColumn) (xss:=List.set e.Columns a.toNat h) a [.own 1<|B.States.map eI64,.own 1<|B.Costs.map eI64] 2 1 B)<|sn 54 1 2<|lsS (List.set e.Columns a.toNat h) a.toNat B)<|sn 66 1 2<|lsS (List.set e.Columns a.toNat h) a.toNat B)<|snc 0 6 1 2<|lsS (List.set e.Columns a.toNat h) a.toNat B)<|ck 5<|bx H λ bl a2 H=>sp (at_idxD eGState a2)<|ck 3<|bx H λ bm a3 H=>so (guard_ge a3)<|ck 2<|en<|cn H (λ H=>?_)<|λ H=>?_
  ·exact rz<|ck 5<|ae<|qs (gP [1,2,4,5,6,7,8,32,33] [0,1,2,3]<|po1<|pn1 nGColumn (List.set (List.set e.Columns a.toNat h) a.toNat B)<|po1<|pn1 (nL 1 eB) g<|Pl.z)<|o ({ T:=e.T,S:=e.S,States:=e.States,Arcs:=e.Arcs,Columns:=List.set (List.set e.Columns a.toNat h) a.toNat B,Last:=a }:GWriter) H
  ·exact sk<|qs (gP [1,2,4,5,6,7,8,32,33] [0,1,2,3]<|po1<|pn1 nGColumn (List.set (List.set e.Columns a.toNat h) a.toNat B)<|po1<|pn1 (nL 1 eB) g<|Pl.z)<|o ({ T:=e.T,S:=e.S,States:=e.States,Arcs:=e.Arcs,Columns:=List.set (List.set e.Columns a.toNat h) a.toNat B,Last:=e.Last }:GWriter) H
 ·exact ex 4<|qx (by cases H;exact xo rfl<|tr (tr (tr (tr (sni (encN:=nGColumn) (xs:=e.Columns) (n:=a) (enc:=eI64) [.osl 4 1 0<|h.States.length,.own 1<|h.Costs.map eI64] h.States 2 1 0 4 1)<|scl (encN:=nGColumn) (xss:=e.Columns) a [.own 1<|h.States.map eI64,.own 1<|h.Costs.map eI64] 2 1 h)<|sn 54 1 2<|lsS e.Columns a.toNat h)<|snc 0 6 1 2<|lsS e.Columns a.toNat h)<|gP [1,2,4,5,32,33] [0,1,2,3]<|po1<|pn1 nGColumn (List.set e.Columns a.toNat h)<|po1<|pn1 (nL 1 eB) g<|Pl.z)
theorem FTr_writer_reach_L2_ok (x:(GWriter×(List (List Bool))×Int)) (z:((GWriter×(List (List Bool))×Int)⊕GWriter)) (H:FTr_writer_reach_L2 n c x.1 x.2.1 x.2.2=some z):WP (cxk 131 2) (bodyOf Tryz.f62) [1,1,1,1,1,1,0,0] (roundQ 2 (FTr_writer_reach_L2_S c) (FTr_writer_reach_L2_E) z) (FTr_writer_reach_L2_S c x):=by
 obtain ⟨G,l,a⟩:=x;refine sr<|ck 1<|en<|sq<|cn H (λ H=>?_)<|λ H=>?_
 ·refine sk<|qz<|sq<|bk 3<|sr<|ck 2<|en<|sr<|ck 1<|en<|sj (λ (x:Int)=>f62k0_s7 c G l a x) (λ (x:Int)=>FTr_writer_reach_J1 n c G l a x) z ?_ (λ p=>?_)
  ·intro b H;exact sq<|sr<|ck 1<|en<|bk 4<|bx H λ K a4 H=>lX FTr_writer_reach_L3_ok a4 (gP [1,2,4,5,6,7,32,33] [0,1,2,3]<|po1<|pn1 nGColumn G.Columns<|po1<|pn1 (nL 1 eB) l<|Pl.z) rfl λ s a5=>qH<|qs (a5)<|sq<|bx H λ w ab H=>rg (tr (so1 (encN:=nGColumn) 1 2 ab)<|sno (encN:=nGColumn) (enc:=eI64) ab [.own 1<|w.States.map eI64,.own 1<|w.Costs.map eI64] w.States 2 1 0 1)<|ck 5<|sp (at_idxO 1 2 ab)<|ck 1<|sp (at_ldN (encN:=nGColumn) (row:=[.osl 4 1 0<|w.States.length,.own 1<|w.Costs.map eI64]) (k:=1) (sz:=2) (off:=0) (t:=ty 35) (v:=.osl 4 1 0<|w.States.length) ab)<|bx H λ V a6 H=>lt [4] (FSort_ok a6)<|bx H λ _ al H=>en<|bx H λ A ag H=>rg (tr (tr (tr (tr (tr (tr (tr (sn 124 4 1<|guard_len al)<|snr (encN:=nGColumn) (xs:=K.1.Columns) (n:=a) [.osl 4 1 0<|w.States.length,.own 1<|w.Costs.map eI64] 2 1 0 4 1<|guard_len al)<|sni (encN:=nGColumn) (xs:=K.1.Columns) (n:=a) (enc:=eI64) [.osl 4 1 0<|V.length,.own 1<|w.Costs.map eI64] V 2 1 0 4 1)<|scl (encN:=nGColumn) (xss:=K.1.Columns) a [.own 1<|V.map eI64,.own 1<|w.Costs.map eI64] 2 1 ({ States:=V,Costs:=w.Costs }:GColumn))<|sn 120 1 2<|lsS K.1.Columns a.toNat ({ States:=V,Costs:=w.Costs }:GColumn))<|snc 0 6 1 2<|lsS K.1.Columns a.toNat ({ States:=V,Costs:=w.Costs }:GColumn))<|so1 (encN:=(nL 1 eB)) 3 1 ag)<|sno (encN:=(nL 1 eB)) (enc:=eB) ag [.own 1<|A.map eB] A 1 3 0 1)<|ck 2<|bx H λ bn a7 H=>sp (at_idxE 3 1 0 5 (j:=0) a7)<|sp (at_ldN (encN:=(nL 1 eB)) (row:=[.osl 5 1 0<|A.length]) (k:=3) (sz:=1) (off:=0) (t:=ty 113) (v:=.osl 5 1 0<|A.length) ag)<|xz (xok _ _) (xs:=A) eB (false:Bool) 5 1<|ae<|qN<|qz<|rg (tr (tr (tr (sn 129 5 1<|lrS (A.length) (false:Bool))<|snr (encN:=(nL 1 eB)) (xs:=K.2) (n:=irem a 5) [.osl 5 1 0<|A.length] 1 3 0 5 1<|lrS (A.length) (false:Bool))<|sni (encN:=(nL 1 eB)) (xs:=K.2) (n:=irem a 5) (enc:=eB) [.osl 5 1 0<|List.length<|List.replicate (A.length) (false:Bool)] (List.replicate (A.length) (false:Bool)) 1 3 0 5 1)<|scl (encN:=(nL 1 eB)) (xss:=K.2) (irem a 5) [.own 1<|List.map eB<|List.replicate (A.length) (false:Bool)] 1 3<|List.replicate (A.length) (false:Bool))<|ck 2<|ae (by cases H;exact og<|gP [1,2,4,32,33] [0,1,2,3]<|po1<|pn1 nGColumn (List.set K.1.Columns a.toNat ({ States:=V,Costs:=w.Costs }:GColumn))<|po1<|pn1 (nL 1 eB) (List.set K.2 (Int.toNat<|irem a 5)<|List.replicate (A.length) (false:Bool))<|Pl.z)
  refine sr<|ck 7<|en<|cn H (λ H=>?_)<|λ H=>?_
  ·exact rz<|ck 5<|bx H λ b5 a8 H=>sp (at_sidx a8)<|bx H λ bg a9 H=>ca false (FTb_Class_ok a9)<|ck 1<|ae<|qs (gP [1,2,4,5,6,32,33] [0,1,2,3]<|po1<|pn1 nGColumn G.Columns<|po1<|pn1 (nL 1 eB) l<|Pl.z)<|p bg H
  ·exact sk<|qs (gP [1,2,4,5,6,32,33] [0,1,2,3]<|po1<|pn1 nGColumn G.Columns<|po1<|pn1 (nL 1 eB) l<|Pl.z)<|p 0 H
 ·exact ex 2<|qx (by cases H;exact xo rfl<|gP [] [0,1]<|po1<|pn1 nGColumn G.Columns<|Pl.z)
theorem FTr_writer_reach_ok {z} (H:FTr_writer_reach n q=some z):LentOK Tryz.prog 62 [.ptr 0 0] [some (.box (bWriter_6 q (.osl 1 2 0 (q.Columns.length)))),some (.narr 2 (q.Columns.map nGColumn))] 2 (.tup []) [some (.box (bWriter_6 z (.osl 1 2 0 (z.Columns.length)))),some (.narr 2 (z.Columns.map nGColumn))]:=by
 exact fL 131 2 (f62k0_s1 q) Tryz.func62<|sr<|ck 1<|en<|sr<|ck 1<|en<|sq<|sq<|rg (tr (tr (sh_boxA 3 [.nil,.nil,.nil,.nil,.nil] (by kernel_rfl))<|sh_toN (sz:=1) (es:=[[.nil],[.nil],[.nil],[.nil],[.nil]]) 3 (List.map (nL 1 eB) ([[],[],[],[],[]]:List (List Bool))) (by kernel_rfl) (by kernel_rfl))<|sh_ep 2 3 1 (by kernel_rfl))<|ck 1<|en<|bk 0<|bx H λ bh ba H=>lX FTr_writer_reach_L1_ok ba (gP [1,2,13] [0,1,2,3]<|po1<|pn1 nGColumn q.Columns<|po1<|pn1 (nL 1 eB) ([[],[],[],[],[]]:List (List Bool))<|Pl.z) rfl λ s bb=>qH<|qs (bb)<|sr<|xm (xok _ _)<|ck 1<|en<|sr<|ck 1<|bx H λ c bc H=>xcP (xok _ _) [3,2,0,1] (FTr_writer_reach_1_ok bc) (pn1 (nL 1 eB) bh<|po1<|po1<|pn1 nGColumn q.Columns<|Pl.z)<|tb (f:=mapA1<|backN [3,2,0,1] 4 4) [some<|.box<|bWriter_6 c.1<|.osl 1 2 0<|c.1.Columns.length,some<|.narr 2<|c.1.Columns.map nGColumn,some<|.box [.ptr 0 0],some<|.narr 1<|c.2.map<|nL 1 eB] (po1<|pn1 nGColumn c.1.Columns<|po1<|pn1 (nL 1 eB) c.2<|Pl.z)<|en<|sr<|ck 6<|en<|bk 2<|bx H λ bp bd H=>lX FTr_writer_reach_L2_ok bd (gP [1,2,4,32,33] [0,1,2,3]<|po1<|pn1 nGColumn c.1.Columns<|po1<|pn1 (nL 1 eB) c.2<|Pl.z) rfl λ s be=>qH (by cases H;exact pL'<|rl (s':=f62k0_s2 z)<|tr (be)<|gP [] [0,1]<|po1<|pn1 nGColumn z.Columns<|Pl.z)
end
section
variable (A:Int) (B:Bool) (e:Int) (l:Int) (r:GWriter) (K:GWriter) (V:Bool) (q:(List GTranslateArc)) (h:GWriter) (p:Bool) (E:Int) (L:GWriter) (G:Bool) (I:GWriter) (u:Bool)
def f79k0_s1:St:=⟨(0,.d<|.int .i64 A)::(1,.d<|.bool B)::(2,.ptr 0 0)::(3,.ptr 1 0)::(4,.ptr 2 0)::[],[some<|.box [.ptr 3 0],some<|.box [.eptr 4 2 (0+Int.toNat e) 0],some<|.box [.d<|.int .i64 l],some<|.box<|bWriter_6 r<|.osl 4 2 0<|r.Columns.length,some<|.narr 2<|r.Columns.map nGColumn]⟩
def f79k0_s2:St:=⟨(7,.d<|.bool V)::[],[some<|.box [.ptr 3 0],some<|.box [.eptr 4 2 (0+Int.toNat e) 0],some<|.box [.d<|.int .i64 l],some<|.box<|bWriter_6 K<|.osl 4 2 0<|K.Columns.length,some<|.narr 2<|K.Columns.map nGColumn]⟩
def f79k0_s3:St:=⟨(0,.d<|.int .i64 A)::(1,.d<|.bool B)::(2,.ptr 0 0)::(3,.ptr 1 0)::(4,.ptr 2 0)::(8,.d<|.bool p)::(27,.d<|.sl<|q.map eGTranslateArc)::(28,.d<|.int .i64 ((q.length:Nat):Int))::(29,.d<|.int .i64 E)::[],[some<|.box [.ptr 3 0],some<|.box [.eptr 4 2 (0+Int.toNat e) 0],some<|.box [.d<|.int .i64 l],some<|.box<|bWriter_6 h<|.osl 4 2 0<|h.Columns.length,some<|.narr 2<|h.Columns.map nGColumn]⟩
def f79k0_s4:St:=⟨(8,.d<|.bool G)::[],[some<|.box [.ptr 3 0],some<|.box [.eptr 4 2 (0+Int.toNat e) 0],some<|.box [.d<|.int .i64 l],some<|.box<|bWriter_6 L<|.osl 4 2 0<|L.Columns.length,some<|.narr 2<|L.Columns.map nGColumn]⟩
def f79k0_s5:St:=⟨(0,.d<|.int .i64 A)::(1,.d<|.bool B)::(2,.ptr 0 0)::(3,.ptr 1 0)::(4,.ptr 2 0)::(8,.d<|.bool u)::(27,.d<|.sl<|q.map eGTranslateArc)::(28,.d<|.int .i64 ((q.length:Nat):Int))::(29,.d<|.int .i64 E)::[],[some<|.box [.ptr 3 0],some<|.box [.eptr 4 2 (0+Int.toNat e) 0],some<|.box [.d<|.int .i64 l],some<|.box<|bWriter_6 I<|.osl 4 2 0<|I.Columns.length,some<|.narr 2<|I.Columns.map nGColumn]⟩
def FTr_writer_price_1_L1_E:(GWriter×Bool)->Ex->St->Prop:=xX 5 0<|λ (y:(GWriter×Bool))=>f79k0_s4 e l y.1 y.2
def FTr_writer_price_1_L1_S:(GWriter×Bool×Int)->St:=(λ (x:(GWriter×Bool×Int))=>f79k0_s3 A B e l q x.1 x.2.1 x.2.2)
variable {A B e l r K V q h p E L G I u}
theorem FTr_writer_price_1_L1_ok (x:(GWriter×Bool×Int)) (z:((GWriter×Bool×Int)⊕(GWriter×Bool))) (H:FTr_writer_price_1_L1 n A B e l q x.1 x.2.1 x.2.2=some z):WP (cxk 104 5) (bodyOf Tryz.f79) [1,1,0,1,0,0] (roundQ 5 (FTr_writer_price_1_L1_S A B e l q) (FTr_writer_price_1_L1_E e l) z) (FTr_writer_price_1_L1_S A B e l q x):=by
 obtain ⟨h,p,E⟩:=x;refine sr<|ck 1<|en<|sq<|cn H (λ H=>?_)<|λ H=>?_
 ·refine sk<|qz<|sj (λ (x:(GWriter×Bool))=>f79k0_s5 A B e l q E x.1 x.2) (λ (x:(GWriter×Bool))=>FTr_writer_price_1_J1 n E x.1 x.2) z ?_ (λ j=>?_)
  ·rintro ⟨I,u⟩ H;exact rz<|ck 2<|ae (by cases H;exact og<|gP [0,1,2,3,4,8,27,28,29] [0,1,2,3,4]<|po1<|po1<|po1<|po1<|pn1 nGColumn I.Columns<|Pl.z)
  refine bk 1<|sr<|bx H λ W ag H=>sp (at_idxD eGTranslateArc ag)<|ck 3<|en<|sr<|ck 4<|bx H λ ac ah H=>ltP [3,4] (FTr_writer_printsx_ok ah) (po1<|pn1 nGColumn h.Columns<|Pl.z)<|tb (f:=mapA1<|backN [3,4] 6 2) [some<|.box [.ptr 3 0],some<|.box [.eptr 4 2 (0+Int.toNat e) 0],some<|.box [.d<|.int .i64 l],some<|.box<|bWriter_6 h<|.osl 4 2 0<|h.Columns.length,some<|.narr 2<|h.Columns.map nGColumn,some<|.box [.d<|.int .i64 W.Rule,.d<|.int .i64 W.To]] (po1<|po1<|po1<|po1<|pn1 nGColumn h.Columns<|po1<|Pl.z)<|ck 5<|en<|sq<|sr<|ck 5<|gc 1 (!(!ac.2))<|ck 1<|gc 1 (!(!ac.2))<|pO<|en<|cn H (λ H=>?_)<|λ H=>?_
  ·exact ex 1<|qx<|qH<|qs (gP [0,1,2,3,4,8,27,28,29] [0,1,2,3,4]<|po1<|po1<|po1<|po1<|pn1 nGColumn h.Columns<|Pl.z)<|j (h,p) H
  ·refine sk<|qz<|sr<|ck 5<|bx H λ ap O H=>sp (at_idxO 4 2 O)<|ck 2<|bx H λ w ai H=>cb (ks:=[4]) (obl:=[(0+Int.toNat ac.1+1,List.length<|h.Columns.map nGColumn),(cntN<|h.Columns.map nGColumn,0)]) false (leK (idxL (encN:=nGColumn) O)<|leK (cntM λ _=>rfl)<|leZ) (consE (eptrN (encN:=nGColumn) (encD:=eGColumn) O λ _=>rfl)<|consE rfl rfl) (FTr_column_find_ok ai) (Or.inr trivial) rfl<|ck 1<|en<|sr<|ck 8<|bx H λ P aj H=>sp (at_idxD eGRule aj)<|ck 2<|sp (at_len eU8 P.Cells)<|ck 2<|en<|sq<|bx H λ i M H=>rg (tr (so1 (encN:=nGColumn) 4 2 M)<|sno (encN:=nGColumn) (enc:=eI64) M [.own 1<|i.States.map eI64,.own 1<|i.Costs.map eI64] i.Costs 2 4 1 1)<|ck 4<|gc 2 (decide<|w>=0)<|sE (g:=decide<|w>=0) (λ hg=>at_ldN (encN:=nGColumn) (row:=[.own 1<|i.States.map eI64,.osl 6 1 0<|i.Costs.length]) (k:=4) (sz:=2) (off:=1) (t:=ty 35) (v:=.osl 6 1 0<|i.Costs.length) M)<|ck 1<|bx H λ C X H=>sE (λ hg=>at_idxO 6 1<|gimp X hg)<|sE (g:=decide<|w>=0) (λ hg=>at_ldA eI64 6 0 (ty 3)<|gimp X hg)<|gc 2 (decide<|w>=0)<|ck 2<|gc 2 ((decide<|w>=0)&&!(decide<|C<0))<|sE (g:=((decide<|w>=0)&&!(decide<|C<0))) (λ hg=>at_ldN (encN:=nGColumn) (row:=[.own 1<|i.States.map eI64,.osl 6 1 0<|i.Costs.length]) (k:=4) (sz:=2) (off:=1) (t:=ty 35) (v:=.osl 6 1 0<|i.Costs.length) M)<|ck 1<|bx H λ Y Z H=>sE (λ hg=>at_idxO 6 1<|gimp Z hg)<|sE (g:=((decide<|w>=0)&&!(decide<|C<0))) (λ hg=>at_ldA eI64 6 0 (ty 3)<|gimp Z hg)<|gc 1 ((decide<|w>=0)&&!(decide<|C<0))<|pG (g:=decide<|w>=0) (v:=.d<|.bool<|(decide<|C<0)||(decide<|iadd .i64 w ((P.Cells.length:Nat):Int)<Y)) (λ hg=>pick_genz (c:=.gv (decide<|w>=0)<|.d<|.bool<|decide<|C<0) (a:=.d<|.bool true) (b:=.gv ((decide<|w>=0)&&!(decide<|C<0))<|.d<|.bool<|decide<|iadd .i64 w ((P.Cells.length:Nat):Int)<Y) rfl rfl rfl ((λ hh=>hh) hg) trivial (λ ht=>by rw [(λ hh=>hh) hg,ht];rfl))<|pA<|en<|cn H (λ H=>?_)<|λ H=>?_
   ·exact sq<|bx H λ m Q H=>rg (tr (tr (tr (tr (tr (sni (encN:=nGColumn) (xs:=h.Columns) (n:=e) (enc:=eI64) [.own 1<|i.States.map eI64,.osl 6 1 0<|i.Costs.length] i.Costs 2 4 1 6 1)<|scl (encN:=nGColumn) (xss:=h.Columns) e [.own 1<|i.States.map eI64,.own 1<|i.Costs.map eI64] 2 4 i)<|sn 53 4 2<|lsS h.Columns e.toNat i)<|snc 3 6 4 2<|lsS h.Columns e.toNat i)<|so1 (encN:=nGColumn) 4 2 Q)<|sno (encN:=nGColumn) (enc:=eI64) Q [.own 1<|m.States.map eI64,.own 1<|m.Costs.map eI64] m.Costs 2 4 1 1)<|ck 3<|sp (at_ldN (encN:=nGColumn) (row:=[.own 1<|m.States.map eI64,.osl 7 1 0<|m.Costs.length]) (k:=4) (sz:=2) (off:=1) (t:=ty 35) (v:=.osl 7 1 0<|m.Costs.length) Q)<|ck 2<|bx H λ ar aa H=>sp (at_idxO 7 1 aa)<|bx H λ J R H=>stA eI64 7 0 (ty 3) aa R<|en<|rg (tr (tr (tr (tr (tr (sn 98 7 1<|put_len R)<|snr (encN:=nGColumn) (xs:=List.set h.Columns e.toNat i) (n:=e) [.own 1<|m.States.map eI64,.osl 7 1 0<|m.Costs.length] 2 4 1 7 1<|put_len R)<|sni (encN:=nGColumn) (xs:=List.set h.Columns e.toNat i) (n:=e) (enc:=eI64) [.own 1<|m.States.map eI64,.osl 7 1 0<|J.length] J 2 4 1 7 1)<|scl (encN:=nGColumn) (xss:=List.set h.Columns e.toNat i) e [.own 1<|m.States.map eI64,.own 1<|J.map eI64] 2 4 ({ States:=m.States,Costs:=J }:GColumn))<|sn 53 4 2<|lsS (List.set h.Columns e.toNat i) e.toNat ({ States:=m.States,Costs:=J }:GColumn))<|snc 3 6 4 2<|lsS (List.set h.Columns e.toNat i) e.toNat ({ States:=m.States,Costs:=J }:GColumn))<|ck 1<|ae<|qN<|qs (gP [0,1,2,3,4,8,27,28,29] [0,1,2,3,4]<|po1<|po1<|po1<|po1<|pn1 nGColumn (List.set (List.set h.Columns e.toNat i) e.toNat ({ States:=m.States,Costs:=J }:GColumn))<|Pl.z)<|j (({ T:=h.T,S:=h.S,States:=h.States,Arcs:=h.Arcs,Columns:=List.set (List.set h.Columns e.toNat i) e.toNat ({ States:=m.States,Costs:=J }:GColumn),Last:=h.Last }:GWriter),true) H
   ·exact sk<|qN<|qs (tr (tr (tr (tr (sni (encN:=nGColumn) (xs:=h.Columns) (n:=e) (enc:=eI64) [.own 1<|i.States.map eI64,.osl 6 1 0<|i.Costs.length] i.Costs 2 4 1 6 1)<|scl (encN:=nGColumn) (xss:=h.Columns) e [.own 1<|i.States.map eI64,.own 1<|i.Costs.map eI64] 2 4 i)<|sn 53 4 2<|lsS h.Columns e.toNat i)<|snc 3 6 4 2<|lsS h.Columns e.toNat i)<|gP [0,1,2,3,4,8,27,28,29] [0,1,2,3,4]<|po1<|po1<|po1<|po1<|pn1 nGColumn (List.set h.Columns e.toNat i)<|Pl.z)<|j (({ T:=h.T,S:=h.S,States:=h.States,Arcs:=h.Arcs,Columns:=List.set h.Columns e.toNat i,Last:=h.Last }:GWriter),p) H
 ·exact ex 0<|qx (by cases H;exact xo rfl<|gP [8] [0,1,2,3,4]<|po1<|po1<|po1<|po1<|pn1 nGColumn h.Columns<|Pl.z)
theorem FTr_writer_price_1_ok {z} (H:FTr_writer_price_1 n A B e l r=some z):LentOK Tryz.prog 79 [.d (.int .i64 A),.d (.bool B),.ptr 0 0,.ptr 1 0,.ptr 2 0] [some (.box [.ptr 3 0]),some (.box [.eptr 4 2 (0+Int.toNat e) 0]),some (.box [.d (.int .i64 l)]),some (.box (bWriter_6 r (.osl 4 2 0 (r.Columns.length)))),some (.narr 2 (r.Columns.map nGColumn))] 5 (.d (.bool z.2)) [some (.box [.ptr 3 0]),some (.box [.eptr 4 2 (0+Int.toNat e) 0]),some (.box [.d (.int .i64 l)]),some (.box (bWriter_6 z.1 (.osl 4 2 0 (z.1.Columns.length)))),some (.narr 2 (z.1.Columns.map nGColumn))]:=by
 exact fL 104 5 (f79k0_s1 A B e l r) Tryz.func79<|sr<|ck 1<|en<|sr<|ck 1<|en<|sq<|sq<|bx H λ o U H=>rg (tr (so1 (encN:=nGColumn) 4 2 U)<|sno (encN:=nGColumn) (enc:=eI64) U [.own 1<|o.States.map eI64,.own 1<|o.Costs.map eI64] o.States 2 4 0 1)<|ck 7<|sp (at_ldN (encN:=nGColumn) (row:=[.osl 5 1 0<|o.States.length,.own 1<|o.Costs.map eI64]) (k:=4) (sz:=2) (off:=0) (t:=ty 35) (v:=.osl 5 1 0<|o.States.length) U)<|ck 1<|bx H λ au ab H=>sp (at_idxO 5 1 ab)<|sp (at_ldA eI64 5 0 (ty 3) ab)<|bx H λ q ak H=>sp (at_idxD (eL eGTranslateArc) ak)<|ck 1<|sp (at_len eGTranslateArc q)<|ck 1<|en<|bk 0<|bx H λ af al H=>lX FTr_writer_price_1_L1_ok al (tr (tr (tr (sni (encN:=nGColumn) (xs:=r.Columns) (n:=e) (enc:=eI64) [.osl 5 1 0<|o.States.length,.own 1<|o.Costs.map eI64] o.States 2 4 0 5 1)<|scl (encN:=nGColumn) (xss:=r.Columns) e [.own 1<|o.States.map eI64,.own 1<|o.Costs.map eI64] 2 4 o)<|snc 3 6 4 2<|lsS r.Columns e.toNat o)<|gP [0,1,2,3,4,8,27,28,29] [0,1,2,3,4]<|po1<|po1<|po1<|po1<|pn1 nGColumn (List.set r.Columns e.toNat o)<|Pl.z) rfl λ s am=>qH<|qs (am)<|sr<|ck 2<|en<|re (by cases H;exact pL<|rl (s':=f79k0_s2 e l af.1 af.2)<|gP [7] [0,1,2,3,4]<|po1<|po1<|po1<|po1<|pn1 nGColumn af.1.Columns<|Pl.z)
end
section
variable (u:GWriter) (B:GWriter) (e:GWriter) (a:Int) (C:GWriter) (c:GColumn) (g:(List Int)) (b:GColumn) (o:(List Int)) (A:Int) (E:GWriter) (M:(List Int)) (h:GColumn) (p:GWriter) (O:Int) (G:GWriter) (m:GWriter) (I:GWriter) (i:GColumn) (q:GWriter) (l:Bool) (P:Int) (J:GWriter) (r:Bool)
def f63k0_s1:St:=⟨(0,.ptr 0 0)::[],[some<|.box<|bWriter_6 u<|.osl 1 2 0<|u.Columns.length,some<|.narr 2<|u.Columns.map nGColumn]⟩
def f63k0_s2:St:=⟨[],[some<|.box<|bWriter_6 B<|.osl 1 2 0<|B.Columns.length,some<|.narr 2<|B.Columns.map nGColumn]⟩
def f63k0_s3:St:=⟨(1,.ptr 2 0)::(2,.ptr 3 0)::[],[some<|.box<|bWriter_6 e<|.osl 1 2 0<|e.Columns.length,some<|.narr 2<|e.Columns.map nGColumn,some<|.box [.ptr 0 0],some<|.box [.d<|.int .i64 a]]⟩
def f63k0_s4:St:=⟨[],[some<|.box<|bWriter_6 C<|.osl 1 2 0<|C.Columns.length,some<|.narr 2<|C.Columns.map nGColumn]⟩
def f63k0_s5:St:=⟨(1,.ptr 2 0)::(2,.ptr 3 0)::(3,.ptr 4 0)::(37,.osl 5 1 0<|b.States.length)::(38,.d<|.int .i64 ((b.States.length:Nat):Int))::(39,.d<|.int .i64 A)::[],[some<|.box<|bWriter_6 e<|.osl 1 2 0<|List.length<|List.set e.Columns a.toNat ({ States:=c.States,Costs:=g }:GColumn),some<|.narr 2<|List.set (List.map nGColumn<|List.set e.Columns a.toNat ({ States:=c.States,Costs:=g }:GColumn)) a.toNat [.osl 5 1 0<|b.States.length,.own 1<|o.map eI64],some<|.box [.ptr 0 0],some<|.box [.d<|.int .i64 a],some<|.box [.eptr 1 2 (0+Int.toNat a) 0],some<|.arr 1<|b.States.map eI64]⟩
def f63k0_s6:St:=⟨(1,.ptr 2 0)::(2,.ptr 3 0)::(3,.ptr 4 0)::[],[some<|.box<|bWriter_6 E<|.osl 1 2 0<|E.Columns.length,some<|.narr 2<|E.Columns.map nGColumn,some<|.box [.ptr 0 0],some<|.box [.d<|.int .i64 a],some<|.box [.eptr 1 2 (0+Int.toNat a) 0]]⟩
def f63k0_s7:St:=⟨(1,.ptr 2 0)::(2,.ptr 3 0)::(3,.ptr 4 0)::(37,.osl 5 1 0<|b.States.length)::(38,.d<|.int .i64 ((b.States.length:Nat):Int))::(39,.d<|.int .i64 A)::[],[some<|.box<|bWriter_6 e<|.osl 1 2 0<|List.length<|List.set e.Columns a.toNat ({ States:=c.States,Costs:=g }:GColumn),some<|.narr 2<|List.set (List.map nGColumn<|List.set e.Columns a.toNat ({ States:=c.States,Costs:=g }:GColumn)) a.toNat [.osl 5 1 0<|b.States.length,.own 1<|M.map eI64],some<|.box [.ptr 0 0],some<|.box [.d<|.int .i64 a],some<|.box [.eptr 1 2 (0+Int.toNat a) 0],some<|.arr 1<|b.States.map eI64]⟩
def FTr_writer_price_L2_E:GWriter->Ex->St->Prop:=xX 2 2<|λ (y:GWriter)=>f63k0_s6 a y
def FTr_writer_price_L2_S:((List Int)×Int)->St:=(λ (x:((List Int)×Int))=>f63k0_s5 e a c g b x.1 x.2)
def f63k0_s8:St:=⟨(1,.ptr 2 0)::(2,.ptr 3 0)::(3,.ptr 4 0)::(6,.clo 79 [.ptr 2 0,.ptr 4 0,.ptr 3 0])::(83,.d<|.int .i64 ((h.States.length:Nat):Int))::(84,.d<|.int .i64 O)::[],[some<|.box<|bWriter_6 p<|.osl 1 2 0<|p.Columns.length,some<|.narr 2<|p.Columns.map nGColumn,some<|.box [.ptr 0 0],some<|.box [.d<|.int .i64 a],some<|.box [.eptr 1 2 (0+Int.toNat a) 0]]⟩
def f63k0_s9:St:=⟨(1,.ptr 2 0)::(2,.ptr 3 0)::(3,.ptr 4 0)::(6,.clo 79 [.ptr 2 0,.ptr 4 0,.ptr 3 0])::[],[some<|.box<|bWriter_6 G<|.osl 1 2 0<|G.Columns.length,some<|.narr 2<|G.Columns.map nGColumn,some<|.box [.ptr 0 0],some<|.box [.d<|.int .i64 a],some<|.box [.eptr 1 2 (0+Int.toNat a) 0]]⟩
def FTr_writer_price_L3_E:GWriter->Ex->St->Prop:=xX 2 4<|λ (y:GWriter)=>f63k0_s9 a y
def FTr_writer_price_L3_S:(GWriter×Int)->St:=(λ (x:(GWriter×Int))=>f63k0_s8 a h x.1 x.2)
def f63k0_s10:St:=⟨(1,.ptr 2 0)::(2,.ptr 3 0)::(3,.ptr 4 0)::(6,.clo 79 [.ptr 2 0,.ptr 4 0,.ptr 3 0])::[],[some<|.box<|bWriter_6 m<|.osl 1 2 0<|m.Columns.length,some<|.narr 2<|m.Columns.map nGColumn,some<|.box [.ptr 0 0],some<|.box [.d<|.int .i64 a],some<|.box [.eptr 1 2 (0+Int.toNat a) 0]]⟩
def f63k0_s11:St:=⟨(1,.ptr 2 0)::(2,.ptr 3 0)::[],[some<|.box<|bWriter_6 I<|.osl 1 2 0<|I.Columns.length,some<|.narr 2<|I.Columns.map nGColumn,some<|.box [.ptr 0 0],some<|.box [.d<|.int .i64 a]]⟩
def f63k0_s12:St:=⟨(1,.ptr 2 0)::(2,.ptr 3 0)::(3,.ptr 4 0)::(6,.clo 79 [.ptr 2 0,.ptr 4 0,.ptr 3 0])::(8,.d<|.bool l)::(95,.d<|.int .i64 ((i.States.length:Nat):Int))::(96,.d<|.int .i64 P)::[],[some<|.box<|bWriter_6 q<|.osl 1 2 0<|q.Columns.length,some<|.narr 2<|q.Columns.map nGColumn,some<|.box [.ptr 0 0],some<|.box [.d<|.int .i64 a],some<|.box [.eptr 1 2 (0+Int.toNat a) 0]]⟩
def f63k0_s13:St:=⟨(1,.ptr 2 0)::(2,.ptr 3 0)::(3,.ptr 4 0)::(6,.clo 79 [.ptr 2 0,.ptr 4 0,.ptr 3 0])::(8,.d<|.bool r)::[],[some<|.box<|bWriter_6 J<|.osl 1 2 0<|J.Columns.length,some<|.narr 2<|J.Columns.map nGColumn,some<|.box [.ptr 0 0],some<|.box [.d<|.int .i64 a],some<|.box [.eptr 1 2 (0+Int.toNat a) 0]]⟩
def FTr_writer_price_L5_E:(GWriter×Bool)->Ex->St->Prop:=xX 2 8<|λ (y:(GWriter×Bool))=>f63k0_s13 a y.1 y.2
def FTr_writer_price_L5_S:(GWriter×Bool×Int)->St:=(λ (x:(GWriter×Bool×Int))=>f63k0_s12 a i x.1 x.2.1 x.2.2)
def FTr_writer_price_L4_E:GWriter->Ex->St->Prop:=xX 2 6<|λ (y:GWriter)=>f63k0_s11 a y
def FTr_writer_price_L4_S:GWriter->St:=(λ (x:GWriter)=>f63k0_s10 a x)
def FTr_writer_price_L1_E:GWriter->Ex->St->Prop:=xX 2 0<|λ (y:GWriter)=>f63k0_s4 y
def FTr_writer_price_L1_S:(GWriter×Int)->St:=(λ (x:(GWriter×Int))=>f63k0_s3 x.1 x.2)
variable {u B e a C c g b o A E M h p O G m I i q l P J r}
theorem FTr_writer_price_L2_ok (x:((List Int)×Int)) (z:(((List Int)×Int)⊕GWriter)) (H:FTr_writer_price_L2 n e a c g b x.1 x.2=some z):WP (cxk 109 2) (bodyOf Tryz.f63) [1,1,0,0,1,0,0,0,1,1,0,1,0,0] (roundQ 2 (FTr_writer_price_L2_S e a c g b) (FTr_writer_price_L2_E a) z) (FTr_writer_price_L2_S e a c g b x):=by
 obtain ⟨o,A⟩:=x;refine sr<|ck 1<|en<|sq<|cn H (λ H=>?_)<|λ H=>?_
 ·refine sk<|qz<|sj (λ (x:(List Int))=>f63k0_s7 e a c g b A x) (λ (x:(List Int))=>FTr_writer_price_J1 n A x) z ?_ (λ j=>?_)
  ·intro M H;exact rz<|ck 2<|ae (by cases H;exact og<|gP [1,2,3,37,38,39] [0,1,2,3,4,5]<|po1<|Pl.n _ (nrH (n:=Int.toNat a) (row:=[.osl 5 1 0<|b.States.length,.own 1<|M.map eI64]) (row':=[.osl 5 1 0<|b.States.length,.own 1<|M.map eI64]) (nrM (encN:=nGColumn) (xss:=List.set e.Columns a.toNat ({ States:=c.States,Costs:=g }:GColumn)) λ _=>rfl) rfl)<|po1<|po1<|po1<|po1<|Pl.z)
  refine bk 3<|sr<|ck 1<|bx H λ a5 aa H=>sp (at_idxO 5 1 aa)<|sp (at_ldA eI64 5 0 (ty 3) aa)<|ck 2<|en<|sq<|bx H λ a6 K H=>rg (sno (encN:=nGColumn) (enc:=eI64) K [.osl 5 1 0<|b.States.length,.own 1<|o.map eI64] o 2 1 1 1)<|ck 3<|sp (at_ldN (encN:=nGColumn) (row:=[.osl 5 1 0<|b.States.length,.osl 6 1 0<|o.length]) (k:=1) (sz:=2) (off:=1) (t:=ty 35) (v:=.osl 6 1 0<|o.length) K)<|ck 1<|bx H λ a7 ab H=>sp (at_idxO 6 1 ab)<|bx H λ w Q H=>stA eI64 6 0 (ty 3) ab Q<|en<|sq<|rg (tr (tr (sn 47 6 1<|put_len Q)<|snr (encN:=nGColumn) (xs:=List.set e.Columns a.toNat ({ States:=c.States,Costs:=g }:GColumn)) (n:=a) [.osl 5 1 0<|b.States.length,.osl 6 1 0<|o.length] 2 1 1 6 1<|put_len Q)<|sni (encN:=nGColumn) (xs:=List.set e.Columns a.toNat ({ States:=c.States,Costs:=g }:GColumn)) (n:=a) (enc:=eI64) [.osl 5 1 0<|b.States.length,.osl 6 1 0<|w.length] w 2 1 1 6 1)<|ck 9<|gc 3 (a==((e.S.length:Nat):Int))<|ck 1<|gc 3 (a==((e.S.length:Nat):Int))<|ck 1<|bx H λ a8 af H=>sE (λ hg=>at_idxD eGState<|gimp af hg)<|gc 1 (a==((e.S.length:Nat):Int))<|bx H λ bb ag H=>cG false (leZ) rfl (λ hg=>FAu_Accepts_ok<|gimp ag hg) (Or.inl rfl) (impK (λ hh=>hh)<|impK (λ hh=>hh)<|impZ) rfl<|pA<|en<|cn H (λ H=>?_)<|λ H=>?_
  ·exact rg (sno (encN:=nGColumn) (enc:=eI64) K [.osl 5 1 0<|b.States.length,.own 1<|w.map eI64] w 2 1 1 1)<|ck 3<|sp (at_ldN (encN:=nGColumn) (row:=[.osl 5 1 0<|b.States.length,.osl 7 1 0<|w.length]) (k:=1) (sz:=2) (off:=1) (t:=ty 35) (v:=.osl 7 1 0<|w.length) K)<|ck 1<|bx H λ a9 ac H=>sp (at_idxO 7 1 ac)<|bx H λ R T H=>stA eI64 7 0 (ty 3) ac T<|ae<|qN<|qs (tr (tr (tr (sn 74 7 1<|put_len T)<|snr (encN:=nGColumn) (xs:=List.set e.Columns a.toNat ({ States:=c.States,Costs:=g }:GColumn)) (n:=a) [.osl 5 1 0<|b.States.length,.osl 7 1 0<|w.length] 2 1 1 7 1<|put_len T)<|sni (encN:=nGColumn) (xs:=List.set e.Columns a.toNat ({ States:=c.States,Costs:=g }:GColumn)) (n:=a) (enc:=eI64) [.osl 5 1 0<|b.States.length,.osl 7 1 0<|R.length] R 2 1 1 7 1)<|gP [1,2,3,37,38,39] [0,1,2,3,4,5]<|po1<|Pl.n _ (nrH (n:=Int.toNat a) (row:=[.osl 5 1 0<|b.States.length,.own 1<|R.map eI64]) (row':=[.osl 5 1 0<|b.States.length,.own 1<|R.map eI64]) (nrM (encN:=nGColumn) (xss:=List.set e.Columns a.toNat ({ States:=c.States,Costs:=g }:GColumn)) λ _=>rfl) rfl)<|po1<|po1<|po1<|po1<|Pl.z)<|j R H
  ·exact sk<|qN<|qs (gP [1,2,3,37,38,39] [0,1,2,3,4,5]<|po1<|Pl.n _ (nrH (n:=Int.toNat a) (row:=[.osl 5 1 0<|b.States.length,.own 1<|w.map eI64]) (row':=[.osl 5 1 0<|b.States.length,.own 1<|w.map eI64]) (nrM (encN:=nGColumn) (xss:=List.set e.Columns a.toNat ({ States:=c.States,Costs:=g }:GColumn)) λ _=>rfl) rfl)<|po1<|po1<|po1<|po1<|Pl.z)<|j w H
 ·exact ex 2<|qx (by cases H;exact xo rfl<|tr (tr (tr (sni (encN:=nGColumn) (xs:=List.set e.Columns a.toNat ({ States:=c.States,Costs:=g }:GColumn)) (n:=a) (enc:=eI64) [.osl 5 1 0<|b.States.length,.own 1<|o.map eI64] b.States 2 1 0 5 1)<|scl (encN:=nGColumn) (xss:=List.set e.Columns a.toNat ({ States:=c.States,Costs:=g }:GColumn)) a [.own 1<|b.States.map eI64,.own 1<|o.map eI64] 2 1 ({ States:=b.States,Costs:=o }:GColumn))<|snc 0 6 1 2<|lsS (List.set e.Columns a.toNat ({ States:=c.States,Costs:=g }:GColumn)) a.toNat ({ States:=b.States,Costs:=o }:GColumn))<|gP [1,2,3] [0,1,2,3,4]<|po1<|pn1 nGColumn (List.set (List.set e.Columns a.toNat ({ States:=c.States,Costs:=g }:GColumn)) a.toNat ({ States:=b.States,Costs:=o }:GColumn))<|po1<|po1<|po1<|Pl.z)
theorem FTr_writer_price_L3_ok (x:(GWriter×Int)) (z:((GWriter×Int)⊕GWriter)) (H:FTr_writer_price_L3 n a h x.1 x.2=some z):WP (cxk 109 2) (bodyOf Tryz.f63) [1,1,0,0,1,0,0,0,1,1,1,1,0,1,0,0] (roundQ 2 (FTr_writer_price_L3_S a h) (FTr_writer_price_L3_E a) z) (FTr_writer_price_L3_S a h x):=by
 obtain ⟨p,O⟩:=x;refine sr<|ck 1<|en<|sq<|cn H (λ H=>?_)<|λ H=>?_
 ·exact sk<|qz<|sq<|bk 5<|sr<|ck 2<|en<|rz<|ck 2<|bx H λ U ah H=>xcP (xok _ _) [2,4,3,0,1] (FTr_writer_price_1_ok ah) (po1<|po1<|po1<|po1<|pn1 nGColumn p.Columns<|Pl.z)<|tb (f:=mapA1<|backN [2,4,3,0,1] 5 5) [some<|.box<|bWriter_6 U.1<|.osl 1 2 0<|U.1.Columns.length,some<|.narr 2<|U.1.Columns.map nGColumn,some<|.box [.ptr 0 0],some<|.box [.d<|.int .i64 a],some<|.box [.eptr 1 2 (0+Int.toNat a) 0]] (po1<|pn1 nGColumn U.1.Columns<|po1<|po1<|po1<|Pl.z)<|ae<|qN<|qz<|rz<|ck 2<|ae (by cases H;exact og<|gP [1,2,3,6,83,84] [0,1,2,3,4]<|po1<|pn1 nGColumn U.1.Columns<|po1<|po1<|po1<|Pl.z)
 ·exact ex 4<|qx (by cases H;exact xo rfl<|gP [1,2,3,6] [0,1,2,3,4]<|po1<|pn1 nGColumn p.Columns<|po1<|po1<|po1<|Pl.z)
theorem FTr_writer_price_L5_ok (x:(GWriter×Bool×Int)) (z:((GWriter×Bool×Int)⊕(GWriter×Bool))) (H:FTr_writer_price_L5 n a i x.1 x.2.1 x.2.2=some z):WP (cxk 109 2) (bodyOf Tryz.f63) [1,1,0,0,1,0,0,0,1,1,1,1,1,1,0,0,0,1,0,1,0,0] (roundQ 2 (FTr_writer_price_L5_S a i) (FTr_writer_price_L5_E a) z) (FTr_writer_price_L5_S a i x):=by
 obtain ⟨q,l,P⟩:=x;refine sr<|ck 1<|en<|sq<|cn H (λ H=>?_)<|λ H=>?_
 ·exact sk<|qz<|sq<|bk 9<|sr<|ck 2<|en<|rz<|ck 2<|bx H λ V ai H=>xcP (xok _ _) [2,4,3,0,1] (FTr_writer_price_1_ok ai) (po1<|po1<|po1<|po1<|pn1 nGColumn q.Columns<|Pl.z)<|tb (f:=mapA1<|backN [2,4,3,0,1] 5 5) [some<|.box<|bWriter_6 V.1<|.osl 1 2 0<|V.1.Columns.length,some<|.narr 2<|V.1.Columns.map nGColumn,some<|.box [.ptr 0 0],some<|.box [.d<|.int .i64 a],some<|.box [.eptr 1 2 (0+Int.toNat a) 0]] (po1<|pn1 nGColumn V.1.Columns<|po1<|po1<|po1<|Pl.z)<|ck 2<|pO<|ck 1<|ae<|qN<|qz<|rz<|ck 2<|ae (by cases H;exact og<|gP [1,2,3,6,8,95,96] [0,1,2,3,4]<|po1<|pn1 nGColumn V.1.Columns<|po1<|po1<|po1<|Pl.z)
 ·exact ex 8<|qx (by cases H;exact xo rfl<|gP [1,2,3,6,8] [0,1,2,3,4]<|po1<|pn1 nGColumn q.Columns<|po1<|po1<|po1<|Pl.z)
theorem FTr_writer_price_L4_ok (x:GWriter) (z:(GWriter⊕GWriter)) (H:FTr_writer_price_L4 n a x=some z):WP (cxk 109 2) (bodyOf Tryz.f63) [1,1,0,0,1,0,0,0,1,1,1,1,1,1,0,0] (roundQ 2 (FTr_writer_price_L4_S a) (FTr_writer_price_L4_E a) z) (FTr_writer_price_L4_S a x):=by
 revert H;generalize x=m;intro H;refine bk 7<|sr<|ck 1<|en<|sq<|sq<|bx H λ i W H=>rg (tr (so1 (encN:=nGColumn) 1 2 W)<|sno (encN:=nGColumn) (enc:=eI64) W [.own 1<|i.States.map eI64,.own 1<|i.Costs.map eI64] i.States 2 1 0 1)<|ck 3<|sp (at_ldN (encN:=nGColumn) (row:=[.osl 5 1 0<|i.States.length,.own 1<|i.Costs.map eI64]) (k:=1) (sz:=2) (off:=0) (t:=ty 35) (v:=.osl 5 1 0<|i.States.length) W)<|ck 2<|en<|bk 8<|bx H λ aj ak H=>lX FTr_writer_price_L5_ok ak (tr (tr (tr (sni (encN:=nGColumn) (xs:=m.Columns) (n:=a) (enc:=eI64) [.osl 5 1 0<|i.States.length,.own 1<|i.Costs.map eI64] i.States 2 1 0 5 1)<|scl (encN:=nGColumn) (xss:=m.Columns) a [.own 1<|i.States.map eI64,.own 1<|i.Costs.map eI64] 2 1 i)<|snc 0 6 1 2<|lsS m.Columns a.toNat i)<|gP [1,2,3,6,8,95,96] [0,1,2,3,4]<|po1<|pn1 nGColumn (List.set m.Columns a.toNat i)<|po1<|po1<|po1<|Pl.z) rfl λ s al=>qH<|qs (al)<|sr<|ck 2<|en<|cn H (λ H=>?_)<|λ H=>?_
 ·exact ex 6<|qX rfl (by cases H;exact xo rfl<|gP [1,2] [0,1,2,3]<|po1<|pn1 nGColumn aj.1.Columns<|po1<|po1<|Pl.z)
 ·exact sk<|qN (by cases H;exact og<|gP [1,2,3,6] [0,1,2,3,4]<|po1<|pn1 nGColumn aj.1.Columns<|po1<|po1<|po1<|Pl.z)
theorem FTr_writer_price_L1_ok (x:(GWriter×Int)) (z:((GWriter×Int)⊕GWriter)) (H:FTr_writer_price_L1 n x.1 x.2=some z):WP (cxk 109 2) (bodyOf Tryz.f63) [1,1,0,0] (roundQ 2 (FTr_writer_price_L1_S) (FTr_writer_price_L1_E) z) (FTr_writer_price_L1_S x):=by
 obtain ⟨e,a⟩:=x;refine sq<|sr<|ck 2<|en<|cn H (λ H=>?_)<|λ H=>?_
 ·exact sk<|qz<|sq<|bk 1<|sc<|sr<|ck 5<|bx H λ ba am H=>sp (at_idxO 1 2 am)<|ck 2<|en<|sq<|bx H λ c L H=>rg (tr (so1 (encN:=nGColumn) 1 2 L)<|sno (encN:=nGColumn) (enc:=eI64) L [.own 1<|c.States.map eI64,.own 1<|c.Costs.map eI64] c.States 2 1 0 1)<|ck 4<|sp (at_ldN (encN:=nGColumn) (row:=[.osl 5 1 0<|c.States.length,.own 1<|c.Costs.map eI64]) (k:=1) (sz:=2) (off:=0) (t:=ty 35) (v:=.osl 5 1 0<|c.States.length) L)<|ck 1<|bx H λ g ap H=>sp (at_mk eI64 1 ap)<|ck 2<|sp (at_stN (encN:=nGColumn) (row:=[.osl 5 1 0<|c.States.length,.own 1<|c.Costs.map eI64]) (row':=[.osl 5 1 0<|c.States.length,.osl 6 1 0<|g.length]) (k:=1) (sz:=2) (off:=1) (t:=ty 35) (v:=.osl 6 1 0<|g.length) L)<|en<|sq<|sq<|bx H λ b X H=>rg (tr (tr (tr (tr (tr (tr (sni (encN:=nGColumn) (xs:=e.Columns) (n:=a) (enc:=eI64) [.osl 5 1 0<|c.States.length,.osl 6 1 0<|g.length] c.States 2 1 0 5 1)<|sni (encN:=nGColumn) (xs:=e.Columns) (n:=a) (enc:=eI64) [.own 1<|c.States.map eI64,.osl 6 1 0<|g.length] g 2 1 1 6 1)<|scl (encN:=nGColumn) (xss:=e.Columns) a [.own 1<|c.States.map eI64,.own 1<|g.map eI64] 2 1 ({ States:=c.States,Costs:=g }:GColumn))<|sn 22 1 2<|lsS e.Columns a.toNat ({ States:=c.States,Costs:=g }:GColumn))<|snc 0 6 1 2<|lsS e.Columns a.toNat ({ States:=c.States,Costs:=g }:GColumn))<|so1 (encN:=nGColumn) 1 2 X)<|sno (encN:=nGColumn) (enc:=eI64) X [.own 1<|b.States.map eI64,.own 1<|b.Costs.map eI64] b.States 2 1 0 1)<|ck 3<|sp (at_ldN (encN:=nGColumn) (row:=[.osl 7 1 0<|b.States.length,.own 1<|b.Costs.map eI64]) (k:=1) (sz:=2) (off:=0) (t:=ty 35) (v:=.osl 7 1 0<|b.States.length) X)<|ck 2<|en<|bk 2<|bx H λ Z ar H=>lX FTr_writer_price_L2_ok ar (gP [1,2,3,37,38,39] [0,1,2,3,4,7]<|po1<|Pl.n _ (nrH (n:=Int.toNat a) (row:=[.osl 7 1 0<|b.States.length,.own 1<|b.Costs.map eI64]) (row':=[.osl 5 1 0<|b.States.length,.own 1<|b.Costs.map eI64]) (nrM (encN:=nGColumn) (xss:=List.set e.Columns a.toNat ({ States:=c.States,Costs:=g }:GColumn)) λ _=>rfl) rfl)<|po1<|po1<|po1<|po1<|Pl.z) rfl λ s au=>qH<|qs (au)<|sr<|xm (xok _ _)<|ck 1<|en<|sq<|sq<|bx H λ h Y H=>rg (tr (so1 (encN:=nGColumn) 1 2 Y)<|sno (encN:=nGColumn) (enc:=eI64) Y [.own 1<|h.States.map eI64,.own 1<|h.Costs.map eI64] h.States 2 1 0 1)<|ck 3<|sp (at_ldN (encN:=nGColumn) (row:=[.osl 5 1 0<|h.States.length,.own 1<|h.Costs.map eI64]) (k:=1) (sz:=2) (off:=0) (t:=ty 35) (v:=.osl 5 1 0<|h.States.length) Y)<|ck 2<|en<|bk 4<|bx H λ a3 av H=>lX FTr_writer_price_L3_ok av (tr (tr (tr (sni (encN:=nGColumn) (xs:=Z.Columns) (n:=a) (enc:=eI64) [.osl 5 1 0<|h.States.length,.own 1<|h.Costs.map eI64] h.States 2 1 0 5 1)<|scl (encN:=nGColumn) (xss:=Z.Columns) a [.own 1<|h.States.map eI64,.own 1<|h.Costs.map eI64] 2 1 h)<|snc 0 6 1 2<|lsS Z.Columns a.toNat h)<|gP [1,2,3,6,83,84] [0,1,2,3,4]<|po1<|pn1 nGColumn (List.set Z.Columns a.toNat h)<|po1<|po1<|po1<|Pl.z) rfl λ s aw=>qH<|qs (aw)<|sq<|lbl<|qz<|bk 6<|bx H λ a4 ay H=>lX FTr_writer_price_L4_ok ay (gP [1,2,3,6] [0,1,2,3,4]<|po1<|pn1 nGColumn a3.Columns<|po1<|po1<|po1<|Pl.z) rfl λ s az=>qH<|qN<|qs (az)<|sq<|sr<|ck 1<|en<|rz<|ck 2<|en<|rz<|ck 3<|ae (by cases H;exact og<|gP [1,2] [0,1,2,4]<|po1<|pn1 nGColumn a4.Columns<|po1<|po1<|Pl.z)
 ·exact ex 0<|qx (by cases H;exact xo rfl<|gP [] [0,1]<|po1<|pn1 nGColumn e.Columns<|Pl.z)
theorem FTr_writer_price_ok {z} (H:FTr_writer_price n u=some z):LentOK Tryz.prog 63 [.ptr 0 0] [some (.box (bWriter_6 u (.osl 1 2 0 (u.Columns.length)))),some (.narr 2 (u.Columns.map nGColumn))] 2 (.tup []) [some (.box (bWriter_6 z (.osl 1 2 0 (z.Columns.length)))),some (.narr 2 (z.Columns.map nGColumn))]:=by
 exact fL 109 2 (f63k0_s1 u) Tryz.func63<|sr<|ck 1<|en<|sr<|ck 7<|en<|bk 0<|bx H λ bc a0 H=>lX FTr_writer_price_L1_ok a0 (gP [1,2] [0,1,2,3]<|po1<|pn1 nGColumn u.Columns<|po1<|po1<|Pl.z) rfl λ s a2=>qH (by cases H;exact pL'<|rl (s':=f63k0_s2 z)<|tr (a2)<|gP [] [0,1]<|po1<|pn1 nGColumn z.Columns<|Pl.z)
end
section
variable (b:GWriter) (o:GWriting) (a:GWriting) (c:Int) (l:Int) (h:Int) (i:GWriting) (k:(List GTranslateArc)) (m:Int) (j:GWriting) (p:Int) (q:Int) (r:Int)
def f64k0_s1:St:=⟨(0,.ptr 0 0)::[],[some<|.box<|bWriter_6 b<|.osl 1 2 0<|b.Columns.length,some<|.narr 2<|b.Columns.map nGColumn]⟩
def f64k0_s2:St:=⟨(2,.ptr 2 0)::[],[some<|.box<|bWriter_6 b<|.osl 1 2 0<|b.Columns.length,some<|.narr 2<|b.Columns.map nGColumn,some<|.box [.osl 3 1 0<|o.Cells.length,.osl 4 1 0<|o.Path.length],some<|.arr 1<|o.Cells.map eU8,some<|.arr 1<|o.Path.map eI64]⟩
def f64k0_s3:St:=⟨(0,.ptr 0 0)::(2,.ptr 2 0)::(3,.ptr 3 0)::(4,.d<|.int .i64 c)::(5,.d<|.int .i64 l)::(6,.d<|.int .i64 h)::[],[some<|.box<|bWriter_6 b<|.osl 1 2 0<|b.Columns.length,some<|.narr 2<|b.Columns.map nGColumn,some<|.box [.osl 4 1 0<|List.length ([]:List Int),.osl 5 1 0<|List.length ([]:List Int)],some<|.box [.osl 6 1 0<|a.Cells.length,.osl 7 1 0<|a.Path.length],some<|.arr 1<|List.map eU8 ([]:List Int),some<|.arr 1<|List.map eI64 ([]:List Int),some<|.arr 1<|a.Cells.map eU8,some<|.arr 1<|a.Path.map eI64]⟩
def f64k0_s4:St:=⟨(2,.ptr 2 0)::(3,.ptr 3 0)::[],[some<|.box<|bWriter_6 b<|.osl 1 2 0<|b.Columns.length,some<|.narr 2<|b.Columns.map nGColumn,some<|.box [.osl 4 1 0<|List.length ([]:List Int),.osl 5 1 0<|List.length ([]:List Int)],some<|.box [.osl 6 1 0<|i.Cells.length,.osl 7 1 0<|i.Path.length],some<|.arr 1<|List.map eU8 ([]:List Int),some<|.arr 1<|List.map eI64 ([]:List Int),some<|.arr 1<|i.Cells.map eU8,some<|.arr 1<|i.Path.map eI64]⟩
def f64k0_s5:St:=⟨(0,.ptr 0 0)::(2,.ptr 2 0)::(3,.ptr 3 0)::(4,.d<|.int .i64 c)::(6,.d<|.int .i64 h)::(27,.d<|.sl<|k.map eGTranslateArc)::(28,.d<|.int .i64 ((k.length:Nat):Int))::(29,.d<|.int .i64 m)::[],[some<|.box<|bWriter_6 b<|.osl 1 2 0<|b.Columns.length,some<|.narr 2<|b.Columns.map nGColumn,some<|.box [.osl 4 1 0<|List.length ([]:List Int),.osl 5 1 0<|List.length ([]:List Int)],some<|.box [.osl 6 1 0<|a.Cells.length,.osl 7 1 0<|a.Path.length],some<|.arr 1<|List.map eU8 ([]:List Int),some<|.arr 1<|List.map eI64 ([]:List Int),some<|.arr 1<|a.Cells.map eU8,some<|.arr 1<|a.Path.map eI64]⟩
def f64k0_s6:St:=⟨(0,.ptr 0 0)::(2,.ptr 2 0)::(3,.ptr 3 0)::(4,.d<|.int .i64 p)::(5,.d<|.int .i64 q)::(6,.d<|.int .i64 r)::[],[some<|.box<|bWriter_6 b<|.osl 1 2 0<|b.Columns.length,some<|.narr 2<|b.Columns.map nGColumn,some<|.box [.osl 4 1 0<|List.length ([]:List Int),.osl 5 1 0<|List.length ([]:List Int)],some<|.box [.osl 6 1 0<|j.Cells.length,.osl 7 1 0<|j.Path.length],some<|.arr 1<|List.map eU8 ([]:List Int),some<|.arr 1<|List.map eI64 ([]:List Int),some<|.arr 1<|j.Cells.map eU8,some<|.arr 1<|j.Path.map eI64]⟩
def f64k0_s7:St:=⟨(2,.ptr 2 0)::(3,.ptr 3 0)::[],[some<|.box<|bWriter_6 b<|.osl 1 2 0<|b.Columns.length,some<|.narr 2<|b.Columns.map nGColumn,some<|.box [.osl 4 1 0<|List.length ([]:List Int),.osl 5 1 0<|List.length ([]:List Int)],some<|.box [.osl 6 1 0<|a.Cells.length,.osl 7 1 0<|a.Path.length],some<|.arr 1<|List.map eU8 ([]:List Int),some<|.arr 1<|List.map eI64 ([]:List Int),some<|.arr 1<|a.Cells.map eU8,some<|.arr 1<|a.Path.map eI64]⟩
def f64k0_s8:St:=⟨(0,.ptr 0 0)::(2,.ptr 2 0)::(3,.ptr 3 0)::(4,.d<|.int .i64 c)::(6,.d<|.int .i64 h)::(27,.d<|.sl<|k.map eGTranslateArc)::(28,.d<|.int .i64 ((k.length:Nat):Int))::(29,.d<|.int .i64 m)::[],[some<|.box<|bWriter_6 b<|.osl 1 2 0<|b.Columns.length,some<|.narr 2<|b.Columns.map nGColumn,some<|.box [.osl 4 1 0<|List.length ([]:List Int),.osl 5 1 0<|List.length ([]:List Int)],some<|.box [.osl 6 1 0<|a.Cells.length,.osl 7 1 0<|a.Path.length],some<|.arr 1<|List.map eU8 ([]:List Int),some<|.arr 1<|List.map eI64 ([]:List Int),some<|.arr 1<|a.Cells.map eU8,some<|.arr 1<|a.Path.map eI64]⟩
def FTr_writer_writingx_L2_E:((GWriting×Int×Int×Int)⊕Unit)->Ex->St->Prop:=xS (xX 2 1<|λ (y:(GWriting×Int×Int×Int))=>f64k0_s6 b y.1 y.2.1 y.2.2.1 y.2.2.2)<|xX 2 2<|λ (_:Unit)=>f64k0_s7 b a
def FTr_writer_writingx_L2_S:Int->St:=(λ (x:Int)=>f64k0_s5 b a c h k x)
def FTr_writer_writingx_L1_E:GWriting->Ex->St->Prop:=xX 2 0<|λ (y:GWriting)=>f64k0_s4 b y
def FTr_writer_writingx_L1_S:(GWriting×Int×Int×Int)->St:=(λ (x:(GWriting×Int×Int×Int))=>f64k0_s3 b x.1 x.2.1 x.2.2.1 x.2.2.2)
variable {b o a c l h i k m j p q r}
theorem FTr_writer_writingx_L2_ok (x:Int) (z:(Int⊕((GWriting×Int×Int×Int)⊕Unit))) (H:FTr_writer_writingx_L2 n b a c h k x=some z):WP (cxk 93 2) (bodyOf Tryz.f64) [1,0,1,1,1,0,1,0,0,1,0,0,1,0,0] (roundQ 2 (FTr_writer_writingx_L2_S b a c h k) (FTr_writer_writingx_L2_E b a) z) (FTr_writer_writingx_L2_S b a c h k x):=by
 revert H;generalize x=m;intro H;refine sr<|ck 1<|en<|sq<|cn H (λ H=>?_)<|λ H=>?_
 ·refine sk<|qz<|sj (λ (x:Unit)=>f64k0_s8 b a c h k m) (λ (x:Unit)=>FTr_writer_writingx_J1 n m) z ?_ (λ e=>?_)
  ·intro _ H;exact rz<|ck 2<|ae (by cases H;exact og<|gP [0,2,3,4,6,27,28,29] [0,1,2,3,4,5,6,7]<|po1<|pn1 nGColumn b.Columns<|po1<|po1<|po1<|po1<|po1<|po1<|Pl.z)
  refine bk 3<|sr<|bx H λ v B H=>sp (at_idxD eGTranslateArc B)<|ck 3<|en<|sr<|ck 4<|bx H λ S C H=>ltP [0,1] (FTr_writer_printsx_ok C) (po1<|pn1 nGColumn b.Columns<|Pl.z)<|tb (f:=mapA1<|backN [0,1] 9 2) [some<|.box<|bWriter_6 b<|.osl 1 2 0<|b.Columns.length,some<|.narr 2<|b.Columns.map nGColumn,some<|.box [.osl 4 1 0<|List.length ([]:List Int),.osl 5 1 0<|List.length ([]:List Int)],some<|.box [.osl 6 1 0<|a.Cells.length,.osl 7 1 0<|a.Path.length],some<|.arr 1<|List.map eU8 ([]:List Int),some<|.arr 1<|List.map eI64 ([]:List Int),some<|.arr 1<|a.Cells.map eU8,some<|.arr 1<|a.Path.map eI64,some<|.box [.d<|.int .i64 v.Rule,.d<|.int .i64 v.To]] (po1<|pn1 nGColumn b.Columns<|po1<|po1<|po1<|po1<|po1<|po1<|po1<|Pl.z)<|ck 5<|en<|sq<|sr<|ck 2<|en<|cn H (λ H=>?_)<|λ H=>?_
  ·exact ex 3<|qx<|qH<|qs (gP [0,2,3,4,6,27,28,29] [0,1,2,3,4,5,6,7]<|po1<|pn1 nGColumn b.Columns<|po1<|po1<|po1<|po1<|po1<|po1<|Pl.z)<|e () H
  ·refine sk<|qz<|sr<|ck 7<|bx H λ w E H=>sp (at_idxD eGRule E)<|ck 3<|en<|sq<|sr<|ck 5<|bx H λ U t H=>sp (at_idxO 1 2 t)<|ck 2<|bx H λ G I H=>cb (ks:=[1]) (obl:=[(0+Int.toNat S.1+1,List.length<|b.Columns.map nGColumn),(cntN<|b.Columns.map nGColumn,0)]) false (leK (idxL (encN:=nGColumn) t)<|leK (cntM λ _=>rfl)<|leZ) (consE (eptrN (encN:=nGColumn) (encD:=eGColumn) t λ _=>rfl)<|consE rfl rfl) (FTr_column_find_ok I) (Or.inr trivial) rfl<|ck 1<|en<|sr<|ck 6<|sE (g:=(!(decide<|G<0))) (λ hg=>at_len eU8 w.Cells)<|gc 2 (!(decide<|G<0))<|pO<|en<|cn H (λ H=>?_)<|λ H=>?_
   ·exact ex 3<|qx<|qH<|qs (gP [0,2,3,4,6,27,28,29] [0,1,2,3,4,5,6,7]<|po1<|pn1 nGColumn b.Columns<|po1<|po1<|po1<|po1<|po1<|po1<|Pl.z)<|e () H
   ·exact sk<|qz<|sr<|ck 3<|bx H λ W J H=>sp (at_app eU8 6 1 J)<|ck 2<|en<|sr<|ck 5<|bx H λ X K H=>sp (at_appO eI64 7 1 K)<|ck 2<|en<|sr<|ck 5<|sp (at_len eU8 w.Cells)<|ck 4<|en<|ex 1<|qX rfl<|qx (by cases H;exact xo rfl<|gP [0,2,3,4,5,6] [0,1,2,3,4,5,9,11]<|po1<|pn1 nGColumn b.Columns<|po1<|po1<|po1<|po1<|po1<|po1<|Pl.z)
 ·exact ex 2<|qx (by cases H;exact xo rfl<|gP [2,3] [0,1,2,3,4,5,6,7]<|po1<|pn1 nGColumn b.Columns<|po1<|po1<|po1<|po1<|po1<|po1<|Pl.z)
theorem FTr_writer_writingx_L1_ok (x:(GWriting×Int×Int×Int)) (z:((GWriting×Int×Int×Int)⊕GWriting)) (H:FTr_writer_writingx_L1 n b x.1 x.2.1 x.2.2.1 x.2.2.2=some z):WP (cxk 93 2) (bodyOf Tryz.f64) [1,0,1,1,1,0,1,0,0] (roundQ 2 (FTr_writer_writingx_L1_S b) (FTr_writer_writingx_L1_E b) z) (FTr_writer_writingx_L1_S b x):=by
 obtain ⟨a,c,l,h⟩:=x;refine sq<|sr<|ck 2<|en<|cn H (λ H=>?_)<|λ H=>?_
 ·refine sk<|qz<|bk 1<|sq<|sr<|ck 5<|bx H λ k L H=>sp (at_idxD (eL eGTranslateArc) L)<|ck 1<|sp (at_len eGTranslateArc k)<|ck 1<|en<|bk 2<|bx H λ T A H=>?_;rcases T with Y|Z
  ·exact lX FTr_writer_writingx_L2_ok A (gP [0,2,3,4,6,27,28,29] [0,1,2,3,4,5,6,7]<|po1<|pn1 nGColumn b.Columns<|po1<|po1<|po1<|po1<|po1<|po1<|Pl.z) rfl λ s M=>qX rfl<|qx<|qH (by cases H;exact og<|tr (M)<|gP [0,2,3,4,5,6] [0,1,2,3,4,5,6,7]<|po1<|pn1 nGColumn b.Columns<|po1<|po1<|po1<|po1<|po1<|po1<|Pl.z)
  ·exact lX FTr_writer_writingx_L2_ok A (gP [0,2,3,4,6,27,28,29] [0,1,2,3,4,5,6,7]<|po1<|pn1 nGColumn b.Columns<|po1<|po1<|po1<|po1<|po1<|po1<|Pl.z) rfl λ s O=>qH<|qs (O)<|ex 0<|qX rfl (by cases H;exact xo rfl<|gP [2,3] [0,1,2,3,4,5,6,7]<|po1<|pn1 nGColumn b.Columns<|po1<|po1<|po1<|po1<|po1<|po1<|Pl.z)
 ·exact ex 0<|qx (by cases H;exact xo rfl<|gP [2,3] [0,1,2,3,4,5,6,7]<|po1<|pn1 nGColumn b.Columns<|po1<|po1<|po1<|po1<|po1<|po1<|Pl.z)
theorem FTr_writer_writingx_ok {z} (H:FTr_writer_writingx n b=some z):LentOK Tryz.prog 64 [.ptr 0 0] [some (.box (bWriter_6 b (.osl 1 2 0 (b.Columns.length)))),some (.narr 2 (b.Columns.map nGColumn))] 2 (.agg [.osl 3 1 0 (z.Cells.length),.osl 4 1 0 (z.Path.length)]) [some (.box (bWriter_6 b (.osl 1 2 0 (b.Columns.length)))),some (.narr 2 (b.Columns.map nGColumn)),some (.box [.osl 3 1 0 (z.Cells.length),.osl 4 1 0 (z.Path.length)]),some (.arr 1 (z.Cells.map eU8)),some (.arr 1 (z.Path.map eI64))]:=by
 exact fL 93 2 (f64k0_s1 b) Tryz.func64<|sr<|ck 1<|en<|sc<|sr<|ck 1<|en<|sr<|ck 2<|en<|sq<|lbl<|qz<|sq<|sr<|ck 4<|bx H λ V u H=>sp (at_idxO 1 2 u)<|bx H λ aa P H=>cb (ks:=[1]) (obl:=[(0+Int.toNat 0+1,List.length<|b.Columns.map nGColumn),(cntN<|b.Columns.map nGColumn,0)]) false (leK (idxL (encN:=nGColumn) u)<|leK (cntM λ _=>rfl)<|leZ) (consE (eptrN (encN:=nGColumn) (encD:=eGColumn) u λ _=>rfl)<|consE rfl rfl) (FTr_column_find_ok P) (Or.inr trivial) rfl<|ck 1<|en<|bk 0<|bx H λ ab Q H=>lX FTr_writer_writingx_L1_ok Q (tr (tr (tr (tr (sh_nilc 2 0 1 (by kernel_rfl))<|sh_nilc 2 1 1 (by kernel_rfl))<|sh_nilc 3 0 1 (by kernel_rfl))<|sh_nilc 3 1 1 (by kernel_rfl))<|gP [0,2,3,4,5,6] [0,1,2,3,4,5,6,7]<|po1<|pn1 nGColumn b.Columns<|po1<|po1<|po1<|po1<|po1<|po1<|Pl.z) rfl λ s R=>qH<|qs (R)<|sr<|ck 2<|en<|re (by cases H;exact pL<|rl (s':=f64k0_s2 b z)<|gP [2] [0,1,2,6,7]<|po1<|pn1 nGColumn b.Columns<|po1<|po1<|po1<|Pl.z)
end
section
variable (c:GTable) (g:(List UInt8))
def f34_s1:St:=⟨(0,.agg [.d<|.int .i64 c.Modes,.d<|.int .u8 c.Accept,.d<|.sl<|c.Rules.map eGRule])::(1,.d<|.str g)::[],[]⟩
variable {c g}
theorem FTr_Write_ok {z} (H:FTr_Write n c g=some z):CallOK Tryz.prog 34 [.agg (bTable c),.d (.str g)] (.tup [.agg [.own 1 (z.1.Cells.map eU8),.own 1 (z.1.Path.map eI64)],.d (.int .i64 z.2.1),.d (.int .i64 z.2.2)]):=by
 refine fO 50 (f34_s1 c g) Tryz.func34<|sr<|ck 4<|en<|sq<|sr<|ck 1<|bx H λ m o H=>ca true (FTb_Text_ok o)<|ck 5<|en<|sr<|ck 2<|en<|cn H (λ H=>?_)<|λ H=>?_
 ·exact sr<|ck 6<|en<|re<|qr (by cases H;exact pr<|rT (vs:=[.agg [.d<|.nil,.d<|.nil],.d<|.int .i64 m.1,.d<|.int .i64 m.2]) []<|t1 (a1<|c1 vz<|c1 vz<|c0)<|t1 (ad vd)<|t1 (ad vd)<|t0)
 ·refine sk<|qz<|sq<|sr<|ck 1<|bx H λ x p H=>ca false (FTb_Valid_ok p)<|ck 1<|en<|cn H (λ H=>?_)<|λ H=>?_
  ·exact sr<|ck 4<|en<|re<|qr (by cases H;exact pr<|rT (vs:=[.agg [.d<|.nil,.d<|.nil],.d<|.int .i64 0,.d<|.int .i64 61]) []<|t1 (a1<|c1 vz<|c1 vz<|c0)<|t1 (ad vd)<|t1 (ad vd)<|t0)
  ·refine sk<|qz<|sr<|ck 2<|bx H λ i q H=>lt [] (FTr_newWriter_ok q)<|tb (f:=mapA1<|backN [] 2 0) [some<|.box<|bTable c,some<|.box [.d<|.nil,.d<|.nil],some<|.box<|bWriter_6 i<|.osl 3 2 0<|i.Columns.length,some<|.narr 2<|i.Columns.map nGColumn] (po1<|po1<|po1<|pn1 nGColumn i.Columns<|Pl.z)<|ck 1<|en<|sr<|ck 1<|bx H λ j r H=>ltP [2,3] (FTr_writer_reach_ok r) (po1<|pn1 nGColumn i.Columns<|Pl.z)<|tb (f:=mapA1<|backN [2,3] 4 2) [some<|.box<|bTable c,some<|.box [.d<|.nil,.d<|.nil],some<|.box<|bWriter_6 j<|.osl 3 2 0<|j.Columns.length,some<|.narr 2<|j.Columns.map nGColumn] (po1<|po1<|po1<|pn1 nGColumn j.Columns<|Pl.z)<|en<|sr<|ck 1<|bx H λ b s H=>ltP [2,3] (FTr_writer_price_ok s) (po1<|pn1 nGColumn j.Columns<|Pl.z)<|tb (f:=mapA1<|backN [2,3] 4 2) [some<|.box<|bTable c,some<|.box [.d<|.nil,.d<|.nil],some<|.box<|bWriter_6 b<|.osl 3 2 0<|b.Columns.length,some<|.narr 2<|b.Columns.map nGColumn] (po1<|po1<|po1<|pn1 nGColumn b.Columns<|Pl.z)<|en<|sq<|sq<|bx H λ a e H=>rg (tr (so1 (encN:=nGColumn) 3 2 e)<|sno (encN:=nGColumn) (enc:=eI64) e [.own 1<|a.States.map eI64,.own 1<|a.Costs.map eI64] a.Costs 2 3 1 1)<|ck 4<|sp (at_idxO 3 2 e)<|ck 1<|sp (at_ldN (encN:=nGColumn) (row:=[.own 1<|a.States.map eI64,.osl 4 1 0<|a.Costs.length]) (k:=3) (sz:=2) (off:=1) (t:=ty 35) (v:=.osl 4 1 0<|a.Costs.length) e)<|bx H λ w l H=>sp (at_idxO 4 1 l)<|sp (at_ldA eI64 4 0 (ty 3) l)<|ck 1<|en<|cn H (λ H=>?_)<|λ H=>?_
   ·exact sq<|rg (tr (tr (tr (sni (encN:=nGColumn) (xs:=b.Columns) (n:=0) (enc:=eI64) [.own 1<|a.States.map eI64,.osl 4 1 0<|a.Costs.length] a.Costs 2 3 1 4 1)<|scl (encN:=nGColumn) (xss:=b.Columns) 0 [.own 1<|a.States.map eI64,.own 1<|a.Costs.map eI64] 2 3 a)<|sn 34 3 2<|lsS b.Columns (Int.toNat 0) a)<|snc 2 6 3 2<|lsS b.Columns (Int.toNat 0) a)<|ck 8<|en<|re<|qr (by cases H;exact pr<|rT (vs:=[.agg [.d<|.nil,.d<|.nil],.d<|.int .i64 b.Last,.d<|.int .i64 61]) []<|t1 (a1<|c1 vz<|c1 vz<|c0)<|t1 (ad vd)<|t1 (ad vd)<|t0)
   ·exact sk<|qz<|sq<|rg (tr (tr (tr (sni (encN:=nGColumn) (xs:=b.Columns) (n:=0) (enc:=eI64) [.own 1<|a.States.map eI64,.osl 4 1 0<|a.Costs.length] a.Costs 2 3 1 4 1)<|scl (encN:=nGColumn) (xss:=b.Columns) 0 [.own 1<|a.States.map eI64,.own 1<|a.Costs.map eI64] 2 3 a)<|sn 34 3 2<|lsS b.Columns (Int.toNat 0) a)<|snc 2 6 3 2<|lsS b.Columns (Int.toNat 0) a)<|ck 1<|bx H λ h u H=>ltP [2,3] (FTr_writer_writingx_ok u) (po1<|pn1 nGColumn (List.set b.Columns (Int.toNat 0) a)<|Pl.z)<|tb (f:=mapA1<|backN [2,3] 5 2) [some<|.box<|bTable c,some<|.box [.d<|.nil,.d<|.nil],some<|.box<|bWriter_6 b<|.osl 3 2 0<|List.length<|List.set b.Columns (Int.toNat 0) a,some<|.narr 2<|List.map nGColumn<|List.set b.Columns (Int.toNat 0) a,none,some<|.box [.osl 6 1 0<|h.Cells.length,.osl 7 1 0<|h.Path.length],some<|.arr 1<|h.Cells.map eU8,some<|.arr 1<|h.Path.map eI64] (po1<|po1<|po1<|pn1 nGColumn (List.set b.Columns (Int.toNat 0) a)<|po1<|po1<|po1<|po1<|Pl.z)<|ck 5<|en<|re (by cases H;exact pr<|rT (vs:=[.agg [.osl 6 1 0<|h.Cells.length,.osl 7 1 0<|h.Path.length],.d<|.int .i64 ((g.length:Nat):Int),.d<|.int .i64 0]) [6,7]<|t1 (a1<|c1 vo<|c1 vo<|c0)<|t1 (ad vd)<|t1 (ad vd)<|t0)
end
section
variable (a:GTable) (b:GMemo)
def f16_s1:St:=⟨(0,.agg [.d<|.int .i64 a.Modes,.d<|.int .u8 a.Accept,.d<|.sl<|a.Rules.map eGRule])::(1,.agg [.d<|.str b.Text,.d<|.sl<|b.Costs.map<|eL eI64,.d<|.sl<|b.Least.map eI64])::[],[]⟩
variable {a b}
theorem FRv_Result_ok {z} (H:FRv_Result n a b=some z):CallOK Tryz.prog 16 [.agg (bTable a),.agg (bMemo b)] (.tup [.agg [.d (.sl (z.1.Cells.map eU8)),.d (.sl (z.1.Path.map eI64))],.d (.int .i64 z.2)]):=by
 refine fO 21 (f16_s1 a b) Tryz.func16<|sr<|ck 4<|en<|sr<|ck 3<|bx H λ e c H=>ca false (FTr_Write_ok c)<|ck 8<|en<|sq<|sr<|ck 2<|en<|cn H (λ H=>?_)<|λ H=>?_
 ·exact sr<|ck 3<|en<|re<|qr (by cases H;exact pr<|rT (vs:=[.agg [.d<|.nil,.d<|.nil],.d<|.int .i64 61]) []<|t1 (a1<|c1 vn<|c1 vn<|c0)<|t1 (ad vd)<|t0)
 ·exact sk<|qz<|sr<|ck 3<|en<|re (by cases H;exact pr rdT)
end
section
variable (a:(List Int)) (b:(List Int)) (e:Int)
def f20_s1:St:=⟨(0,.d<|.sl<|a.map eI64)::(1,.d<|.sl<|b.map eI64)::[],[]⟩
def f20_s2:St:=⟨(0,.d<|.sl<|a.map eI64)::(1,.d<|.sl<|b.map eI64)::(5,.d<|.int .i64 e)::[],[]⟩
def f20_s3:St:=⟨[],[]⟩
def FR6_Ints_L1_E:(Unit⊕Bool)->Ex->St->Prop:=xS (xX 0 0<|λ (_:Unit)=>f20_s3)<|xR ty Tryz.f20<|λ (y:Bool)=>.d<|.bool y
def FR6_Ints_L1_S:Int->St:=(λ (x:Int)=>f20_s2 a b x)
variable {a b e}
theorem FR6_Ints_L1_ok (x:Int) (z:(Int⊕(Unit⊕Bool))) (H:FR6_Ints_L1 n a b x=some z):WP (cxk 26 0) (bodyOf Tryz.f20) [1,1,0,1,0,0] (roundQ 0 (FR6_Ints_L1_S a b) (FR6_Ints_L1_E) z) (FR6_Ints_L1_S a b x):=by
 revert H;generalize x=e;intro H;refine sq<|sr<|ck 2<|sp (at_len eI64 a)<|ck 1<|en<|cn H (λ H=>?_)<|λ H=>?_
 ·refine sk<|qz<|sq<|bk 1<|sr<|ck 2<|bx H λ k f H=>sp (at_idxD eI64 f)<|ck 3<|bx H λ l g H=>sp (at_idxD eI64 g)<|ck 2<|en<|cn H (λ H=>?_)<|λ H=>?_
  ·exact sr<|ck 1<|en<|re<|qR<|qr (by cases H;exact ro rfl rd)
  ·exact sk<|qN<|qz<|rz<|ck 3<|ae (by cases H;exact og<|sg [0,1,5])
 ·exact ex 0<|qx (by cases H;exact xo rfl<|sg [])
theorem FR6_Ints_ok {z} (H:FR6_Ints n a b=some z):CallOK Tryz.prog 20 [.d (.sl (a.map eI64)),.d (.sl (b.map eI64))] (.d (.bool z)):=by
 refine fO 26 (f20_s1 a b) Tryz.func20<|sr<|ck 1<|en<|sq<|sr<|ck 1<|sp (at_len eI64 a)<|ck 1<|sp (at_len eI64 b)<|ck 1<|en<|cn H (λ H=>?_)<|λ H=>?_
 ·exact sr<|ck 1<|en<|re<|qr (by cases H;exact pr rd)
 ·refine sk<|qz<|sq<|sr<|ck 1<|en<|bk 0<|bx H λ j c H=>?_;rcases j with m|o
  ·exact lX FR6_Ints_L1_ok c (sg [0,1,5]) rfl λ s h=>qH<|qs (h)<|sr<|ck 1<|en<|re (by cases H;exact pr rd)
  ·exact lR FR6_Ints_L1_ok c (sg [0,1,5]) rfl λ s i=>qR<|qr (by cases H;exact pr i)
end
section
variable (a:(List Int)) (b:(List Int)) (e:Int)
def f42_s1:St:=⟨(0,.d<|.sl<|a.map eU8)::(1,.d<|.sl<|b.map eU8)::[],[]⟩
def f42_s2:St:=⟨(0,.d<|.sl<|a.map eU8)::(1,.d<|.sl<|b.map eU8)::(5,.d<|.int .i64 e)::[],[]⟩
def f42_s3:St:=⟨[],[]⟩
def FR2_SameCells_L1_E:(Unit⊕Bool)->Ex->St->Prop:=xS (xX 0 0<|λ (_:Unit)=>f42_s3)<|xR ty Tryz.f42<|λ (y:Bool)=>.d<|.bool y
def FR2_SameCells_L1_S:Int->St:=(λ (x:Int)=>f42_s2 a b x)
variable {a b e}
theorem FR2_SameCells_L1_ok (x:Int) (z:(Int⊕(Unit⊕Bool))) (H:FR2_SameCells_L1 n a b x=some z):WP (cxk 26 0) (bodyOf Tryz.f42) [1,1,0,1,0,0] (roundQ 0 (FR2_SameCells_L1_S a b) (FR2_SameCells_L1_E) z) (FR2_SameCells_L1_S a b x):=by
 revert H;generalize x=e;intro H;refine sq<|sr<|ck 2<|sp (at_len eU8 a)<|ck 1<|en<|cn H (λ H=>?_)<|λ H=>?_
 ·refine sk<|qz<|sq<|bk 1<|sr<|ck 2<|bx H λ k f H=>sp (at_idxD eU8 f)<|ck 3<|bx H λ l g H=>sp (at_idxD eU8 g)<|ck 2<|en<|cn H (λ H=>?_)<|λ H=>?_
  ·exact sr<|ck 1<|en<|re<|qR<|qr (by cases H;exact ro rfl rd)
  ·exact sk<|qN<|qz<|rz<|ck 3<|ae (by cases H;exact og<|sg [0,1,5])
 ·exact ex 0<|qx (by cases H;exact xo rfl<|sg [])
theorem FR2_SameCells_ok {z} (H:FR2_SameCells n a b=some z):CallOK Tryz.prog 42 [.d (.sl (a.map eU8)),.d (.sl (b.map eU8))] (.d (.bool z)):=by
 refine fO 26 (f42_s1 a b) Tryz.func42<|sr<|ck 1<|en<|sq<|sr<|ck 1<|sp (at_len eU8 a)<|ck 1<|sp (at_len eU8 b)<|ck 1<|en<|cn H (λ H=>?_)<|λ H=>?_
 ·exact sr<|ck 1<|en<|re<|qr (by cases H;exact pr rd)
 ·refine sk<|qz<|sq<|sr<|ck 1<|en<|bk 0<|bx H λ j c H=>?_;rcases j with m|o
  ·exact lX FR2_SameCells_L1_ok c (sg [0,1,5]) rfl λ s h=>qH<|qs (h)<|sr<|ck 1<|en<|re (by cases H;exact pr rd)
  ·exact lR FR2_SameCells_L1_ok c (sg [0,1,5]) rfl λ s i=>qR<|qr (by cases H;exact pr i)
end
section
variable (a:GWriting) (b:GWriting)
def f18_s1:St:=⟨(0,.agg [.d<|.sl<|a.Cells.map eU8,.d<|.sl<|a.Path.map eI64])::(1,.agg [.d<|.sl<|b.Cells.map eU8,.d<|.sl<|b.Path.map eI64])::[],[]⟩
variable {a b}
theorem FR6_Same_ok {z} (H:FR6_Same n a b=some z):CallOK Tryz.prog 18 [.agg [.d (.sl (a.Cells.map eU8)),.d (.sl (a.Path.map eI64))],.agg [.d (.sl (b.Cells.map eU8)),.d (.sl (b.Path.map eI64))]] (.d (.bool z)):=by
 exact fO 17 (f18_s1 a b) Tryz.func18<|sr<|ck 3<|en<|sr<|ck 4<|bx H λ c e H=>ca false (FR2_SameCells_ok e)<|ck 2<|gc 1 c<|ck 1<|gc 1 c<|bx H λ g f H=>cG false (leZ) rfl (λ hg=>FR6_Ints_ok<|gimp f hg) (Or.inl rfl) (impK (λ hh=>hh)<|impK (λ hh=>hh)<|impZ) rfl<|pA<|ck 1<|en<|re (by cases H;exact pr rd)
end
def f6_s0:St:=⟨[],[]⟩
theorem FL7_sanity_ok {z} (H:FL7_sanity n=some z):CallOK Tryz.prog 6 [] (.d (.bool z)):=by
 exact fO 139 f6_s0 Tryz.func6<|sr<|ck 1<|en<|sr<|bx H λ B k H=>ca false (FL7_simple_ok k)<|ck 2<|en<|sr<|ck 1<|bx H λ b l H=>ca false (FRv_Start_ok l)<|ck 6<|en<|sr<|ck 1<|bx H λ c m H=>ca false (FRv_Start_ok m)<|ck 6<|en<|sr<|ck 3<|bx H λ a o H=>ca false (FRv_Change_ok o)<|ck 8<|en<|sr<|ck 3<|bx H λ e p H=>ca false (FRv_Change_ok p)<|ck 8<|en<|sr<|ck 3<|bx H λ f q H=>ca false (FRv_Change_ok q)<|ck 8<|en<|sr<|ck 2<|bx H λ g r H=>ca false (FRv_Result_ok r)<|ck 6<|en<|sr<|ck 1<|bx H λ h s H=>ca false (FRv_Start_ok s)<|ck 6<|en<|sr<|ck 2<|bx H λ i t H=>ca false (FRv_Result_ok t)<|ck 6<|en<|sr<|ck 4<|gc 1 (b.2==0)<|pA<|ck 2<|gc 1 ((b.2==0)&&(c.2==60))<|pA<|ck 2<|gc 1 (((b.2==0)&&(c.2==60))&&(a.2.2==0))<|pA<|ck 2<|gc 1 ((((b.2==0)&&(c.2==60))&&(a.2.2==0))&&(e.2.2==1))<|pA<|ck 2<|gc 1 (((((b.2==0)&&(c.2==60))&&(a.2.2==0))&&(e.2.2==1))&&(f.2.2==60))<|pA<|ck 2<|gc 1 ((((((b.2==0)&&(c.2==60))&&(a.2.2==0))&&(e.2.2==1))&&(f.2.2==60))&&(g.2==0))<|pA<|ck 2<|gc 1 (((((((b.2==0)&&(c.2==60))&&(a.2.2==0))&&(e.2.2==1))&&(f.2.2==60))&&(g.2==0))&&(h.2==0))<|pA<|ck 1<|en<|sr<|ck 3<|gc 1 ((((((((b.2==0)&&(c.2==60))&&(a.2.2==0))&&(e.2.2==1))&&(f.2.2==60))&&(g.2==0))&&(h.2==0))&&(i.2==61))<|ck 1<|bx H λ j u H=>cG (ks:=[9]) (obl:=[(0+List.length [2,1,1,0],List.length<|List.map eI64 [2,1,1,0])]) false (leK leM<|leZ) (consE rfl<|consE takeE rfl) (λ hg=>FR6_Ints_ok<|gimp u hg) (Or.inr trivial) (impK (λ hh=>hh)<|impK (λ hh=>hh)<|impZ) rfl<|pA<|ck 2<|gc 1 (((((((((b.2==0)&&(c.2==60))&&(a.2.2==0))&&(e.2.2==1))&&(f.2.2==60))&&(g.2==0))&&(h.2==0))&&(i.2==61))&&j)<|pA<|ck 2<|gc 2 ((((((((((b.2==0)&&(c.2==60))&&(a.2.2==0))&&(e.2.2==1))&&(f.2.2==60))&&(g.2==0))&&(h.2==0))&&(i.2==61))&&j)&&(a.2.1==1))<|pA<|ck 2<|gc 1 (((((((((((b.2==0)&&(c.2==60))&&(a.2.2==0))&&(e.2.2==1))&&(f.2.2==60))&&(g.2==0))&&(h.2==0))&&(i.2==61))&&j)&&(a.2.1==1))&&(a.1.Text==[98,97,98]))<|ck 1<|bx H λ v w H=>cG (ks:=[10]) (obl:=[(0+List.length [2,1,1,0],List.length<|List.map eI64 [2,1,1,0])]) false (leK leM<|leZ) (consE rfl<|consE takeE rfl) (λ hg=>FR6_Ints_ok<|gimp w hg) (Or.inr trivial) (impK (λ hh=>hh)<|impK (λ hh=>hh)<|impZ) rfl<|pA<|ck 4<|gc 1 ((((((((((((b.2==0)&&(c.2==60))&&(a.2.2==0))&&(e.2.2==1))&&(f.2.2==60))&&(g.2==0))&&(h.2==0))&&(i.2==61))&&j)&&(a.2.1==1))&&(a.1.Text==[98,97,98]))&&v)<|bx H λ A x H=>cG (ks:=[11,12]) (obl:=[(0+List.length [1,7],List.length<|List.map eU8 [1,7]),(0+List.length [0,2],List.length<|List.map eI64 [0,2])]) false (leK leM<|leK leM<|leZ) (consE rfl<|consE (aggE<|consE takeE<|consE takeE rfl) rfl) (λ hg=>FR6_Same_ok<|gimp x hg) (Or.inr trivial) (impK (λ hh=>hh)<|impK (λ hh=>hh)<|impZ) rfl<|pA<|ck 2<|gc 1 (((((((((((((b.2==0)&&(c.2==60))&&(a.2.2==0))&&(e.2.2==1))&&(f.2.2==60))&&(g.2==0))&&(h.2==0))&&(i.2==61))&&j)&&(a.2.1==1))&&(a.1.Text==[98,97,98]))&&v)&&A)<|ck 1<|bx H λ C y H=>cG (ks:=[13]) (obl:=[(0+List.length [(-1),0],List.length<|List.map eI64 [(-1),0])]) false (leK leM<|leZ) (consE rfl<|consE takeE rfl) (λ hg=>FR6_Ints_ok<|gimp y hg) (Or.inr trivial) (impK (λ hh=>hh)<|impK (λ hh=>hh)<|impZ) rfl<|pA<|ck 1<|en<|re (by cases H;exact pr rd)
section
variable (b:(List UInt8)) (c:(List Int)) (a:(Arr2 Int))
def f45_s1:St:=⟨(0,.d<|.str b)::(1,.d<|.sl<|c.map eU8)::(2,.agg [.d<|.int .i64 a.a0,.d<|.int .i64 a.a1])::[],[]⟩
variable {b c a}
theorem FR2_simple_ok {z} (H:FR2_simple n b c a=some z):CallOK Tryz.prog 45 [.d (.str b),.d (.sl (c.map eU8)),.agg [.d (.int .i64 a.a0),.d (.int .i64 a.a1)]] (.agg [.d (.str z.Print),.d (.sl (z.Cells.map eU8)),.d (.int .u8 z.Left),.d (.int .u8 z.Right),.d (.int .i64 z.From),.d (.int .i64 z.To)]):=by
 exact fO 14 (f45_s1 b c a) Tryz.func45<|sr<|ck 2<|en<|sr<|ck 8<|en<|re (by cases H;exact pr rd)
end
def f43_s0:St:=⟨[],[]⟩
theorem FR2_letters_ok {z} (H:FR2_letters n=some z):CallOK Tryz.prog 43 [] (.own 6 (z.map eGRule)):=by
 exact fO 16 f43_s0 Tryz.func43<|sr<|ck 1<|en<|sr<|ck 3<|en<|sr<|sF<|ck 1<|bx H λ e a H=>ca false (FR2_simple_ok a)<|sF<|ck 1<|bx H λ f b H=>ca false (FR2_simple_ok b)<|sF<|ck 1<|bx H λ g c H=>ca false (FR2_simple_ok c)<|sF<|ck 1<|bx H λ h d H=>ca false (FR2_simple_ok d)<|ck 2<|en<|re (by cases H;exact pr<|rO (v:=.osl 1 6 0<|List.length [e,f,g,h]) [1]<|ao vo)
section
variable (b:Int) (c:Int) (a:(Arr2 Int))
def f44_s1:St:=⟨(0,.d<|.int .u8 b)::(1,.d<|.int .i64 c)::(2,.agg [.d<|.int .i64 a.a0,.d<|.int .i64 a.a1])::[],[]⟩
variable {b c a}
theorem FR2_indicator_ok {z} (H:FR2_indicator n b c a=some z):CallOK Tryz.prog 44 [.d (.int .u8 b),.d (.int .i64 c),.agg [.d (.int .i64 a.a0),.d (.int .i64 a.a1)]] (.agg [.d (.str z.Print),.d (.sl (z.Cells.map eU8)),.d (.int .u8 z.Left),.d (.int .u8 z.Right),.d (.int .i64 z.From),.d (.int .i64 z.To)]):=by
 exact fO 16 (f44_s1 b c a) Tryz.func44<|sr<|ck 2<|en<|sr<|ck 1<|sF<|ck 1<|bx H λ g e H=>ca false (FR2_simple_ok e)<|ck 2<|en<|sr<|ck 1<|bx H λ h f H=>so (guard_ge f)<|ck 2<|en<|sr<|ck 2<|en<|re (by cases H;exact pr rd)
end
section
variable (b:Int) (c:(List GRule))
def f21_s1:St:=⟨(0,.d<|.int .u8 b)::[],[]⟩
def f21_s2:St:=⟨(2,.ptr 0 0)::(3,.osl 1 6 0<|c.length)::[],[some<|.box [.d<|.int .i64 0,.d<|.int .u8 0,.osl 2 6 0<|List.length ([]:List GRule)],some<|.arr 6<|c.map eGRule,some<|.arr 6<|List.map eGRule ([]:List GRule)]⟩
variable {b c}
theorem FR2_Base_ok {z} (H:FR2_Base n b=some z):CallOK Tryz.prog 21 [.d (.int .u8 b)] (.agg [.d (.int .i64 z.Modes),.d (.int .u8 z.Accept),.own 6 (z.Rules.map eGRule)]):=by
 refine fO 121 (f21_s1 b) Tryz.func21<|sr<|ck 1<|en<|sr<|bx H λ e f H=>cl [List.length e] (FR2_letters_ok f)<|ck 13<|en<|sj (λ (x:(List GRule))=>f21_s2 x) (λ (x:(List GRule))=>FR2_Base_J1 n x) z ?_ (λ a=>?_)
 ·intro c H;exact sr<|ck 3<|en<|re (by cases H;exact pr<|rO (v:=.agg [.d<|.int .i64 1,.d<|.int .u8 1,.osl 1 6 0<|c.length]) [1]<|a1<|c1 vd<|c1 vd<|c1 vo<|c0)
 refine sr<|ck 2<|en<|bk 0<|sr<|ck 2<|en<|cn H (λ H=>?_)<|λ H=>?_
 ·exact sr<|ck 2<|bx H λ ar g H=>ca false (FR2_indicator_ok g)<|sF<|ck 1<|bx H λ au h H=>ca false (FR2_simple_ok h)<|sF<|ck 1<|bx H λ av i H=>ca false (FR2_simple_ok i)<|sF<|ck 1<|bx H λ aw j H=>ca false (FR2_simple_ok j)<|ck 1<|bx H λ P k H=>sp (at_appO eGRule 1 6 k)<|ck 1<|en<|sr<|ck 3<|en<|re<|qR<|qr (by cases H;exact pr<|rO (v:=.agg [.d<|.int .i64 2,.d<|.int .u8 3,.osl 7 6 0<|P.length]) [7]<|a1<|c1 vd<|c1 vd<|c1 vo<|c0)
 ·refine sr<|ck 2<|en<|cn H (λ H=>?_)<|λ H=>?_
  ·exact sr<|ck 2<|bx H λ W l H=>ca false (FR2_indicator_ok l)<|sF<|ck 1<|bx H λ X m H=>ca false (FR2_simple_ok m)<|sF<|ck 1<|bx H λ Y o H=>ca false (FR2_simple_ok o)<|ck 1<|bx H λ Q p H=>sp (at_appO eGRule 1 6 p)<|ck 1<|en<|sr<|ck 3<|en<|re<|qR<|qr (by cases H;exact pr<|rO (v:=.agg [.d<|.int .i64 2,.d<|.int .u8 1,.osl 7 6 0<|Q.length]) [7]<|a1<|c1 vd<|c1 vd<|c1 vo<|c0)
  ·refine sr<|ck 2<|en<|cn H (λ H=>?_)<|λ H=>?_
   ·exact rz<|ck 1<|sF<|ck 1<|bx H λ Z q H=>ca false (FR2_simple_ok q)<|sF<|ck 1<|bx H λ aa r H=>ca false (FR2_simple_ok r)<|sF<|ck 1<|bx H λ ab s H=>ca false (FR2_simple_ok s)<|ck 1<|bx H λ R t H=>sp (at_appO eGRule 1 6 t)<|ck 1<|ae<|qN<|qs (tr (sh_nilc 0 2 6 (by kernel_rfl))<|sg [2,3])<|a R H
   ·refine sr<|ck 2<|en<|cn H (λ H=>?_)<|λ H=>?_
    ·exact rz<|ck 1<|sF<|ck 1<|bx H λ ac u H=>ca false (FR2_simple_ok u)<|ck 1<|bx H λ S w H=>sp (at_appO eGRule 1 6 w)<|ck 1<|ae<|qN<|qs (tr (sh_nilc 0 2 6 (by kernel_rfl))<|sg [2,3])<|a S H
    ·refine sr<|ck 2<|en<|cn H (λ H=>?_)<|λ H=>?_
     ·exact sr<|sF<|ck 1<|bx H λ af y H=>ca false (FR2_simple_ok y)<|sF<|ck 1<|bx H λ ag A H=>ca false (FR2_simple_ok A)<|ck 4<|en<|sr<|ck 4<|en<|rz<|ck 3<|sF<|ck 1<|bx H λ ah B H=>ca false (FR2_simple_ok B)<|ck 1<|bx H λ T C H=>sp (at_appO eGRule 1 6 C)<|ck 1<|ae<|qN<|qs (tr (sh_nilc 0 2 6 (by kernel_rfl))<|sg [2,3])<|a T H
     ·refine sr<|ck 2<|en<|cn H (λ H=>?_)<|λ H=>?_
      ·exact sr<|ck 2<|bx H λ ai E H=>ca false (FR2_indicator_ok E)<|sF<|ck 1<|bx H λ aj G H=>ca false (FR2_simple_ok G)<|sF<|ck 1<|bx H λ ak I H=>ca false (FR2_simple_ok I)<|ck 1<|bx H λ U J H=>sp (at_appO eGRule 1 6 J)<|ck 1<|en<|sr<|ck 3<|en<|re<|qR<|qr (by cases H;exact pr<|rO (v:=.agg [.d<|.int .i64 2,.d<|.int .u8 1,.osl 7 6 0<|U.length]) [7]<|a1<|c1 vd<|c1 vd<|c1 vo<|c0)
      ·refine sr<|ck 2<|en<|cn H (λ H=>?_)<|λ H=>?_
       ·exact rz<|ck 1<|sF<|ck 1<|bx H λ al K H=>ca false (FR2_simple_ok K)<|sF<|ck 1<|bx H λ am L H=>ca false (FR2_simple_ok L)<|sF<|ck 1<|bx H λ ap M H=>ca false (FR2_simple_ok M)<|ck 1<|bx H λ V O H=>sp (at_appO eGRule 1 6 O)<|ck 1<|ae<|qN<|qs (tr (sh_nilc 0 2 6 (by kernel_rfl))<|sg [2,3])<|a V H
       ·exact sk<|qN<|qs (tr (sh_nilc 0 2 6 (by kernel_rfl))<|sg [2,3])<|a e H
end
section
variable (a:GRawRule) (i:Int) (b:GRule) (g:Int) (e:GRule) (c:GRule) (h:Int) (f:GRule)
def f22_s1:St:=⟨(0,.agg [.d<|.sl<|a.P.map eU8,.d<|.sl<|a.C.map eU8,.d<|.int .u8 a.L,.d<|.int .u8 a.R,.d<|.int .u8 a.W.a0,.d<|.int .u8 a.W.a1])::(1,.d<|.int .i64 i)::[],[]⟩
def f22_s2:St:=⟨(2,.ptr 0 0)::(4,.ptr 1 0)::(5,.d<|.str [97,98,99,65,66,49,50,45,46])::(7,.ptr 2 0)::(8,.d<|.int .i64 g)::[],[some<|.box<|bRawRule a,some<|.box [.d<|.str [],.osl 3 1 0<|List.length ([]:List Int),.d<|.int .u8 0,.d<|.int .u8 0,.d<|.int .i64 0,.d<|.int .i64 0],some<|.box<|bRule_1 b<|.osl 4 1 0<|b.Cells.length,some<|.arr 1<|List.map eU8 ([]:List Int),some<|.arr 1<|b.Cells.map eU8]⟩
def f22_s3:St:=⟨(2,.ptr 0 0)::(4,.ptr 1 0)::(7,.ptr 2 0)::[],[some<|.box<|bRawRule a,some<|.box [.d<|.str [],.osl 3 1 0<|List.length ([]:List Int),.d<|.int .u8 0,.d<|.int .u8 0,.d<|.int .i64 0,.d<|.int .i64 0],some<|.box<|bRule_1 e<|.osl 4 1 0<|e.Cells.length,some<|.arr 1<|List.map eU8 ([]:List Int),some<|.arr 1<|e.Cells.map eU8]⟩
def FR2_Rule_L1_E:GRule->Ex->St->Prop:=xX 0 0<|λ (y:GRule)=>f22_s3 a y
def FR2_Rule_L1_S:(GRule×Int)->St:=(λ (x:(GRule×Int))=>f22_s2 a x.1 x.2)
def f22_s4:St:=⟨(2,.ptr 0 0)::(4,.ptr 1 0)::(7,.ptr 2 0)::(10,.osl 3 1 0<|List.length [1,3,9,5,7,32,44,60])::(11,.d<|.int .i64 h)::[],[some<|.box<|bRawRule a,some<|.box [.d<|.str [],.osl 4 1 0<|List.length ([]:List Int),.d<|.int .u8 0,.d<|.int .u8 0,.d<|.int .i64 0,.d<|.int .i64 0],some<|.box<|bRule_1 c<|.osl 5 1 0<|c.Cells.length,some<|.arr 1<|List.map eU8 [1,3,9,5,7,32,44,60],some<|.arr 1<|List.map eU8 ([]:List Int),some<|.arr 1<|c.Cells.map eU8]⟩
def f22_s5:St:=⟨(4,.ptr 0 0)::(7,.ptr 1 0)::[],[some<|.box [.d<|.str [],.osl 2 1 0<|List.length ([]:List Int),.d<|.int .u8 0,.d<|.int .u8 0,.d<|.int .i64 0,.d<|.int .i64 0],some<|.box<|bRule_1 f<|.osl 3 1 0<|f.Cells.length,some<|.arr 1<|List.map eU8 ([]:List Int),some<|.arr 1<|f.Cells.map eU8]⟩
def FR2_Rule_L2_E:GRule->Ex->St->Prop:=xX 0 2<|λ (y:GRule)=>f22_s5 y
def FR2_Rule_L2_S:(GRule×Int)->St:=(λ (x:(GRule×Int))=>f22_s4 a x.1 x.2)
variable {a i b g e c h f}
theorem FR2_Rule_L1_ok (x:(GRule×Int)) (z:((GRule×Int)⊕GRule)) (H:FR2_Rule_L1 n a x.1 x.2=some z):WP (cxk 101 0) (bodyOf Tryz.f22) [1,1,1,0,1,0,0] (roundQ 0 (FR2_Rule_L1_S a) (FR2_Rule_L1_E a) z) (FR2_Rule_L1_S a x):=by
 obtain ⟨b,g⟩:=x;refine sq<|sr<|ck 3<|sp (at_len eU8 a.P)<|ck 3<|gc 1 (decide<|g<((a.P.length:Nat):Int))<|pA<|en<|cn H (λ H=>?_)<|λ H=>?_
 ·exact sk<|qz<|sq<|bk 1<|sr<|ck 3<|bx H λ I o H=>sp (at_idxD eU8 o)<|ck 4<|en<|rz<|ck 6<|bx H λ Z p H=>sp (at_ssub p)<|bx H λ U q H=>sp (at_cat q)<|ck 2<|ae<|qN<|qz<|rz<|ck 3<|ae (by cases H;exact og<|sg [2,4,5,7,8])
 ·exact ex 0<|qx (by cases H;exact xo rfl<|sg [2,4,7])
theorem FR2_Rule_L2_ok (x:(GRule×Int)) (z:((GRule×Int)⊕GRule)) (H:FR2_Rule_L2 n a x.1 x.2=some z):WP (cxk 101 0) (bodyOf Tryz.f22) [1,1,1,1,1,1,0,1,0,0] (roundQ 0 (FR2_Rule_L2_S a) (FR2_Rule_L2_E) z) (FR2_Rule_L2_S a x):=by
 obtain ⟨c,h⟩:=x;refine sq<|sr<|ck 3<|sp (at_len eU8 a.C)<|ck 3<|gc 1 (decide<|h<((a.C.length:Nat):Int))<|pA<|en<|cn H (λ H=>?_)<|λ H=>?_
 ·exact sk<|qz<|sq<|bk 3<|rz<|ck 6<|bx H λ J r H=>sp (at_idxD eU8 r)<|ck 2<|bx H λ K j H=>sp (at_idxO 3 1 j)<|sp (at_ldA eU8 3 0 (ty 64) j)<|ck 1<|bx H λ V t H=>sp (at_appO eU8 5 1 t)<|ck 2<|ae<|qN<|qz<|rz<|ck 3<|ae (by cases H;exact og<|sg [2,4,7,10,11])
 ·exact ex 2<|qx (by cases H;exact xo rfl<|sg [4,7])
theorem FR2_Rule_ok {z} (H:FR2_Rule n a i=some z):CallOK Tryz.prog 22 [.agg (bRawRule a),.d (.int .i64 i)] (.agg [.d (.str z.Print),.own 1 (z.Cells.map eU8),.d (.int .u8 z.Left),.d (.int .u8 z.Right),.d (.int .i64 z.From),.d (.int .i64 z.To)]):=by
 exact fO 101 (f22_s1 a i) Tryz.func22<|sr<|ck 2<|en<|sr<|ck 3<|en<|sr<|ck 4<|bx H λ M k H=>sp (at_idxO 2 1 k)<|sp (at_ldA eU8 2 0 (ty 5) k)<|ck 4<|bx H λ O l H=>sp (at_idxO 2 1 l)<|sp (at_ldA eU8 2 0 (ty 5) l)<|ck 5<|bx H λ Q u H=>so (guard_nz u)<|ck 5<|bx H λ S w H=>so (guard_nz w)<|ck 3<|en<|sq<|sr<|ck 1<|en<|bk 0<|bx H λ X A H=>lX FR2_Rule_L1_ok A (tr (tr (sh_nilc 1 1 1 (by kernel_rfl))<|sh_nilc 3 1 1 (by kernel_rfl))<|sg [2,4,5,7,8]) rfl λ s B=>qH<|qs (B)<|sr<|ck 2<|en<|sr<|ck 5<|bx H λ T m H=>sp (at_idxO 5 1 m)<|sp (at_ldA eU8 5 0 (ty 64) m)<|ck 3<|en<|sq<|sr<|ck 1<|en<|bk 2<|bx H λ Y E H=>lX FR2_Rule_L2_ok E (sg [2,4,7,10,11]) rfl λ s G=>qH<|qs (G)<|sr<|ck 2<|en<|re (by cases H;exact pr<|rO (v:=.agg [.d<|.str z.Print,.osl 3 1 0<|z.Cells.length,.d<|.int .u8 z.Left,.d<|.int .u8 z.Right,.d<|.int .i64 z.From,.d<|.int .i64 z.To]) [3]<|a1<|c1 vd<|c1 vo<|c1 vd<|c1 vd<|c1 vd<|c1 vd<|c0)
end
section
variable (a:Int)
def f65_s1:St:=⟨(0,.d<|.int .u8 a)::[],[]⟩
variable {a}
theorem FR2_Character_ok {z} (H:FR2_Character n a=some z):CallOK Tryz.prog 65 [.d (.int .u8 a)] (.d (.bool z)):=by
 exact fO 11 (f65_s1 a) Tryz.func65<|sr<|ck 1<|en<|sr<|ck 5<|gc 2 (decide<|iand .u8 a 127>=32)<|pA<|ck 1<|en<|re (by cases H;exact pr rd)
end
section
variable (a:(List UInt8)) (b:Int)
def f35_s1:St:=⟨(0,.d<|.str a)::[],[]⟩
def f35_s2:St:=⟨(0,.d<|.str a)::(4,.d<|.int .i64 b)::[],[]⟩
def f35_s3:St:=⟨(0,.d<|.str a)::[],[]⟩
def FR2_Text_L1_E:(Unit⊕(Int×Int))->Ex->St->Prop:=xS (xX 0 0<|λ (_:Unit)=>f35_s3 a)<|xR ty Tryz.f35<|λ (y:(Int×Int))=>.tup [.d<|.int .i64 y.1,.d<|.int .i64 y.2]
def FR2_Text_L1_S:Int->St:=(λ (x:Int)=>f35_s2 a x)
variable {a b}
theorem FR2_Text_L1_ok (x:Int) (z:(Int⊕(Unit⊕(Int×Int)))) (H:FR2_Text_L1 n a x=some z):WP (cxk 19 0) (bodyOf Tryz.f35) [1,0,1,0,0] (roundQ 0 (FR2_Text_L1_S a) (FR2_Text_L1_E a) z) (FR2_Text_L1_S a x):=by
 revert H;generalize x=b;intro H;refine sq<|sr<|ck 4<|en<|cn H (λ H=>?_)<|λ H=>?_
 ·refine sk<|qz<|sq<|bk 1<|sr<|ck 2<|bx H λ m e H=>sp (at_sidx e)<|bx H λ j f H=>ca false (FR2_Character_ok f)<|ck 1<|en<|cn H (λ H=>?_)<|λ H=>?_
  ·exact sr<|ck 3<|en<|re<|qR<|qr (by cases H;exact ro rfl rdT)
  ·exact sk<|qN<|qz<|rz<|ck 3<|ae (by cases H;exact og<|sg [0,4])
 ·exact ex 0<|qx (by cases H;exact xo rfl<|sg [0])
theorem FR2_Text_ok {z} (H:FR2_Text n a=some z):CallOK Tryz.prog 35 [.d (.str a)] (.tup [.d (.int .i64 z.1),.d (.int .i64 z.2)]):=by
 refine fO 19 (f35_s1 a) Tryz.func35<|sr<|ck 2<|en<|sq<|sr<|ck 1<|en<|bk 0<|bx H λ i c H=>?_;rcases i with k|l
 ·exact lX FR2_Text_L1_ok c (sg [0,4]) rfl λ s g=>qH<|qs (g)<|sr<|ck 4<|en<|re (by cases H;exact pr rdT)
 ·exact lR FR2_Text_L1_ok c (sg [0,4]) rfl λ s h=>qR<|qr (by cases H;exact pr h)
end
section
variable (a:(List UInt8))
def f32_s1:St:=⟨(0,.d<|.str a)::[],[]⟩
variable {a}
theorem FR2_IsText_ok {z} (H:FR2_IsText n a=some z):CallOK Tryz.prog 32 [.d (.str a)] (.d (.bool z)):=by
 exact fO 12 (f32_s1 a) Tryz.func32<|sr<|ck 1<|en<|sr<|ck 1<|bx H λ c b H=>ca false (FR2_Text_ok b)<|ck 5<|en<|sr<|ck 3<|en<|re (by cases H;exact pr rd)
end
section
variable (a:Int)
def f81_s1:St:=⟨(0,.d<|.int .u8 a)::[],[]⟩
variable {a}
theorem FR2_Space_ok {z} (H:FR2_Space n a=some z):CallOK Tryz.prog 81 [.d (.int .u8 a)] (.d (.bool z)):=by
 exact fO 6 (f81_s1 a) Tryz.func81<|sr<|ck 1<|en<|sr<|ck 4<|en<|re (by cases H;exact pr rd)
end
section
variable (a:GRule) (h:Int) (c:Bool) (k:Int) (i:Bool) (f:Bool) (b:Bool) (l:Int) (j:Bool)
def f69_s1:St:=⟨(0,.agg [.d<|.str a.Print,.d<|.sl<|a.Cells.map eU8,.d<|.int .u8 a.Left,.d<|.int .u8 a.Right,.d<|.int .i64 a.From,.d<|.int .i64 a.To])::(1,.d<|.int .i64 h)::[],[]⟩
def f69_s2:St:=⟨(2,.ptr 0 0)::(5,.d<|.bool c)::(6,.d<|.bool false)::(7,.d<|.int .i64 k)::[],[some<|.box<|bRule a]⟩
def f69_s3:St:=⟨(2,.ptr 0 0)::(5,.d<|.bool i)::(6,.d<|.bool false)::[],[some<|.box<|bRule a]⟩
def FR2_Sound_L1_E:Bool->Ex->St->Prop:=xX 0 0<|λ (y:Bool)=>f69_s3 a y
def FR2_Sound_L1_S:(Bool×Int)->St:=(λ (x:(Bool×Int))=>f69_s2 a x.1 x.2)
def f69_s4:St:=⟨(2,.ptr 0 0)::(5,.d<|.bool f)::(6,.d<|.bool b)::(8,.d<|.int .i64 l)::[],[some<|.box<|bRule a]⟩
def f69_s5:St:=⟨(2,.ptr 0 0)::(5,.d<|.bool f)::(6,.d<|.bool j)::[],[some<|.box<|bRule a]⟩
def FR2_Sound_L2_E:(Bool⊕Bool)->Ex->St->Prop:=xS (xX 0 2<|λ (y:Bool)=>f69_s5 a f y)<|xR ty Tryz.f69<|λ (y:Bool)=>.d<|.bool y
def FR2_Sound_L2_S:(Bool×Int)->St:=(λ (x:(Bool×Int))=>f69_s4 a f x.1 x.2)
variable {a h c k i f b l j}
theorem FR2_Sound_L1_ok (x:(Bool×Int)) (z:((Bool×Int)⊕Bool)) (H:FR2_Sound_L1 n a x.1 x.2=some z):WP (cxk 125 0) (bodyOf Tryz.f69) [1,1,1,1,0,1,0,0] (roundQ 0 (FR2_Sound_L1_S a) (FR2_Sound_L1_E a) z) (FR2_Sound_L1_S a x):=by
 obtain ⟨c,k⟩:=x;refine sq<|sr<|ck 5<|en<|cn H (λ H=>?_)<|λ H=>?_
 ·exact sk<|qz<|sq<|bk 1<|rz<|ck 3<|gc 1 (!c)<|ck 1<|bx H λ K o H=>sE (λ hg=>at_sidx<|gimp o hg)<|bx H λ C p H=>cG false (leZ) rfl (λ hg=>FR2_Space_ok<|gimp p hg) (Or.inl rfl) (impK (λ hh=>hh)<|impZ) rfl<|pO<|ck 1<|ae<|qN<|qz<|rz<|ck 3<|ae (by cases H;exact og<|sg [2,5,6,7])
 ·exact ex 0<|qx (by cases H;exact xo rfl<|sg [2,5,6])
theorem FR2_Sound_L2_ok (x:(Bool×Int)) (z:((Bool×Int)⊕(Bool⊕Bool))) (H:FR2_Sound_L2 n a f x.1 x.2=some z):WP (cxk 125 0) (bodyOf Tryz.f69) [1,1,1,1,1,0,1,0,0] (roundQ 0 (FR2_Sound_L2_S a f) (FR2_Sound_L2_E a f) z) (FR2_Sound_L2_S a f x):=by
 obtain ⟨b,l⟩:=x;refine sq<|sr<|ck 3<|sp (at_len eU8 a.Cells)<|ck 1<|en<|cn H (λ H=>?_)<|λ H=>?_
 ·refine sk<|qz<|sq<|bk 3<|sq<|sr<|ck 3<|bx H λ E q H=>sp (at_idxD eU8 q)<|ck 2<|en<|cn H (λ H=>?_)<|λ H=>?_
  ·exact sr<|ck 1<|en<|re<|qr<|qR<|qr (by cases H;exact ro rfl rd)
  ·exact sk<|qz<|rz<|ck 3<|gc 1 (!b)<|ck 1<|bx H λ G r H=>sE (λ hg=>at_idxD eU8<|gimp r hg)<|gc 2 (!b)<|pO<|ck 1<|ae<|qN<|qz<|rz<|ck 3<|ae (by cases H;exact og<|sg [2,5,6,8])
 ·exact ex 2<|qx (by cases H;exact xo rfl<|sg [2,5,6])
theorem FR2_Sound_ok {z} (H:FR2_Sound n a h=some z):CallOK Tryz.prog 69 [.agg (bRule a),.d (.int .i64 h)] (.d (.bool z)):=by
 refine fO 125 (f69_s1 a h) Tryz.func69<|sr<|ck 2<|en<|sq<|sr<|ck 2<|bx H λ e t H=>ca false (FR2_IsText_ok t)<|ck 3<|gc 3 (!(!e))<|pO<|ck 2<|gc 1 (!((!e)||(decide<|((a.Print.length:Nat):Int)>4)))<|sE (g:=(!((!e)||(decide<|((a.Print.length:Nat):Int)>4)))) (λ hg=>at_len eU8 a.Cells)<|gc 1 (!((!e)||(decide<|((a.Print.length:Nat):Int)>4)))<|pO<|ck 2<|gc 1 (!(((!e)||(decide<|((a.Print.length:Nat):Int)>4))||(decide<|((a.Cells.length:Nat):Int)<1)))<|sE (g:=(!(((!e)||(decide<|((a.Print.length:Nat):Int)>4))||(decide<|((a.Cells.length:Nat):Int)<1)))) (λ hg=>at_len eU8 a.Cells)<|gc 1 (!(((!e)||(decide<|((a.Print.length:Nat):Int)>4))||(decide<|((a.Cells.length:Nat):Int)<1)))<|pO<|en<|cn H (λ H=>?_)<|λ H=>?_
 ·exact sr<|ck 1<|en<|re<|qr (by cases H;exact pr rd)
 ·refine sk<|qz<|sq<|sr<|ck 5<|gc 2 (!(decide<|a.Left<1))<|pO<|ck 2<|gc 2 (!((decide<|a.Left<1)||(decide<|a.Left>63)))<|pO<|ck 2<|gc 2 (!(((decide<|a.Left<1)||(decide<|a.Left>63))||(decide<|a.Right<1)))<|pO<|ck 2<|gc 2 (!((((decide<|a.Left<1)||(decide<|a.Left>63))||(decide<|a.Right<1))||(decide<|a.Right>63)))<|pO<|ck 2<|gc 1 (!(((((decide<|a.Left<1)||(decide<|a.Left>63))||(decide<|a.Right<1))||(decide<|a.Right>63))||(decide<|a.From<0)))<|ck 1<|gc 1 (!(((((decide<|a.Left<1)||(decide<|a.Left>63))||(decide<|a.Right<1))||(decide<|a.Right>63))||(decide<|a.From<0)))<|pO<|ck 2<|gc 2 (!((((((decide<|a.Left<1)||(decide<|a.Left>63))||(decide<|a.Right<1))||(decide<|a.Right>63))||(decide<|a.From<0))||(decide<|a.From>=h)))<|pO<|ck 2<|gc 1 (!(((((((decide<|a.Left<1)||(decide<|a.Left>63))||(decide<|a.Right<1))||(decide<|a.Right>63))||(decide<|a.From<0))||(decide<|a.From>=h))||(decide<|a.To<0)))<|ck 1<|gc 1 (!(((((((decide<|a.Left<1)||(decide<|a.Left>63))||(decide<|a.Right<1))||(decide<|a.Right>63))||(decide<|a.From<0))||(decide<|a.From>=h))||(decide<|a.To<0)))<|pO<|en<|cn H (λ H=>?_)<|λ H=>?_
  ·exact sr<|ck 1<|en<|re<|qr (by cases H;exact pr rd)
  ·refine sk<|qz<|sr<|ck 2<|en<|sq<|sr<|ck 1<|en<|bk 0<|bx H λ f u H=>lX FR2_Sound_L1_ok u (sg [2,5,6,7]) rfl λ s v=>qH<|qs (v)<|sq<|sr<|ck 1<|en<|bk 2<|bx H λ B m H=>?_;rcases B with I|J
   ·refine lX FR2_Sound_L2_ok m (sg [2,5,6,8]) rfl λ s w=>qH<|qs (w)<|sq<|sr<|ck 2<|en<|cn H (λ H=>?_)<|λ H=>?_
    ·exact sr<|ck 3<|en<|re<|qr (by cases H;exact pr rd)
    ·exact sk<|qz<|sr<|ck 6<|gc 1 (((a.Print.length:Nat):Int)==1)<|sE (g:=(((a.Print.length:Nat):Int)==1)) (λ hg=>at_len eU8 a.Cells)<|gc 1 (((a.Print.length:Nat):Int)==1)<|pA<|ck 2<|pA<|ck 1<|en<|re (by cases H;exact pr rd)
   ·exact lR FR2_Sound_L2_ok m (sg [2,5,6,8]) rfl λ s A=>qR<|qr (by cases H;exact pr A)
end
section
variable (a:GRule) (b:GRule)
def f70_s1:St:=⟨(0,.agg [.d<|.str a.Print,.d<|.sl<|a.Cells.map eU8,.d<|.int .u8 a.Left,.d<|.int .u8 a.Right,.d<|.int .i64 a.From,.d<|.int .i64 a.To])::(1,.agg [.d<|.str b.Print,.d<|.sl<|b.Cells.map eU8,.d<|.int .u8 b.Left,.d<|.int .u8 b.Right,.d<|.int .i64 b.From,.d<|.int .i64 b.To])::[],[]⟩
variable {a b}
theorem FR2_SameRule_ok {z} (H:FR2_SameRule n a b=some z):CallOK Tryz.prog 70 [.agg (bRule a),.agg (bRule b)] (.d (.bool z)):=by
 exact fO 45 (f70_s1 a b) Tryz.func70<|sr<|ck 3<|en<|sr<|ck 7<|gc 1 (a.Print==b.Print)<|ck 1<|gc 1 (a.Print==b.Print)<|bx H λ c e H=>cG false (leZ) rfl (λ hg=>FR2_SameCells_ok<|gimp e hg) (Or.inl rfl) (impK (λ hh=>hh)<|impK (λ hh=>hh)<|impZ) rfl<|pA<|ck 2<|gc 1 ((a.Print==b.Print)&&c)<|ck 1<|gc 2 ((a.Print==b.Print)&&c)<|pA<|ck 2<|gc 1 (((a.Print==b.Print)&&c)&&(a.Left==b.Left))<|ck 1<|gc 2 (((a.Print==b.Print)&&c)&&(a.Left==b.Left))<|pA<|ck 2<|gc 1 ((((a.Print==b.Print)&&c)&&(a.Left==b.Left))&&(a.Right==b.Right))<|ck 1<|gc 2 ((((a.Print==b.Print)&&c)&&(a.Left==b.Left))&&(a.Right==b.Right))<|pA<|ck 2<|gc 1 (((((a.Print==b.Print)&&c)&&(a.Left==b.Left))&&(a.Right==b.Right))&&(a.From==b.From))<|ck 1<|gc 2 (((((a.Print==b.Print)&&c)&&(a.Left==b.Left))&&(a.Right==b.Right))&&(a.From==b.From))<|pA<|ck 1<|en<|re (by cases H;exact pr rd)
end
section
variable (a:GTable) (b:Int) (f:Int)
def f46_s1:St:=⟨(0,.agg [.d<|.int .i64 a.Modes,.d<|.int .u8 a.Accept,.d<|.sl<|a.Rules.map eGRule])::[],[]⟩
def f46_s2:St:=⟨(1,.ptr 0 0)::(4,.d<|.int .i64 b)::[],[some<|.box<|bTable a]⟩
def f46_s3:St:=⟨[],[]⟩
def f46_s4:St:=⟨(1,.ptr 0 0)::(4,.d<|.int .i64 b)::(5,.d<|.int .i64 f)::[],[some<|.box<|bTable a]⟩
def f46_s5:St:=⟨(1,.ptr 0 0)::(4,.d<|.int .i64 b)::[],[some<|.box<|bTable a]⟩
def FR2_Check_L2_E:(Unit⊕(Int×Int))->Ex->St->Prop:=xS (xX 0 2<|λ (_:Unit)=>f46_s5 a b)<|xR ty Tryz.f46<|λ (y:(Int×Int))=>.tup [.d<|.int .i64 y.1,.d<|.int .i64 y.2]
def FR2_Check_L2_S:Int->St:=(λ (x:Int)=>f46_s4 a b x)
def FR2_Check_L1_E:(Unit⊕(Int×Int))->Ex->St->Prop:=xS (xX 0 0<|λ (_:Unit)=>f46_s3)<|xR ty Tryz.f46<|λ (y:(Int×Int))=>.tup [.d<|.int .i64 y.1,.d<|.int .i64 y.2]
def FR2_Check_L1_S:Int->St:=(λ (x:Int)=>f46_s2 a x)
variable {a b f}
theorem FR2_Check_L2_ok (x:Int) (z:(Int⊕(Unit⊕(Int×Int)))) (H:FR2_Check_L2 n a b x=some z):WP (cxk 74 0) (bodyOf Tryz.f46) [1,1,0,1,0,0,1,0,0,1,1,0,0] (roundQ 0 (FR2_Check_L2_S a b) (FR2_Check_L2_E a b) z) (FR2_Check_L2_S a b x):=by
 revert H;generalize x=f;intro H;refine sq<|sr<|ck 3<|en<|cn H (λ H=>?_)<|λ H=>?_
 ·refine sk<|qz<|sq<|bk 3<|sr<|ck 3<|bx H λ v h H=>sp (at_idxD eGRule h)<|ck 4<|bx H λ w i H=>sp (at_idxD eGRule i)<|ck 1<|bx H λ A j H=>ca false (FR2_SameRule_ok j)<|en<|cn H (λ H=>?_)<|λ H=>?_
  ·exact sr<|ck 3<|en<|re<|qR<|qr (by cases H;exact ro rfl rdT)
  ·exact sk<|qN<|qz<|rz<|ck 3<|ae (by cases H;exact og<|sg [1,4,5])
 ·exact ex 2<|qx (by cases H;exact xo rfl<|sg [1,4])
theorem FR2_Check_L1_ok (x:Int) (z:(Int⊕(Unit⊕(Int×Int)))) (H:FR2_Check_L1 n a x=some z):WP (cxk 74 0) (bodyOf Tryz.f46) [1,1,0,1,0,0] (roundQ 0 (FR2_Check_L1_S a) (FR2_Check_L1_E) z) (FR2_Check_L1_S a x):=by
 revert H;generalize x=b;intro H;refine sq<|sr<|ck 3<|sp (at_len eGRule a.Rules)<|ck 1<|en<|cn H (λ H=>?_)<|λ H=>?_
 ·refine sk<|qz<|sq<|bk 1<|sq<|sr<|ck 3<|bx H λ B k H=>sp (at_idxD eGRule k)<|ck 3<|bx H λ C l H=>ca false (FR2_Sound_ok l)<|ck 1<|en<|cn H (λ H=>?_)<|λ H=>?_
  ·exact sr<|ck 3<|en<|re<|qr<|qR<|qr (by cases H;exact ro rfl rdT)
  ·refine sk<|qz<|sr<|ck 1<|en<|bk 2<|bx H λ t c H=>?_;rcases t with G|I
   ·exact lX FR2_Check_L2_ok c (sg [1,4,5]) rfl λ s m=>qH<|qN<|qs (m)<|rz<|ck 3<|ae (by cases H;exact og<|sg [1,4])
   ·exact lR FR2_Check_L2_ok c (sg [1,4,5]) rfl λ s o=>qR<|qR<|qr (by cases H;exact ro rfl o)
 ·exact ex 0<|qx (by cases H;exact xo rfl<|sg [])
theorem FR2_Check_ok {z} (H:FR2_Check n a=some z):CallOK Tryz.prog 46 [.agg (bTable a)] (.tup [.d (.int .i64 z.1),.d (.int .i64 z.2)]):=by
 refine fO 74 (f46_s1 a) Tryz.func46<|sr<|ck 3<|en<|sq<|sr<|ck 5<|gc 2 (!(decide<|a.Modes<1))<|pO<|ck 2<|gc 2 (!((decide<|a.Modes<1)||(decide<|a.Modes>8)))<|pO<|ck 2<|gc 2 (!(((decide<|a.Modes<1)||(decide<|a.Modes>8))||(a.Accept==0)))<|ck 1<|gc 1 (!(((decide<|a.Modes<1)||(decide<|a.Modes>8))||(a.Accept==0)))<|bx H λ E p H=>soG (λ hg=>guard_ge<|gimp p hg) (impK (λ hh=>hh)<|impZ)<|gc 1 (!(((decide<|a.Modes<1)||(decide<|a.Modes>8))||(a.Accept==0)))<|pO<|ck 2<|gc 1 (!((((decide<|a.Modes<1)||(decide<|a.Modes>8))||(a.Accept==0))||(decide<|IntKind.i64.wrap a.Accept>=ishl .i64 1 a.Modes)))<|sE (g:=(!((((decide<|a.Modes<1)||(decide<|a.Modes>8))||(a.Accept==0))||(decide<|IntKind.i64.wrap a.Accept>=ishl .i64 1 a.Modes)))) (λ hg=>at_len eGRule a.Rules)<|gc 1 (!((((decide<|a.Modes<1)||(decide<|a.Modes>8))||(a.Accept==0))||(decide<|IntKind.i64.wrap a.Accept>=ishl .i64 1 a.Modes)))<|pO<|ck 2<|gc 1 (!(((((decide<|a.Modes<1)||(decide<|a.Modes>8))||(a.Accept==0))||(decide<|IntKind.i64.wrap a.Accept>=ishl .i64 1 a.Modes))||(decide<|((a.Rules.length:Nat):Int)<1)))<|sE (g:=(!(((((decide<|a.Modes<1)||(decide<|a.Modes>8))||(a.Accept==0))||(decide<|IntKind.i64.wrap a.Accept>=ishl .i64 1 a.Modes))||(decide<|((a.Rules.length:Nat):Int)<1)))) (λ hg=>at_len eGRule a.Rules)<|gc 1 (!(((((decide<|a.Modes<1)||(decide<|a.Modes>8))||(a.Accept==0))||(decide<|IntKind.i64.wrap a.Accept>=ishl .i64 1 a.Modes))||(decide<|((a.Rules.length:Nat):Int)<1)))<|pO<|en<|cn H (λ H=>?_)<|λ H=>?_
 ·exact sr<|ck 2<|en<|re<|qr (by cases H;exact pr rdT)
 ·refine sk<|qz<|sq<|sr<|ck 1<|en<|bk 0<|bx H λ u e H=>?_;rcases u with J|K
  ·exact lX FR2_Check_L1_ok e (sg [1,4]) rfl λ s q=>qH<|qs (q)<|sr<|ck 2<|en<|re (by cases H;exact pr rdT)
  ·exact lR FR2_Check_L1_ok e (sg [1,4]) rfl λ s r=>qR<|qr (by cases H;exact pr r)
end
section
variable (a:GTable)
def f23_s1:St:=⟨(0,.agg [.d<|.int .i64 a.Modes,.d<|.int .u8 a.Accept,.d<|.sl<|a.Rules.map eGRule])::[],[]⟩
variable {a}
theorem FR2_Valid_ok {z} (H:FR2_Valid n a=some z):CallOK Tryz.prog 23 [.agg (bTable a)] (.d (.bool z)):=by
 exact fO 12 (f23_s1 a) Tryz.func23<|sr<|ck 2<|en<|sr<|ck 1<|bx H λ c b H=>ca false (FR2_Check_ok b)<|ck 5<|en<|sr<|ck 3<|en<|re (by cases H;exact pr rd)
end
section
variable (b:GRaw) (a:GTable) (j:GTable) (h:Int) (r:GTable) (m:GTable) (i:GTable) (g:Int) (t:GTable) (o:GTable) (p:GTable)
def f7_s1:St:=⟨(0,.agg [.d<|.int .u8 b.Base,.d<|.int .u8 b.Drop,.d<|.sl<|b.More.map eGRawRule])::[],[]⟩
def f7_s2:St:=⟨(1,.ptr 0 0)::(2,.ptr 1 0)::(3,.ptr 2 0)::(4,.osl 3 6 0<|a.Rules.length)::(5,.d<|.int .i64 h)::[],[some<|.box<|bRaw b,some<|.box [.d<|.int .i64 0,.d<|.int .u8 0,.osl 4 6 0<|List.length ([]:List GRule)],some<|.box<|bTable_2 j<|.osl 5 6 0<|j.Rules.length,some<|.arr 6<|a.Rules.map eGRule,some<|.arr 6<|List.map eGRule ([]:List GRule),some<|.arr 6<|j.Rules.map eGRule]⟩
def f7_s3:St:=⟨(1,.ptr 0 0)::(2,.ptr 1 0)::(3,.ptr 2 0)::(4,.osl 3 6 0<|a.Rules.length)::[],[some<|.box<|bRaw b,some<|.box [.d<|.int .i64 0,.d<|.int .u8 0,.osl 4 6 0<|List.length ([]:List GRule)],some<|.box<|bTable_2 r<|.osl 5 6 0<|r.Rules.length,some<|.arr 6<|a.Rules.map eGRule,some<|.arr 6<|List.map eGRule ([]:List GRule),some<|.arr 6<|r.Rules.map eGRule]⟩
def f7_s4:St:=⟨(1,.ptr 0 0)::(2,.ptr 1 0)::(3,.ptr 2 0)::(4,.osl 3 6 0<|a.Rules.length)::(5,.d<|.int .i64 h)::[],[some<|.box<|bRaw b,some<|.box [.d<|.int .i64 0,.d<|.int .u8 0,.osl 4 6 0<|List.length ([]:List GRule)],some<|.box<|bTable_2 m<|.osl 5 6 0<|m.Rules.length,some<|.arr 6<|a.Rules.map eGRule,some<|.arr 6<|List.map eGRule ([]:List GRule),some<|.arr 6<|m.Rules.map eGRule]⟩
def FR2_Made_L1_E:GTable->Ex->St->Prop:=xX 0 0<|λ (y:GTable)=>f7_s3 b a y
def FR2_Made_L1_S:(GTable×Int)->St:=(λ (x:(GTable×Int))=>f7_s2 b a x.1 x.2)
def f7_s5:St:=⟨(1,.ptr 0 0)::(2,.ptr 1 0)::(3,.ptr 2 0)::(4,.osl 3 6 0<|a.Rules.length)::(6,.d<|.int .i64 g)::[],[some<|.box<|bRaw b,some<|.box [.d<|.int .i64 0,.d<|.int .u8 0,.osl 4 6 0<|List.length ([]:List GRule)],some<|.box<|bTable_2 i<|.osl 5 6 0<|i.Rules.length,some<|.arr 6<|a.Rules.map eGRule,some<|.arr 6<|List.map eGRule ([]:List GRule),some<|.arr 6<|i.Rules.map eGRule]⟩
def f7_s6:St:=⟨(2,.ptr 0 0)::(3,.ptr 1 0)::(4,.osl 2 6 0<|a.Rules.length)::[],[some<|.box [.d<|.int .i64 0,.d<|.int .u8 0,.osl 3 6 0<|List.length ([]:List GRule)],some<|.box<|bTable_2 t<|.osl 4 6 0<|t.Rules.length,some<|.arr 6<|a.Rules.map eGRule,some<|.arr 6<|List.map eGRule ([]:List GRule),some<|.arr 6<|t.Rules.map eGRule]⟩
def f7_s7:St:=⟨(1,.ptr 0 0)::(2,.ptr 1 0)::(3,.ptr 2 0)::(4,.osl 3 6 0<|a.Rules.length)::(6,.d<|.int .i64 g)::[],[some<|.box<|bRaw b,some<|.box [.d<|.int .i64 0,.d<|.int .u8 0,.osl 4 6 0<|List.length ([]:List GRule)],some<|.box<|bTable_2 o<|.osl 5 6 0<|o.Rules.length,some<|.arr 6<|a.Rules.map eGRule,some<|.arr 6<|List.map eGRule ([]:List GRule),some<|.arr 6<|o.Rules.map eGRule]⟩
def FR2_Made_L2_E:GTable->Ex->St->Prop:=xX 0 2<|λ (y:GTable)=>f7_s6 a y
def FR2_Made_L2_S:(GTable×Int)->St:=(λ (x:(GTable×Int))=>f7_s5 b a x.1 x.2)
def f7_s8:St:=⟨(2,.ptr 0 0)::(3,.ptr 1 0)::[],[some<|.box [.d<|.int .i64 0,.d<|.int .u8 0,.osl 2 6 0<|List.length ([]:List GRule)],some<|.box<|bTable_2 p<|.osl 3 6 0<|p.Rules.length,some<|.arr 6<|List.map eGRule ([]:List GRule),some<|.arr 6<|p.Rules.map eGRule]⟩
variable {b a j h r m i g t o p}
theorem FR2_Made_L1_ok (x:(GTable×Int)) (z:((GTable×Int)⊕GTable)) (H:FR2_Made_L1 n b a x.1 x.2=some z):WP (cxk 77 0) (bodyOf Tryz.f7) [1,1,1,1,0,1,0,0] (roundQ 0 (FR2_Made_L1_S b a) (FR2_Made_L1_E b a) z) (FR2_Made_L1_S b a x):=by
 obtain ⟨j,h⟩:=x;refine sq<|sr<|ck 4<|en<|cn H (λ H=>?_)<|λ H=>?_
 ·refine sk<|qz<|sj (λ (x:GTable)=>f7_s4 b a h x) (λ (x:GTable)=>FR2_Made_J1 n h x) z ?_ (λ c=>?_)
  ·intro m H;exact rz<|ck 3<|ae (by cases H;exact og<|sg [1,2,3,4,5])
  refine bk 1<|sr<|ck 3<|bx H λ R B H=>so (guard_ge B)<|ck 2<|en<|cn H (λ H=>?_)<|λ H=>?_
  ·exact rz<|ck 4<|bx H λ S u H=>sp (at_idxO 3 6 u)<|sp (at_ldA eGRule 3 0 (ty 67) u)<|ck 1<|bx H λ Q C H=>sp (at_appO eGRule 5 6 C)<|ck 2<|ae<|qN<|qs (sg [1,2,3,4,5])<|c ({ Modes:=j.Modes,Accept:=j.Accept,Rules:=Q }:GTable) H
  ·exact sk<|qN<|qs (sg [1,2,3,4,5])<|c j H
 ·exact ex 0<|qx (by cases H;exact xo rfl<|sg [1,2,3,4])
theorem FR2_Made_L2_ok (x:(GTable×Int)) (z:((GTable×Int)⊕GTable)) (H:FR2_Made_L2 n b a x.1 x.2=some z):WP (cxk 77 0) (bodyOf Tryz.f7) [1,1,1,1,1,0,1,0,0] (roundQ 0 (FR2_Made_L2_S b a) (FR2_Made_L2_E a) z) (FR2_Made_L2_S b a x):=by
 obtain ⟨i,g⟩:=x;refine sq<|sr<|ck 3<|sp (at_len eGRawRule b.More)<|ck 3<|gc 1 (decide<|g<((b.More.length:Nat):Int))<|pA<|en<|cn H (λ H=>?_)<|λ H=>?_
 ·refine sk<|qz<|sj (λ (x:GTable)=>f7_s7 b a g x) (λ (x:GTable)=>FR2_Made_J2 n g x) z ?_ (λ e=>?_)
  ·intro o H;exact rz<|ck 3<|ae (by cases H;exact og<|sg [1,2,3,4,6])
  refine bk 3<|sr<|ck 5<|bx H λ T E H=>sp (at_idxD eGRawRule E)<|ck 3<|bx H λ U G H=>ca false (FR2_Rule_ok G)<|ck 1<|bx H λ w I H=>sp (at_appO eGRule 5 6 I)<|ck 2<|en<|sr<|ck 1<|bx H λ V J H=>cb (ks:=[7]) (obl:=[(0+List.length w,List.length<|w.map eGRule)]) false (leK leM<|leZ) (consE (aggE<|consE rfl<|consE rfl<|consE takeE rfl) rfl) (FR2_Valid_ok J) (Or.inr trivial) rfl<|ck 1<|en<|cn H (λ H=>?_)<|λ H=>?_
  ·exact rz<|ck 6<|bx H λ A l H=>sp (at_slO 7 6 l)<|ck 2<|ae<|qN<|qs (tr (sh_subc (k:=7) (sz:=6) 2 2 (A.map eGRule) (A.length) (by kernel_rfl) (sub_cut l) (sub_le (enc:=eGRule) l)<|sub_len l)<|sg [1,2,3,4,6])<|e ({ Modes:=i.Modes,Accept:=i.Accept,Rules:=A }:GTable) H
  ·exact sk<|qN<|qs (sg [1,2,3,4,6])<|e ({ Modes:=i.Modes,Accept:=i.Accept,Rules:=w }:GTable) H
 ·exact ex 2<|qx (by cases H;exact xo rfl<|sg [2,3,4])
theorem FR2_Made_ok {z} (H:FR2_Made n b=some z):CallOK Tryz.prog 7 [.agg (bRaw b)] (.agg [.d (.int .i64 z.Modes),.d (.int .u8 z.Accept),.own 6 (z.Rules.map eGRule)]):=by
 refine fO 77 (f7_s1 b) Tryz.func7<|sr<|ck 2<|en<|sr<|ck 2<|bx H λ a K H=>cl [List.length a.Rules] (FR2_Base_ok K)<|ck 2<|en<|sr<|ck 3<|en<|sr<|ck 3<|en<|sq<|sr<|ck 1<|en<|bk 0<|bx H λ W L H=>lX FR2_Made_L1_ok L (tr (sh_nilc 1 2 6 (by kernel_rfl))<|sg [1,2,3,4,5]) rfl λ s M=>qH<|qs (M)<|sq<|sr<|ck 1<|en<|bk 2<|bx H λ q O H=>lX FR2_Made_L2_ok O (sg [1,2,3,4,6]) rfl λ s P=>qH<|qs (P)<|sj (λ (x:GTable)=>f7_s8 x) (λ (x:GTable)=>FR2_Made_J3 n x) z ?_ (λ f=>?_)
 ·intro p H;exact sr<|ck 2<|en<|re (by cases H;exact pr<|rO (v:=.agg [.d<|.int .i64 z.Modes,.d<|.int .u8 z.Accept,.osl 3 6 0<|z.Rules.length]) [3]<|a1<|c1 vd<|c1 vd<|c1 vo<|c0)
 refine sr<|ck 4<|en<|cn H (λ H=>?_)<|λ H=>?_
 ·exact rz<|ck 3<|ae<|qs (sg [2,3])<|f ({ Modes:=q.Modes,Accept:=q.Accept,Rules:=a.Rules }:GTable) H
 ·exact sk<|qs (sg [2,3])<|f q H
end
section
variable (e:GTable) (c:(List Int)) (f:(List UInt8)) (a:Int) (i:(List UInt8)) (h:(List UInt8))
def f8_s1:St:=⟨(0,.agg [.d<|.int .i64 e.Modes,.d<|.int .u8 e.Accept,.d<|.sl<|e.Rules.map eGRule])::(1,.d<|.sl<|c.map eU8)::[],[]⟩
def f8_s2:St:=⟨(1,.d<|.sl<|c.map eU8)::(2,.ptr 0 0)::(5,.d<|.str f)::(6,.d<|.int .i64 a)::[],[some<|.box<|bTable e]⟩
def f8_s3:St:=⟨(5,.d<|.str i)::[],[]⟩
def f8_s4:St:=⟨(1,.d<|.sl<|c.map eU8)::(2,.ptr 0 0)::(5,.d<|.str h)::(6,.d<|.int .i64 a)::[],[some<|.box<|bTable e]⟩
def FR2_Spelled_L1_E:(List UInt8)->Ex->St->Prop:=xX 0 0<|λ (y:(List UInt8))=>f8_s3 y
def FR2_Spelled_L1_S:((List UInt8)×Int)->St:=(λ (x:((List UInt8)×Int))=>f8_s2 e c x.1 x.2)
variable {e c f a i h}
theorem FR2_Spelled_L1_ok (x:((List UInt8)×Int)) (z:(((List UInt8)×Int)⊕(List UInt8))) (H:FR2_Spelled_L1 n e c x.1 x.2=some z):WP (cxk 48 0) (bodyOf Tryz.f8) [1,1,0,1,0,0] (roundQ 0 (FR2_Spelled_L1_S e c) (FR2_Spelled_L1_E) z) (FR2_Spelled_L1_S e c x):=by
 obtain ⟨f,a⟩:=x;refine sq<|sr<|ck 2<|sp (at_len eU8 c)<|ck 3<|gc 1 (decide<|a<((c.length:Nat):Int))<|pA<|ck 2<|gc 1 ((decide<|a<((c.length:Nat):Int))&&(decide<|a<12))<|sE (g:=((decide<|a<((c.length:Nat):Int))&&(decide<|a<12))) (λ hg=>at_len eGRule e.Rules)<|gc 1 ((decide<|a<((c.length:Nat):Int))&&(decide<|a<12))<|pA<|en<|cn H (λ H=>?_)<|λ H=>?_
 ·refine sk<|qz<|sj (λ (x:(List UInt8))=>f8_s4 e c a x) (λ (x:(List UInt8))=>FR2_Spelled_J1 n a x) z ?_ (λ b=>?_)
  ·intro h H;exact rz<|ck 3<|ae (by cases H;exact og<|sg [1,2,5,6])
  refine bk 1<|sr<|ck 4<|bx H λ r j H=>sp (at_idxD eU8 j)<|ck 4<|sp (at_len eGRule e.Rules)<|bx H λ t k H=>so (guard_nz k)<|bx H λ u l H=>sp (at_idxD eGRule l)<|ck 3<|en<|sr<|ck 6<|en<|cn H (λ H=>?_)<|λ H=>?_
  ·exact rz<|ck 2<|bx H λ q m H=>sp (at_cat m)<|ck 1<|ae<|qN<|qs (sg [1,2,5,6])<|b q H
  ·exact sk<|qN<|qs (sg [1,2,5,6])<|b f H
 ·exact ex 0<|qx (by cases H;exact xo rfl<|sg [5])
theorem FR2_Spelled_ok {z} (H:FR2_Spelled n e c=some z):CallOK Tryz.prog 8 [.agg (bTable e),.d (.sl (c.map eU8))] (.d (.str z)):=by
 exact fO 48 (f8_s1 e c) Tryz.func8<|sr<|ck 2<|en<|sr<|ck 1<|en<|sq<|sr<|ck 1<|en<|bk 0<|bx H λ v o H=>lX FR2_Spelled_L1_ok o (sg [1,2,5,6]) rfl λ s p=>qH<|qs (p)<|sr<|ck 2<|en<|re (by cases H;exact pr rd)
end
def f38_s0:St:=⟨[],[]⟩
theorem FR3_Start_ok {z} (H:FR3_Start n=some z):CallOK Tryz.prog 38 [] (.agg [.d (.int .i64 z.Mode),.d (.int .i64 z.Last),.d (.int .u8 z.Need)]):=by
 exact fO 2 f38_s0 Tryz.func38<|sr<|ck 1<|en<|sr<|ck 2<|en<|re (by cases H;exact pr rd)
section
variable (b:Int) (a:Int)
def f68_s1:St:=⟨(0,.d<|.int .u8 b)::(1,.d<|.int .i64 a)::[],[]⟩
variable {b a}
theorem FR3_Bit_ok {z} (H:FR3_Bit n b a=some z):CallOK Tryz.prog 68 [.d (.int .u8 b),.d (.int .i64 a)] (.d (.bool z)):=by
 exact fO 18 (f68_s1 b a) Tryz.func68<|sr<|ck 1<|en<|sr<|ck 4<|gc 1 (decide<|a>=0)<|pA<|ck 3<|bx H λ e c H=>soG (λ hg=>guard_ge<|gimp c hg) (impK (λ hh=>hh)<|impK (λ hh=>hh)<|impZ)<|gc 2 ((decide<|a>=0)&&(decide<|a<8))<|pA<|ck 1<|en<|re (by cases H;exact pr rd)
end
section
variable (a:Int)
def f67_s1:St:=⟨(0,.d<|.int .u8 a)::[],[]⟩
variable {a}
theorem FR2_Class_ok {z} (H:FR2_Class n a=some z):CallOK Tryz.prog 67 [.d (.int .u8 a)] (.d (.int .i64 z)):=by
 refine fO 26 (f67_s1 a) Tryz.func67<|sr<|ck 1<|en<|sr<|ck 3<|en<|sq<|sr<|ck 4<|gc 1 (decide<|iand .u8 a 127>=97)<|pA<|en<|cn H (λ H=>?_)<|λ H=>?_
 ·exact sr<|ck 1<|en<|re<|qr (by cases H;exact pr rd)
 ·refine sk<|qz<|sq<|sr<|ck 4<|gc 1 (decide<|iand .u8 a 127>=65)<|pA<|en<|cn H (λ H=>?_)<|λ H=>?_
  ·exact sr<|ck 1<|en<|re<|qr (by cases H;exact pr rd)
  ·refine sk<|qz<|sq<|sr<|ck 4<|gc 1 (decide<|iand .u8 a 127>=48)<|pA<|en<|cn H (λ H=>?_)<|λ H=>?_
   ·exact sr<|ck 1<|en<|re<|qr (by cases H;exact pr rd)
   ·refine sk<|qz<|sq<|sr<|ck 2<|en<|cn H (λ H=>?_)<|λ H=>?_
    ·exact sr<|ck 1<|en<|re<|qr (by cases H;exact pr rd)
    ·exact sk<|qz<|sr<|ck 1<|en<|re (by cases H;exact pr rd)
end
section
variable (b:GTable) (a:GState) (c:Int)
def f41_s1:St:=⟨(0,.agg [.d<|.int .i64 b.Modes,.d<|.int .u8 b.Accept,.d<|.sl<|b.Rules.map eGRule])::(1,.agg [.d<|.int .i64 a.Mode,.d<|.int .i64 a.Last,.d<|.int .u8 a.Need])::(2,.d<|.int .i64 c)::[],[]⟩
variable {b a c}
theorem FR3_Step_ok {z} (H:FR3_Step n b a c=some z):CallOK Tryz.prog 41 [.agg (bTable b),.agg (bState a),.d (.int .i64 c)] (.tup [.agg [.d (.int .i64 z.1.Mode),.d (.int .i64 z.1.Last),.d (.int .u8 z.1.Need)],.d (.bool z.2)]):=by
 refine fO 87 (f41_s1 b a c) Tryz.func41<|sr<|ck 4<|en<|sq<|sr<|ck 5<|gc 1 (!(decide<|c<0))<|sE (g:=(!(decide<|c<0))) (λ hg=>at_len eGRule b.Rules)<|gc 1 (!(decide<|c<0))<|pO<|en<|cn H (λ H=>?_)<|λ H=>?_
 ·exact sr<|ck 3<|en<|re<|qr (by cases H;exact pr rdT)
 ·refine sk<|qz<|sr<|ck 3<|bx H λ e f H=>sp (at_idxD eGRule f)<|ck 3<|en<|sq<|sr<|ck 7<|gc 1 (!(e.From != a.Mode))<|ck 1<|gc 1 (!(e.From != a.Mode))<|bx H λ o h H=>cG false (leZ) rfl (λ hg=>FR3_Bit_ok<|gimp h hg) (Or.inl rfl) (impK (λ hh=>hh)<|impK (λ hh=>hh)<|impZ) rfl<|gc 1 (!(e.From != a.Mode))<|pO<|en<|cn H (λ H=>?_)<|λ H=>?_
  ·exact sr<|ck 3<|en<|re<|qr (by cases H;exact pr rdT)
  ·refine sk<|qz<|sq<|sr<|ck 6<|gc 1 (((e.Print.length:Nat):Int)==0)<|ck 1<|gc 3 (((e.Print.length:Nat):Int)==0)<|pA<|en<|cn H (λ H=>?_)<|λ H=>?_
   ·exact sr<|ck 3<|en<|re<|qr (by cases H;exact pr rdT)
   ·refine sk<|qz<|sq<|sr<|ck 4<|en<|cn H (λ H=>?_)<|λ H=>?_
    ·exact sr<|ck 12<|en<|re<|qr (by cases H;exact pr rdT)
    ·refine sk<|qz<|sq<|sr<|ck 4<|bx H λ s i H=>sp (at_sidx i)<|bx H λ p j H=>ca false (FR2_Class_ok j)<|bx H λ q k H=>ca false (FR3_Bit_ok k)<|ck 1<|en<|cn H (λ H=>?_)<|λ H=>?_
     ·exact sr<|ck 3<|en<|re<|qr (by cases H;exact pr rdT)
     ·exact sk<|qz<|sr<|ck 8<|bx H λ t l H=>sp (at_sidx l)<|bx H λ r m H=>ca false (FR2_Class_ok m)<|ck 5<|en<|re (by cases H;exact pr rdT)
end
section
variable (b:(List GState)) (a:GState) (c:Int)
def f39_s1:St:=⟨(0,.d<|.sl<|b.map eGState)::(1,.agg [.d<|.int .i64 a.Mode,.d<|.int .i64 a.Last,.d<|.int .u8 a.Need])::[],[]⟩
def f39_s2:St:=⟨(0,.d<|.sl<|b.map eGState)::(3,.ptr 0 0)::(5,.d<|.int .i64 c)::[],[some<|.box<|bState a]⟩
def f39_s3:St:=⟨[],[]⟩
def FR3_Index_L1_E:(Unit⊕Int)->Ex->St->Prop:=xS (xX 0 0<|λ (_:Unit)=>f39_s3)<|xR ty Tryz.f39<|λ (y:Int)=>.d<|.int .i64 y
def FR3_Index_L1_S:Int->St:=(λ (x:Int)=>f39_s2 b a x)
variable {b a c}
theorem FR3_Index_L1_ok (x:Int) (z:(Int⊕(Unit⊕Int))) (H:FR3_Index_L1 n b a x=some z):WP (cxk 19 0) (bodyOf Tryz.f39) [1,0,1,0,0] (roundQ 0 (FR3_Index_L1_S b a) (FR3_Index_L1_E) z) (FR3_Index_L1_S b a x):=by
 revert H;generalize x=c;intro H;refine sq<|sr<|ck 2<|sp (at_len eGState b)<|ck 1<|en<|cn H (λ H=>?_)<|λ H=>?_
 ·refine sk<|qz<|sq<|bk 1<|sr<|ck 2<|bx H λ j f H=>sp (at_idxD eGState f)<|ck 3<|en<|cn H (λ H=>?_)<|λ H=>?_
  ·exact sr<|ck 2<|en<|re<|qR<|qr (by cases H;exact ro rfl rd)
  ·exact sk<|qN<|qz<|rz<|ck 3<|ae (by cases H;exact og<|sg [0,3,5])
 ·exact ex 0<|qx (by cases H;exact xo rfl<|sg [])
theorem FR3_Index_ok {z} (H:FR3_Index n b a=some z):CallOK Tryz.prog 39 [.d (.sl (b.map eGState)),.agg (bState a)] (.d (.int .i64 z)):=by
 refine fO 19 (f39_s1 b a) Tryz.func39<|sr<|ck 2<|en<|sq<|sr<|ck 1<|en<|bk 0<|bx H λ g e H=>?_;rcases g with k|l
 ·exact lX FR3_Index_L1_ok e (sg [0,3,5]) rfl λ s h=>qH<|qs (h)<|sr<|ck 1<|en<|re (by cases H;exact pr rd)
 ·exact lR FR3_Index_L1_ok e (sg [0,3,5]) rfl λ s i=>qR<|qr (by cases H;exact pr i)
end
section
variable (a:GTable) (g:(List GState)) (b:Int) (i:(List GState)) (c:(List GState)) (j:Int) (h:(List GState)) (f:(List GState))
def f37_s1:St:=⟨(0,.agg [.d<|.int .i64 a.Modes,.d<|.int .u8 a.Accept,.d<|.sl<|a.Rules.map eGRule])::[],[]⟩
def f37_s2:St:=⟨(1,.ptr 0 0)::(3,.osl 1 3 0<|g.length)::(4,.d<|.int .i64 b)::[],[some<|.box<|bTable a,some<|.arr 3<|g.map eGState]⟩
def f37_s3:St:=⟨(3,.osl 0 3 0<|i.length)::[],[some<|.arr 3<|i.map eGState]⟩
def f37_s4:St:=⟨(1,.ptr 0 0)::(3,.osl 1 3 0<|c.length)::(4,.d<|.int .i64 b)::(5,.d<|.int .i64 j)::[],[some<|.box<|bTable a,some<|.arr 3<|c.map eGState]⟩
def f37_s5:St:=⟨(1,.ptr 0 0)::(3,.osl 1 3 0<|h.length)::(4,.d<|.int .i64 b)::[],[some<|.box<|bTable a,some<|.arr 3<|h.map eGState]⟩
def f37_s6:St:=⟨(1,.ptr 0 0)::(3,.osl 1 3 0<|f.length)::(4,.d<|.int .i64 b)::(5,.d<|.int .i64 j)::[],[some<|.box<|bTable a,some<|.arr 3<|f.map eGState]⟩
def FR3_States_L2_E:(List GState)->Ex->St->Prop:=xX 0 2<|λ (y:(List GState))=>f37_s5 a b y
def FR3_States_L2_S:((List GState)×Int)->St:=(λ (x:((List GState)×Int))=>f37_s4 a b x.1 x.2)
def FR3_States_L1_E:(List GState)->Ex->St->Prop:=xX 0 0<|λ (y:(List GState))=>f37_s3 y
def FR3_States_L1_S:((List GState)×Int)->St:=(λ (x:((List GState)×Int))=>f37_s2 a x.1 x.2)
variable {a g b i c j h f}
theorem FR3_States_L2_ok (x:((List GState)×Int)) (z:(((List GState)×Int)⊕(List GState))) (H:FR3_States_L2 n a b x.1 x.2=some z):WP (cxk 45 0) (bodyOf Tryz.f37) [1,1,0,1,0,0,1,0,0,1,0,0] (roundQ 0 (FR3_States_L2_S a b) (FR3_States_L2_E a b) z) (FR3_States_L2_S a b x):=by
 obtain ⟨c,j⟩:=x;refine sq<|sr<|ck 3<|sp (at_len eGRule a.Rules)<|ck 1<|en<|cn H (λ H=>?_)<|λ H=>?_
 ·refine sk<|qz<|sj (λ (x:(List GState))=>f37_s6 a b j x) (λ (x:(List GState))=>FR3_States_J1 n j x) z ?_ (λ e=>?_)
  ·intro f H;exact rz<|ck 3<|ae (by cases H;exact og<|sg [1,3,4,5])
  refine bk 3<|sr<|ck 3<|bx H λ B k H=>sp (at_idxO 1 3 k)<|sp (at_ldA eGState 1 0 (ty 93) k)<|ck 1<|bx H λ l m H=>ca false (FR3_Step_ok m)<|ck 6<|en<|sr<|ck 4<|bx H λ C o H=>cG (ks:=[1]) (obl:=[(0+List.length c,List.length<|c.map eGState)]) false (leK leM<|leZ) (consE takeE<|consE rfl rfl) (λ hg=>FR3_Index_ok<|gimp o hg) (Or.inr trivial) (impK (λ hh=>hh)<|impK (λ hh=>hh)<|impZ) rfl<|gc 1 l.2<|pA<|en<|cn H (λ H=>?_)<|λ H=>?_
  ·exact rz<|ck 3<|bx H λ A p H=>sp (at_appO eGState 1 3 p)<|ck 1<|ae<|qN<|qs (sg [1,3,4,5])<|e A H
  ·exact sk<|qN<|qs (sg [1,3,4,5])<|e c H
 ·exact ex 2<|qx (by cases H;exact xo rfl<|sg [1,3,4])
theorem FR3_States_L1_ok (x:((List GState)×Int)) (z:(((List GState)×Int)⊕(List GState))) (H:FR3_States_L1 n a x.1 x.2=some z):WP (cxk 45 0) (bodyOf Tryz.f37) [1,1,0,1,0,0] (roundQ 0 (FR3_States_L1_S a) (FR3_States_L1_E) z) (FR3_States_L1_S a x):=by
 obtain ⟨g,b⟩:=x;refine sq<|sr<|ck 4<|en<|cn H (λ H=>?_)<|λ H=>?_
 ·exact sk<|qz<|sq<|bk 1<|sr<|ck 1<|en<|bk 2<|bx H λ E q H=>lX FR3_States_L2_ok q (sg [1,3,4,5]) rfl λ s r=>qH<|qN<|qs (r)<|rz<|ck 3<|ae (by cases H;exact og<|sg [1,3,4])
 ·exact ex 0<|qx (by cases H;exact xo rfl<|sg [3])
theorem FR3_States_ok {z} (H:FR3_States n a=some z):CallOK Tryz.prog 37 [.agg (bTable a)] (.own 3 (z.map eGState)):=by
 exact fO 45 (f37_s1 a) Tryz.func37<|sr<|ck 2<|en<|sr<|bx H λ G t H=>ca false (FR3_Start_ok t)<|ck 2<|en<|sq<|sr<|ck 1<|en<|bk 0<|bx H λ I u H=>lX FR3_States_L1_ok u (sg [1,3,4]) rfl λ s w=>qH<|qs (w)<|sr<|ck 2<|en<|re (by cases H;exact pr<|rO (v:=.osl 0 3 0<|z.length) [0]<|ao vo)
end
section
variable (b:GTable) (a:GState)
def f47_s1:St:=⟨(0,.agg [.d<|.int .i64 b.Modes,.d<|.int .u8 b.Accept,.d<|.sl<|b.Rules.map eGRule])::(1,.agg [.d<|.int .i64 a.Mode,.d<|.int .i64 a.Last,.d<|.int .u8 a.Need])::[],[]⟩
variable {b a}
theorem FR3_Accepts_ok {z} (H:FR3_Accepts n b a=some z):CallOK Tryz.prog 47 [.agg (bTable b),.agg (bState a)] (.d (.bool z)):=by
 exact fO 27 (f47_s1 b a) Tryz.func47<|sr<|ck 3<|en<|sr<|ck 5<|gc 1 (decide<|a.Mode>=0)<|ck 1<|gc 2 (decide<|a.Mode>=0)<|pA<|ck 2<|gc 1 ((decide<|a.Mode>=0)&&(decide<|a.Mode<b.Modes))<|ck 1<|gc 1 ((decide<|a.Mode>=0)&&(decide<|a.Mode<b.Modes))<|bx H λ c e H=>cG false (leZ) rfl (λ hg=>FR3_Bit_ok<|gimp e hg) (Or.inl rfl) (impK (λ hh=>hh)<|impK (λ hh=>hh)<|impZ) rfl<|pA<|ck 2<|gc 1 (((decide<|a.Mode>=0)&&(decide<|a.Mode<b.Modes))&&c)<|bx H λ g f H=>cG false (leZ) rfl (λ hg=>FR3_Bit_ok<|gimp f hg) (Or.inl rfl) (impK (λ hh=>hh)<|impZ) rfl<|pA<|ck 1<|en<|re (by cases H;exact pr rd)
end
section
variable (a:(List UInt8)) (b:Int) (c:(List UInt8))
def f66_s1:St:=⟨(0,.d<|.str a)::(1,.d<|.int .i64 b)::(2,.d<|.str c)::[],[]⟩
variable {a b c}
theorem FR6_Begins_ok {z} (H:FR6_Begins n a b c=some z):CallOK Tryz.prog 66 [.d (.str a),.d (.int .i64 b),.d (.str c)] (.d (.bool z)):=by
 exact fO 25 (f66_s1 a b c) Tryz.func66<|sr<|ck 1<|en<|sr<|ck 12<|gc 2 (decide<|iadd .i64 b ((c.length:Nat):Int)<=((a.length:Nat):Int))<|bx H λ f e H=>sE (λ hg=>at_ssub<|gimp e hg)<|ck 1<|gc 1 (decide<|iadd .i64 b ((c.length:Nat):Int)<=((a.length:Nat):Int))<|pA<|ck 1<|en<|re (by cases H;exact pr rd)
end
section
variable (c:GTable) (a:GPoint) (e:Int) (f:(List (List Int)))
def f40_s1:St:=⟨(0,.agg [.d<|.int .i64 c.Modes,.d<|.int .u8 c.Accept,.d<|.sl<|c.Rules.map eGRule])::(1,.agg [.d<|.str a.S,.d<|.int .i64 a.I,.d<|.int .i64 a.State.Mode,.d<|.int .i64 a.State.Last,.d<|.int .u8 a.State.Need,.d<|.sl<|a.L.map eGState])::(2,.d<|.int .i64 e)::(3,.d<|.sl<|f.map<|eL eI64)::[],[]⟩
variable {c a e f}
theorem FR6_After_ok {z} (H:FR6_After n c a e f=some z):CallOK Tryz.prog 40 [.agg (bTable c),.agg (bPoint a),.d (.int .i64 e),.d (.sl (f.map (eL eI64)))] (.d (.int .i64 z)):=by
 refine fO 66 (f40_s1 c a e f) Tryz.func40<|sr<|ck 3<|en<|sr<|ck 4<|bx H λ b g H=>ca false (FR3_Step_ok g)<|ck 6<|en<|sq<|sr<|ck 4<|gc 1 (!(!b.2))<|ck 1<|gc 1 (!(!b.2))<|ck 1<|gc 1 (!(!b.2))<|ck 1<|bx H λ q h H=>sE (λ hg=>at_idxD eGRule<|gimp h hg)<|gc 2 (!(!b.2))<|bx H λ r i H=>cG false (leZ) rfl (λ hg=>FR6_Begins_ok<|gimp i hg) (Or.inl rfl) (impK (λ hh=>hh)<|impK (λ hh=>hh)<|impK (λ hh=>hh)<|impZ) rfl<|gc 1 (!(!b.2))<|pO<|en<|cn H (λ H=>?_)<|λ H=>?_
 ·exact sr<|ck 1<|en<|re<|qr (by cases H;exact pr rd)
 ·refine sk<|qz<|sr<|ck 6<|bx H λ s j H=>sp (at_idxD eGRule j)<|ck 4<|bx H λ t k H=>sp (at_idxD (eL eI64) k)<|ck 4<|bx H λ u l H=>ca false (FR3_Index_ok l)<|bx H λ v m H=>sp (at_idxD eI64 m)<|ck 2<|en<|sq<|sr<|ck 2<|en<|cn H (λ H=>?_)<|λ H=>?_
  ·exact sr<|ck 1<|en<|re<|qr (by cases H;exact pr rd)
  ·exact sk<|qz<|sr<|ck 4<|bx H λ o p H=>sp (at_idxD eGRule p)<|ck 2<|sp (at_len eU8 o.Cells)<|ck 2<|en<|re (by cases H;exact pr rd)
end
section
variable (e:Int) (f:Int)
def f48_s1:St:=⟨(0,.d<|.int .i64 e)::(1,.d<|.int .i64 f)::[],[]⟩
variable {e f}
theorem FR6_least_ok {z} (H:FR6_least n e f=some z):CallOK Tryz.prog 48 [.d (.int .i64 e),.d (.int .i64 f)] (.d (.int .i64 z)):=by
 refine fO 18 (f48_s1 e f) Tryz.func48<|sr<|ck 1<|en<|sq<|sr<|ck 4<|gc 2 (!(decide<|e<0))<|ck 2<|gc 1 ((!(decide<|e<0))&&(decide<|f>=0))<|pG (g:=(!(decide<|e<0))) (v:=.d<|.bool<|(decide<|f>=0)&&(decide<|f<e)) (λ hg=>pick_genz (c:=.gv (!(decide<|e<0))<|.d<|.bool<|decide<|f>=0) (a:=.gv ((!(decide<|e<0))&&(decide<|f>=0))<|.d<|.bool<|decide<|f<e) (b:=.d<|.bool false) rfl rfl rfl ((λ hh=>hh) hg) (λ ht=>by rw [(λ hh=>hh) hg,ht];rfl) trivial)<|pO<|en<|cn H (λ H=>?_)<|λ H=>?_
 ·exact sr<|ck 2<|en<|re<|qr (by cases H;exact pr rd)
 ·exact sk<|qz<|sr<|ck 2<|en<|re (by cases H;exact pr rd)
end
section
variable (f:GTable) (h:(List UInt8)) (c:(List GState)) (i:(List (List Int))) (a:Int) (I:(List (List Int))) (e:(List (List Int))) (Z:Int) (J:(List (List Int))) (A:(List (List Int))) (o:(List (List Int))) (r:Bool) (K:(List (List Int))) (p:(List (List Int))) (u:Bool) (C:Int) (L:(List (List Int))) (E:Bool) (b:(List (List Int))) (m:Bool) (aa:Int) (M:(List (List Int))) (G:Bool) (B:(List (List Int))) (w:Bool)
def f24_s1:St:=⟨(0,.agg [.d<|.int .i64 f.Modes,.d<|.int .u8 f.Accept,.d<|.sl<|f.Rules.map eGRule])::(1,.d<|.str h)::[],[]⟩
def f24_s2:St:=⟨(1,.d<|.str h)::(2,.ptr 0 0)::(5,.d<|.sl<|c.map eGState)::(6,.osl 1 1 0<|i.length)::(7,.d<|.int .i64 a)::[],[some<|.box<|bTable f,some<|.narr 1<|i.map<|nL 1 eI64]⟩
def f24_s3:St:=⟨(6,.osl 0 1 0<|I.length)::[],[some<|.narr 1<|I.map<|nL 1 eI64]⟩
def f24_s4:St:=⟨(1,.d<|.str h)::(2,.ptr 0 0)::(5,.d<|.sl<|c.map eGState)::(6,.osl 1 1 0<|e.length)::(7,.d<|.int .i64 a)::(8,.d<|.int .i64 Z)::[],[some<|.box<|bTable f,some<|.narr 1<|e.map<|nL 1 eI64]⟩
def f24_s5:St:=⟨(1,.d<|.str h)::(2,.ptr 0 0)::(5,.d<|.sl<|c.map eGState)::(6,.osl 1 1 0<|J.length)::(7,.d<|.int .i64 a)::[],[some<|.box<|bTable f,some<|.narr 1<|J.map<|nL 1 eI64]⟩
def f24_s6:St:=⟨(1,.d<|.str h)::(2,.ptr 0 0)::(5,.d<|.sl<|c.map eGState)::(6,.osl 1 1 0<|A.length)::(7,.d<|.int .i64 a)::(8,.d<|.int .i64 Z)::[],[some<|.box<|bTable f,some<|.narr 1<|A.map<|nL 1 eI64]⟩
def FR6_Suffixes_L2_E:(List<|List Int)->Ex->St->Prop:=xX 0 2<|λ (y:(List<|List Int))=>f24_s5 f h c a y
def FR6_Suffixes_L2_S:((List<|List Int)×Int)->St:=(λ (x:((List<|List Int)×Int))=>f24_s4 f h c a x.1 x.2)
def f24_s7:St:=⟨(1,.d<|.str h)::(2,.ptr 0 0)::(5,.d<|.sl<|c.map eGState)::(6,.osl 1 1 0<|o.length)::(7,.d<|.int .i64 a)::(9,.d<|.bool r)::[],[some<|.box<|bTable f,some<|.narr 1<|o.map<|nL 1 eI64]⟩
def f24_s8:St:=⟨(1,.d<|.str h)::(2,.ptr 0 0)::(5,.d<|.sl<|c.map eGState)::(6,.osl 1 1 0<|K.length)::(7,.d<|.int .i64 a)::[],[some<|.box<|bTable f,some<|.narr 1<|K.map<|nL 1 eI64]⟩
def f24_s9:St:=⟨(1,.d<|.str h)::(2,.ptr 0 0)::(5,.d<|.sl<|c.map eGState)::(6,.osl 1 1 0<|p.length)::(7,.d<|.int .i64 a)::(9,.d<|.bool u)::(10,.d<|.int .i64 C)::[],[some<|.box<|bTable f,some<|.narr 1<|p.map<|nL 1 eI64]⟩
def f24_s10:St:=⟨(1,.d<|.str h)::(2,.ptr 0 0)::(5,.d<|.sl<|c.map eGState)::(6,.osl 1 1 0<|L.length)::(7,.d<|.int .i64 a)::(9,.d<|.bool E)::[],[some<|.box<|bTable f,some<|.narr 1<|L.map<|nL 1 eI64]⟩
def f24_s11:St:=⟨(1,.d<|.str h)::(2,.ptr 0 0)::(5,.d<|.sl<|c.map eGState)::(6,.osl 1 1 0<|b.length)::(7,.d<|.int .i64 a)::(9,.d<|.bool m)::(10,.d<|.int .i64 C)::(11,.d<|.int .i64 aa)::[],[some<|.box<|bTable f,some<|.narr 1<|b.map<|nL 1 eI64]⟩
def f24_s12:St:=⟨(1,.d<|.str h)::(2,.ptr 0 0)::(5,.d<|.sl<|c.map eGState)::(6,.osl 1 1 0<|M.length)::(7,.d<|.int .i64 a)::(9,.d<|.bool G)::(10,.d<|.int .i64 C)::[],[some<|.box<|bTable f,some<|.narr 1<|M.map<|nL 1 eI64]⟩
def f24_s13:St:=⟨(1,.d<|.str h)::(2,.ptr 0 0)::(5,.d<|.sl<|c.map eGState)::(6,.osl 1 1 0<|B.length)::(7,.d<|.int .i64 a)::(9,.d<|.bool w)::(10,.d<|.int .i64 C)::(11,.d<|.int .i64 aa)::[],[some<|.box<|bTable f,some<|.narr 1<|B.map<|nL 1 eI64]⟩
def FR6_Suffixes_L5_E:((List<|List Int)×Bool)->Ex->St->Prop:=xX 0 8<|λ (y:((List<|List Int)×Bool))=>f24_s12 f h c a C y.1 y.2
def FR6_Suffixes_L5_S:((List<|List Int)×Bool×Int)->St:=(λ (x:((List<|List Int)×Bool×Int))=>f24_s11 f h c a C x.1 x.2.1 x.2.2)
def FR6_Suffixes_L4_E:((List<|List Int)×Bool)->Ex->St->Prop:=xX 0 6<|λ (y:((List<|List Int)×Bool))=>f24_s10 f h c a y.1 y.2
def FR6_Suffixes_L4_S:((List<|List Int)×Bool×Int)->St:=(λ (x:((List<|List Int)×Bool×Int))=>f24_s9 f h c a x.1 x.2.1 x.2.2)
def FR6_Suffixes_L3_E:(List<|List Int)->Ex->St->Prop:=xX 0 4<|λ (y:(List<|List Int))=>f24_s8 f h c a y
def FR6_Suffixes_L3_S:((List<|List Int)×Bool)->St:=(λ (x:((List<|List Int)×Bool))=>f24_s7 f h c a x.1 x.2)
def FR6_Suffixes_L1_E:(List<|List Int)->Ex->St->Prop:=xX 0 0<|λ (y:(List<|List Int))=>f24_s3 y
def FR6_Suffixes_L1_S:((List<|List Int)×Int)->St:=(λ (x:((List<|List Int)×Int))=>f24_s2 f h c x.1 x.2)
variable {f h c i a I e Z J A o r K p u C L E b m aa M G B w}
theorem FR6_Suffixes_L2_ok (x:((List (List Int))×Int)) (z:(((List (List Int))×Int)⊕(List (List Int)))) (H:FR6_Suffixes_L2 n f h c a x.1 x.2=some z):WP (cxk 116 0) (bodyOf Tryz.f24) [1,1,1,0,1,0,0,1,0,0,1,0,1,0,0] (roundQ 0 (FR6_Suffixes_L2_S f h c a) (FR6_Suffixes_L2_E f h c a) z) (FR6_Suffixes_L2_S f h c a x):=by
 obtain ⟨e,Z⟩:=x;refine sq<|sr<|ck 2<|sp (at_len eGState c)<|ck 1<|en<|cn H (λ H=>?_)<|λ H=>?_
 ·refine sk<|qz<|sj (λ (x:(List<|List Int))=>f24_s6 f h c a Z x) (λ (x:(List<|List Int))=>FR6_Suffixes_J1 n Z x) z ?_ (λ j=>?_)
  ·intro A H;exact rz<|ck 3<|ae (by cases H;exact og<|gP [1,2,5,6,7,8] [0,1]<|po1<|pn1 (nL 1 eI64) A<|Pl.z)
  refine bk 3<|sq<|bx H λ R V H=>rg (tr (so1 (encN:=(nL 1 eI64)) 1 1 V)<|sno (encN:=(nL 1 eI64)) (enc:=eI64) V [.own 1<|R.map eI64] R 1 1 0 1)<|ck 2<|sp (at_idxO 1 1 V)<|sp (at_ldN (encN:=(nL 1 eI64)) (row:=[.osl 2 1 0<|R.length]) (k:=1) (sz:=1) (off:=0) (t:=ty 35) (v:=.osl 2 1 0<|R.length) V)<|ck 1<|bx H λ bj ah H=>sp (at_idxO 2 1 ah)<|bx H λ q ab H=>stA eI64 2 0 (ty 3) ah ab<|en<|sq<|rg (tr (tr (tr (tr (tr (sn 40 2 1<|put_len ab)<|snr (encN:=(nL 1 eI64)) (xs:=e) (n:=a) [.osl 2 1 0<|R.length] 1 1 0 2 1<|put_len ab)<|sni (encN:=(nL 1 eI64)) (xs:=e) (n:=a) (enc:=eI64) [.osl 2 1 0<|q.length] q 1 1 0 2 1)<|scl (encN:=(nL 1 eI64)) (xss:=e) a [.own 1<|q.map eI64] 1 1 q)<|sn 6 1 1<|lsS e a.toNat q)<|sn 37 1 1<|lsS e a.toNat q)<|ck 8<|bx H λ bl ar H=>sE (λ hg=>at_idxD eGState<|gimp ar hg)<|gc 1 (a==((h.length:Nat):Int))<|bx H λ bm au H=>cG false (leZ) rfl (λ hg=>FR3_Accepts_ok<|gimp au hg) (Or.inl rfl) (impK (λ hh=>hh)<|impK (λ hh=>hh)<|impZ) rfl<|pA<|en<|cn H (λ H=>?_)<|λ H=>?_
  ·exact bx H λ S W H=>rg (tr (so1 (encN:=(nL 1 eI64)) 1 1 W)<|sno (encN:=(nL 1 eI64)) (enc:=eI64) W [.own 1<|S.map eI64] S 1 1 0 1)<|ck 2<|sp (at_idxO 1 1 W)<|sp (at_ldN (encN:=(nL 1 eI64)) (row:=[.osl 3 1 0<|S.length]) (k:=1) (sz:=1) (off:=0) (t:=ty 35) (v:=.osl 3 1 0<|S.length) W)<|ck 1<|bx H λ bn ai H=>sp (at_idxO 3 1 ai)<|bx H λ O ac H=>stA eI64 3 0 (ty 3) ai ac<|ae<|qN<|qs (tr (tr (tr (tr (tr (tr (tr (sn 58 3 1<|put_len ac)<|snr (encN:=(nL 1 eI64)) (xs:=List.set e a.toNat q) (n:=a) [.osl 3 1 0<|S.length] 1 1 0 3 1<|put_len ac)<|sni (encN:=(nL 1 eI64)) (xs:=List.set e a.toNat q) (n:=a) (enc:=eI64) [.osl 3 1 0<|O.length] O 1 1 0 3 1)<|scl (encN:=(nL 1 eI64)) (xss:=List.set e a.toNat q) a [.own 1<|O.map eI64] 1 1 O)<|sn 6 1 1<|lsS (List.set e a.toNat q) a.toNat O)<|sn 37 1 1<|lsS (List.set e a.toNat q) a.toNat O)<|sn 55 1 1<|lsS (List.set e a.toNat q) a.toNat O)<|gP [1,2,5,6,7,8] [0,1]<|po1<|pn1 (nL 1 eI64) (List.set (List.set e a.toNat q) a.toNat O)<|Pl.z)<|j (List.set (List.set e a.toNat q) a.toNat O) H
  ·exact sk<|qN<|qs (gP [1,2,5,6,7,8] [0,1]<|po1<|pn1 (nL 1 eI64) (List.set e a.toNat q)<|Pl.z)<|j (List.set e a.toNat q) H
 ·exact ex 2<|qx (by cases H;exact xo rfl<|gP [1,2,5,6,7] [0,1]<|po1<|pn1 (nL 1 eI64) e<|Pl.z)
theorem FR6_Suffixes_L5_ok (x:((List (List Int))×Bool×Int)) (z:(((List (List Int))×Bool×Int)⊕((List (List Int))×Bool))) (H:FR6_Suffixes_L5 n f h c a C x.1 x.2.1 x.2.2=some z):WP (cxk 116 0) (bodyOf Tryz.f24) [1,1,1,0,1,0,0,1,0,0,1,1,1,0,0,1,0,1,1,0,0,1,0,0,1,0,0] (roundQ 0 (FR6_Suffixes_L5_S f h c a C) (FR6_Suffixes_L5_E f h c a C) z) (FR6_Suffixes_L5_S f h c a C x):=by
 obtain ⟨b,m,aa⟩:=x;refine sq<|sr<|ck 3<|sp (at_len eGRule f.Rules)<|ck 1<|en<|cn H (λ H=>?_)<|λ H=>?_
 ·refine sk<|qz<|sj (λ (x:((List<|List Int)×Bool))=>f24_s13 f h c a C aa x.1 x.2) (λ (x:((List<|List Int)×Bool))=>FR6_Suffixes_J2 n aa x.1 x.2) z ?_ (λ l=>?_)
  ·rintro ⟨B,w⟩ H;exact rz<|ck 3<|ae (by cases H;exact og<|gP [1,2,5,6,7,9,10,11] [0,1]<|po1<|pn1 (nL 1 eI64) B<|Pl.z)
  refine bk 9<|sr<|ck 5<|bx H λ bp av H=>sp (at_idxD eGState av)<|ck 5<|bx H λ T aw H=>cb (ks:=[1]) (obl:=[(0+List.length b,List.length<|b.map<|nL 1 eI64),(cntN<|b.map<|nL 1 eI64,0)]) false (leK leN<|leK (cntM λ _=>rfl)<|leZ) (consE rfl<|consE rfl<|consE rfl<|consE (takeN (encN:=(nL 1 eI64)) (encD:=(eL eI64)) λ _=>rfl) rfl) (FR6_After_ok aw) (Or.inr trivial) rfl<|ck 1<|en<|sq<|rg (tr (so0 (encN:=(nL 1 eI64)) (xss:=b) 1 1 a ([]:(List Int)))<|snT (encN:=(nL 1 eI64)) (xss:=b) (n:=a) (d:=([]:(List Int))) (enc:=eI64) (λ x=>x) [.own 1<|List.map eI64<|List.getD b a.toNat []] 1 1 0 1)<|ck 5<|bx H λ bq aj H=>sE (λ hg=>at_idxO 1 1<|gimp aj hg)<|sE (g:=decide<|T>=0) (λ hg=>at_ldN (encN:=(nL 1 eI64)) (row:=[.osl 2 1 0<|List.length<|List.getD b a.toNat []]) (k:=1) (sz:=1) (off:=0) (t:=ty 35) (v:=.osl 2 1 0<|List.length<|List.getD b a.toNat [])<|gimp aj hg)<|ck 1<|bx H λ br ak H=>sE (λ hg=>at_idxO 2 1<|gimp ak hg)<|sE (g:=decide<|T>=0) (λ hg=>at_ldA eI64 2 0 (ty 3)<|gimp ak hg)<|ck 1<|bx H λ bt ay H=>cG false (leZ) rfl (λ hg=>FR6_least_ok<|gimp ay hg) (Or.inl rfl) (impK (λ hh=>hh)<|impK (λ hh=>hh)<|impZ) rfl<|ck 2<|bx H λ bu al H=>sE (λ hg=>at_idxO 1 1<|gimp al hg)<|sE (g:=decide<|T>=0) (λ hg=>at_ldN (encN:=(nL 1 eI64)) (row:=[.osl 2 1 0<|List.length<|List.getD b a.toNat []]) (k:=1) (sz:=1) (off:=0) (t:=ty 35) (v:=.osl 2 1 0<|List.length<|List.getD b a.toNat [])<|gimp al hg)<|ck 1<|bx H λ bv am H=>sE (λ hg=>at_idxO 2 1<|gimp am hg)<|sE (g:=decide<|T>=0) (λ hg=>at_ldA eI64 2 0 (ty 3)<|gimp am hg)<|gc 1 (decide<|T>=0)<|pA<|en<|cn H (λ H=>?_)<|λ H=>?_
  ·exact sq<|bx H λ U X H=>rg (tr (tr (tr (tr (tr (sni (encN:=(nL 1 eI64)) (xs:=b) (n:=a) (enc:=eI64) [.osl 2 1 0<|List.length<|List.getD b a.toNat []] (List.getD b a.toNat []) 1 1 0 2 1)<|scl (encN:=(nL 1 eI64)) (xss:=b) a [.own 1<|List.map eI64<|List.getD b a.toNat []] 1 1<|List.getD b a.toNat [])<|sn 6 1 1<|lsS b a.toNat<|List.getD b a.toNat [])<|sn 85 1 1<|lsS b a.toNat<|List.getD b a.toNat [])<|so1 (encN:=(nL 1 eI64)) 1 1 X)<|sno (encN:=(nL 1 eI64)) (enc:=eI64) X [.own 1<|U.map eI64] U 1 1 0 1)<|ck 2<|sp (at_idxO 1 1 X)<|sp (at_ldN (encN:=(nL 1 eI64)) (row:=[.osl 3 1 0<|U.length]) (k:=1) (sz:=1) (off:=0) (t:=ty 35) (v:=.osl 3 1 0<|U.length) X)<|ck 2<|bx H λ bw ap H=>sp (at_idxO 3 1 ap)<|bx H λ P af H=>stA eI64 3 0 (ty 3) ap af<|en<|rg (tr (tr (tr (tr (tr (tr (sn 111 3 1<|put_len af)<|snr (encN:=(nL 1 eI64)) (xs:=List.set b a.toNat<|List.getD b a.toNat []) (n:=a) [.osl 3 1 0<|U.length] 1 1 0 3 1<|put_len af)<|sni (encN:=(nL 1 eI64)) (xs:=List.set b a.toNat<|List.getD b a.toNat []) (n:=a) (enc:=eI64) [.osl 3 1 0<|P.length] P 1 1 0 3 1)<|scl (encN:=(nL 1 eI64)) (xss:=List.set b a.toNat<|List.getD b a.toNat []) a [.own 1<|P.map eI64] 1 1 P)<|sn 6 1 1<|lsS (List.set b a.toNat<|List.getD b a.toNat []) a.toNat P)<|sn 85 1 1<|lsS (List.set b a.toNat<|List.getD b a.toNat []) a.toNat P)<|sn 108 1 1<|lsS (List.set b a.toNat<|List.getD b a.toNat []) a.toNat P)<|ck 1<|ae<|qN<|qs (gP [1,2,5,6,7,9,10,11] [0,1]<|po1<|pn1 (nL 1 eI64) (List.set (List.set b a.toNat<|List.getD b a.toNat []) a.toNat P)<|Pl.z)<|l ((List.set (List.set b a.toNat<|List.getD b a.toNat []) a.toNat P),true) H
  ·exact sk<|qN<|qs (tr (tr (tr (tr (sni (encN:=(nL 1 eI64)) (xs:=b) (n:=a) (enc:=eI64) [.osl 2 1 0<|List.length<|List.getD b a.toNat []] (List.getD b a.toNat []) 1 1 0 2 1)<|scl (encN:=(nL 1 eI64)) (xss:=b) a [.own 1<|List.map eI64<|List.getD b a.toNat []] 1 1<|List.getD b a.toNat [])<|sn 6 1 1<|lsS b a.toNat<|List.getD b a.toNat [])<|sn 85 1 1<|lsS b a.toNat<|List.getD b a.toNat [])<|gP [1,2,5,6,7,9,10,11] [0,1]<|po1<|pn1 (nL 1 eI64) (List.set b a.toNat<|List.getD b a.toNat [])<|Pl.z)<|l ((List.set b a.toNat<|List.getD b a.toNat []),m) H
 ·exact ex 8<|qx (by cases H;exact xo rfl<|gP [1,2,5,6,7,9,10] [0,1]<|po1<|pn1 (nL 1 eI64) b<|Pl.z)
theorem FR6_Suffixes_L4_ok (x:((List (List Int))×Bool×Int)) (z:(((List (List Int))×Bool×Int)⊕((List (List Int))×Bool))) (H:FR6_Suffixes_L4 n f h c a x.1 x.2.1 x.2.2=some z):WP (cxk 116 0) (bodyOf Tryz.f24) [1,1,1,0,1,0,0,1,0,0,1,1,1,0,0,1,0,1,1,0,0] (roundQ 0 (FR6_Suffixes_L4_S f h c a) (FR6_Suffixes_L4_E f h c a) z) (FR6_Suffixes_L4_S f h c a x):=by
 obtain ⟨p,u,C⟩:=x;refine sq<|sr<|ck 2<|sp (at_len eGState c)<|ck 1<|en<|cn H (λ H=>?_)<|λ H=>?_
 ·exact sk<|qz<|sq<|bk 7<|sr<|ck 1<|en<|bk 8<|bx H λ az a0 H=>lX FR6_Suffixes_L5_ok a0 (gP [1,2,5,6,7,9,10,11] [0,1]<|po1<|pn1 (nL 1 eI64) p<|Pl.z) rfl λ s a2=>qH<|qN<|qs (a2)<|rz<|ck 3<|ae (by cases H;exact og<|gP [1,2,5,6,7,9,10] [0,1]<|po1<|pn1 (nL 1 eI64) az.1<|Pl.z)
 ·exact ex 6<|qx (by cases H;exact xo rfl<|gP [1,2,5,6,7,9] [0,1]<|po1<|pn1 (nL 1 eI64) p<|Pl.z)
theorem FR6_Suffixes_L3_ok (x:((List (List Int))×Bool)) (z:(((List (List Int))×Bool)⊕(List (List Int)))) (H:FR6_Suffixes_L3 n f h c a x.1 x.2=some z):WP (cxk 116 0) (bodyOf Tryz.f24) [1,1,1,0,1,0,0,1,0,0,1,1,1,0,0] (roundQ 0 (FR6_Suffixes_L3_S f h c a) (FR6_Suffixes_L3_E f h c a) z) (FR6_Suffixes_L3_S f h c a x):=by
 obtain ⟨o,r⟩:=x;refine sq<|sr<|ck 1<|en<|cn H (λ H=>?_)<|λ H=>?_
 ·exact sk<|qz<|bk 5<|sr<|ck 1<|en<|sr<|ck 1<|en<|bk 6<|bx H λ a3 a4 H=>lX FR6_Suffixes_L4_ok a4 (gP [1,2,5,6,7,9,10] [0,1]<|po1<|pn1 (nL 1 eI64) o<|Pl.z) rfl λ s a5=>qH<|qN (by cases H;exact og<|tr (a5)<|gP [1,2,5,6,7,9] [0,1]<|po1<|pn1 (nL 1 eI64) a3.1<|Pl.z)
 ·exact ex 4<|qx (by cases H;exact xo rfl<|gP [1,2,5,6,7] [0,1]<|po1<|pn1 (nL 1 eI64) o<|Pl.z)
theorem FR6_Suffixes_L1_ok (x:((List (List Int))×Int)) (z:(((List (List Int))×Int)⊕(List (List Int)))) (H:FR6_Suffixes_L1 n f h c x.1 x.2=some z):WP (cxk 116 0) (bodyOf Tryz.f24) [1,1,1,0,1,0,0] (roundQ 0 (FR6_Suffixes_L1_S f h c) (FR6_Suffixes_L1_E) z) (FR6_Suffixes_L1_S f h c x):=by
 obtain ⟨i,a⟩:=x;refine sq<|sr<|ck 2<|en<|cn H (λ H=>?_)<|λ H=>?_
 ·exact sk<|qz<|sq<|bk 1<|sq<|bx H λ a6 ag H=>rg (so1 (encN:=(nL 1 eI64)) 1 1 ag)<|ck 3<|sp (at_len eGState c)<|bx H λ Q a7 H=>sp (at_mk eI64 1 a7)<|sp (at_idxO 1 1 ag)<|sp (at_stN (encN:=(nL 1 eI64)) (row:=[.own 1<|a6.map eI64]) (row':=[.osl 2 1 0<|Q.length]) (k:=1) (sz:=1) (off:=0) (t:=ty 35) (v:=.osl 2 1 0<|Q.length) ag)<|en<|sq<|sq<|rg (tr (tr (tr (sni (encN:=(nL 1 eI64)) (xs:=i) (n:=a) (enc:=eI64) [.osl 2 1 0<|Q.length] Q 1 1 0 2 1)<|scl (encN:=(nL 1 eI64)) (xss:=i) a [.own 1<|Q.map eI64] 1 1 Q)<|sn 6 1 1<|lsS i a.toNat Q)<|sn 25 1 1<|lsS i a.toNat Q)<|ck 1<|en<|bk 2<|bx H λ a8 a9 H=>lX FR6_Suffixes_L2_ok a9 (gP [1,2,5,6,7,8] [0,1]<|po1<|pn1 (nL 1 eI64) (List.set i a.toNat Q)<|Pl.z) rfl λ s ba=>qH<|qs (ba)<|sr<|ck 1<|en<|bk 4<|bx H λ bb bc H=>lX FR6_Suffixes_L3_ok bc (gP [1,2,5,6,7,9] [0,1]<|po1<|pn1 (nL 1 eI64) a8<|Pl.z) rfl λ s bd=>qH<|qN<|qs (bd)<|rz<|ck 3<|ae (by cases H;exact og<|gP [1,2,5,6,7] [0,1]<|po1<|pn1 (nL 1 eI64) bb<|Pl.z)
 ·exact ex 0<|qx (by cases H;exact xo rfl<|gP [6] [1]<|pn1 (nL 1 eI64) i<|Pl.z)
theorem FR6_Suffixes_ok {z} (H:FR6_Suffixes n f h=some z):CallOK Tryz.prog 24 [.agg (bTable f),.d (.str h)] (.d (.sl (z.map (eL eI64)))):=by
 exact fO 116 (f24_s1 f h) Tryz.func24<|sr<|ck 2<|en<|sr<|ck 1<|bx H λ c be H=>ca false (FR3_States_ok be)<|ck 1<|en<|sr<|ck 3<|bx H λ bi Y H=>sp (at_mkZ 1 (ez:=[.nil]) Y)<|ck 1<|en<|sq<|sq<|rg (tr (tr (sh_toM (encN:=(nL 1 eI64)) (sz:=1) (z:=[.nil]) (n:=(iadd .i64 ((h.length:Nat):Int) 1)) 1 (mkl_rep Y) (by kernel_rfl) (by kernel_rfl))<|sn 18 1 1<|mkl_len Y)<|sn 6 1 1<|mkl_len Y)<|ck 3<|en<|bk 0<|bx H λ bf bg H=>lX FR6_Suffixes_L1_ok bg (gP [1,2,5,6,7] [0,1]<|po1<|pn1 (nL 1 eI64) bi<|Pl.z) rfl λ s bh=>qH<|qs (bh)<|sr<|ck 2<|ae<|qs (sh_frzN (encN:=(nL 1 eI64)) (encD:=(eL eI64)) (xss:=bf) (k:=0) (sz:=1) 4 (by kernel_rfl) (λ _=>rfl)<|λ _=>rfl)<|re (by cases H;exact pr rd)
end
section
variable (w:GTable) (C:(List UInt8)) (f:(List (List Int))) (e:GMemo) (i:Int) (m:GMemo) (h:Int) (A:Int) (u:Int) (r:Int) (l:Int) (j:(List Int)) (B:Int) (q:(List Int)) (k:(List Int))
def f9_s1:St:=⟨(0,.agg [.d<|.int .i64 w.Modes,.d<|.int .u8 w.Accept,.d<|.sl<|w.Rules.map eGRule])::(1,.d<|.str C)::[],[]⟩
def f9_s2:St:=⟨(4,.ptr 0 0)::(5,.ptr 1 0)::(6,.d<|.sl<|f.map<|eL eI64)::(7,.d<|.int .i64 i)::[],[some<|.box [.d<|.str [],.osl 2 1 0<|List.length ([]:List (List Int)),.osl 3 1 0<|List.length ([]:List Int)],some<|.box<|bMemo_1_2 e (.osl 4 1 0<|e.Costs.length)<|.osl 5 1 0<|e.Least.length,some<|.arr 1<|List.map (eL eI64) ([]:List (List Int)),some<|.arr 1<|List.map eI64 ([]:List Int),some<|.arr 1<|e.Costs.map<|eL eI64,some<|.arr 1<|e.Least.map eI64]⟩
def f9_s3:St:=⟨(4,.ptr 0 0)::(5,.ptr 1 0)::[],[some<|.box [.d<|.str [],.osl 2 1 0<|List.length ([]:List (List Int)),.osl 3 1 0<|List.length ([]:List Int)],some<|.box<|bMemo_1_2 m (.osl 4 1 0<|m.Costs.length)<|.osl 5 1 0<|m.Least.length,some<|.arr 1<|List.map (eL eI64) ([]:List (List Int)),some<|.arr 1<|List.map eI64 ([]:List Int),some<|.arr 1<|m.Costs.map<|eL eI64,some<|.arr 1<|m.Least.map eI64]⟩
def f9_s4:St:=⟨(4,.ptr 0 0)::(5,.ptr 1 0)::(6,.d<|.sl<|f.map<|eL eI64)::(7,.d<|.int .i64 i)::(8,.d<|.int .i64 h)::(9,.d<|.int .i64 A)::[],[some<|.box [.d<|.str [],.osl 2 1 0<|List.length ([]:List (List Int)),.osl 3 1 0<|List.length ([]:List Int)],some<|.box<|bMemo_1_2 e (.osl 4 1 0<|e.Costs.length)<|.osl 5 1 0<|e.Least.length,some<|.arr 1<|List.map (eL eI64) ([]:List (List Int)),some<|.arr 1<|List.map eI64 ([]:List Int),some<|.arr 1<|e.Costs.map<|eL eI64,some<|.arr 1<|e.Least.map eI64]⟩
def f9_s5:St:=⟨(4,.ptr 0 0)::(5,.ptr 1 0)::(6,.d<|.sl<|f.map<|eL eI64)::(7,.d<|.int .i64 i)::(8,.d<|.int .i64 u)::[],[some<|.box [.d<|.str [],.osl 2 1 0<|List.length ([]:List (List Int)),.osl 3 1 0<|List.length ([]:List Int)],some<|.box<|bMemo_1_2 e (.osl 4 1 0<|e.Costs.length)<|.osl 5 1 0<|e.Least.length,some<|.arr 1<|List.map (eL eI64) ([]:List (List Int)),some<|.arr 1<|List.map eI64 ([]:List Int),some<|.arr 1<|e.Costs.map<|eL eI64,some<|.arr 1<|e.Least.map eI64]⟩
def f9_s6:St:=⟨(4,.ptr 0 0)::(5,.ptr 1 0)::(6,.d<|.sl<|f.map<|eL eI64)::(7,.d<|.int .i64 i)::(8,.d<|.int .i64 r)::(9,.d<|.int .i64 A)::[],[some<|.box [.d<|.str [],.osl 2 1 0<|List.length ([]:List (List Int)),.osl 3 1 0<|List.length ([]:List Int)],some<|.box<|bMemo_1_2 e (.osl 4 1 0<|e.Costs.length)<|.osl 5 1 0<|e.Least.length,some<|.arr 1<|List.map (eL eI64) ([]:List (List Int)),some<|.arr 1<|List.map eI64 ([]:List Int),some<|.arr 1<|e.Costs.map<|eL eI64,some<|.arr 1<|e.Least.map eI64]⟩
def FR7_Memo_L2_E:Int->Ex->St->Prop:=xX 0 2<|λ (y:Int)=>f9_s5 f e i y
def FR7_Memo_L2_S:(Int×Int)->St:=(λ (x:(Int×Int))=>f9_s4 f e i x.1 x.2)
def f9_s7:St:=⟨(4,.ptr 0 0)::(5,.ptr 1 0)::(6,.d<|.sl<|f.map<|eL eI64)::(7,.d<|.int .i64 i)::(8,.d<|.int .i64 l)::(10,.osl 2 1 0<|j.length)::(11,.d<|.int .i64 B)::[],[some<|.box [.d<|.str [],.osl 3 1 0<|List.length ([]:List (List Int)),.osl 4 1 0<|List.length ([]:List Int)],some<|.box<|bMemo_1_2 e (.osl 5 1 0<|e.Costs.length)<|.osl 6 1 0<|e.Least.length,some<|.arr 1<|j.map eI64,some<|.arr 1<|List.map (eL eI64) ([]:List (List Int)),some<|.arr 1<|List.map eI64 ([]:List Int),some<|.arr 1<|e.Costs.map<|eL eI64,some<|.arr 1<|e.Least.map eI64]⟩
def f9_s8:St:=⟨(4,.ptr 0 0)::(5,.ptr 1 0)::(6,.d<|.sl<|f.map<|eL eI64)::(7,.d<|.int .i64 i)::(8,.d<|.int .i64 l)::(10,.osl 2 1 0<|q.length)::[],[some<|.box [.d<|.str [],.osl 3 1 0<|List.length ([]:List (List Int)),.osl 4 1 0<|List.length ([]:List Int)],some<|.box<|bMemo_1_2 e (.osl 5 1 0<|e.Costs.length)<|.osl 6 1 0<|e.Least.length,some<|.arr 1<|q.map eI64,some<|.arr 1<|List.map (eL eI64) ([]:List (List Int)),some<|.arr 1<|List.map eI64 ([]:List Int),some<|.arr 1<|e.Costs.map<|eL eI64,some<|.arr 1<|e.Least.map eI64]⟩
def f9_s9:St:=⟨(4,.ptr 0 0)::(5,.ptr 1 0)::(6,.d<|.sl<|f.map<|eL eI64)::(7,.d<|.int .i64 i)::(8,.d<|.int .i64 l)::(10,.osl 2 1 0<|k.length)::(11,.d<|.int .i64 B)::[],[some<|.box [.d<|.str [],.osl 3 1 0<|List.length ([]:List (List Int)),.osl 4 1 0<|List.length ([]:List Int)],some<|.box<|bMemo_1_2 e (.osl 5 1 0<|e.Costs.length)<|.osl 6 1 0<|e.Least.length,some<|.arr 1<|k.map eI64,some<|.arr 1<|List.map (eL eI64) ([]:List (List Int)),some<|.arr 1<|List.map eI64 ([]:List Int),some<|.arr 1<|e.Costs.map<|eL eI64,some<|.arr 1<|e.Least.map eI64]⟩
def FR7_Memo_L3_E:(List Int)->Ex->St->Prop:=xX 0 4<|λ (y:(List Int))=>f9_s8 f e i l y
def FR7_Memo_L3_S:((List Int)×Int)->St:=(λ (x:((List Int)×Int))=>f9_s7 f e i l x.1 x.2)
def FR7_Memo_L1_E:GMemo->Ex->St->Prop:=xX 0 0<|λ (y:GMemo)=>f9_s3 y
def FR7_Memo_L1_S:(GMemo×Int)->St:=(λ (x:(GMemo×Int))=>f9_s2 f x.1 x.2)
variable {w C f e i m h A u r l j B q k}
theorem FR7_Memo_L2_ok (x:(Int×Int)) (z:((Int×Int)⊕Int)) (H:FR7_Memo_L2 n f e i x.1 x.2=some z):WP (cxk 108 0) (bodyOf Tryz.f9) [1,1,1,0,1,0,0,1,0,0,1,0,1,0,0] (roundQ 0 (FR7_Memo_L2_S f e i) (FR7_Memo_L2_E f e i) z) (FR7_Memo_L2_S f e i x):=by
 obtain ⟨h,A⟩:=x;refine sq<|sr<|ck 3<|bx H λ G I H=>sp (at_idxD (eL eI64) I)<|ck 1<|sp (at_len eI64 G)<|ck 1<|en<|cn H (λ H=>?_)<|λ H=>?_
 ·refine sk<|qz<|sj (λ (x:Int)=>f9_s6 f e i A x) (λ (x:Int)=>FR7_Memo_J1 n A x) z ?_ (λ o=>?_)
  ·intro r H;exact rz<|ck 3<|ae (by cases H;exact og<|sg [4,5,6,7,8,9])
  refine bk 3<|sr<|ck 2<|bx H λ ap J H=>sp (at_idxD (eL eI64) J)<|ck 2<|bx H λ t K H=>sp (at_idxD eI64 K)<|ck 4<|gc 2 (decide<|t>=0)<|ck 2<|bx H λ ar L H=>sE (λ hg=>at_idxD (eL eI64)<|gimp L hg)<|gc 1 ((decide<|t>=0)&&!(decide<|h<0))<|ck 1<|bx H λ E M H=>sE (λ hg=>at_idxD eI64<|gimp M hg)<|gc 1 ((decide<|t>=0)&&!(decide<|h<0))<|ck 1<|gc 1 ((decide<|t>=0)&&!(decide<|h<0))<|pG (g:=decide<|t>=0) (v:=.d<|.bool<|(decide<|h<0)||(decide<|E<h)) (λ hg=>pick_genz (c:=.gv (decide<|t>=0)<|.d<|.bool<|decide<|h<0) (a:=.d<|.bool true) (b:=.gv ((decide<|t>=0)&&!(decide<|h<0))<|.d<|.bool<|decide<|E<h) rfl rfl rfl ((λ hh=>hh) hg) trivial (λ ht=>by rw [(λ hh=>hh) hg,ht];rfl))<|pA<|en<|cn H (λ H=>?_)<|λ H=>?_
  ·exact rz<|ck 2<|bx H λ au O H=>sp (at_idxD (eL eI64) O)<|ck 2<|bx H λ P Q H=>sp (at_idxD eI64 Q)<|ck 2<|ae<|qN<|qs (sg [4,5,6,7,8,9])<|o P H
  ·exact sk<|qN<|qs (sg [4,5,6,7,8,9])<|o h H
 ·exact ex 2<|qx (by cases H;exact xo rfl<|sg [4,5,6,7,8])
theorem FR7_Memo_L3_ok (x:((List Int)×Int)) (z:(((List Int)×Int)⊕(List Int))) (H:FR7_Memo_L3 n f e i l x.1 x.2=some z):WP (cxk 108 0) (bodyOf Tryz.f9) [1,1,1,0,1,0,0,1,0,0,1,1,1,0,1,0,0] (roundQ 0 (FR7_Memo_L3_S f e i l) (FR7_Memo_L3_E f e i l) z) (FR7_Memo_L3_S f e i l x):=by
 obtain ⟨j,B⟩:=x;refine sq<|sr<|ck 3<|bx H λ R S H=>sp (at_idxD (eL eI64) S)<|ck 1<|sp (at_len eI64 R)<|ck 1<|en<|cn H (λ H=>?_)<|λ H=>?_
 ·refine sk<|qz<|sj (λ (x:(List Int))=>f9_s9 f e i l B x) (λ (x:(List Int))=>FR7_Memo_J2 n B x) z ?_ (λ p=>?_)
  ·intro k H;exact rz<|ck 3<|ae (by cases H;exact og<|sg [4,5,6,7,8,10,11])
  refine bk 5<|sr<|ck 2<|bx H λ av T H=>sp (at_idxD (eL eI64) T)<|ck 2<|bx H λ aw U H=>sp (at_idxD eI64 U)<|ck 2<|en<|cn H (λ H=>?_)<|λ H=>?_
  ·exact rz<|ck 2<|bx H λ al V H=>sp (at_appO eI64 2 1 V)<|ck 1<|ae<|qN<|qs (sg [4,5,6,7,8,10,11])<|p al H
  ·exact rz<|ck 3<|bx H λ ay W H=>sp (at_idxD (eL eI64) W)<|ck 2<|bx H λ az X H=>sp (at_idxD eI64 X)<|ck 4<|bx H λ am Y H=>sp (at_appO eI64 2 1 Y)<|ck 1<|ae<|qN<|qs (sg [4,5,6,7,8,10,11])<|p am H
 ·exact ex 4<|qx (by cases H;exact xo rfl<|sg [4,5,6,7,8,10])
theorem FR7_Memo_L1_ok (x:(GMemo×Int)) (z:((GMemo×Int)⊕GMemo)) (H:FR7_Memo_L1 n f x.1 x.2=some z):WP (cxk 108 0) (bodyOf Tryz.f9) [1,1,1,0,1,0,0] (roundQ 0 (FR7_Memo_L1_S f) (FR7_Memo_L1_E) z) (FR7_Memo_L1_S f x):=by
 obtain ⟨e,i⟩:=x;refine sq<|sr<|ck 2<|sp (at_len (eL eI64) f)<|ck 1<|en<|cn H (λ H=>?_)<|λ H=>?_
 ·exact sk<|qz<|sq<|bk 1<|sr<|ck 1<|en<|sq<|sr<|ck 1<|en<|bk 2<|bx H λ l Z H=>lX FR7_Memo_L2_ok Z (sg [4,5,6,7,8,9]) rfl λ s aa=>qH<|qs (aa)<|sr<|ck 2<|en<|sq<|sr<|ck 1<|en<|bk 4<|bx H λ ab ac H=>lX FR7_Memo_L3_ok ac (sg [4,5,6,7,8,10,11]) rfl λ s af=>qH<|qs (af)<|sq<|rg (fz (enc:=eI64) (xs:=ab) 10 2 1)<|ck 4<|bx H λ a2 ag H=>sp (at_appO (eL eI64) 5 1 ag)<|ck 2<|en<|rz<|ck 4<|bx H λ a3 ah H=>sp (at_appO eI64 6 1 ah)<|ck 2<|ae<|qN<|qz<|rz<|ck 3<|ae (by cases H;exact og<|sg [4,5,6,7])
 ·exact ex 0<|qx (by cases H;exact xo rfl<|sg [4,5])
theorem FR7_Memo_ok {z} (H:FR7_Memo n w C=some z):CallOK Tryz.prog 9 [.agg (bTable w),.d (.str C)] (.agg [.d (.str z.Text),.own 1 (z.Costs.map (eL eI64)),.own 1 (z.Least.map eI64)]):=by
 exact fO 108 (f9_s1 w C) Tryz.func9<|sr<|ck 2<|en<|sr<|ck 4<|en<|sr<|ck 2<|bx H λ f ai H=>ca false (FR6_Suffixes_ok ai)<|ck 1<|en<|sq<|sr<|ck 1<|en<|bk 0<|bx H λ a0 aj H=>lX FR7_Memo_L1_ok aj (tr (tr (tr (tr (sh_nilc 1 1 1 (by kernel_rfl))<|sh_nilc 1 2 1 (by kernel_rfl))<|sh_nilc 2 1 1 (by kernel_rfl))<|sh_nilc 2 2 1 (by kernel_rfl))<|sg [4,5,6,7]) rfl λ s ak=>qH<|qs (ak)<|sr<|ck 2<|en<|re (by cases H;exact pr<|rO (v:=.agg [.d<|.str z.Text,.osl 4 1 0<|z.Costs.length,.osl 5 1 0<|z.Least.length]) [4,5]<|a1<|c1 vd<|c1 vo<|c1 vo<|c0)
end
section
variable (f:GTable) (c:(List UInt8)) (a:GSixdotref07Raw) (e:GSplice)
def f10_s1:St:=⟨(0,.agg [.d<|.int .i64 f.Modes,.d<|.int .u8 f.Accept,.d<|.sl<|f.Rules.map eGRule])::(1,.d<|.str c)::(2,.agg [.d<|.int .u8 a.At,.d<|.int .u8 a.Cut,.d<|.sl<|a.L.map eU8])::[],[]⟩
def f10_s2:St:=⟨(6,.ptr 0 0)::(9,.ptr 1 0)::[],[some<|.box [.d<|.int .i64 0,.d<|.int .i64 0,.d<|.str []],some<|.box<|bSplice e]⟩
variable {f c a e}
theorem FR7_Made_ok {z} (H:FR7_Made n f c a=some z):CallOK Tryz.prog 10 [.agg (bTable f),.d (.str c),.agg (bSixdotref07Raw a)] (.agg [.d (.int .i64 z.At),.d (.int .i64 z.Cut),.d (.str z.Put)]):=by
 refine fO 48 (f10_s1 f c a) Tryz.func10<|sr<|ck 3<|en<|sr<|ck 6<|bx H λ l g H=>so (guard_nz g)<|ck 1<|en<|sr<|ck 4<|sp (at_len eU8 a.L)<|ck 1<|bx H λ o h H=>sp (at_sub eU8 1 h)<|ck 1<|en<|sr<|ck 10<|bx H λ m i H=>so (guard_nz i)<|ck 2<|bx H λ j k H=>ca false (FR2_Spelled_ok k)<|ck 3<|en<|sj (λ (x:GSplice)=>f10_s2 x) (λ (x:GSplice)=>FR7_Made_J1 n x) z ?_ (λ b=>?_)
 ·intro e H;exact sr<|ck 2<|en<|re (by cases H;exact pr rd)
 refine sr<|ck 7<|en<|cn H (λ H=>?_)<|λ H=>?_
 ·exact rz<|ck 2<|ae<|qs (sg [6,9])<|b ({ At:=irem (IntKind.i64.wrap a.At)<|iadd .i64 ((c.length:Nat):Int) 1,Cut:=irem (IntKind.i64.wrap a.Cut)<|iadd .i64 (if 5<isub .i64 ((c.length:Nat):Int) (irem (IntKind.i64.wrap a.At)<|iadd .i64 ((c.length:Nat):Int) 1) then 5 else isub .i64 ((c.length:Nat):Int) (irem (IntKind.i64.wrap a.At)<|iadd .i64 ((c.length:Nat):Int) 1)) 1,Put:=[] }:GSplice) H
 ·exact sk<|qs (sg [6,9])<|b ({ At:=irem (IntKind.i64.wrap a.At)<|iadd .i64 ((c.length:Nat):Int) 1,Cut:=irem (IntKind.i64.wrap a.Cut)<|iadd .i64 (if 5<isub .i64 ((c.length:Nat):Int) (irem (IntKind.i64.wrap a.At)<|iadd .i64 ((c.length:Nat):Int) 1) then 5 else isub .i64 ((c.length:Nat):Int) (irem (IntKind.i64.wrap a.At)<|iadd .i64 ((c.length:Nat):Int) 1)) 1,Put:=j }:GSplice) H
end
section
variable (b:(List UInt8)) (a:GSplice)
def f15_s1:St:=⟨(0,.d<|.str b)::(1,.agg [.d<|.int .i64 a.At,.d<|.int .i64 a.Cut,.d<|.str a.Put])::[],[]⟩
variable {b a}
theorem FR7_Spliced_ok {z} (H:FR7_Spliced n b a=some z):CallOK Tryz.prog 15 [.d (.str b),.agg (bSplice a)] (.d (.str z)):=by
 exact fO 20 (f15_s1 b a) Tryz.func15<|sr<|ck 2<|en<|sr<|ck 3<|bx H λ h c H=>sp (at_ssub c)<|ck 2<|bx H λ i e H=>sp (at_cat e)<|ck 6<|bx H λ j f H=>sp (at_ssub f)<|bx H λ k g H=>sp (at_cat g)<|ck 1<|en<|re (by cases H;exact pr rd)
end
section
variable (a:GMemo) (b:GMemo) (c:Int)
def f13_s1:St:=⟨(0,.agg [.d<|.str a.Text,.d<|.sl<|a.Costs.map<|eL eI64,.d<|.sl<|a.Least.map eI64])::(1,.agg [.d<|.str b.Text,.d<|.sl<|b.Costs.map<|eL eI64,.d<|.sl<|b.Least.map eI64])::[],[]⟩
def f13_s2:St:=⟨(2,.ptr 0 0)::(3,.ptr 1 0)::(5,.d<|.int .i64 c)::[],[some<|.box<|bMemo a,some<|.box<|bMemo b]⟩
def f13_s3:St:=⟨[],[]⟩
def FR7_Same_L1_E:(Unit⊕Bool)->Ex->St->Prop:=xS (xX 0 0<|λ (_:Unit)=>f13_s3)<|xR ty Tryz.f13<|λ (y:Bool)=>.d<|.bool y
def FR7_Same_L1_S:Int->St:=(λ (x:Int)=>f13_s2 a b x)
variable {a b c}
theorem FR7_Same_L1_ok (x:Int) (z:(Int⊕(Unit⊕Bool))) (H:FR7_Same_L1 n a b x=some z):WP (cxk 47 0) (bodyOf Tryz.f13) [1,1,0,1,0,0] (roundQ 0 (FR7_Same_L1_S a b) (FR7_Same_L1_E) z) (FR7_Same_L1_S a b x):=by
 revert H;generalize x=c;intro H;refine sq<|sr<|ck 3<|sp (at_len (eL eI64) a.Costs)<|ck 1<|en<|cn H (λ H=>?_)<|λ H=>?_
 ·refine sk<|qz<|sq<|bk 1<|sr<|ck 3<|bx H λ o f H=>sp (at_idxD (eL eI64) f)<|ck 4<|bx H λ p h H=>sp (at_idxD (eL eI64) h)<|ck 1<|bx H λ q i H=>ca false (FR6_Ints_ok i)<|ck 1<|en<|cn H (λ H=>?_)<|λ H=>?_
  ·exact sr<|ck 1<|en<|re<|qR<|qr (by cases H;exact ro rfl rd)
  ·exact sk<|qN<|qz<|rz<|ck 3<|ae (by cases H;exact og<|sg [2,3,5])
 ·exact ex 0<|qx (by cases H;exact xo rfl<|sg [])
theorem FR7_Same_ok {z} (H:FR7_Same n a b=some z):CallOK Tryz.prog 13 [.agg (bMemo a),.agg (bMemo b)] (.d (.bool z)):=by
 refine fO 47 (f13_s1 a b) Tryz.func13<|sr<|ck 3<|en<|sq<|sr<|ck 7<|gc 1 (!(!(a.Text==b.Text)))<|sE (g:=(!(!(a.Text==b.Text)))) (λ hg=>at_len (eL eI64) a.Costs)<|ck 1<|gc 1 (!(!(a.Text==b.Text)))<|sE (g:=(!(!(a.Text==b.Text)))) (λ hg=>at_len (eL eI64) b.Costs)<|gc 1 (!(!(a.Text==b.Text)))<|pO<|ck 2<|gc 1 (!((!(a.Text==b.Text))||(((a.Costs.length:Nat):Int) != ((b.Costs.length:Nat):Int))))<|ck 1<|gc 1 (!((!(a.Text==b.Text))||(((a.Costs.length:Nat):Int) != ((b.Costs.length:Nat):Int))))<|bx H λ r j H=>cG false (leZ) rfl (λ hg=>FR6_Ints_ok<|gimp j hg) (Or.inl rfl) (impK (λ hh=>hh)<|impK (λ hh=>hh)<|impZ) rfl<|gc 1 (!((!(a.Text==b.Text))||(((a.Costs.length:Nat):Int) != ((b.Costs.length:Nat):Int))))<|pO<|en<|cn H (λ H=>?_)<|λ H=>?_
 ·exact sr<|ck 1<|en<|re<|qr (by cases H;exact pr rd)
 ·refine sk<|qz<|sq<|sr<|ck 1<|en<|bk 0<|bx H λ k e H=>?_;rcases k with t|u
  ·exact lX FR7_Same_L1_ok e (sg [2,3,5]) rfl λ s l=>qH<|qs (l)<|sr<|ck 1<|en<|re (by cases H;exact pr rd)
  ·exact lR FR7_Same_L1_ok e (sg [2,3,5]) rfl λ s m=>qR<|qr (by cases H;exact pr m)
end
section
variable (h:GTable) (i:(List UInt8)) (c:(List GState)) (w:(List (List Bool))) (G:Int) (ak:(List (List Bool))) (U:(List (List Bool))) (e:Int) (a:Int) (ac:Int) (O:(List (List Bool))) (A:Bool) (al:(List (List Bool))) (P:(List (List Bool))) (B:Bool) (E:Int) (am:(List (List Bool))) (K:Bool) (b:(List (List Bool))) (o:Bool) (V:Int) (ap:(List (List Bool))) (I:Bool) (L:(List (List Bool))) (u:Bool) (C:(List (List Bool))) (l:Int) (j:(List (List Bool))) (J:Int) (Q:Int) (aa:(List (List Bool))) (af:Int) (M:(List (List Bool))) (S:Int)
def f36_s1:St:=⟨(0,.agg [.d<|.int .i64 h.Modes,.d<|.int .u8 h.Accept,.d<|.sl<|h.Rules.map eGRule])::(1,.d<|.str i)::[],[]⟩
def f36_s2:St:=⟨(1,.d<|.str i)::(2,.ptr 0 0)::(5,.d<|.sl<|c.map eGState)::(6,.osl 1 1 0<|w.length)::(7,.d<|.int .i64 0)::(8,.d<|.int .i64 G)::[],[some<|.box<|bTable h,some<|.narr 1<|w.map<|nL 1 eB]⟩
def f36_s3:St:=⟨(1,.d<|.str i)::(2,.ptr 0 0)::(5,.d<|.sl<|c.map eGState)::(6,.osl 1 1 0<|ak.length)::(7,.d<|.int .i64 0)::[],[some<|.box<|bTable h,some<|.narr 1<|ak.map<|nL 1 eB]⟩
def FR6_Reached_L1_E:(List<|List Bool)->Ex->St->Prop:=xX 0 0<|λ (y:(List<|List Bool))=>f36_s3 h i c y
def FR6_Reached_L1_S:((List<|List Bool)×Int)->St:=(λ (x:((List<|List Bool)×Int))=>f36_s2 h i c x.1 x.2)
def f36_s4:St:=⟨(1,.d<|.str i)::(2,.ptr 0 0)::(5,.d<|.sl<|c.map eGState)::(6,.osl 1 1 0<|U.length)::(7,.d<|.int .i64 e)::(9,.d<|.int .i64 a)::[],[some<|.box<|bTable h,some<|.narr 1<|U.map<|nL 1 eB]⟩
def f36_s5:St:=⟨(7,.d<|.int .i64 ac)::[],[]⟩
def f36_s6:St:=⟨(1,.d<|.str i)::(2,.ptr 0 0)::(5,.d<|.sl<|c.map eGState)::(6,.osl 1 1 0<|O.length)::(7,.d<|.int .i64 e)::(9,.d<|.int .i64 a)::(10,.d<|.bool A)::[],[some<|.box<|bTable h,some<|.narr 1<|O.map<|nL 1 eB]⟩
def f36_s7:St:=⟨(1,.d<|.str i)::(2,.ptr 0 0)::(5,.d<|.sl<|c.map eGState)::(6,.osl 1 1 0<|al.length)::(7,.d<|.int .i64 e)::(9,.d<|.int .i64 a)::[],[some<|.box<|bTable h,some<|.narr 1<|al.map<|nL 1 eB]⟩
def f36_s8:St:=⟨(1,.d<|.str i)::(2,.ptr 0 0)::(5,.d<|.sl<|c.map eGState)::(6,.osl 1 1 0<|P.length)::(7,.d<|.int .i64 e)::(9,.d<|.int .i64 a)::(10,.d<|.bool B)::(11,.d<|.int .i64 E)::[],[some<|.box<|bTable h,some<|.narr 1<|P.map<|nL 1 eB]⟩
def f36_s9:St:=⟨(1,.d<|.str i)::(2,.ptr 0 0)::(5,.d<|.sl<|c.map eGState)::(6,.osl 1 1 0<|am.length)::(7,.d<|.int .i64 e)::(9,.d<|.int .i64 a)::(10,.d<|.bool K)::[],[some<|.box<|bTable h,some<|.narr 1<|am.map<|nL 1 eB]⟩
def f36_s10:St:=⟨(1,.d<|.str i)::(2,.ptr 0 0)::(5,.d<|.sl<|c.map eGState)::(6,.osl 1 1 0<|b.length)::(7,.d<|.int .i64 e)::(9,.d<|.int .i64 a)::(10,.d<|.bool o)::(11,.d<|.int .i64 E)::(12,.d<|.int .i64 V)::[],[some<|.box<|bTable h,some<|.narr 1<|b.map<|nL 1 eB]⟩
def f36_s11:St:=⟨(1,.d<|.str i)::(2,.ptr 0 0)::(5,.d<|.sl<|c.map eGState)::(6,.osl 1 1 0<|ap.length)::(7,.d<|.int .i64 e)::(9,.d<|.int .i64 a)::(10,.d<|.bool I)::(11,.d<|.int .i64 E)::[],[some<|.box<|bTable h,some<|.narr 1<|ap.map<|nL 1 eB]⟩
def f36_s12:St:=⟨(1,.d<|.str i)::(2,.ptr 0 0)::(5,.d<|.sl<|c.map eGState)::(6,.osl 1 1 0<|L.length)::(7,.d<|.int .i64 e)::(9,.d<|.int .i64 a)::(10,.d<|.bool u)::(11,.d<|.int .i64 E)::(12,.d<|.int .i64 V)::[],[some<|.box<|bTable h,some<|.narr 1<|L.map<|nL 1 eB]⟩
def FR6_Reached_L5_E:((List<|List Bool)×Bool)->Ex->St->Prop:=xX 0 8<|λ (y:((List<|List Bool)×Bool))=>f36_s11 h i c e a E y.1 y.2
def FR6_Reached_L5_S:((List<|List Bool)×Bool×Int)->St:=(λ (x:((List<|List Bool)×Bool×Int))=>f36_s10 h i c e a E x.1 x.2.1 x.2.2)
def FR6_Reached_L4_E:((List<|List Bool)×Bool)->Ex->St->Prop:=xX 0 6<|λ (y:((List<|List Bool)×Bool))=>f36_s9 h i c e a y.1 y.2
def FR6_Reached_L4_S:((List<|List Bool)×Bool×Int)->St:=(λ (x:((List<|List Bool)×Bool×Int))=>f36_s8 h i c e a x.1 x.2.1 x.2.2)
def FR6_Reached_L3_E:(List<|List Bool)->Ex->St->Prop:=xX 0 4<|λ (y:(List<|List Bool))=>f36_s7 h i c e a y
def FR6_Reached_L3_S:((List<|List Bool)×Bool)->St:=(λ (x:((List<|List Bool)×Bool))=>f36_s6 h i c e a x.1 x.2)
def f36_s13:St:=⟨(1,.d<|.str i)::(2,.ptr 0 0)::(5,.d<|.sl<|c.map eGState)::(6,.osl 1 1 0<|C.length)::(7,.d<|.int .i64 e)::(9,.d<|.int .i64 a)::(16,.d<|.int .i64 l)::[],[some<|.box<|bTable h,some<|.narr 1<|C.map<|nL 1 eB]⟩
def f36_s14:St:=⟨(1,.d<|.str i)::(2,.ptr 0 0)::(5,.d<|.sl<|c.map eGState)::(6,.osl 1 1 0<|j.length)::(7,.d<|.int .i64 J)::(9,.d<|.int .i64 a)::(16,.d<|.int .i64 l)::(17,.d<|.int .i64 Q)::[],[some<|.box<|bTable h,some<|.narr 1<|j.map<|nL 1 eB]⟩
def f36_s15:St:=⟨(1,.d<|.str i)::(2,.ptr 0 0)::(5,.d<|.sl<|c.map eGState)::(6,.osl 1 1 0<|aa.length)::(7,.d<|.int .i64 af)::(9,.d<|.int .i64 a)::[],[some<|.box<|bTable h,some<|.narr 1<|aa.map<|nL 1 eB]⟩
def f36_s16:St:=⟨(1,.d<|.str i)::(2,.ptr 0 0)::(5,.d<|.sl<|c.map eGState)::(6,.osl 1 1 0<|M.length)::(7,.d<|.int .i64 S)::(9,.d<|.int .i64 a)::(16,.d<|.int .i64 l)::(17,.d<|.int .i64 Q)::[],[some<|.box<|bTable h,some<|.narr 1<|M.map<|nL 1 eB]⟩
def FR6_Reached_L6_E:((List<|List Bool)×Int)->Ex->St->Prop:=xX 0 10<|λ (y:((List<|List Bool)×Int))=>f36_s15 h i c a y.1 y.2
def FR6_Reached_L6_S:((List<|List Bool)×Int×Int)->St:=(λ (x:((List<|List Bool)×Int×Int))=>f36_s14 h i c a l x.1 x.2.1 x.2.2)
def FR6_Reached_L2_E:Int->Ex->St->Prop:=xX 0 2<|λ (y:Int)=>f36_s5 y
def FR6_Reached_L2_S:((List<|List Bool)×Int×Int)->St:=(λ (x:((List<|List Bool)×Int×Int))=>f36_s4 h i c x.1 x.2.1 x.2.2)
variable {h i c w G ak U e a ac O A al P B E am K b o V ap I L u C l j J Q aa af M S}
theorem FR6_Reached_L1_ok (x:((List (List Bool))×Int)) (z:(((List (List Bool))×Int)⊕(List (List Bool)))) (H:FR6_Reached_L1 n h i c x.1 x.2=some z):WP (cxk 152 0) (bodyOf Tryz.f36) [1,1,1,0,1,0,0] (roundQ 0 (FR6_Reached_L1_S h i c) (FR6_Reached_L1_E h i c) z) (FR6_Reached_L1_S h i c x):=by
 obtain ⟨w,G⟩:=x;refine sq<|sr<|ck 4<|en<|cn H (λ H=>?_)<|λ H=>?_
 ·exact sk<|qz<|sq<|bk 1<|bx H λ bc ar H=>rg (so1 (encN:=(nL 1 eB)) 1 1 ar)<|ck 3<|sp (at_len eGState c)<|bx H λ T bd H=>sp (at_mk eB 1 bd)<|sp (at_idxO 1 1 ar)<|sp (at_stN (encN:=(nL 1 eB)) (row:=[.own 1<|bc.map eB]) (row':=[.osl 2 1 0<|T.length]) (k:=1) (sz:=1) (off:=0) (t:=ty 113) (v:=.osl 2 1 0<|T.length) ar)<|ae<|qN<|qz<|rg (tr (tr (tr (sni (encN:=(nL 1 eB)) (xs:=w) (n:=G) (enc:=eB) [.osl 2 1 0<|T.length] T 1 1 0 2 1)<|scl (encN:=(nL 1 eB)) (xss:=w) G [.own 1<|T.map eB] 1 1 T)<|sn 6 1 1<|lsS w G.toNat T)<|sn 30 1 1<|lsS w G.toNat T)<|ck 3<|ae (by cases H;exact og<|gP [1,2,5,6,7,8] [0,1]<|po1<|pn1 (nL 1 eB) (List.set w G.toNat T)<|Pl.z)
 ·exact ex 0<|qx (by cases H;exact xo rfl<|gP [1,2,5,6,7] [0,1]<|po1<|pn1 (nL 1 eB) w<|Pl.z)
theorem FR6_Reached_L5_ok (x:((List (List Bool))×Bool×Int)) (z:(((List (List Bool))×Bool×Int)⊕((List (List Bool))×Bool))) (H:FR6_Reached_L5 n h i c e a E x.1 x.2.1 x.2.2=some z):WP (cxk 152 0) (bodyOf Tryz.f36) [1,1,1,1,1,0,1,0,0,1,0,0,0,1,0,0,1,0,1,1,0,0,1,0,0,1,0,0] (roundQ 0 (FR6_Reached_L5_S h i c e a E) (FR6_Reached_L5_E h i c e a E) z) (FR6_Reached_L5_S h i c e a E x):=by
 obtain ⟨b,o,V⟩:=x;refine sq<|sq<|rg (tr (so0 (encN:=(nL 1 eB)) (xss:=b) 1 1 a ([]:(List Bool)))<|snT (encN:=(nL 1 eB)) (xss:=b) (n:=a) (d:=([]:(List Bool))) (enc:=eB) (λ x=>x) [.own 1<|List.map eB<|List.getD b a.toNat []] 1 1 0 1)<|ck 3<|sp (at_len eGRule h.Rules)<|ck 4<|bx H λ b7 ay H=>sE (λ hg=>at_idxO 1 1<|gimp ay hg)<|sE (g:=decide<|V<((h.Rules.length:Nat):Int)) (λ hg=>at_ldN (encN:=(nL 1 eB)) (row:=[.osl 2 1 0<|List.length<|List.getD b a.toNat []]) (k:=1) (sz:=1) (off:=0) (t:=ty 113) (v:=.osl 2 1 0<|List.length<|List.getD b a.toNat [])<|gimp ay hg)<|ck 1<|bx H λ b8 az H=>sE (λ hg=>at_idxO 2 1<|gimp az hg)<|sE (g:=decide<|V<((h.Rules.length:Nat):Int)) (λ hg=>at_ldA eB 2 0 (ty 4)<|gimp az hg)<|pA<|en<|cn H (λ H=>?_)<|λ H=>?_
 ·refine sk<|qz<|sj (λ (x:((List<|List Bool)×Bool))=>f36_s12 h i c e a E V x.1 x.2) (λ (x:((List<|List Bool)×Bool))=>FR6_Reached_J1 n V x.1 x.2) z ?_ (λ p=>?_)
  ·rintro ⟨L,u⟩ H;exact rz<|ck 3<|ae (by cases H;exact og<|gP [1,2,5,6,7,9,10,11,12] [0,1]<|po1<|pn1 (nL 1 eB) L<|Pl.z)
  refine bk 9<|sq<|rg (tr (tr (sni (encN:=(nL 1 eB)) (xs:=b) (n:=a) (enc:=eB) [.osl 2 1 0<|List.length<|List.getD b a.toNat []] (List.getD b a.toNat []) 1 1 0 2 1)<|scl (encN:=(nL 1 eB)) (xss:=b) a [.own 1<|List.map eB<|List.getD b a.toNat []] 1 1<|List.getD b a.toNat [])<|sn 6 1 1<|lsS b a.toNat<|List.getD b a.toNat [])<|ck 3<|bx H λ b9 be H=>sp (at_idxD eGState be)<|ck 2<|bx H λ W bf H=>ca false (FR3_Step_ok bf)<|ck 6<|en<|sr<|ck 4<|bx H λ f bg H=>sp (at_idxD eGRule bg)<|ck 5<|en<|sq<|rg (tr (so0 (encN:=(nL 1 eB)) (xss:=List.set b a.toNat<|List.getD b a.toNat []) 1 1 (iadd .i64 a ((f.Print.length:Nat):Int)) ([]:(List Bool)))<|snT (encN:=(nL 1 eB)) (xss:=List.set b a.toNat<|List.getD b a.toNat []) (n:=iadd .i64 a ((f.Print.length:Nat):Int)) (d:=([]:(List Bool))) (enc:=eB) (λ x=>x) [.own 1<|List.map eB<|List.getD (List.set b a.toNat<|List.getD b a.toNat []) (Int.toNat<|iadd .i64 a ((f.Print.length:Nat):Int)) []] 1 1 0 1)<|ck 5<|gc 1 W.2<|ck 1<|bx H λ cc bh H=>sE (λ hg=>at_idxD eGRule<|gimp bh hg)<|gc 2 W.2<|bx H λ au bi H=>cG false (leZ) rfl (λ hg=>FR6_Begins_ok<|gimp bi hg) (Or.inl rfl) (impK (λ hh=>hh)<|impK (λ hh=>hh)<|impK (λ hh=>hh)<|impZ) rfl<|pA<|ck 3<|bx H λ cd a0 H=>sE (λ hg=>at_idxO 1 1<|gimp a0 hg)<|sE (g:=(W.2&&au)) (λ hg=>at_ldN (encN:=(nL 1 eB)) (row:=[.osl 4 1 0<|List.length<|List.getD (List.set b a.toNat<|List.getD b a.toNat []) (Int.toNat<|iadd .i64 a ((f.Print.length:Nat):Int)) []]) (k:=1) (sz:=1) (off:=0) (t:=ty 113) (v:=.osl 4 1 0<|List.length<|List.getD (List.set b a.toNat<|List.getD b a.toNat []) (Int.toNat<|iadd .i64 a ((f.Print.length:Nat):Int)) [])<|gimp a0 hg)<|ck 2<|bx H λ ce bj H=>cG false (leZ) rfl (λ hg=>FR3_Index_ok<|gimp bj hg) (Or.inl rfl) (impK (λ hh=>hh)<|impK (λ hh=>hh)<|impZ) rfl<|bx H λ cf a2 H=>sE (λ hg=>at_idxO 4 1<|gimp a2 hg)<|sE (g:=(W.2&&au)) (λ hg=>at_ldA eB 4 0 (ty 4)<|gimp a2 hg)<|gc 1 (W.2&&au)<|pA<|en<|cn H (λ H=>?_)<|λ H=>?_
  ·exact sq<|bx H λ X ag H=>rg (tr (tr (tr (tr (sni (encN:=(nL 1 eB)) (xs:=List.set b a.toNat<|List.getD b a.toNat []) (n:=iadd .i64 a ((f.Print.length:Nat):Int)) (enc:=eB) [.osl 4 1 0<|List.length<|List.getD (List.set b a.toNat<|List.getD b a.toNat []) (Int.toNat<|iadd .i64 a ((f.Print.length:Nat):Int)) []] (List.getD (List.set b a.toNat<|List.getD b a.toNat []) (Int.toNat<|iadd .i64 a ((f.Print.length:Nat):Int)) []) 1 1 0 4 1)<|scl (encN:=(nL 1 eB)) (xss:=List.set b a.toNat<|List.getD b a.toNat []) (iadd .i64 a ((f.Print.length:Nat):Int)) [.own 1<|List.map eB<|List.getD (List.set b a.toNat<|List.getD b a.toNat []) (Int.toNat<|iadd .i64 a ((f.Print.length:Nat):Int)) []] 1 1<|List.getD (List.set b a.toNat<|List.getD b a.toNat []) (Int.toNat<|iadd .i64 a ((f.Print.length:Nat):Int)) [])<|sn 6 1 1<|lsS (List.set b a.toNat<|List.getD b a.toNat []) (Int.toNat<|iadd .i64 a ((f.Print.length:Nat):Int))<|List.getD (List.set b a.toNat<|List.getD b a.toNat []) (Int.toNat<|iadd .i64 a ((f.Print.length:Nat):Int)) [])<|so1 (encN:=(nL 1 eB)) 1 1 ag)<|sno (encN:=(nL 1 eB)) (enc:=eB) ag [.own 1<|X.map eB] X 1 1 0 1)<|ck 2<|sp (at_idxO 1 1 ag)<|sp (at_ldN (encN:=(nL 1 eB)) (row:=[.osl 5 1 0<|X.length]) (k:=1) (sz:=1) (off:=0) (t:=ty 113) (v:=.osl 5 1 0<|X.length) ag)<|ck 2<|bx H λ cg bl H=>ca false (FR3_Index_ok bl)<|bx H λ ch a3 H=>sp (at_idxO 5 1 a3)<|bx H λ Y av H=>stA eB 5 0 (ty 4) a3 av<|en<|rg (tr (tr (tr (tr (tr (sn 115 5 1<|put_len av)<|snr (encN:=(nL 1 eB)) (xs:=List.set (List.set b a.toNat<|List.getD b a.toNat []) (Int.toNat<|iadd .i64 a ((f.Print.length:Nat):Int))<|List.getD (List.set b a.toNat<|List.getD b a.toNat []) (Int.toNat<|iadd .i64 a ((f.Print.length:Nat):Int)) []) (n:=iadd .i64 a ((f.Print.length:Nat):Int)) [.osl 5 1 0<|X.length] 1 1 0 5 1<|put_len av)<|sni (encN:=(nL 1 eB)) (xs:=List.set (List.set b a.toNat<|List.getD b a.toNat []) (Int.toNat<|iadd .i64 a ((f.Print.length:Nat):Int))<|List.getD (List.set b a.toNat<|List.getD b a.toNat []) (Int.toNat<|iadd .i64 a ((f.Print.length:Nat):Int)) []) (n:=iadd .i64 a ((f.Print.length:Nat):Int)) (enc:=eB) [.osl 5 1 0<|Y.length] Y 1 1 0 5 1)<|scl (encN:=(nL 1 eB)) (xss:=List.set (List.set b a.toNat<|List.getD b a.toNat []) (Int.toNat<|iadd .i64 a ((f.Print.length:Nat):Int))<|List.getD (List.set b a.toNat<|List.getD b a.toNat []) (Int.toNat<|iadd .i64 a ((f.Print.length:Nat):Int)) []) (iadd .i64 a ((f.Print.length:Nat):Int)) [.own 1<|Y.map eB] 1 1 Y)<|sn 6 1 1<|lsS (List.set (List.set b a.toNat<|List.getD b a.toNat []) (Int.toNat<|iadd .i64 a ((f.Print.length:Nat):Int))<|List.getD (List.set b a.toNat<|List.getD b a.toNat []) (Int.toNat<|iadd .i64 a ((f.Print.length:Nat):Int)) []) (Int.toNat<|iadd .i64 a ((f.Print.length:Nat):Int)) Y)<|sn 112 1 1<|lsS (List.set (List.set b a.toNat<|List.getD b a.toNat []) (Int.toNat<|iadd .i64 a ((f.Print.length:Nat):Int))<|List.getD (List.set b a.toNat<|List.getD b a.toNat []) (Int.toNat<|iadd .i64 a ((f.Print.length:Nat):Int)) []) (Int.toNat<|iadd .i64 a ((f.Print.length:Nat):Int)) Y)<|ck 1<|ae<|qN<|qs (gP [1,2,5,6,7,9,10,11,12] [0,1]<|po1<|pn1 (nL 1 eB) (List.set (List.set (List.set b a.toNat<|List.getD b a.toNat []) (Int.toNat<|iadd .i64 a ((f.Print.length:Nat):Int))<|List.getD (List.set b a.toNat<|List.getD b a.toNat []) (Int.toNat<|iadd .i64 a ((f.Print.length:Nat):Int)) []) (Int.toNat<|iadd .i64 a ((f.Print.length:Nat):Int)) Y)<|Pl.z)<|p ((List.set (List.set (List.set b a.toNat<|List.getD b a.toNat []) (Int.toNat<|iadd .i64 a ((f.Print.length:Nat):Int))<|List.getD (List.set b a.toNat<|List.getD b a.toNat []) (Int.toNat<|iadd .i64 a ((f.Print.length:Nat):Int)) []) (Int.toNat<|iadd .i64 a ((f.Print.length:Nat):Int)) Y),true) H
  ·exact sk<|qN<|qs (tr (tr (tr (sni (encN:=(nL 1 eB)) (xs:=List.set b a.toNat<|List.getD b a.toNat []) (n:=iadd .i64 a ((f.Print.length:Nat):Int)) (enc:=eB) [.osl 4 1 0<|List.length<|List.getD (List.set b a.toNat<|List.getD b a.toNat []) (Int.toNat<|iadd .i64 a ((f.Print.length:Nat):Int)) []] (List.getD (List.set b a.toNat<|List.getD b a.toNat []) (Int.toNat<|iadd .i64 a ((f.Print.length:Nat):Int)) []) 1 1 0 4 1)<|scl (encN:=(nL 1 eB)) (xss:=List.set b a.toNat<|List.getD b a.toNat []) (iadd .i64 a ((f.Print.length:Nat):Int)) [.own 1<|List.map eB<|List.getD (List.set b a.toNat<|List.getD b a.toNat []) (Int.toNat<|iadd .i64 a ((f.Print.length:Nat):Int)) []] 1 1<|List.getD (List.set b a.toNat<|List.getD b a.toNat []) (Int.toNat<|iadd .i64 a ((f.Print.length:Nat):Int)) [])<|sn 6 1 1<|lsS (List.set b a.toNat<|List.getD b a.toNat []) (Int.toNat<|iadd .i64 a ((f.Print.length:Nat):Int))<|List.getD (List.set b a.toNat<|List.getD b a.toNat []) (Int.toNat<|iadd .i64 a ((f.Print.length:Nat):Int)) [])<|gP [1,2,5,6,7,9,10,11,12] [0,1]<|po1<|pn1 (nL 1 eB) (List.set (List.set b a.toNat<|List.getD b a.toNat []) (Int.toNat<|iadd .i64 a ((f.Print.length:Nat):Int))<|List.getD (List.set b a.toNat<|List.getD b a.toNat []) (Int.toNat<|iadd .i64 a ((f.Print.length:Nat):Int)) [])<|Pl.z)<|p ((List.set (List.set b a.toNat<|List.getD b a.toNat []) (Int.toNat<|iadd .i64 a ((f.Print.length:Nat):Int))<|List.getD (List.set b a.toNat<|List.getD b a.toNat []) (Int.toNat<|iadd .i64 a ((f.Print.length:Nat):Int)) []),o) H
 ·exact ex 8<|qx (by cases H;exact xo rfl<|tr (tr (tr (sni (encN:=(nL 1 eB)) (xs:=b) (n:=a) (enc:=eB) [.osl 2 1 0<|List.length<|List.getD b a.toNat []] (List.getD b a.toNat []) 1 1 0 2 1)<|scl (encN:=(nL 1 eB)) (xss:=b) a [.own 1<|List.map eB<|List.getD b a.toNat []] 1 1<|List.getD b a.toNat [])<|sn 6 1 1<|lsS b a.toNat<|List.getD b a.toNat [])<|gP [1,2,5,6,7,9,10,11] [0,1]<|po1<|pn1 (nL 1 eB) (List.set b a.toNat<|List.getD b a.toNat [])<|Pl.z)
theorem FR6_Reached_L4_ok (x:((List (List Bool))×Bool×Int)) (z:(((List (List Bool))×Bool×Int)⊕((List (List Bool))×Bool))) (H:FR6_Reached_L4 n h i c e a x.1 x.2.1 x.2.2=some z):WP (cxk 152 0) (bodyOf Tryz.f36) [1,1,1,1,1,0,1,0,0,1,0,0,0,1,0,0,1,0,1,1,0,0] (roundQ 0 (FR6_Reached_L4_S h i c e a) (FR6_Reached_L4_E h i c e a) z) (FR6_Reached_L4_S h i c e a x):=by
 obtain ⟨P,B,E⟩:=x;refine sq<|sr<|ck 2<|sp (at_len eGState c)<|ck 1<|en<|cn H (λ H=>?_)<|λ H=>?_
 ·exact sk<|qz<|sq<|bk 7<|sr<|ck 1<|en<|bk 8<|bx H λ bm bn H=>lX FR6_Reached_L5_ok bn (gP [1,2,5,6,7,9,10,11,12] [0,1]<|po1<|pn1 (nL 1 eB) P<|Pl.z) rfl λ s a6=>qH<|qN<|qs (a6)<|rz<|ck 3<|ae (by cases H;exact og<|gP [1,2,5,6,7,9,10,11] [0,1]<|po1<|pn1 (nL 1 eB) bm.1<|Pl.z)
 ·exact ex 6<|qx (by cases H;exact xo rfl<|gP [1,2,5,6,7,9,10] [0,1]<|po1<|pn1 (nL 1 eB) P<|Pl.z)
theorem FR6_Reached_L3_ok (x:((List (List Bool))×Bool)) (z:(((List (List Bool))×Bool)⊕(List (List Bool)))) (H:FR6_Reached_L3 n h i c e a x.1 x.2=some z):WP (cxk 152 0) (bodyOf Tryz.f36) [1,1,1,1,1,0,1,0,0,1,0,0,0,1,0,0] (roundQ 0 (FR6_Reached_L3_S h i c e a) (FR6_Reached_L3_E h i c e a) z) (FR6_Reached_L3_S h i c e a x):=by
 obtain ⟨O,A⟩:=x;refine sq<|sr<|ck 1<|en<|cn H (λ H=>?_)<|λ H=>?_
 ·exact sk<|qz<|bk 5<|sr<|ck 1<|en<|sr<|ck 1<|en<|bk 6<|bx H λ bp bq H=>lX FR6_Reached_L4_ok bq (gP [1,2,5,6,7,9,10,11] [0,1]<|po1<|pn1 (nL 1 eB) O<|Pl.z) rfl λ s a7=>qH<|qN (by cases H;exact og<|tr (a7)<|gP [1,2,5,6,7,9,10] [0,1]<|po1<|pn1 (nL 1 eB) bp.1<|Pl.z)
 ·exact ex 4<|qx (by cases H;exact xo rfl<|gP [1,2,5,6,7,9] [0,1]<|po1<|pn1 (nL 1 eB) O<|Pl.z)
theorem FR6_Reached_L6_ok (x:((List (List Bool))×Int×Int)) (z:(((List (List Bool))×Int×Int)⊕((List (List Bool))×Int))) (H:FR6_Reached_L6 n h i c a l x.1 x.2.1 x.2.2=some z):WP (cxk 152 0) (bodyOf Tryz.f36) [1,1,1,1,1,0,1,0,0,1,0,0,1,1,1,1,0,0] (roundQ 0 (FR6_Reached_L6_S h i c a l) (FR6_Reached_L6_E h i c a) z) (FR6_Reached_L6_S h i c a l x):=by
 obtain ⟨j,J,Q⟩:=x;refine sq<|sr<|ck 2<|sp (at_len eGState c)<|ck 1<|en<|cn H (λ H=>?_)<|λ H=>?_
 ·refine sk<|qz<|sj (λ (x:((List<|List Bool)×Int))=>f36_s16 h i c a l Q x.1 x.2) (λ (x:((List<|List Bool)×Int))=>FR6_Reached_J3 n Q x.1 x.2) z ?_ (λ q=>?_)
  ·rintro ⟨M,S⟩ H;exact rz<|ck 3<|ae (by cases H;exact og<|gP [1,2,5,6,7,9,16,17] [0,1]<|po1<|pn1 (nL 1 eB) M<|Pl.z)
  refine bk 11<|sq<|bx H λ m ah H=>rg (tr (so1 (encN:=(nL 1 eB)) 1 1 ah)<|sno (encN:=(nL 1 eB)) (enc:=eB) ah [.own 1<|m.map eB] m 1 1 0 1)<|ck 2<|sp (at_idxO 1 1 ah)<|sp (at_ldN (encN:=(nL 1 eB)) (row:=[.osl 2 1 0<|m.length]) (k:=1) (sz:=1) (off:=0) (t:=ty 113) (v:=.osl 2 1 0<|m.length) ah)<|ck 1<|bx H λ br a4 H=>sp (at_idxO 2 1 a4)<|sp (at_ldA eB 2 0 (ty 4) a4)<|ck 3<|bx H λ ci bt H=>sE (λ hg=>at_idxD eGState<|gimp bt hg)<|gc 2 br<|ck 1<|bx H λ cj bu H=>cG false (leZ) rfl (λ hg=>FR3_Bit_ok<|gimp bu hg) (Or.inl rfl) (impK (λ hh=>hh)<|impK (λ hh=>hh)<|impZ) rfl<|pA<|en<|cn H (λ H=>?_)<|λ H=>?_
  ·exact rg (tr (tr (tr (sni (encN:=(nL 1 eB)) (xs:=j) (n:=a) (enc:=eB) [.osl 2 1 0<|m.length] m 1 1 0 2 1)<|scl (encN:=(nL 1 eB)) (xss:=j) a [.own 1<|m.map eB] 1 1 m)<|sn 6 1 1<|lsS j a.toNat m)<|sn 134 1 1<|lsS j a.toNat m)<|ck 2<|ae<|qN<|qs (gP [1,2,5,6,7,9,16,17] [0,1]<|po1<|pn1 (nL 1 eB) (List.set j a.toNat m)<|Pl.z)<|q ((List.set j a.toNat m),a) H
  ·exact sk<|qN<|qs (tr (tr (tr (tr (sni (encN:=(nL 1 eB)) (xs:=j) (n:=a) (enc:=eB) [.osl 2 1 0<|m.length] m 1 1 0 2 1)<|scl (encN:=(nL 1 eB)) (xss:=j) a [.own 1<|m.map eB] 1 1 m)<|sn 6 1 1<|lsS j a.toNat m)<|sn 134 1 1<|lsS j a.toNat m)<|gP [1,2,5,6,7,9,16,17] [0,1]<|po1<|pn1 (nL 1 eB) (List.set j a.toNat m)<|Pl.z)<|q ((List.set j a.toNat m),J) H
 ·exact ex 10<|qx (by cases H;exact xo rfl<|gP [1,2,5,6,7,9] [0,1]<|po1<|pn1 (nL 1 eB) j<|Pl.z)
theorem FR6_Reached_L2_ok (x:((List (List Bool))×Int×Int)) (z:(((List (List Bool))×Int×Int)⊕Int)) (H:FR6_Reached_L2 n h i c x.1 x.2.1 x.2.2=some z):WP (cxk 152 0) (bodyOf Tryz.f36) [1,1,1,1,1,0,1,0,0] (roundQ 0 (FR6_Reached_L2_S h i c) (FR6_Reached_L2_E) z) (FR6_Reached_L2_S h i c x):=by
 obtain ⟨U,e,a⟩:=x;refine sq<|sr<|ck 4<|en<|cn H (λ H=>?_)<|λ H=>?_
 ·refine sk<|qz<|sq<|bk 3<|sq<|sr<|ck 1<|en<|bk 4<|bx H λ C bv H=>lX FR6_Reached_L3_ok bv (gP [1,2,5,6,7,9,10] [0,1]<|po1<|pn1 (nL 1 eB) U<|Pl.z) rfl λ s a8=>qH<|qs (a8)<|sr<|ck 1<|en<|sj (λ (x:Int)=>f36_s13 h i c e a C x) (λ (x:Int)=>FR6_Reached_J2 n h i c e a C x) z ?_ (λ r=>?_)
  ·intro l H;exact sr<|ck 1<|en<|bk 10<|bx H λ bw bz H=>lX FR6_Reached_L6_ok bz (gP [1,2,5,6,7,9,16,17] [0,1]<|po1<|pn1 (nL 1 eB) C<|Pl.z) rfl λ s a9=>qH<|qN<|qs (a9)<|rz<|ck 3<|ae (by cases H;exact og<|gP [1,2,5,6,7,9] [0,1]<|po1<|pn1 (nL 1 eB) bw.1<|Pl.z)
  refine sr<|ck 4<|en<|cn H (λ H=>?_)<|λ H=>?_
  ·exact rz<|ck 2<|bx H λ cp b0 H=>sp (at_sidx b0)<|bx H λ b1 b2 H=>ca false (FR2_Class_ok b2)<|ck 1<|ae<|qs (gP [1,2,5,6,7,9,16] [0,1]<|po1<|pn1 (nL 1 eB) C<|Pl.z)<|r b1 H
  ·exact sk<|qs (gP [1,2,5,6,7,9,16] [0,1]<|po1<|pn1 (nL 1 eB) C<|Pl.z)<|r 0 H
 ·exact ex 2<|qx (by cases H;exact xo rfl<|sg [7])
theorem FR6_Reached_ok {z} (H:FR6_Reached n h i=some z):CallOK Tryz.prog 36 [.agg (bTable h),.d (.str i)] (.d (.int .i64 z)):=by
 exact fO 152 (f36_s1 h i) Tryz.func36<|sr<|ck 2<|en<|sr<|ck 1<|bx H λ c b3 H=>ca false (FR3_States_ok b3)<|ck 1<|en<|sr<|ck 3<|bx H λ b6 ai H=>sp (at_mkZ 1 (ez:=[.nil]) ai)<|ck 2<|en<|sq<|sq<|rg (tr (tr (sh_toM (encN:=(nL 1 eB)) (sz:=1) (z:=[.nil]) (n:=(iadd .i64 ((i.length:Nat):Int) 1)) 1 (mkl_rep ai) (by kernel_rfl) (by kernel_rfl))<|sn 23 1 1<|mkl_len ai)<|sn 6 1 1<|mkl_len ai)<|ck 1<|en<|bk 0<|bx H λ R b4 H=>lX FR6_Reached_L1_ok b4 (gP [1,2,5,6,7,8] [0,1]<|po1<|pn1 (nL 1 eB) b6<|Pl.z) rfl λ s ba=>qH<|qs (ba)<|sq<|bx H λ Z aj H=>rg (tr (so1 (encN:=(nL 1 eB)) 1 1 aj)<|sno (encN:=(nL 1 eB)) (enc:=eB) aj [.own 1<|Z.map eB] Z 1 1 0 1)<|ck 1<|sp (at_idxO 1 1 aj)<|sp (at_ldN (encN:=(nL 1 eB)) (row:=[.osl 2 1 0<|Z.length]) (k:=1) (sz:=1) (off:=0) (t:=ty 113) (v:=.osl 2 1 0<|Z.length) aj)<|bx H λ cm a5 H=>sp (at_idxO 2 1 a5)<|bx H λ ab aw H=>stA eB 2 0 (ty 4) a5 aw<|en<|sq<|sq<|rg (tr (tr (tr (tr (tr (sn 38 2 1<|put_len aw)<|snr (encN:=(nL 1 eB)) (xs:=R) (n:=0) [.osl 2 1 0<|Z.length] 1 1 0 2 1<|put_len aw)<|sni (encN:=(nL 1 eB)) (xs:=R) (n:=0) (enc:=eB) [.osl 2 1 0<|ab.length] ab 1 1 0 2 1)<|scl (encN:=(nL 1 eB)) (xss:=R) 0 [.own 1<|ab.map eB] 1 1 ab)<|sn 6 1 1<|lsS R (Int.toNat 0) ab)<|sn 36 1 1<|lsS R (Int.toNat 0) ab)<|ck 1<|en<|bk 2<|bx H λ co b5 H=>lX FR6_Reached_L2_ok b5 (gP [1,2,5,6,7,9] [0,1]<|po1<|pn1 (nL 1 eB) (List.set R (Int.toNat 0) ab)<|Pl.z) rfl λ s bb=>qH<|qs (bb)<|sr<|ck 2<|en<|re (by cases H;exact pr rd)
end
section
variable (e:GTable) (i:(List UInt8)) (b:(List (List Int))) (c:(List GState)) (a:GResult) (g:GPoint) (f:GResult) (h:Int) (k:Int) (o:Int)
def f17_s1:St:=⟨(0,.agg [.d<|.int .i64 e.Modes,.d<|.int .u8 e.Accept,.d<|.sl<|e.Rules.map eGRule])::(1,.d<|.str i)::[],[]⟩
def f17_s2:St:=⟨(2,.ptr 0 0)::(4,.ptr 1 0)::(7,.d<|.sl<|b.map<|eL eI64)::(8,.d<|.sl<|c.map eGState)::(9,.ptr 2 0)::(10,.ptr 3 0)::[],[some<|.box<|bTable e,some<|.box [.osl 4 1 0<|List.length ([]:List Int),.osl 5 1 0<|List.length ([]:List Int),.d<|.int .i64 0,.d<|.int .i64 0],some<|.box<|bResult_0_1 a (.osl 6 1 0<|a.W.Cells.length)<|.osl 7 1 0<|a.W.Path.length,some<|.box<|bPoint g,some<|.arr 1<|List.map eU8 ([]:List Int),some<|.arr 1<|List.map eI64 ([]:List Int),some<|.arr 1<|a.W.Cells.map eU8,some<|.arr 1<|a.W.Path.map eI64]⟩
def f17_s3:St:=⟨(4,.ptr 0 0)::(9,.ptr 1 0)::[],[some<|.box [.osl 2 1 0<|List.length ([]:List Int),.osl 3 1 0<|List.length ([]:List Int),.d<|.int .i64 0,.d<|.int .i64 0],some<|.box<|bResult_0_1 f (.osl 4 1 0<|f.W.Cells.length)<|.osl 5 1 0<|f.W.Path.length,some<|.arr 1<|List.map eU8 ([]:List Int),some<|.arr 1<|List.map eI64 ([]:List Int),some<|.arr 1<|f.W.Cells.map eU8,some<|.arr 1<|f.W.Path.map eI64]⟩
def f17_s4:St:=⟨(2,.ptr 0 0)::(4,.ptr 1 0)::(7,.d<|.sl<|b.map<|eL eI64)::(8,.d<|.sl<|c.map eGState)::(9,.ptr 2 0)::(10,.ptr 3 0)::(11,.d<|.int .i64 h)::(12,.d<|.int .i64 k)::[],[some<|.box<|bTable e,some<|.box [.osl 4 1 0<|List.length ([]:List Int),.osl 5 1 0<|List.length ([]:List Int),.d<|.int .i64 0,.d<|.int .i64 0],some<|.box<|bResult_0_1 a (.osl 6 1 0<|a.W.Cells.length)<|.osl 7 1 0<|a.W.Path.length,some<|.box<|bPoint g,some<|.arr 1<|List.map eU8 ([]:List Int),some<|.arr 1<|List.map eI64 ([]:List Int),some<|.arr 1<|a.W.Cells.map eU8,some<|.arr 1<|a.W.Path.map eI64]⟩
def f17_s5:St:=⟨(2,.ptr 0 0)::(4,.ptr 1 0)::(7,.d<|.sl<|b.map<|eL eI64)::(8,.d<|.sl<|c.map eGState)::(9,.ptr 2 0)::(10,.ptr 3 0)::(12,.d<|.int .i64 o)::[],[some<|.box<|bTable e,some<|.box [.osl 4 1 0<|List.length ([]:List Int),.osl 5 1 0<|List.length ([]:List Int),.d<|.int .i64 0,.d<|.int .i64 0],some<|.box<|bResult_0_1 a (.osl 6 1 0<|a.W.Cells.length)<|.osl 7 1 0<|a.W.Path.length,some<|.box<|bPoint g,some<|.arr 1<|List.map eU8 ([]:List Int),some<|.arr 1<|List.map eI64 ([]:List Int),some<|.arr 1<|a.W.Cells.map eU8,some<|.arr 1<|a.W.Path.map eI64]⟩
def FR6_Write_L2_E:Int->Ex->St->Prop:=xX 0 2<|λ (y:Int)=>f17_s5 e b c a g y
def FR6_Write_L2_S:Int->St:=(λ (x:Int)=>f17_s4 e b c a g h x)
def FR6_Write_L1_E:GResult->Ex->St->Prop:=xX 0 0<|λ (y:GResult)=>f17_s3 y
def FR6_Write_L1_S:(GResult×GPoint)->St:=(λ (x:(GResult×GPoint))=>f17_s2 e b c x.1 x.2)
variable {e i b c a g f h k o}
theorem FR6_Write_L2_ok (x:Int) (z:(Int⊕Int)) (H:FR6_Write_L2 n e b c a g h x=some z):WP (cxk 118 0) (bodyOf Tryz.f17) [1,1,1,1,1,1,1,0,0,0,1,0,1,0,0,0] (roundQ 0 (FR6_Write_L2_S e b c a g h) (FR6_Write_L2_E e b c a g) z) (FR6_Write_L2_S e b c a g h x):=by
 revert H;generalize x=k;intro H;refine sq<|sr<|ck 4<|bx H λ V p H=>ca false (FR6_After_ok p)<|ck 2<|en<|cn H (λ H=>?_)<|λ H=>?_
 ·exact sk<|qz<|bk 3<|rz<|ck 3<|ae<|qN (by cases H;exact og<|sg [2,4,7,8,9,10,11,12])
 ·exact ex 2<|qx (by cases H;exact xo rfl<|sg [2,4,7,8,9,10,12])
theorem FR6_Write_L1_ok (x:(GResult×GPoint)) (z:((GResult×GPoint)⊕GResult)) (H:FR6_Write_L1 n e b c x.1 x.2=some z):WP (cxk 118 0) (bodyOf Tryz.f17) [1,1,1,1,1,1,1,0,0,0] (roundQ 0 (FR6_Write_L1_S e b c) (FR6_Write_L1_E) z) (FR6_Write_L1_S e b c x):=by
 obtain ⟨a,g⟩:=x;refine sq<|sr<|ck 3<|bx H λ X q H=>sp (at_idxD (eL eI64) q)<|ck 4<|bx H λ Y r H=>ca false (FR3_Index_ok r)<|bx H λ Z t H=>sp (at_idxD eI64 t)<|ck 2<|en<|cn H (λ H=>?_)<|λ H=>?_
 ·exact sk<|qz<|bk 1<|sr<|ck 3<|bx H λ aa u H=>sp (at_idxD (eL eI64) u)<|ck 4<|bx H λ ab w H=>ca false (FR3_Index_ok w)<|bx H λ h A H=>sp (at_idxD eI64 A)<|ck 3<|en<|sq<|bk 2<|bx H λ ac B H=>lX FR6_Write_L2_ok B (sg [2,4,7,8,9,10,11,12]) rfl λ s l=>qH<|qs (l)<|sr<|ck 5<|bx H λ am C H=>sp (at_appO eI64 7 1 C)<|ck 3<|en<|sr<|ck 6<|bx H λ af G H=>sp (at_idxD eGRule G)<|ck 2<|bx H λ ap I H=>sp (at_app eU8 6 1 I)<|ck 3<|en<|sr<|ck 4<|bx H λ ag J H=>ca false (FR3_Step_ok J)<|ck 5<|en<|rz<|ck 5<|bx H λ ah K H=>sp (at_idxD eGRule K)<|ck 6<|ae<|qN (by cases H;exact og<|sg [2,4,7,8,9,10])
 ·exact ex 0<|qx (by cases H;exact xo rfl<|sg [4,9])
theorem FR6_Write_ok {z} (H:FR6_Write n e i=some z):CallOK Tryz.prog 17 [.agg (bTable e),.d (.str i)] (.agg [.own 1 (z.W.Cells.map eU8),.own 1 (z.W.Path.map eI64),.d (.int .i64 z.At),.d (.int .i64 z.E)]):=by
 refine fO 118 (f17_s1 e i) Tryz.func17<|sr<|ck 2<|en<|sr<|ck 1<|bx H λ j L H=>ca false (FR2_Text_ok L)<|ck 5<|en<|sq<|sr<|ck 2<|en<|cn H (λ H=>?_)<|λ H=>?_
 ·exact sr<|ck 4<|en<|re<|qr (by cases H;exact pr<|rO (v:=.agg [.d<|.nil,.d<|.nil,.d<|.int .i64 j.1,.d<|.int .i64 j.2]) []<|a1<|c1 vz<|c1 vz<|c1 vd<|c1 vd<|c0)
 ·refine sk<|qz<|sr<|ck 2<|bx H λ b M H=>ca false (FR6_Suffixes_ok M)<|ck 1<|en<|sq<|sr<|ck 1<|bx H λ ai O H=>sp (at_idxD (eL eI64) O)<|ck 1<|bx H λ aj P H=>sp (at_idxD eI64 P)<|ck 2<|en<|cn H (λ H=>?_)<|λ H=>?_
  ·exact sr<|ck 2<|bx H λ Q R H=>ca false (FR6_Reached_ok R)<|ck 2<|en<|re<|qr (by cases H;exact pr<|rO (v:=.agg [.d<|.nil,.d<|.nil,.d<|.int .i64 Q,.d<|.int .i64 61]) []<|a1<|c1 vz<|c1 vz<|c1 vd<|c1 vd<|c0)
  ·exact sk<|qz<|sr<|ck 1<|bx H λ c S H=>ca false (FR3_States_ok S)<|ck 6<|en<|sr<|ck 1<|bx H λ ak T H=>ca false (FR3_Start_ok T)<|ck 4<|en<|sq<|bk 0<|bx H λ al U H=>lX FR6_Write_L1_ok U (tr (tr (tr (tr (sh_nilc 1 0 1 (by kernel_rfl))<|sh_nilc 1 1 1 (by kernel_rfl))<|sh_nilc 2 0 1 (by kernel_rfl))<|sh_nilc 2 1 1 (by kernel_rfl))<|sg [2,4,7,8,9,10]) rfl λ s m=>qH<|qs (m)<|sr<|ck 2<|en<|re (by cases H;exact pr<|rO (v:=.agg [.osl 4 1 0<|z.W.Cells.length,.osl 5 1 0<|z.W.Path.length,.d<|.int .i64 z.At,.d<|.int .i64 z.E]) [4,5]<|a1<|c1 vo<|c1 vo<|c1 vd<|c1 vd<|c0)
end
section
variable (k:GRaw) (m:(List Int)) (i:(List GSixdotref07Raw)) (e:Bool) (h:GTable) (p:GMemo) (q:(List UInt8)) (l:Int) (u:GMemo) (w:(List UInt8))
def f4_s1:St:=⟨(0,.agg [.d<|.int .u8 k.Base,.d<|.int .u8 k.Drop,.d<|.sl<|k.More.map eGRawRule])::(1,.d<|.sl<|m.map eU8)::(2,.d<|.sl<|i.map eGSixdotref07Raw)::[],[]⟩
def f4_s2:St:=⟨(2,.d<|.sl<|i.map eGSixdotref07Raw)::(7,.d<|.bool e)::(8,.ptr 0 0)::(9,.d<|.str q)::(10,.ptr 1 0)::(12,.d<|.int .i64 l)::[],[some<|.box<|bTable h,some<|.box<|bMemo p]⟩
def f4_s3:St:=⟨(7,.d<|.bool e)::(8,.ptr 0 0)::(9,.d<|.str w)::(10,.ptr 1 0)::[],[some<|.box<|bTable h,some<|.box<|bMemo u]⟩
def FL7_ReviseScripts_L1_E:((GMemo×(List UInt8))⊕Bool)->Ex->St->Prop:=xS (xX 0 0<|λ (y:(GMemo×(List UInt8)))=>f4_s3 e h y.1 y.2)<|xR ty Tryz.f4<|λ (y:Bool)=>.d<|.bool y
def FL7_ReviseScripts_L1_S:(GMemo×(List UInt8)×Int)->St:=(λ (x:(GMemo×(List UInt8)×Int))=>f4_s2 i e h x.1 x.2.1 x.2.2)
variable {k m i e h p q l u w}
theorem FL7_ReviseScripts_L1_ok (x:(GMemo×(List UInt8)×Int)) (z:((GMemo×(List UInt8)×Int)⊕((GMemo×(List UInt8))⊕Bool))) (H:FL7_ReviseScripts_L1 n i e h x.1 x.2.1 x.2.2=some z):WP (cxk 105 0) (bodyOf Tryz.f4) [1,1,1,1,1,1,0,1,0,0] (roundQ 0 (FL7_ReviseScripts_L1_S i e h) (FL7_ReviseScripts_L1_E e h) z) (FL7_ReviseScripts_L1_S i e h x):=by
 obtain ⟨p,q,l⟩:=x;refine sq<|sr<|ck 2<|sp (at_len eGSixdotref07Raw i)<|ck 3<|gc 1 (decide<|l<((i.length:Nat):Int))<|pA<|en<|cn H (λ H=>?_)<|λ H=>?_
 ·refine sk<|qz<|sq<|bk 1<|sr<|ck 4<|bx H λ U A H=>sp (at_idxD eGSixdotref07Raw A)<|ck 1<|bx H λ V B H=>ca false (FR7_Made_ok B)<|ck 2<|en<|sr<|ck 2<|bx H λ W C H=>ca false (FR7_Spliced_ok C)<|ck 1<|en<|sr<|ck 3<|bx H λ G I H=>ca false (FRv_Change_ok I)<|ck 8<|en<|sq<|sr<|ck 6<|bx H λ X J H=>cG false (leZ) rfl (λ hg=>FR7_Memo_ok<|gimp J hg) (Or.inl rfl) (impK (λ hh=>hh)<|impK (λ hh=>hh)<|impZ) rfl<|bx H λ Y K H=>cG false (leZ) rfl (λ hg=>FR7_Same_ok<|gimp K hg) (Or.inl rfl) (impK (λ hh=>hh)<|impK (λ hh=>hh)<|impZ) rfl<|gc 1 (!(G.2.2 != 0))<|pO<|en<|cn H (λ H=>?_)<|λ H=>?_
  ·exact sr<|ck 1<|en<|re<|qr<|qR<|qr (by cases H;exact ro rfl rd)
  ·exact sk<|qz<|rz<|ck 2<|ae<|qN<|qz<|rz<|ck 3<|ae (by cases H;exact og<|sg [2,7,8,9,10,12])
 ·exact ex 0<|qx (by cases H;exact xo rfl<|sg [7,8,9,10])
theorem FL7_ReviseScripts_ok {z} (H:FL7_ReviseScripts n k m i=some z):CallOK Tryz.prog 4 [.agg (bRaw k),.d (.sl (m.map eU8)),.d (.sl (i.map eGSixdotref07Raw))] (.d (.bool z)):=by
 refine fO 105 (f4_s1 k m i) Tryz.func4<|sr<|ck 2<|en<|sr<|bx H λ e L H=>ca false (FL7_sanity_ok L)<|ck 1<|en<|sr<|ck 1<|bx H λ h M H=>ca false (FR2_Made_ok M)<|ck 2<|en<|sr<|ck 2<|bx H λ Z O H=>ca false (FR2_Spelled_ok O)<|ck 1<|en<|sr<|ck 2<|bx H λ aa P H=>ca false (FRv_Start_ok P)<|ck 6<|en<|sq<|sr<|ck 2<|en<|cn H (λ H=>?_)<|λ H=>?_
 ·exact sr<|ck 1<|en<|re<|qr (by cases H;exact pr rd)
 ·refine sk<|qz<|sq<|sr<|ck 1<|en<|bk 0<|bx H λ Q o H=>?_;rcases Q with ab|ac
  ·exact lX FL7_ReviseScripts_L1_ok o (sg [2,7,8,9,10,12]) rfl λ s r=>qH<|qs (r)<|sr<|ck 2<|bx H λ f R H=>ca false (FRv_Result_ok R)<|ck 6<|en<|sr<|ck 2<|bx H λ j S H=>ca false (FR6_Write_ok S)<|ck 2<|en<|sr<|ck 3<|gc 1 e<|ck 1<|gc 3 e<|pA<|ck 2<|gc 2 (e&&((f.2==0)==(j.E==0)))<|ck 1<|gc 1 ((e&&((f.2==0)==(j.E==0)))&&!(f.2==0))<|pG (g:=(e&&((f.2==0)==(j.E==0)))) (v:=.d<|.bool<|(f.2==0)||(f.2==61)) (λ hg=>pick_genz (c:=.gv (e&&((f.2==0)==(j.E==0)))<|.d<|.bool<|f.2==0) (a:=.d<|.bool true) (b:=.gv ((e&&((f.2==0)==(j.E==0)))&&!(f.2==0))<|.d<|.bool<|f.2==61) rfl rfl rfl ((λ hh=>hh) hg) trivial (λ ht=>by rw [(λ hh=>hh) hg,ht];rfl))<|pA<|ck 3<|gc 1 ((e&&((f.2==0)==(j.E==0)))&&((f.2==0)||(f.2==61)))<|bx H λ af T H=>cG false (leZ) rfl (λ hg=>FR6_Same_ok<|gimp T hg) (Or.inl rfl) (impK (λ hh=>hh)<|impK (λ hh=>hh)<|impZ) rfl<|pA<|ck 1<|en<|re (by cases H;exact pr rd)
  ·exact lR FL7_ReviseScripts_L1_ok o (sg [2,7,8,9,10,12]) rfl λ s t=>qR<|qr (by cases H;exact pr t)
end
end Go.AI
end
