/- Part 5 of 6 of the proof: lemmas about the model and the program's functions, with no condition beyond those that each states. -/
import Derived.Test.YtnpikfdkjmebjaaLD
import Derived.ChangeArms
import Derived.WalkKit
import Derived.ProofKit
import Derived.OpenShut
import Derived.Carry
import Derived.WideKeyArgs
import Derived.ChangeSame
import Derived.KernelRfl
section
namespace Go.AI
open Go.Proofs
set_option maxRecDepth 10000
theorem xok (n kl:Nat):XOK Try.prog (cxk n kl):=⟨tyOK,rfl⟩
theorem fO (k:Nat) (s:St) {fn:Func} {f:FuncId} {args:List AV} {r:AV} (hf:Try.prog.funcs[f]? = some fn) (h:WP (cxk k 0) (AX fn) [] (TD (cxk k 0).ty fn.results.toList r) s) (hb:fn.body=some (AX fn):=by kernel_rfl) (hnm:(fn.name == "runtime.NumGoroutine")=false:=by kernel_rfl) (hnt:(cxk k 0).nt.n=fn.ntmps:=by kernel_rfl) (hlen:Nat.ble args.length fn.ntmps=true:=by kernel_rfl) (hs:(⟨(List.range args.length).zip args,[]⟩:St)=s:=by kernel_rfl):AQ Try.prog f args r:=fo follows (Jdp k 0) hf h hb hnm hnt hlen hs
theorem fL (k nb:Nat) (s:St) {fn:Func} {f:FuncId} {args:List AV} {O0 O1:List (Option Ob)} {r:AV} (hf:Try.prog.funcs[f]? = some fn) (h:WP (cxk k nb) (AX fn) [] (QY nb (cxk k nb).ty fn.results.toList r O1) s) (hb:fn.body=some (AX fn):=by kernel_rfl) (hnm:(fn.name == "runtime.NumGoroutine")=false:=by kernel_rfl) (hnt:(cxk k nb).nt=⟨fn.ntmps,[],nb,qfT⟩:=by kernel_rfl) (hlen:Nat.ble args.length fn.ntmps=true:=by kernel_rfl) (hs:(⟨(List.range args.length).zip args,O0⟩:St)=s:=by kernel_rfl):CH Try.prog f args O0 nb r O1:=fl follows (Jdp k nb) hf h hb hnm hnt hlen hs
theorem yok (n kl:Nat):YOK Try.prog (cxk n kl):=⟨rfl⟩
variable {n:Nat}
def Ax (x:As):List D:=[.str x.Print,.sl<|x.Cells.map eU8,.int .u8 x.Left,.int .u8 x.Right,.int .i64 x.From,.int .i64 x.To]
def AY (x:Ad):List D:=[.int .i64 x.Mode,.int .i64 x.Last,.int .u8 x.Need]
def Bd (x:E1):List D:=[.str x.Print,.sl<|x.Cells.map eU8,.int .i64 x.To]
def Aw (x:Ap):List D:=[.sl<|x.Arcs.map<|eL Bd,.sl<|x.Accepts.map eB,.bool x.Alive]
def Ay (x:Af):List D:=[.int .u8 x.Cell,.str x.Print,.int .i64 x.To]
def ZH (x:BR):List D:=[.int .i64 x.Side,.str x.Text]
def AT (x:Am):List D:=[.int .i64 x.A,.int .i64 x.B]
def Aq (x:Ah):List D:=[.int .i64 x.Pair.A,.int .i64 x.Pair.B,.int .i64 x.Lead.Side,.str x.Lead.Text]
def Hx (x:Bh):List D:=[.sl<|x.Nodes.map Aq,dPG Aq x.From,.int .u8 x.Cell]
theorem Pr {x:(List ((List Ah)×Int))} {y:Bh} (h:Sc x=some y):x=(y.Nodes,y.Cell)::y.From:=by
  cases x with
  | nil=>cases h
  | cons p r=>cases h;rfl
def Al (x:Aa):List D:=[.int .i64 x.State,.str x.Rest]
@[reducible] def Jh0 {α:Type} (e:α->List D) (x:D7 α):List D:=e x.a0++e x.a1
def A0 (x:An):List D:=[.int .i64 x.N,.int .i64 x.Leads.a0.Side,.str x.Leads.a0.Text,.int .i64 x.Leads.a1.Side,.str x.Leads.a1.Text]
def CE (x:AN):List D:=[.int .i64 x.Cell,.int .i64 x.Byte,.int .i64 x.State]
def EX (x:CO):List D:=[.sl<|x.P.map eU8,.sl<|x.C.map eU8,.int .u8 x.L,.int .u8 x.R,.int .u8 x.W.a0,.int .u8 x.W.a1]
def Jh1 (x:Jn):List D:=[.int .u8 x.Base,.int .u8 x.Drop,.sl<|x.More.map EX]
def D5 (x:Ab) (v2:AV):List AV:=[.d<|.int .i64 x.Modes,.d<|.int .u8 x.Accept,v2]
def H5 (x:As):List AV:=[.d<|.str x.Print,.d<|.sl<|x.Cells.map eU8,.d<|.int .u8 x.Left,.d<|.int .u8 x.Right,.d<|.int .i64 x.From,.d<|.int .i64 x.To]
def Bf (x:Ab):List AV:=[.d<|.int .i64 x.Modes,.d<|.int .u8 x.Accept,.d<|.sl<|x.Rules.map Ax]
def G7 (x:Ad):List AV:=[.d<|.int .i64 x.Mode,.d<|.int .i64 x.Last,.d<|.int .u8 x.Need]
def Dk (x:Ap) (v0:AV) (v1:AV):List AV:=[v0,v1,.d<|.bool x.Alive]
def TR (x:Af):List AV:=[.d<|.int .u8 x.Cell,.d<|.str x.Print,.d<|.int .i64 x.To]
def I7 (x:Ah):List AV:=[.d<|.int .i64 x.Pair.A,.d<|.int .i64 x.Pair.B,.d<|.int .i64 x.Lead.Side,.d<|.str x.Lead.Text]
def Jev (x:E1):List AV:=[.d<|.str x.Print,.d<|.sl<|x.Cells.map eU8,.d<|.int .i64 x.To]
def Jdq (x:An):List AV:=[.d<|.int .i64 x.N,.d<|.int .i64 x.Leads.a0.Side,.d<|.str x.Leads.a0.Text,.d<|.int .i64 x.Leads.a1.Side,.d<|.str x.Leads.a1.Text]
def LE (x:Bh) (v0:AV) (v1:AV):List AV:=[v0,v1,.d<|.int .u8 x.Cell]
def Sd (x:Ce):List AV:=[.d<|.sl<|x.Cells.map eU8,.d<|.str x.A,.d<|.str x.B]
def ZI (x:AN):List AV:=[.d<|.int .i64 x.Cell,.d<|.int .i64 x.Byte,.d<|.int .i64 x.State]
def Mp (x:CO):List AV:=[.d<|.sl<|x.P.map eU8,.d<|.sl<|x.C.map eU8,.d<|.int .u8 x.L,.d<|.int .u8 x.R,.d<|.int .u8 x.W.a0,.d<|.int .u8 x.W.a1]
def Og (x:As) (v1:AV):List AV:=[.d<|.str x.Print,v1,.d<|.int .u8 x.Left,.d<|.int .u8 x.Right,.d<|.int .i64 x.From,.d<|.int .i64 x.To]
def Vj (x:Jn):List AV:=[.d<|.int .u8 x.Base,.d<|.int .u8 x.Drop,.d<|.sl<|x.More.map EX]
theorem Jew:∀ a b:Int,Av [.int .u8] ((eU8 a).map .d) ((eU8 b).map .d)=some (decide (a=b)):=by
  intro a b;simp[Av,eU8]
  all_goals (first|rfl|(rw[Bool.eq_iff_iff];simp))
theorem Q8:∀ a b:Ad,Av [.int .i64,.int .i64,.int .u8] ((AY a).map .d) ((AY b).map .d)=some (decide (a=b)):=by
  intro a b;cases a;cases b;simp[Av,AY,Bool.decide_and]
  all_goals (first|rfl|(rw[Bool.eq_iff_iff];simp))
theorem ZJ:∀ a b:Aa,Av [.int .i64,.string] ((Al a).map .d) ((Al b).map .d)=some (decide (a=b)):=by
  intro a b;cases a;cases b;simp[Av,Al,Bool.decide_and]
  all_goals (first|rfl|(rw[Bool.eq_iff_iff];simp))
theorem ZK:∀ a b:Am,Av [.int .i64,.int .i64] ((AT a).map .d) ((AT b).map .d)=some (decide (a=b)):=by
  intro a b;cases a;cases b;simp[Av,AT,Bool.decide_and]
  all_goals (first|rfl|(rw[Bool.eq_iff_iff];simp))
theorem Vk:∀ a b:AN,Av [.int .i64,.int .i64,.int .i64] ((CE a).map .d) ((CE b).map .d)=some (decide (a=b)):=by
  intro a b;cases a;cases b;simp[Av,CE,Bool.decide_and]
  all_goals (first|rfl|(rw[Bool.eq_iff_iff];simp))
section
variable (a:(List (List UInt8))) (b:(List (List Int))) (c:Ab) (f:Int) (e:Ab)
def Jex:St:=⟨(0,.d<|.sl<|a.map eS)::(1,.d<|.sl<|b.map<|eL eU8)::[],[]⟩
def Jey:St:=⟨(0,.d<|.sl<|a.map eS)::(1,.d<|.sl<|b.map<|eL eU8)::(4,.ptr 0 0)::(5,.ptr 1 0)::(6,.d<|.int .i64 f)::[],[some<|.box [.d<|.int .i64 0,.d<|.int .u8 0,.osl 2 6 0<|List.length ([]:List As)],some<|.box<|D5 c<|.osl 3 6 0<|c.Rules.length,some<|.arr 6<|List.map Ax ([]:List As),some<|.arr 6<|c.Rules.map Ax]⟩
def Jez:St:=⟨(4,.ptr 0 0)::(5,.ptr 1 0)::[],[some<|.box [.d<|.int .i64 0,.d<|.int .u8 0,.osl 2 6 0<|List.length ([]:List As)],some<|.box<|D5 e<|.osl 3 6 0<|e.Rules.length,some<|.arr 6<|List.map Ax ([]:List As),some<|.arr 6<|e.Rules.map Ax]⟩
def Qh:Ab->Ex->St->Prop:=xX 0 0<|λ (y:Ab)=>Jez y
def Ld:(Ab×Int)->St:=(λ (x:(Ab×Int))=>Jey a b x.1 x.2)
variable {a b c f e}
theorem Ps (x:(Ab×Int)) (z:((Ab×Int)⊕Ab)) (H:NH n a b x.1 x.2=some z):WP (cxk 29 0) (AX Try.f19) [1,1,0,1,0,0] (AS 0 (Ld a b) (Qh) z) (Ld a b x):=by
 obtain⟨c,f⟩:=x;refine sq<|sr<|ck 2<|sp (AR eS a)<|ck 1<|en<|cn H (λ H=>?_)<|λ H=>?_
 ·exact sk<|qz<|sq<|bk 1<|rz<|ck 4<|bx H λ l h H=>sp (AH eS h)<|ck 3<|bx H λ m i H=>sp (AH (eL eU8) i)<|ck 3<|bx H λ o j H=>sp (Bp Ax 3 6 j)<|ck 2<|ae<|qN<|qz<|rz<|ck 3<|ae (by cases H;exact og<|sg [0,1,4,5,6])
 ·exact ex 0<|qx (by cases H;exact xo rfl<|sg [4,5])
theorem EY {z} (H:Fa n a b=some z):AQ Try.prog 19 [.d (.sl (a.map eS)),.d (.sl (b.map (eL eU8)))] (.agg [.d (.int .i64 z.Modes),.d (.int .u8 z.Accept),.own 6 (z.Rules.map Ax)]):=by
 exact fO 29 (Jex a b) Try.func19<|sr<|ck 1<|en<|sr<|ck 3<|en<|sq<|sr<|ck 1<|en<|bk 0<|bx H λ p k H=>lX Ps k (tr (tr (DL 0 2 6 (by kernel_rfl))<|DL 1 2 6 (by kernel_rfl))<|sg [0,1,4,5,6]) rfl λ s g=>qH<|qs (g)<|sr<|ck 2<|en<|re (by cases H;exact pr<|rO (v:=.agg [.d<|.int .i64 z.Modes,.d<|.int .u8 z.Accept,.osl 3 6 0<|z.Rules.length]) [3]<|a1<|c1 vd<|c1 vd<|c1 vo<|c0)
end
section
variable (a:Int)
def JeA:St:=⟨(0,.d<|.int .u8 a)::[],[]⟩
variable {a}
theorem LF {z} (H:Gq n a=some z):AQ Try.prog 79 [.d (.int .u8 a)] (.d (.bool z)):=by
 exact fO 12 (JeA a) Try.func79<|sr<|ck 1<|en<|sr<|ck 3<|en<|sr<|ck 4<|gc 1 (decide<|32<=B0 .u8 a 127)<|pA<|ck 1<|en<|re (by cases H;exact pr rd)
end
section
variable (a:(List UInt8)) (b:Int)
def JeB:St:=⟨(0,.d<|.str a)::[],[]⟩
def JeC:St:=⟨(0,.d<|.str a)::(6,.d<|.int .i64 ((a.length:Nat):Int))::(7,.d<|.int .i64 b)::[],[]⟩
def JeD:St:=⟨(0,.d<|.str a)::[],[]⟩
def Qi:(Unit⊕(Int×Int))->Ex->St->Prop:=xS (xX 0 0<|λ (_:Unit)=>JeD a)<|xR ty Try.f72<|λ (y:(Int×Int))=>.tup [.d<|.int .i64 y.1,.d<|.int .i64 y.2]
def Lf:Int->St:=(λ (x:Int)=>JeC a x)
variable {a b}
theorem JT (x:Int) (z:(Int⊕(Unit⊕(Int×Int)))) (H:Ht n a x=some z):WP (cxk 19 0) (AX Try.f72) [1,0,1,0,0] (AS 0 (Lf a) (Qi a) z) (Lf a x):=by
 revert H;generalize x=b;intro H;refine sr<|ck 1<|en<|sq<|cn H (λ H=>?_)<|λ H=>?_
 ·refine sk<|qz<|sq<|bk 1<|sr<|ck 2<|en<|sr<|ck 2<|bx H λ j g H=>sp (E9 g)<|bx H λ k h H=>ca false (LF h)<|ck 1<|en<|cn H (λ H=>?_)<|λ H=>?_
  ·exact sr<|ck 3<|en<|re<|qR<|qr (by cases H;exact ro rfl rdT)
  ·exact sk<|qN<|qz<|rz<|ck 2<|ae (by cases H;exact og<|sg [0,6,7])
 ·exact ex 0<|qx (by cases H;exact xo rfl<|sg [0])
theorem TT {z} (H:Mm n a=some z):AQ Try.prog 72 [.d (.str a)] (.tup [.d (.int .i64 z.1),.d (.int .i64 z.2)]):=by
 refine fO 19 (JeB a) Try.func72<|sr<|ck 2<|en<|sq<|sr<|ck 3<|en<|bk 0<|bx H λ i f H=>?_;rcases i with l|m
 ·exact lX JT f (sg [0,6,7]) rfl λ s c=>qH<|qs (c)<|sr<|ck 4<|en<|re (by cases H;exact pr rdT)
 ·exact lR JT f (sg [0,6,7]) rfl λ s e=>qR<|qr (by cases H;exact pr e)
end
section
variable (a:Int)
def JeE:St:=⟨(0,.d<|.int .u8 a)::[],[]⟩
variable {a}
theorem IK {z} (H:GM n a=some z):AQ Try.prog 61 [.d (.int .u8 a)] (.d (.int .i64 z)):=by
 refine fO 30 (JeE a) Try.func61<|sr<|ck 1<|en<|sr<|ck 3<|en<|sq<|bk 0<|sr<|ck 4<|gc 1 (decide<|97<=B0 .u8 a 127)<|pA<|ck 1<|en<|cn H (λ H=>?_)<|λ H=>?_
 ·exact sr<|ck 1<|en<|re<|qR<|qr (by cases H;exact pr rd)
 ·refine sr<|ck 4<|gc 1 (decide<|65<=B0 .u8 a 127)<|pA<|ck 1<|en<|cn H (λ H=>?_)<|λ H=>?_
  ·exact sr<|ck 1<|en<|re<|qR<|qr (by cases H;exact pr rd)
  ·refine sr<|ck 4<|gc 1 (decide<|48<=B0 .u8 a 127)<|pA<|ck 1<|en<|cn H (λ H=>?_)<|λ H=>?_
   ·exact sr<|ck 1<|en<|re<|qR<|qr (by cases H;exact pr rd)
   ·refine sr<|ck 3<|en<|cn H (λ H=>?_)<|λ H=>?_
    ·exact sr<|ck 1<|en<|re<|qR<|qr (by cases H;exact pr rd)
    ·exact sk<|qN<|qz<|sr<|ck 1<|en<|re (by cases H;exact pr rd)
end
section
variable (a:(List UInt8)) (b:Int)
def JeF:St:=⟨(0,.d<|.str a)::[],[]⟩
def JeG:St:=⟨(0,.d<|.str a)::(5,.d<|.int .i64 ((a.length:Nat):Int))::(6,.d<|.int .i64 b)::[],[]⟩
def JeH:St:=⟨[],[]⟩
def Mq:(Unit⊕Bool)->Ex->St->Prop:=xS (xX 0 0<|λ (_:Unit)=>JeH)<|xR ty Try.f73<|λ (y:Bool)=>.d<|.bool y
def Hy:Int->St:=(λ (x:Int)=>JeG a x)
variable {a b}
theorem G8 (x:Int) (z:(Int⊕(Unit⊕Bool))) (H:EE n a x=some z):WP (cxk 15 0) (AX Try.f73) [1,0,1,0,0] (AS 0 (Hy a) (Mq) z) (Hy a x):=by
 revert H;generalize x=b;intro H;refine sr<|ck 1<|en<|sq<|cn H (λ H=>?_)<|λ H=>?_
 ·refine sk<|qz<|sq<|bk 1<|sr<|ck 2<|en<|sr<|ck 2<|bx H λ j g H=>sp (E9 g)<|bx H λ k h H=>ca false (IK h)<|ck 1<|en<|cn H (λ H=>?_)<|λ H=>?_
  ·exact sr<|ck 1<|en<|re<|qR<|qr (by cases H;exact ro rfl rd)
  ·exact sk<|qN<|qz<|rz<|ck 2<|ae (by cases H;exact og<|sg [0,5,6])
 ·exact ex 0<|qx (by cases H;exact xo rfl<|sg [])
theorem NU {z} (H:GD n a=some z):AQ Try.prog 73 [.d (.str a)] (.d (.bool z)):=by
 refine fO 15 (JeF a) Try.func73<|sr<|ck 1<|en<|sq<|sr<|ck 3<|en<|bk 0<|bx H λ i c H=>?_;rcases i with l|m
 ·exact lX G8 c (sg [0,5,6]) rfl λ s e=>qH<|qs (e)<|sr<|ck 1<|en<|re (by cases H;exact pr rd)
 ·exact lR G8 c (sg [0,5,6]) rfl λ s f=>qR<|qr (by cases H;exact pr f)
end
section
variable (a:Int)
def JeI:St:=⟨(0,.d<|.int .u8 a)::[],[]⟩
variable {a}
theorem Se {z} (H:M0 n a=some z):AQ Try.prog 74 [.d (.int .u8 a)] (.d (.bool z)):=by
 exact fO 5 (JeI a) Try.func74<|sr<|ck 1<|en<|sr<|ck 3<|en<|re (by cases H;exact pr rd)
end
section
variable (a:As) (b:Int) (c:Int)
def JeJ:St:=⟨(0,.agg [.d<|.str a.Print,.d<|.sl<|a.Cells.map eU8,.d<|.int .u8 a.Left,.d<|.int .u8 a.Right,.d<|.int .i64 a.From,.d<|.int .i64 a.To])::(1,.d<|.int .i64 b)::[],[]⟩
def JeK:St:=⟨(92,.d<|.sl<|a.Cells.map eU8)::(93,.d<|.int .i64 ((a.Cells.length:Nat):Int))::(94,.d<|.int .i64 c)::[],[]⟩
def JeL:St:=⟨[],[]⟩
def Pt:(Unit⊕Bool)->Ex->St->Prop:=xS (xX 0 0<|λ (_:Unit)=>JeL)<|xR ty Try.f57<|λ (y:Bool)=>.d<|.bool y
def JU:Int->St:=(λ (x:Int)=>JeK a x)
variable {a b c}
theorem I8 (x:Int) (z:(Int⊕(Unit⊕Bool))) (H:GE n a x=some z):WP (cxk 110 0) (AX Try.f57) [1,1,1,1,1,1,0,1,0,0] (AS 0 (JU a) (Pt) z) (JU a x):=by
 revert H;generalize x=c;intro H;refine sr<|ck 1<|en<|sq<|cn H (λ H=>?_)<|λ H=>?_
 ·refine sk<|qz<|sq<|bk 1<|sr<|bx H λ p f H=>sp (AH eU8 f)<|ck 2<|en<|sr<|ck 1<|bx H λ o h H=>ca false (Se h)<|ck 3<|gc 1 (!(!o))<|pO<|ck 2<|gc 1 (!((!o)||(p==63)))<|pO<|en<|cn H (λ H=>?_)<|λ H=>?_
  ·exact sr<|ck 1<|en<|re<|qR<|qr (by cases H;exact ro rfl rd)
  ·exact sk<|qN<|qz<|rz<|ck 2<|ae (by cases H;exact og<|sg [92,93,94])
 ·exact ex 0<|qx (by cases H;exact xo rfl<|sg [])
theorem Sf {z} (H:KB n a b=some z):AQ Try.prog 57 [.agg (H5 a),.d (.int .i64 b)] (.d (.bool z)):=by
 refine fO 110 (JeJ a b) Try.func57<|sr<|ck 2<|en<|sq<|sr<|ck 6<|gc 1 (!(decide<|((a.Print.length:Nat):Int)>4))<|sE (g:=(!(decide<|((a.Print.length:Nat):Int)>4))) (λ hg=>AR eU8 a.Cells)<|gc 1 (!(decide<|((a.Print.length:Nat):Int)>4))<|pO<|ck 2<|gc 1 (!((decide<|((a.Print.length:Nat):Int)>4)||(decide<|((a.Cells.length:Nat):Int)<1)))<|sE (g:=(!((decide<|((a.Print.length:Nat):Int)>4)||(decide<|((a.Cells.length:Nat):Int)<1)))) (λ hg=>AR eU8 a.Cells)<|gc 1 (!((decide<|((a.Print.length:Nat):Int)>4)||(decide<|((a.Cells.length:Nat):Int)<1)))<|pO<|en<|cn H (λ H=>?_)<|λ H=>?_
 ·exact sr<|ck 1<|en<|re<|qr (by cases H;exact pr rd)
 ·refine sk<|qz<|sq<|sr<|ck 2<|bx H λ t i H=>ca false (TT i)<|ck 5<|en<|sr<|ck 2<|en<|cn H (λ H=>?_)<|λ H=>?_
  ·exact sr<|ck 1<|en<|re<|qr (by cases H;exact pr rd)
  ·refine sk<|qz<|sq<|sr<|ck 5<|gc 2 (!(decide<|a.Left<1))<|pO<|ck 2<|gc 2 (!((decide<|a.Left<1)||(decide<|a.Left>63)))<|pO<|ck 2<|gc 2 (!(((decide<|a.Left<1)||(decide<|a.Left>63))||(decide<|a.Right<1)))<|pO<|en<|cn H (λ H=>?_)<|λ H=>?_
   ·exact sr<|ck 1<|en<|re<|qr (by cases H;exact pr rd)
   ·refine sk<|qz<|sq<|sr<|ck 5<|gc 1 (!(decide<|a.From<0))<|ck 1<|gc 1 (!(decide<|a.From<0))<|pO<|ck 2<|gc 2 (!((decide<|a.From<0)||(decide<|a.From>=b)))<|pO<|ck 2<|gc 1 (!(((decide<|a.From<0)||(decide<|a.From>=b))||(decide<|a.To<0)))<|ck 1<|gc 1 (!(((decide<|a.From<0)||(decide<|a.From>=b))||(decide<|a.To<0)))<|pO<|en<|cn H (λ H=>?_)<|λ H=>?_
    ·exact sr<|ck 1<|en<|re<|qr (by cases H;exact pr rd)
    ·refine sk<|qz<|sq<|sr<|ck 2<|bx H λ u j H=>ca false (NU j)<|en<|cn H (λ H=>?_)<|λ H=>?_
     ·exact sr<|ck 6<|gc 1 (((a.Print.length:Nat):Int)==1)<|sE (g:=(((a.Print.length:Nat):Int)==1)) (λ hg=>AR eU8 a.Cells)<|gc 1 (((a.Print.length:Nat):Int)==1)<|pA<|ck 2<|gc 1 ((((a.Print.length:Nat):Int)==1)&&(((a.Cells.length:Nat):Int)==1))<|bx H λ v k H=>sE (λ hg=>AH eU8<|Dc k hg)<|gc 2 ((((a.Print.length:Nat):Int)==1)&&(((a.Cells.length:Nat):Int)==1))<|pA<|ck 1<|en<|re<|qr (by cases H;exact pr rd)
     ·refine sk<|qz<|sq<|sr<|ck 2<|sp (AR eU8 a.Cells)<|ck 1<|en<|bk 0<|bx H λ q e H=>?_;rcases q with w|r
      ·exact lX I8 e (sg [92,93,94]) rfl λ s l=>qH<|qs (l)<|sr<|ck 1<|en<|re (by cases H;exact pr rd)
      ·exact lR I8 e (sg [92,93,94]) rfl λ s m=>qR<|qr (by cases H;exact pr m)
end
section
variable (a:(List Int)) (b:(List Int)) (c:Int)
def JeM:St:=⟨(0,.d<|.sl<|a.map eU8)::(1,.d<|.sl<|b.map eU8)::[],[]⟩
def JeN:St:=⟨(0,.d<|.sl<|a.map eU8)::(1,.d<|.sl<|b.map eU8)::(12,.d<|.int .i64 ((a.length:Nat):Int))::(13,.d<|.int .i64 c)::[],[]⟩
def JeO:St:=⟨[],[]⟩
def Pu:(Unit⊕Bool)->Ex->St->Prop:=xS (xX 0 0<|λ (_:Unit)=>JeO)<|xR ty Try.f75<|λ (y:Bool)=>.d<|.bool y
def JV:Int->St:=(λ (x:Int)=>JeN a b x)
variable {a b c}
theorem I9 (x:Int) (z:(Int⊕(Unit⊕Bool))) (H:GG n a b x=some z):WP (cxk 26 0) (AX Try.f75) [1,1,0,1,0,0] (AS 0 (JV a b) (Pu) z) (JV a b x):=by
 revert H;generalize x=c;intro H;refine sr<|ck 1<|en<|sq<|cn H (λ H=>?_)<|λ H=>?_
 ·refine sk<|qz<|sq<|bk 1<|sr<|ck 2<|en<|sr<|ck 2<|bx H λ m f H=>sp (AH eU8 f)<|ck 3<|bx H λ o g H=>sp (AH eU8 g)<|ck 2<|en<|cn H (λ H=>?_)<|λ H=>?_
  ·exact sr<|ck 1<|en<|re<|qR<|qr (by cases H;exact ro rfl rd)
  ·exact sk<|qN<|qz<|rz<|ck 2<|ae (by cases H;exact og<|sg [0,1,12,13])
 ·exact ex 0<|qx (by cases H;exact xo rfl<|sg [])
theorem Sg {z} (H:KC n a b=some z):AQ Try.prog 75 [.d (.sl (a.map eU8)),.d (.sl (b.map eU8))] (.d (.bool z)):=by
 refine fO 26 (JeM a b) Try.func75<|sr<|ck 1<|en<|sq<|sr<|ck 1<|sp (AR eU8 a)<|ck 1<|sp (AR eU8 b)<|ck 1<|en<|cn H (λ H=>?_)<|λ H=>?_
 ·exact sr<|ck 1<|en<|re<|qr (by cases H;exact pr rd)
 ·refine sk<|qz<|sq<|sr<|ck 1<|sp (AR eU8 a)<|ck 1<|en<|bk 0<|bx H λ h e H=>?_;rcases h with k|l
  ·exact lX I9 e (sg [0,1,12,13]) rfl λ s i=>qH<|qs (i)<|sr<|ck 1<|en<|re (by cases H;exact pr rd)
  ·exact lR I9 e (sg [0,1,12,13]) rfl λ s j=>qR<|qr (by cases H;exact pr j)
end
section
variable (a:As) (b:As)
def JeP:St:=⟨(0,.agg [.d<|.str a.Print,.d<|.sl<|a.Cells.map eU8,.d<|.int .u8 a.Left,.d<|.int .u8 a.Right,.d<|.int .i64 a.From,.d<|.int .i64 a.To])::(1,.agg [.d<|.str b.Print,.d<|.sl<|b.Cells.map eU8,.d<|.int .u8 b.Left,.d<|.int .u8 b.Right,.d<|.int .i64 b.From,.d<|.int .i64 b.To])::[],[]⟩
variable {a b}
theorem Sh {z} (H:KD n a b=some z):AQ Try.prog 58 [.agg (H5 a),.agg (H5 b)] (.d (.bool z)):=by
 exact fO 45 (JeP a b) Try.func58<|sr<|ck 3<|en<|sr<|ck 7<|gc 1 (a.From==b.From)<|ck 1<|gc 2 (a.From==b.From)<|pA<|ck 2<|gc 1 ((a.From==b.From)&&(a.To==b.To))<|ck 1<|gc 2 ((a.From==b.From)&&(a.To==b.To))<|pA<|ck 2<|gc 1 (((a.From==b.From)&&(a.To==b.To))&&(a.Left==b.Left))<|ck 1<|gc 2 (((a.From==b.From)&&(a.To==b.To))&&(a.Left==b.Left))<|pA<|ck 2<|gc 1 ((((a.From==b.From)&&(a.To==b.To))&&(a.Left==b.Left))&&(a.Right==b.Right))<|ck 1<|gc 2 ((((a.From==b.From)&&(a.To==b.To))&&(a.Left==b.Left))&&(a.Right==b.Right))<|pA<|ck 2<|gc 1 (((((a.From==b.From)&&(a.To==b.To))&&(a.Left==b.Left))&&(a.Right==b.Right))&&(a.Print==b.Print))<|ck 1<|gc 1 (((((a.From==b.From)&&(a.To==b.To))&&(a.Left==b.Left))&&(a.Right==b.Right))&&(a.Print==b.Print))<|bx H λ e c H=>cG false (leZ) rfl (λ hg=>Sg<|Dc c hg) (Or.inl rfl) (CG (λ hh=>hh)<|CG (λ hh=>hh)<|Ep) rfl<|pA<|ck 1<|en<|re (by cases H;exact pr rd)
end
section
variable (a:Ab) (b:Int) (e:As) (c:(List As)) (f:Int)
def JeQ:St:=⟨(0,.agg [.d<|.int .i64 a.Modes,.d<|.int .u8 a.Accept,.d<|.sl<|a.Rules.map Ax])::[],[]⟩
def JeR:St:=⟨(1,.ptr 0 0)::(39,.d<|.sl<|a.Rules.map Ax)::(40,.d<|.int .i64 ((a.Rules.length:Nat):Int))::(41,.d<|.int .i64 b)::[],[some<|.box<|Bf a]⟩
def JeS:St:=⟨[],[]⟩
def JeT:St:=⟨(1,.ptr 0 0)::(4,.d<|.int .i64 b)::(5,.ptr 1 0)::(39,.d<|.sl<|a.Rules.map Ax)::(40,.d<|.int .i64 ((a.Rules.length:Nat):Int))::(41,.d<|.int .i64 b)::(55,.d<|.sl<|c.map Ax)::(56,.d<|.int .i64 ((c.length:Nat):Int))::(57,.d<|.int .i64 f)::[],[some<|.box<|Bf a,some<|.box<|H5 e]⟩
def JeU:St:=⟨(1,.ptr 0 0)::(39,.d<|.sl<|a.Rules.map Ax)::(40,.d<|.int .i64 ((a.Rules.length:Nat):Int))::(41,.d<|.int .i64 b)::[],[some<|.box<|Bf a]⟩
def Pv:(Unit⊕(Int×Int))->Ex->St->Prop:=xS (xX 0 2<|λ (_:Unit)=>JeU a b)<|xR ty Try.f37<|λ (y:(Int×Int))=>.tup [.d<|.int .i64 y.1,.d<|.int .i64 y.2]
def JW:Int->St:=(λ (x:Int)=>JeT a b e c x)
def Pw:(Unit⊕(Int×Int))->Ex->St->Prop:=xS (xX 0 0<|λ (_:Unit)=>JeS)<|xR ty Try.f37<|λ (y:(Int×Int))=>.tup [.d<|.int .i64 y.1,.d<|.int .i64 y.2]
def JX:Int->St:=(λ (x:Int)=>JeR a x)
variable {a b e c f}
theorem Ja (x:Int) (z:(Int⊕(Unit⊕(Int×Int)))) (H:Fb n a b e c x=some z):WP (cxk 67 0) (AX Try.f37) [1,1,1,1,0,1,0,0,1,1,0,0,1,1,1,0,0] (AS 0 (JW a b e c) (Pv a b) z) (JW a b e c x):=by
 revert H;generalize x=f;intro H;refine sr<|ck 1<|en<|sq<|cn H (λ H=>?_)<|λ H=>?_
 ·refine sk<|qz<|sq<|bk 3<|sr<|bx H λ I o H=>sp (AH Ax o)<|ck 3<|en<|sr<|ck 2<|bx H λ J p H=>ca false (Sh p)<|en<|cn H (λ H=>?_)<|λ H=>?_
  ·exact sr<|ck 3<|en<|re<|qR<|qr (by cases H;exact ro rfl rdT)
  ·exact sk<|qN<|qz<|rz<|ck 2<|ae (by cases H;exact og<|sg [1,4,5,39,40,41,55,56,57])
 ·exact ex 2<|qx (by cases H;exact xo rfl<|sg [1,39,40,41])
theorem Jb (x:Int) (z:(Int⊕(Unit⊕(Int×Int)))) (H:Fd n a x=some z):WP (cxk 67 0) (AX Try.f37) [1,1,1,1,0,1,0,0] (AS 0 (JX a) (Pw) z) (JX a x):=by
 revert H;generalize x=b;intro H;refine sr<|ck 1<|en<|sq<|cn H (λ H=>?_)<|λ H=>?_
 ·refine sk<|qz<|sq<|bk 1<|sr<|ck 1<|bx H λ e q H=>sp (AH Ax q)<|ck 4<|en<|sq<|sr<|ck 3<|bx H λ K r H=>ca false (Sf r)<|ck 1<|en<|cn H (λ H=>?_)<|λ H=>?_
  ·exact sr<|ck 3<|en<|re<|qr<|qR<|qr (by cases H;exact ro rfl rdT)
  ·refine sk<|qz<|sr<|ck 3<|bx H λ c t H=>sp (Y5 Ax 6 t)<|sp (AR Ax c)<|ck 1<|en<|bk 2<|bx H λ u h H=>?_;rcases u with A|B
   ·exact lX Ja h (sg [1,4,5,39,40,41,55,56,57]) rfl λ s i=>qH<|qN<|qs (i)<|rz<|ck 2<|ae (by cases H;exact og<|sg [1,39,40,41])
   ·exact lR Ja h (sg [1,4,5,39,40,41,55,56,57]) rfl λ s j=>qR<|qR<|qr (by cases H;exact ro rfl j)
 ·exact ex 0<|qx (by cases H;exact xo rfl<|sg [])
theorem Si {z} (H:KE n a=some z):AQ Try.prog 37 [.agg (Bf a)] (.tup [.d (.int .i64 z.1),.d (.int .i64 z.2)]):=by
 refine fO 67 (JeQ a) Try.func37<|sr<|ck 3<|en<|sq<|sr<|ck 5<|gc 2 (!(decide<|a.Modes<1))<|pO<|en<|cn H (λ H=>?_)<|λ H=>?_
 ·exact sr<|ck 2<|en<|re<|qr (by cases H;exact pr rdT)
 ·refine sk<|qz<|sq<|sr<|ck 5<|gc 2 (!(a.Accept==0))<|ck 1<|gc 1 (!(a.Accept==0))<|bx H λ C v H=>soG (λ hg=>G1<|Dc v hg) (CG (λ hh=>hh)<|Ep)<|gc 1 (!(a.Accept==0))<|pO<|en<|cn H (λ H=>?_)<|λ H=>?_
  ·exact sr<|ck 2<|en<|re<|qr (by cases H;exact pr rdT)
  ·refine sk<|qz<|sq<|sr<|ck 2<|sp (AR Ax a.Rules)<|ck 3<|gc 1 (!(decide<|((a.Rules.length:Nat):Int)<1))<|sE (g:=(!(decide<|((a.Rules.length:Nat):Int)<1))) (λ hg=>AR Ax a.Rules)<|gc 1 (!(decide<|((a.Rules.length:Nat):Int)<1))<|pO<|en<|cn H (λ H=>?_)<|λ H=>?_
   ·exact sr<|ck 2<|en<|re<|qr (by cases H;exact pr rdT)
   ·refine sk<|qz<|sq<|sr<|ck 2<|sp (AR Ax a.Rules)<|ck 1<|en<|bk 0<|bx H λ w k H=>?_;rcases w with E|G
    ·exact lX Jb k (sg [1,39,40,41]) rfl λ s l=>qH<|qs (l)<|sr<|ck 2<|en<|re (by cases H;exact pr rdT)
    ·exact lR Jb k (sg [1,39,40,41]) rfl λ s m=>qR<|qr (by cases H;exact pr m)
end
section
variable (a:Ab)
def JeV:St:=⟨(0,.agg [.d<|.int .i64 a.Modes,.d<|.int .u8 a.Accept,.d<|.sl<|a.Rules.map Ax])::[],[]⟩
variable {a}
theorem Mr {z} (H:KF n a=some z):AQ Try.prog 22 [.agg (Bf a)] (.d (.bool z)):=by
 exact fO 12 (JeV a) Try.func22<|sr<|ck 2<|en<|sr<|ck 1<|bx H λ c b H=>ca false (Si b)<|ck 5<|en<|sr<|ck 3<|en<|re (by cases H;exact pr rd)
end
def JeW:St:=⟨[],[]⟩
theorem Sj {z} (H:M3 n=some z):AQ Try.prog 76 [] (.agg [.d (.int .i64 z.Mode),.d (.int .i64 z.Last),.d (.int .u8 z.Need)]):=by
 exact fO 2 JeW Try.func76<|sr<|ck 1<|en<|sr<|ck 2<|en<|re (by cases H;exact pr rd)
section
variable (b:Int) (a:Int)
def JeX:St:=⟨(0,.d<|.int .u8 b)::(1,.d<|.int .i64 a)::[],[]⟩
variable {b a}
theorem IL {z} (H:IF n b a=some z):AQ Try.prog 60 [.d (.int .u8 b),.d (.int .i64 a)] (.d (.bool z)):=by
 exact fO 18 (JeX b a) Try.func60<|sr<|ck 1<|en<|sr<|ck 4<|gc 1 (decide<|0<=a)<|pA<|ck 3<|bx H λ e c H=>soG (λ hg=>G1<|Dc c hg) (CG (λ hh=>hh)<|CG (λ hh=>hh)<|Ep)<|gc 2 ((decide<|0<=a)&&(decide<|a<8))<|pA<|ck 1<|en<|re (by cases H;exact pr rd)
end
section
variable (b:Ab) (a:Ad) (c:Int)
def JeY:St:=⟨(0,.agg [.d<|.int .i64 b.Modes,.d<|.int .u8 b.Accept,.d<|.sl<|b.Rules.map Ax])::(1,.agg [.d<|.int .i64 a.Mode,.d<|.int .i64 a.Last,.d<|.int .u8 a.Need])::(2,.d<|.int .i64 c)::[],[]⟩
variable {b a c}
theorem NJ {z} (H:JR n b a c=some z):AQ Try.prog 41 [.agg (Bf b),.agg (G7 a),.d (.int .i64 c)] (.tup [.agg [.d (.int .i64 z.1.Mode),.d (.int .i64 z.1.Last),.d (.int .u8 z.1.Need)],.d (.bool z.2)]):=by
 refine fO 78 (JeY b a c) Try.func41<|sr<|ck 4<|en<|sq<|sr<|ck 5<|gc 1 (!(decide<|c<0))<|sE (g:=(!(decide<|c<0))) (λ hg=>AR Ax b.Rules)<|gc 1 (!(decide<|c<0))<|pO<|en<|cn H (λ H=>?_)<|λ H=>?_
 ·exact sr<|ck 3<|en<|re<|qr (by cases H;exact pr rdT)
 ·refine sk<|qz<|sr<|ck 3<|bx H λ e f H=>sp (AH Ax f)<|ck 3<|en<|sq<|sr<|ck 7<|gc 1 (!(e.From != a.Mode))<|ck 1<|gc 1 (!(e.From != a.Mode))<|bx H λ o h H=>cG false (leZ) rfl (λ hg=>IL<|Dc h hg) (Or.inl rfl) (CG (λ hh=>hh)<|CG (λ hh=>hh)<|Ep) rfl<|gc 1 (!(e.From != a.Mode))<|pO<|en<|cn H (λ H=>?_)<|λ H=>?_
  ·exact sr<|ck 3<|en<|re<|qr (by cases H;exact pr rdT)
  ·refine sk<|qz<|sq<|sr<|ck 3<|en<|cn H (λ H=>?_)<|λ H=>?_
   ·refine sr<|ck 6<|en<|sq<|sr<|ck 2<|en<|cn H (λ H=>?_)<|λ H=>?_
    ·exact sr<|ck 3<|en<|re<|qr<|qr (by cases H;exact pr rdT)
    ·exact sk<|qz<|sr<|ck 8<|en<|re<|qr (by cases H;exact pr rdT)
   ·refine sk<|qz<|sq<|sr<|ck 4<|bx H λ s i H=>sp (E9 i)<|bx H λ p j H=>ca false (IK j)<|bx H λ q k H=>ca false (IL k)<|ck 1<|en<|cn H (λ H=>?_)<|λ H=>?_
    ·exact sr<|ck 3<|en<|re<|qr (by cases H;exact pr rdT)
    ·exact sk<|qz<|sr<|ck 8<|bx H λ t l H=>sp (E9 l)<|bx H λ r m H=>ca false (IK m)<|ck 5<|en<|re (by cases H;exact pr rdT)
end
section
variable (f:Ab) (o:(List Ad)) (p:(List (List Int))) (A:(List (Ad×Int))) (u:Int) (B:(List Ad)) (K:(List (List Int))) (a:(List Ad)) (g:(List (List Int))) (b:(List (Ad×Int))) (L:Int) (C:(List Ad)) (M:(List (List Int))) (J:(List (Ad×Int))) (q:(List Ad)) (w:(List (List Int))) (E:(List (Ad×Int))) (h:(List Ad)) (c:(List (List Int))) (r:(List (Ad×Int))) (G:Int)
def JeZ:St:=⟨(0,.agg [.d<|.int .i64 f.Modes,.d<|.int .u8 f.Accept,.d<|.sl<|f.Rules.map Ax])::[],[]⟩
def Je0:St:=⟨(1,.ptr 0 0)::(5,.osl 1 3 0<|o.length)::(6,.osl 2 1 0<|p.length)::(7,.mp 3)::(8,.d<|.int .i64 u)::[],[some<|.box<|Bf f,some<|.arr 3<|o.map AY,some<|.narr 1<|p.map<|nL 1 AK,some<|.map true false<|AC AY AK A]⟩
def Je1:St:=⟨(5,.osl 0 3 0<|B.length)::(6,.osl 1 1 0<|K.length)::[],[some<|.arr 3<|B.map AY,some<|.narr 1<|K.map<|nL 1 AK]⟩
def Je2:St:=⟨(1,.ptr 0 0)::(5,.osl 1 3 0<|a.length)::(6,.osl 2 1 0<|g.length)::(7,.mp 3)::(8,.d<|.int .i64 u)::(29,.d<|.int .i64 ((f.Rules.length:Nat):Int))::(30,.d<|.int .i64 L)::[],[some<|.box<|Bf f,some<|.arr 3<|a.map AY,some<|.narr 1<|g.map<|nL 1 AK,some<|.map true false<|AC AY AK b]⟩
def Je3:St:=⟨(1,.ptr 0 0)::(5,.osl 1 3 0<|C.length)::(6,.osl 2 1 0<|M.length)::(7,.mp 3)::(8,.d<|.int .i64 u)::[],[some<|.box<|Bf f,some<|.arr 3<|C.map AY,some<|.narr 1<|M.map<|nL 1 AK,some<|.map true false<|AC AY AK J]⟩
def Je4:St:=⟨(1,.ptr 0 0)::(5,.osl 1 3 0<|q.length)::(6,.osl 2 1 0<|w.length)::(7,.mp 3)::(8,.d<|.int .i64 u)::(29,.d<|.int .i64 ((f.Rules.length:Nat):Int))::(30,.d<|.int .i64 L)::[],[some<|.box<|Bf f,some<|.arr 3<|q.map AY,some<|.narr 1<|w.map<|nL 1 AK,some<|.map true false<|AC AY AK E]⟩
def Je5:St:=⟨(1,.ptr 0 0)::(5,.osl 1 3 0<|h.length)::(6,.osl 2 1 0<|c.length)::(7,.mp 3)::(8,.d<|.int .i64 u)::(12,.d<|.int .i64 G)::(29,.d<|.int .i64 ((f.Rules.length:Nat):Int))::(30,.d<|.int .i64 L)::[],[some<|.box<|Bf f,some<|.arr 3<|h.map AY,some<|.narr 1<|c.map<|nL 1 AK,some<|.map true false<|AC AY AK r]⟩
def M5:((List Ad)×(List<|List Int)×(List<|Ad×Int))->Ex->St->Prop:=xX 0 2<|λ (y:((List Ad)×(List<|List Int)×(List<|Ad×Int)))=>Je3 f u y.1 y.2.1 y.2.2
def H6:((List Ad)×(List<|List Int)×(List<|Ad×Int)×Int)->St:=(λ (x:((List Ad)×(List<|List Int)×(List<|Ad×Int)×Int))=>Je2 f u x.1 x.2.1 x.2.2.1 x.2.2.2)
def M6:((List Ad)×(List<|List Int))->Ex->St->Prop:=xX 0 0<|λ (y:((List Ad)×(List<|List Int)))=>Je1 y.1 y.2
def H7:((List Ad)×(List<|List Int)×(List<|Ad×Int)×Int)->St:=(λ (x:((List Ad)×(List<|List Int)×(List<|Ad×Int)×Int))=>Je0 f x.1 x.2.1 x.2.2.1 x.2.2.2)
variable {f o p A u B K a g b L C M J q w E h c r G}
theorem Ms (x:((List Ad)×(List (List Int))×(List (Ad×Int))×Int)) (z:(((List Ad)×(List (List Int))×(List (Ad×Int))×Int)⊕((List Ad)×(List (List Int))×(List (Ad×Int))))) (H:BU n f u x.1 x.2.1 x.2.2.1 x.2.2.2=some z):WP (cxk 78 0) (AX Try.f59) [1,1,1,1,0,1,0,0,1,0,0,1,0,0] (AS 0 (H6 f u) (M5 f u) z) (H6 f u x):=by
 obtain⟨a,g,b,L⟩:=x;refine sr<|ck 1<|en<|sq<|cn H (λ H=>?_)<|λ H=>?_
 ·refine sk<|qz<|sj (λ (x:((List Ad)×(List<|List Int)×(List<|Ad×Int)))=>Je4 f u L x.1 x.2.1 x.2.2) (λ (x:((List Ad)×(List<|List Int)×(List<|Ad×Int)))=>C0 n L x.1 x.2.1 x.2.2) z ?_ (λ i=>?_)
  ·rintro⟨q,w,E⟩ H;exact rz<|ck 2<|ae (by cases H;exact og<|gP [1,5,6,7,8,29,30] [0,1,2,3]<|po1<|po1<|pn1 (nL 1 AK) w<|po1<|Pl.z)
  refine bk 3<|sr<|ck 2<|en<|sr<|ck 3<|bx H λ ah T H=>sp (Bj 1 3 T)<|sp (CZ AY 1 0 (ty 79) T)<|ck 1<|bx H λ I X H=>ca false (NJ X)<|ck 6<|en<|sq<|sr<|ck 2<|en<|cn H (λ H=>?_)<|λ H=>?_
  ·exact ex 3<|qx<|qH<|qs (gP [1,5,6,7,8,29,30] [0,1,2,3]<|po1<|po1<|pn1 (nL 1 AK) g<|po1<|Pl.z)<|i (a,g,b) H
  ·refine sk<|qz<|sr<|ck 2<|sp (JP (enc:=AK) (encK:=AY) (k:=3) (e1:=λ x=>.int .i64 x) (m:=b) (l:=[.d<|.int .i64 I.1.Mode,.d<|.int .i64 I.1.Last,.d<|.int .u8 I.1.Need]) (key:=I.1) (z:=0) (vz:=[.int .i64 0]) Q8 true)<|ck 5<|en<|sj (λ (x:((List Ad)×(List<|List Int)×(List<|Ad×Int)×Int))=>Je5 f u L x.1 x.2.1 x.2.2.1 x.2.2.2) (λ (x:((List Ad)×(List<|List Int)×(List<|Ad×Int)×Int))=>D2 n u L x.1 x.2.1 x.2.2.1 x.2.2.2) z ?_ (λ j=>?_)
   ·rintro⟨h,c,r,G⟩ H;exact bx H λ P O H=>rg (tr (so1 (encN:=(nL 1 AK)) 2 1 O)<|sno (encN:=(nL 1 AK)) (enc:=AK) O [.own 1<|P.map AK] P 1 2 0 1)<|ck 4<|sp (Bj 2 1 O)<|sp (R6 (encN:=(nL 1 AK)) (row:=[.osl 4 1 0<|P.length]) (k:=2) (sz:=1) (off:=0) (t:=ty 82) (v:=.osl 4 1 0<|P.length) O)<|ck 2<|bx H λ Q Y H=>sp (Bp AK 4 1 Y)<|sp (Bj 2 1 O)<|sp (Vb (encN:=(nL 1 AK)) (row:=[.osl 4 1 0<|P.length]) (row':=[.osl 6 1 0<|Q.length]) (k:=2) (sz:=1) (off:=0) (t:=ty 82) (v:=.osl 6 1 0<|Q.length) O)<|ae<|qN<|qs (tr (tr (tr (tr (tr (sni (encN:=(nL 1 AK)) (xs:=c) (n:=G) (enc:=AK) [.osl 6 1 0<|Q.length] Q 1 2 0 6 1)<|scl (encN:=(nL 1 AK)) (xss:=c) G [.own 1<|Q.map AK] 1 2 Q)<|sn 6 2 1<|lsS c G.toNat Q)<|sn 65 2 1<|lsS c G.toNat Q)<|sn 67 2 1<|lsS c G.toNat Q)<|gP [1,5,6,7,8,29,30] [0,1,2,3]<|po1<|po1<|pn1 (nL 1 AK) (List.set c G.toNat Q)<|po1<|Pl.z)<|i (h,(List.set c G.toNat Q),r) H
   refine sr<|ck 2<|en<|cn H (λ H=>?_)<|λ H=>?_
   ·exact sr<|ck 3<|en<|sr<|ck 3<|sp (KA (enc:=AK) (encK:=AY) (k:=3) (e1:=λ x=>.int .i64 x) (m:=b) (l:=[.d<|.int .i64 I.1.Mode,.d<|.int .i64 I.1.Last,.d<|.int .u8 I.1.Need]) (key:=I.1) (y:=((a.length:Nat):Int)) (v:=.d<|.int .i64 ((a.length:Nat):Int)) (vz:=[.int .i64 0]) Q8)<|en<|rz<|ck 3<|bx H λ l4 Z H=>sp (Bp AY 1 3 Z)<|ck 1<|sK false<|bx H λ l5 U H=>sp (Jch (encN:=(nL 1 AK)) (esz:=1) (k:=2) (e:=[.nil]) U)<|ck 2<|ae<|qs (tr (JdY (encN:=(nL 1 AK)) (xss:=g) (yss:=l5) (y:=([]:(List Int))) (row:=[.own 0 []]) (sz:=1) 7 (by kernel_rfl) (Jb6 U) (by kernel_rfl))<|gP [1,5,6,7,8,12,29,30] [0,6,7,3]<|po1<|po1<|pn1 (nL 1 AK) l5<|po1<|Pl.z)<|j (l4,l5,(DY I.1 ((a.length:Nat):Int) b),((a.length:Nat):Int)) H
   ·exact sk<|qs (gP [1,5,6,7,8,12,29,30] [0,1,2,3]<|po1<|po1<|pn1 (nL 1 AK) g<|po1<|Pl.z)<|j (a,g,b,(Option.getD (BJ I.1 b) 0)) H
 ·exact ex 2<|qx (by cases H;exact xo rfl<|gP [1,5,6,7,8] [0,1,2,3]<|po1<|po1<|pn1 (nL 1 AK) g<|po1<|Pl.z)
theorem Mt (x:((List Ad)×(List (List Int))×(List (Ad×Int))×Int)) (z:(((List Ad)×(List (List Int))×(List (Ad×Int))×Int)⊕((List Ad)×(List (List Int))))) (H:C1 n f x.1 x.2.1 x.2.2.1 x.2.2.2=some z):WP (cxk 78 0) (AX Try.f59) [1,1,1,1,0,1,0,0] (AS 0 (H7 f) (M6) z) (H7 f x):=by
 obtain⟨o,p,A,u⟩:=x;refine sq<|sr<|ck 4<|en<|cn H (λ H=>?_)<|λ H=>?_
 ·exact sk<|qz<|sq<|bk 1<|sr<|ck 2<|sp (AR Ax f.Rules)<|ck 1<|en<|bk 2<|bx H λ ab ac H=>lX Ms ac (gP [1,5,6,7,8,29,30] [0,1,2,3]<|po1<|po1<|pn1 (nL 1 AK) p<|po1<|Pl.z) rfl λ s V=>qH<|qN<|qs (V)<|rz<|ck 3<|ae (by cases H;exact og<|gP [1,5,6,7,8] [0,1,2,3]<|po1<|po1<|pn1 (nL 1 AK) ab.2.1<|po1<|Pl.z)
 ·exact ex 0<|qx (by cases H;exact xo rfl<|gP [5,6] [1,2]<|po1<|pn1 (nL 1 AK) p<|Pl.z)
theorem JY {z} (H:FZ n f=some z):AQ Try.prog 59 [.agg (Bf f)] (.tup [.own 3 (z.1.map AY),.d (.sl (z.2.map (eL AK)))]):=by
 exact fO 78 (JeZ f) Try.func59<|sr<|ck 3<|en<|sr<|bx H λ R af H=>ca false (Sj af)<|ck 2<|en<|sr<|ck 2<|sK true<|ck 2<|en<|sq<|rg (Y1 (sz:=1) (es:=[[.nil]]) 3 (List.map (nL 1 AK) ([[]]:List (List Int))) (by kernel_rfl) (by kernel_rfl))<|ck 2<|sp (KA (enc:=AK) (encK:=AY) (k:=4) (e1:=λ x=>.int .i64 x) (m:=[]) (l:=[.d<|.int .i64 R.Mode,.d<|.int .i64 R.Last,.d<|.int .u8 R.Need]) (key:=R) (y:=0) (v:=.d<|.int .i64 0) (vz:=[.int .i64 0]) Q8)<|ck 2<|en<|sq<|sr<|ck 1<|en<|bk 0<|bx H λ S ag H=>lX Mt ag (gP [1,5,6,7,8] [0,2,3,4]<|po1<|po1<|pn1 (nL 1 AK) ([[]]:List (List Int))<|po1<|Pl.z) rfl λ s W=>qH<|qs (W)<|sr<|ck 4<|ae<|qs (Jb8 (encN:=(nL 1 AK)) (encD:=(eL AK)) (xss:=S.2) (k:=1) (sz:=1) 3 (by kernel_rfl) (λ _=>rfl)<|λ _=>rfl)<|re (by cases H;exact pr<|rT (vs:=[.osl 0 3 0<|S.1.length,.d<|.sl<|S.2.map<|eL AK]) [0]<|t1 (ao vo)<|t1 (ad vd)<|t0)
end
section
variable (a:Ab)
def Je6:St:=⟨(0,.agg [.d<|.int .i64 a.Modes,.d<|.int .u8 a.Accept,.d<|.sl<|a.Rules.map Ax])::[],[]⟩
variable {a}
theorem Qj {z} (H:LD n a=some z):AQ Try.prog 38 [.agg (Bf a)] (.own 3 (z.map AY)):=by
 exact fO 11 (Je6 a) Try.func38<|sr<|ck 2<|en<|sr<|ck 1<|bx H λ b c H=>cl [List.length b.1] (JY c)<|ck 5<|en<|sr<|ck 2<|en<|re (by cases H;exact pr<|rO (v:=.osl 1 3 0<|b.1.length) [1]<|ao vo)
end
section
variable (a:Ab) (b:Ad)
def Je7:St:=⟨(0,.agg [.d<|.int .i64 a.Modes,.d<|.int .u8 a.Accept,.d<|.sl<|a.Rules.map Ax])::(1,.agg [.d<|.int .i64 b.Mode,.d<|.int .i64 b.Last,.d<|.int .u8 b.Need])::[],[]⟩
variable {a b}
theorem JZ {z} (H:F3 n a b=some z):AQ Try.prog 40 [.agg (Bf a),.agg (G7 b)] (.d (.bool z)):=by
 exact fO 22 (Je7 a b) Try.func40<|sr<|ck 3<|en<|sr<|ck 7<|gc 1 (decide<|b.Mode<a.Modes)<|ck 1<|gc 1 (decide<|b.Mode<a.Modes)<|bx H λ c e H=>cG false (leZ) rfl (λ hg=>IL<|Dc e hg) (Or.inl rfl) (CG (λ hh=>hh)<|CG (λ hh=>hh)<|Ep) rfl<|pA<|ck 2<|gc 1 ((decide<|b.Mode<a.Modes)&&c)<|bx H λ g f H=>cG false (leZ) rfl (λ hg=>IL<|Dc f hg) (Or.inl rfl) (CG (λ hh=>hh)<|Ep) rfl<|pA<|ck 1<|en<|re (by cases H;exact pr rd)
end
section
variable (g:Ab) (a:((List Ad)×(List (List Int)))) (b:(List Bool)) (h:(List Int)) (C:Int) (t:(List Bool)) (A:(List Int)) (i:(List Bool)) (p:(List Int)) (j:(List Bool)) (q:(List Int)) (u:(List Bool)) (o:(List Int)) (c:(List Bool)) (l:(List Int)) (E:Int) (w:(List Bool)) (B:(List Int)) (m:(List Bool)) (r:(List Int))
def Je8:St:=⟨(0,.agg [.d<|.int .i64 g.Modes,.d<|.int .u8 g.Accept,.d<|.sl<|g.Rules.map Ax])::[],[]⟩
def Je9:St:=⟨(1,.ptr 0 0)::(4,.d<|.sl<|a.2.map<|eL AK)::(5,.osl 1 1 0<|b.length)::(6,.osl 2 1 0<|h.length)::(20,.d<|.sl<|a.1.map AY)::(21,.d<|.int .i64 ((a.1.length:Nat):Int))::(22,.d<|.int .i64 C)::[],[some<|.box<|Bf g,some<|.arr 1<|b.map eB,some<|.arr 1<|h.map AK]⟩
def Jfa:St:=⟨(4,.d<|.sl<|a.2.map<|eL AK)::(5,.osl 0 1 0<|t.length)::(6,.osl 1 1 0<|A.length)::[],[some<|.arr 1<|t.map eB,some<|.arr 1<|A.map AK]⟩
def Jfb:St:=⟨(1,.ptr 0 0)::(4,.d<|.sl<|a.2.map<|eL AK)::(5,.osl 1 1 0<|i.length)::(6,.osl 2 1 0<|p.length)::(20,.d<|.sl<|a.1.map AY)::(21,.d<|.int .i64 ((a.1.length:Nat):Int))::(22,.d<|.int .i64 C)::[],[some<|.box<|Bf g,some<|.arr 1<|i.map eB,some<|.arr 1<|p.map AK]⟩
def Px:((List Bool)×(List Int))->Ex->St->Prop:=xX 0 0<|λ (y:((List Bool)×(List Int)))=>Jfa a y.1 y.2
def J0:((List Bool)×(List Int)×Int)->St:=(λ (x:((List Bool)×(List Int)×Int))=>Je9 g a x.1 x.2.1 x.2.2)
def Jfc:St:=⟨(4,.d<|.sl<|a.2.map<|eL AK)::(5,.osl 0 1 0<|j.length)::(6,.osl 1 1 0<|q.length)::[],[some<|.arr 1<|j.map eB,some<|.arr 1<|q.map AK]⟩
def Jfd:St:=⟨(5,.osl 0 1 0<|u.length)::[],[some<|.arr 1<|u.map eB]⟩
def Jfe:St:=⟨(4,.d<|.sl<|a.2.map<|eL AK)::(5,.osl 0 1 0<|c.length)::(6,.osl 1 1 0<|l.length)::(55,.d<|.sl<|o.map AK)::(56,.d<|.int .i64 ((o.length:Nat):Int))::(57,.d<|.int .i64 E)::[],[some<|.arr 1<|c.map eB,some<|.arr 1<|l.map AK]⟩
def Jff:St:=⟨(4,.d<|.sl<|a.2.map<|eL AK)::(5,.osl 0 1 0<|w.length)::(6,.osl 1 1 0<|B.length)::[],[some<|.arr 1<|w.map eB,some<|.arr 1<|B.map AK]⟩
def Jfg:St:=⟨(4,.d<|.sl<|a.2.map<|eL AK)::(5,.osl 0 1 0<|m.length)::(6,.osl 1 1 0<|r.length)::(55,.d<|.sl<|o.map AK)::(56,.d<|.int .i64 ((o.length:Nat):Int))::(57,.d<|.int .i64 E)::[],[some<|.arr 1<|m.map eB,some<|.arr 1<|r.map AK]⟩
def Py:((List Bool)×(List Int))->Ex->St->Prop:=xX 0 4<|λ (y:((List Bool)×(List Int)))=>Jff a y.1 y.2
def J1:((List Bool)×(List Int)×Int)->St:=(λ (x:((List Bool)×(List Int)×Int))=>Jfe a o x.1 x.2.1 x.2.2)
def Pz:(List Bool)->Ex->St->Prop:=xX 0 2<|λ (y:(List Bool))=>Jfd y
def J2:((List Bool)×(List Int))->St:=(λ (x:((List Bool)×(List Int)))=>Jfc a x.1 x.2)
variable {g a b h C t A i p j q u o c l E w B m r}
theorem NV (x:((List Bool)×(List Int)×Int)) (z:(((List Bool)×(List Int)×Int)⊕((List Bool)×(List Int)))) (H:D8 n g a x.1 x.2.1 x.2.2=some z):WP (cxk 75 0) (AX Try.f39) [1,1,1,1,0,1,0,0] (AS 0 (J0 g a) (Px a) z) (J0 g a x):=by
 obtain⟨b,h,C⟩:=x;refine sr<|ck 1<|en<|sq<|cn H (λ H=>?_)<|λ H=>?_
 ·refine sk<|qz<|sj (λ (x:((List Bool)×(List Int)))=>Jfb g a C x.1 x.2) (λ (x:((List Bool)×(List Int)))=>Fe n C x.1 x.2) z ?_ (λ e=>?_)
  ·rintro⟨i,p⟩ H;exact rz<|ck 2<|ae (by cases H;exact og<|sg [1,4,5,6,20,21,22])
  refine bk 1<|sr<|ck 1<|bx H λ ai S H=>sp (AH AY S)<|ck 4<|en<|sr<|ck 2<|bx H λ aj T H=>ca false (JZ T)<|en<|cn H (λ H=>?_)<|λ H=>?_
  ·exact sr<|ck 2<|bx H λ ak K H=>sp (Bj 1 1 K)<|bx H λ l7 J H=>stA eB 1 0 (ty 4) K J<|en<|rg (tr (sn 5 1 1<|BT J)<|sn 30 1 1<|BT J)<|ck 3<|bx H λ l8 U H=>sp (Bp AK 2 1 U)<|ck 1<|ae<|qN<|qs (sg [1,4,5,6,20,21,22])<|e (l7,l8) H
  ·exact sk<|qN<|qs (sg [1,4,5,6,20,21,22])<|e (b,h) H
 ·exact ex 0<|qx (by cases H;exact xo rfl<|sg [4,5,6])
theorem NW (x:((List Bool)×(List Int)×Int)) (z:(((List Bool)×(List Int)×Int)⊕((List Bool)×(List Int)))) (H:D9 n a o x.1 x.2.1 x.2.2=some z):WP (cxk 75 0) (AX Try.f39) [1,1,1,1,1,0,0,0,1,0,1,1,1,0,0] (AS 0 (J1 a o) (Py a) z) (J1 a o x):=by
 obtain⟨c,l,E⟩:=x;refine sr<|ck 1<|en<|sq<|cn H (λ H=>?_)<|λ H=>?_
 ·refine sk<|qz<|sj (λ (x:((List Bool)×(List Int)))=>Jfg a o E x.1 x.2) (λ (x:((List Bool)×(List Int)))=>Ff n E x.1 x.2) z ?_ (λ f=>?_)
  ·rintro⟨m,r⟩ H;exact rz<|ck 2<|ae (by cases H;exact og<|sg [4,5,6,55,56,57])
  refine bk 5<|sr<|bx H λ ap V H=>sp (AH AK V)<|ck 2<|en<|sr<|ck 2<|bx H λ ar L H=>sp (Bj 0 1 L)<|sp (CZ eB 0 0 (ty 4) L)<|ck 1<|en<|cn H (λ H=>?_)<|λ H=>?_
  ·exact sr<|ck 2<|bx H λ au M H=>sp (Bj 0 1 M)<|bx H λ W G H=>stA eB 0 0 (ty 4) M G<|en<|rg (tr (tr (sn 5 0 1<|BT G)<|sn 61 0 1<|BT G)<|sn 66 0 1<|BT G)<|ck 3<|bx H λ X Y H=>sp (Bp AK 1 1 Y)<|ck 1<|ae<|qN<|qs (sg [4,5,6,55,56,57])<|f (W,X) H
  ·exact sk<|qN<|qs (sg [4,5,6,55,56,57])<|f (c,l) H
 ·exact ex 4<|qx (by cases H;exact xo rfl<|sg [4,5,6])
theorem NX (x:((List Bool)×(List Int))) (z:(((List Bool)×(List Int))⊕(List Bool))) (H:GH n a x.1 x.2=some z):WP (cxk 75 0) (AX Try.f39) [1,1,1,1,1,0,0,0] (AS 0 (J2 a) (Pz) z) (J2 a x):=by
 obtain⟨j,q⟩:=x;refine sq<|sr<|ck 3<|en<|cn H (λ H=>?_)<|λ H=>?_
 ·exact sk<|qz<|bk 3<|sr<|ck 4<|bx H λ av O H=>sp (Bj 1 1 O)<|sp (CZ AK 1 0 (ty 3) O)<|ck 1<|en<|sr<|ck 4<|bx H λ l9 I H=>sp (Va 1 1 I)<|ck 1<|en<|sq<|rg (YV (k:=1) (sz:=1) 6 (l9.map AK) (l9.length) (by kernel_rfl) (R2 I) (U6 (enc:=AK) I)<|R3 I)<|ck 2<|bx H λ o Z H=>sp (AH (eL AK) Z)<|ck 1<|sp (AR AK o)<|ck 1<|en<|bk 4<|bx H λ aw aa H=>lX NW aa (sg [4,5,6,55,56,57]) rfl λ s P=>qH<|qN (by cases H;exact og<|tr (P)<|sg [4,5,6])
 ·exact ex 2<|qx (by cases H;exact xo rfl<|sg [5])
theorem Sk {z} (H:KG n g=some z):AQ Try.prog 39 [.agg (Bf g)] (.own 1 (z.map eB)):=by
 exact fO 75 (Je8 g) Try.func39<|sr<|ck 2<|en<|sr<|ck 1<|bx H λ a ab H=>ca false (JY ab)<|ck 5<|en<|sr<|ck 1<|sp (AR AY a.1)<|bx H λ l6 ac H=>sp (Jc4 eB 1 ac)<|ck 1<|en<|sr<|ck 1<|en<|sq<|sr<|ck 1<|sp (AR AY a.1)<|ck 1<|en<|bk 0<|bx H λ ay af H=>lX NV af (tr (Au.nilo 6 1 (by kernel_rfl))<|sg [1,4,5,6,20,21,22]) rfl λ s Q=>qH<|qs (Q)<|sq<|bk 2<|bx H λ az ag H=>lX NX ag (sg [4,5,6]) rfl λ s R=>qH<|qs (R)<|sr<|ck 2<|en<|re (by cases H;exact pr<|rO (v:=.osl 0 1 0<|z.length) [0]<|ao vo)
end
section
variable (a:(List Af)) (b:Af) (c:Int)
def Jfh:St:=⟨(0,.d<|.sl<|a.map Ay)::(1,.agg [.d<|.int .u8 b.Cell,.d<|.str b.Print,.d<|.int .i64 b.To])::[],[]⟩
def Jfi:St:=⟨(0,.d<|.sl<|a.map Ay)::(3,.ptr 0 0)::(7,.d<|.int .i64 ((a.length:Nat):Int))::(8,.d<|.int .i64 c)::[],[some<|.box<|TR b]⟩
def Jfj:St:=⟨[],[]⟩
def Qk:(Unit⊕Int)->Ex->St->Prop:=xS (xX 0 0<|λ (_:Unit)=>Jfj)<|xR ty Try.f80<|λ (y:Int)=>.d<|.int .i64 y
def Lg:Int->St:=(λ (x:Int)=>Jfi a b x)
variable {a b c}
theorem J3 (x:Int) (z:(Int⊕(Unit⊕Int))) (H:F4 n a b x=some z):WP (cxk 19 0) (AX Try.f80) [1,0,1,0,0] (AS 0 (Lg a b) (Qk) z) (Lg a b x):=by
 revert H;generalize x=c;intro H;refine sr<|ck 1<|en<|sq<|cn H (λ H=>?_)<|λ H=>?_
 ·refine sk<|qz<|sq<|bk 1<|sr<|ck 2<|en<|sr<|ck 3<|bx H λ j h H=>sp (AH Ay h)<|ck 2<|en<|cn H (λ H=>?_)<|λ H=>?_
  ·exact sr<|ck 2<|en<|re<|qR<|qr (by cases H;exact ro rfl rd)
  ·exact sk<|qN<|qz<|rz<|ck 2<|ae (by cases H;exact og<|sg [0,3,7,8])
 ·exact ex 0<|qx (by cases H;exact xo rfl<|sg [])
theorem TU {z} (H:Pq n a b=some z):AQ Try.prog 80 [.d (.sl (a.map Ay)),.agg (TR b)] (.d (.int .i64 z)):=by
 refine fO 19 (Jfh a b) Try.func80<|sr<|ck 2<|en<|sq<|sr<|ck 1<|sp (AR Ay a)<|ck 1<|en<|bk 0<|bx H λ i e H=>?_;rcases i with k|l
 ·exact lX J3 e (sg [0,3,7,8]) rfl λ s f=>qH<|qs (f)<|sr<|ck 1<|en<|re (by cases H;exact pr rd)
 ·exact lR J3 e (sg [0,3,7,8]) rfl λ s g=>qR<|qr (by cases H;exact pr g)
end
section
variable (b:(List Af)) (a:Af)
def Jfk:St:=⟨(0,.d<|.sl<|b.map Ay)::(1,.agg [.d<|.int .u8 a.Cell,.d<|.str a.Print,.d<|.int .i64 a.To])::[],[]⟩
variable {b a}
theorem Sl {z} (H:KH n b a=some z):AQ Try.prog 77 [.d (.sl (b.map Ay)),.agg (TR a)] (.d (.bool z)):=by
 exact fO 9 (Jfk b a) Try.func77<|sr<|ck 2<|en<|sr<|ck 2<|bx H λ e c H=>ca false (TU c)<|ck 2<|en<|re (by cases H;exact pr rd)
end
section
variable (b:BR) (c:(List UInt8)) (e:(List UInt8)) (g:(List UInt8)) (h:(List UInt8)) (f:(List UInt8)) (i:(List UInt8)) (j:(List UInt8)) (k:(List UInt8))
def Jfl:St:=⟨(0,.agg [.d<|.int .i64 b.Side,.d<|.str b.Text])::(1,.d<|.str c)::(2,.d<|.str e)::[],[]⟩
def Jfm:St:=⟨(1,.d<|.str g)::(2,.d<|.str h)::(6,.ptr 0 0)::[],[some<|.box [.d<|.int .i64 0,.d<|.str []]]⟩
def Jfn:St:=⟨(1,.d<|.str f)::(2,.d<|.str i)::(6,.ptr 0 0)::[],[some<|.box [.d<|.int .i64 0,.d<|.str []]]⟩
def Jfo:St:=⟨(1,.d<|.str j)::(2,.d<|.str k)::(6,.ptr 0 0)::[],[some<|.box [.d<|.int .i64 0,.d<|.str []]]⟩
def K0:(((List UInt8)×(List UInt8))⊕BR)->Ex->St->Prop:=xS (xX 0 1<|λ (y:((List UInt8)×(List UInt8)))=>Jfo y.1 y.2)<|xR ty Try.f63<|λ (y:BR)=>.agg [.d<|.int .i64 y.Side,.d<|.str y.Text]
def Gw:((List UInt8)×(List UInt8))->St:=(λ (x:((List UInt8)×(List UInt8)))=>Jfn x.1 x.2)
variable {b c e g h f i j k}
theorem Ga (x:((List UInt8)×(List UInt8))) (z:(((List UInt8)×(List UInt8))⊕(((List UInt8)×(List UInt8))⊕BR))) (H:DM n x.1 x.2=some z):WP (cxk 51 0) (AX Try.f63) [1,1,0,0,0] (AS 0 (Gw) (K0) z) (Gw x):=by
 obtain⟨f,i⟩:=x;refine sq<|sr<|ck 4<|gc 1 (!(f==[]))<|pA<|en<|cn H (λ H=>?_)<|λ H=>?_
 ·refine sk<|qz<|bk 2<|sq<|sr<|ck 1<|bx H λ G p H=>sp (E9 p)<|ck 1<|bx H λ I q H=>sp (E9 q)<|ck 1<|en<|cn H (λ H=>?_)<|λ H=>?_
  ·exact sr<|ck 2<|en<|re<|qr<|qR (by cases H;exact ro rfl rd)
  ·exact sk<|qz<|rz<|ck 1<|bx H λ J r H=>sp (Kz r)<|ck 1<|bx H λ K t H=>sp (Kz t)<|ck 2<|ae<|qN (by cases H;exact og<|sg [1,2,6])
 ·exact ex 1<|qx (by cases H;exact xo rfl<|sg [1,2,6])
theorem Mv {z} (H:Fg n b c e=some z):AQ Try.prog 63 [.agg [.d (.int .i64 b.Side),.d (.str b.Text)],.d (.str c),.d (.str e)] (.agg [.d (.int .i64 z.Side),.d (.str z.Text)]):=by
 refine fO 51 (Jfl b c e) Try.func63<|sr<|ck 2<|en<|sj (λ (x:((List UInt8)×(List UInt8)))=>Jfm x.1 x.2) (λ (x:((List UInt8)×(List UInt8)))=>Ck n x.1 x.2) z ?_ (λ a=>?_)
 ·rintro⟨g,h⟩ H;refine sq<|bk 1<|bx H λ u l H=>?_;rcases u with A|B
  ·refine lX Ga l (sg [1,2,6]) rfl λ s m=>qH<|qs (m)<|sq<|bk 3<|sr<|ck 3<|en<|cn H (λ H=>?_)<|λ H=>?_
   ·exact sr<|ck 3<|en<|re<|qR<|qr (by cases H;exact pr rd)
   ·refine sr<|ck 3<|en<|cn H (λ H=>?_)<|λ H=>?_
    ·exact sr<|ck 3<|en<|re<|qR<|qr (by cases H;exact pr rd)
    ·exact sk<|qN<|qz<|sr<|ck 2<|en<|re (by cases H;exact pr rd)
  ·exact lR Ga l (sg [1,2,6]) rfl λ s o=>qR<|qr (by cases H;exact pr o)
 refine sr<|ck 2<|en<|bk 0<|sr<|ck 2<|en<|cn H (λ H=>?_)<|λ H=>?_
 ·exact rz<|ck 3<|bx H λ C v H=>sp (Pi v)<|ck 1<|ae<|qN<|qs (sg [1,2,6])<|a (C,e) H
 ·refine sr<|ck 2<|en<|cn H (λ H=>?_)<|λ H=>?_
  ·exact rz<|ck 3<|bx H λ E w H=>sp (Pi w)<|ck 1<|ae<|qN<|qs (sg [1,2,6])<|a (c,E) H
  ·refine sr<|ck 2<|en<|cn H (λ H=>?_)<|λ H=>?_
   ·exact sr<|ck 2<|en<|re<|qR<|qr (by cases H;exact pr rd)
   ·exact sk<|qN<|qs (sg [1,2,6])<|a (c,e) H
end
section
variable (e:Ah) (h:Ah)
def Jfp:St:=⟨(0,.agg [.d<|.int .i64 e.Pair.A,.d<|.int .i64 e.Pair.B,.d<|.int .i64 e.Lead.Side,.d<|.str e.Lead.Text])::[],[]⟩
def Jfq:St:=⟨(1,.ptr 0 0)::(2,.ptr 1 0)::[],[some<|.box<|I7 h,some<|.box [.d<|.int .i64 0,.d<|.int .i64 0,.d<|.int .i64 0,.d<|.str []]]⟩
variable {e h}
theorem K1 {z} (H:Ea n e=some z):AQ Try.prog 64 [.agg (I7 e)] (.agg [.d (.int .i64 z.Pair.A),.d (.int .i64 z.Pair.B),.d (.int .i64 z.Lead.Side),.d (.str z.Lead.Text)]):=by
 refine fO 48 (Jfp e) Try.func64<|sr<|ck 2<|en<|sq<|sr<|ck 9<|gc 2 (!(decide<|e.Pair.A<e.Pair.B))<|ck 1<|gc 4 (!(decide<|e.Pair.A<e.Pair.B))<|ck 1<|gc 3 ((!(decide<|e.Pair.A<e.Pair.B))&&(e.Pair.A==e.Pair.B))<|pG (g:=(!(decide<|e.Pair.A<e.Pair.B))) (v:=.d<|.bool<|(e.Pair.A==e.Pair.B)&&(e.Lead.Side != 2)) (λ hg=>Xi (c:=.gv (!(decide<|e.Pair.A<e.Pair.B))<|.d<|.bool<|e.Pair.A==e.Pair.B) (a:=.gv ((!(decide<|e.Pair.A<e.Pair.B))&&(e.Pair.A==e.Pair.B))<|.d<|.bool<|e.Lead.Side != 2) (b:=.d<|.bool false) rfl rfl rfl ((λ hh=>hh) hg) (λ ht=>by rw[(λ hh=>hh) hg,ht];rfl) trivial)<|pO<|en<|cn H (λ H=>?_)<|λ H=>?_
 ·exact sr<|ck 2<|en<|re<|qr (by cases H;exact pr rd)
 ·refine sk<|qz<|sr<|ck 12<|en<|sj (λ (x:Ah)=>Jfq x) (λ (x:Ah)=>Cn n x) z ?_ (λ f=>?_)
  ·intro h H;exact sr<|ck 2<|en<|re (by cases H;exact pr rd)
  refine sr<|ck 3<|en<|bk 0<|sr<|ck 2<|en<|cn H (λ H=>?_)<|λ H=>?_
  ·exact rz<|ck 3<|ae<|qN<|qs (sg [1,2])<|f ({ Pair:=({ A:=e.Pair.B,B:=e.Pair.A }:Am),Lead:=({ Side:=2,Text:=e.Lead.Text }:BR) }:Ah) H
  ·refine sr<|ck 2<|en<|cn H (λ H=>?_)<|λ H=>?_
   ·exact rz<|ck 3<|ae<|qN<|qs (sg [1,2])<|f ({ Pair:=({ A:=e.Pair.B,B:=e.Pair.A }:Am),Lead:=({ Side:=1,Text:=e.Lead.Text }:BR) }:Ah) H
   ·exact sk<|qN<|qs (sg [1,2])<|f ({ Pair:=({ A:=e.Pair.B,B:=e.Pair.A }:Am),Lead:=e.Lead }:Ah) H
end
section
variable (a:(List Int)) (f:(List Int)) (e:(List Int)) (h:Int) (i:Int) (g:(List Int))
def ZL:St:=⟨(0,.osl 0 1 0<|a.length)::[],[some<|.arr 1<|a.map eU8]⟩
def ZM:St:=⟨[],[some<|.arr 1<|f.map eU8]⟩
def ZN:St:=⟨(0,.osl 0 1 0<|e.length)::(2,.d<|.int .i64 h)::(3,.d<|.int .i64 i)::[],[some<|.arr 1<|e.map eU8]⟩
def ZO:St:=⟨[],[some<|.arr 1<|g.map eU8]⟩
def NY:(List Int)->Ex->St->Prop:=xX 1 0<|λ (y:(List Int))=>ZO y
def Jc:((List Int)×Int×Int)->St:=(λ (x:((List Int)×Int×Int))=>ZN x.1 x.2.1 x.2.2)
variable {a f e h i g}
theorem M7 (x:((List Int)×Int×Int)) (z:(((List Int)×Int×Int)⊕(List Int))) (H:Es n x.1 x.2.1 x.2.2=some z):WP (cxk 28 1) (AX Try.f65) [1,0,0] (AS 1 (Jc) (NY) z) (Jc x):=by
 obtain⟨e,h,i⟩:=x;refine sq<|sr<|ck 3<|en<|cn H (λ H=>?_)<|λ H=>?_
 ·exact sk<|qz<|sq<|bk 1<|rz<|ck 6<|bx H λ q j H=>sp (Bj 0 1 j)<|sp (CZ eU8 0 0 (ty 52) j)<|ck 2<|bx H λ r k H=>sp (Bj 0 1 k)<|sp (CZ eU8 0 0 (ty 52) k)<|bx H λ t l H=>sp (Bj 0 1 l)<|bx H λ u b H=>stA eU8 0 0 (ty 52) l b<|bx H λ v m H=>sp (Jcf 0 1 ((BT b)) m)<|bx H λ w c H=>stA eU8 0 0 (ty 52) m c<|ae<|qN<|qz<|rg (tr (tr (tr (tr (sn 0 0 1<|Eq.trans (BT b)<|BT c)<|sn 14 0 1<|Eq.trans (BT b)<|BT c)<|sn 16 0 1<|Eq.trans (BT b)<|BT c)<|sn 18 0 1<|Eq.trans (BT b)<|BT c)<|sn 22 0 1<|Eq.trans (BT b)<|BT c)<|ck 6<|ae (by cases H;exact og<|sg [0,2,3])
 ·exact ex 0<|qx (by cases H;exact xo rfl<|sg [])
theorem Ql {z} (H:IG n a=some z):CH Try.prog 65 [.osl 0 1 0 (a.length)] [some (.arr 1 (a.map eU8))] 1 (.tup []) [some (.arr 1 (z.map eU8))]:=by
 exact fL 28 1 (ZL a) Try.func65<|sr<|ck 5<|en<|bk 0<|bx H λ A p H=>lX M7 p (sg [0,2,3]) rfl λ s o=>qH (by cases H;exact pL'<|rl (s':=ZM z)<|tr (o)<|sg [])
end
section
variable (a:Bh) (b:(List Int)) (c:(List ((List Ah)×Int))) (f:(List Int))
def Jfr:St:=⟨(0,.dptr (Hx a) 0)::[],[]⟩
def Jfs:St:=⟨(0,.d<|dPG Aq c)::(3,.osl 0 1 0<|b.length)::[],[some<|.arr 1<|b.map eU8]⟩
def Jft:St:=⟨(3,.osl 0 1 0<|f.length)::[],[some<|.arr 1<|f.map eU8]⟩
def J4:(List Int)->Ex->St->Prop:=xX 0 0<|λ (y:(List Int))=>Jft y
def Gb:((List Int)×(List<|(List Ah)×Int))->St:=(λ (x:((List Int)×(List<|(List Ah)×Int)))=>Jfs x.1 x.2)
variable {a b c f}
theorem Jo (x:((List Int)×(List ((List Ah)×Int)))) (z:(((List Int)×(List ((List Ah)×Int)))⊕(List Int))) (H:Dd n x.1 x.2=some z):WP (cxk 23 0) (AX Try.f46) [1,1,0,0,0] (AS 0 (Gb) (J4) z) (Gb x):=by
 obtain⟨b,c⟩:=x;refine sq<|sq<|bx H λ g1 i H=>rg (Jc8 (e:=Aq) 0 (Pr i) (by kernel_rfl))<|ck 4<|xpn (xok _ _) Aq (t:=117) (tt:=120) (r:=g1.From) (by kernel_rfl)<|en<|cn H (λ H=>?_)<|λ H=>?_
 ·exact sk<|qz<|sq<|bk 1<|rz<|ck 6<|bx H λ m j H=>sp (Bp eU8 0 1 j)<|ck 1<|ae<|qN<|qz<|rz<|ck 5<|ae (by cases H;exact og<|sg [0,3])
 ·exact ex 0<|qx (by cases H;exact xo rfl<|sg [3])
theorem LG {z} (H:EF n a=some z):AQ Try.prog 46 [.dptr (Hx a) 0] (.own 1 (z.map eU8)):=by
 exact fO 23 (Jfr a) Try.func46<|sr<|ck 1<|en<|sr<|ck 1<|en<|sq<|bk 0<|bx H λ o k H=>lX Jo k (tr (tr (Q6 (e:=Hx a) 0 (by kernel_rfl))<|Au.nilo 3 1 (by kernel_rfl))<|sg [0,3]) rfl λ s g=>qH<|qs (g)<|sr<|ck 1<|bx H λ p l H=>lt [0] (Ql l)<|bx H λ _ h H=>en<|sq<|rg (tr (sn 3 0 1<|Q5 h)<|sn 20 0 1<|Q5 h)<|ck 2<|en<|re (by cases H;exact pr<|rO (v:=.osl 0 1 0<|z.length) [0]<|ao vo)
end
section
variable (b:(List Int)) (a:(List Int)) (c:Int)
def Jfu:St:=⟨(0,.d<|.sl<|b.map eU8)::(1,.d<|.sl<|a.map eU8)::[],[]⟩
def Jfv:St:=⟨(0,.d<|.sl<|b.map eU8)::(12,.d<|.sl<|a.map eU8)::(13,.d<|.int .i64 ((a.length:Nat):Int))::(14,.d<|.int .i64 c)::[],[]⟩
def Jfw:St:=⟨[],[]⟩
def NZ:(Unit⊕Bool)->Ex->St->Prop:=xS (xX 0 0<|λ (_:Unit)=>Jfw)<|xR ty Try.f47<|λ (y:Bool)=>.d<|.bool y
def Jd:Int->St:=(λ (x:Int)=>Jfv b a x)
variable {b a c}
theorem H8 (x:Int) (z:(Int⊕(Unit⊕Bool))) (H:Et n b a x=some z):WP (cxk 26 0) (AX Try.f47) [1,1,0,1,0,0] (AS 0 (Jd b a) (NZ) z) (Jd b a x):=by
 revert H;generalize x=c;intro H;refine sr<|ck 1<|en<|sq<|cn H (λ H=>?_)<|λ H=>?_
 ·refine sk<|qz<|sq<|bk 1<|sr<|ck 1<|bx H λ k h H=>sp (AH eU8 h)<|ck 3<|en<|sr<|ck 2<|bx H λ l i H=>sp (AH eU8 i)<|ck 3<|en<|cn H (λ H=>?_)<|λ H=>?_
  ·exact sr<|ck 1<|en<|re<|qR<|qr (by cases H;exact ro rfl rd)
  ·exact sk<|qN<|qz<|rz<|ck 2<|ae (by cases H;exact og<|sg [0,12,13,14])
 ·exact ex 0<|qx (by cases H;exact xo rfl<|sg [])
theorem Lh {z} (H:G5 n b a=some z):AQ Try.prog 47 [.d (.sl (b.map eU8)),.d (.sl (a.map eU8))] (.d (.bool z)):=by
 refine fO 26 (Jfu b a) Try.func47<|sr<|ck 1<|en<|sq<|sr<|ck 1<|sp (AR eU8 b)<|ck 1<|sp (AR eU8 a)<|ck 1<|en<|cn H (λ H=>?_)<|λ H=>?_
 ·exact sr<|ck 1<|en<|re<|qr (by cases H;exact pr rd)
 ·refine sk<|qz<|sq<|sr<|ck 1<|sp (AR eU8 a)<|ck 1<|en<|bk 0<|bx H λ j e H=>?_;rcases j with m|o
  ·exact lX H8 e (sg [0,12,13,14]) rfl λ s f=>qH<|qs (f)<|sr<|ck 1<|en<|re (by cases H;exact pr rd)
  ·exact lR H8 e (sg [0,12,13,14]) rfl λ s g=>qR<|qr (by cases H;exact pr g)
end
section
variable (a:(List (List UInt8))) (b:(List UInt8))
def Jfx:St:=⟨(0,.d<|.sl<|a.map eS)::(1,.d<|.str b)::[],[]⟩
variable {a b}
theorem Qm {z} (H:CU n a b=some z):AQ Try.prog 48 [.d (.sl (a.map eS)),.d (.str b)] (.d (.sl (z.map eS))):=by
 refine fO 46 (Jfx a b) Try.func48<|sr<|ck 1<|en<|sq<|bk 0<|sr<|ck 1<|sp (AR eS a)<|ck 2<|en<|cn H (λ H=>?_)<|λ H=>?_
 ·exact sr<|ck 3<|ae<|qs (fz (enc:=eS) (xs:=[b]) 4 0 1)<|re<|qR<|qr (by cases H;exact pr rd)
 ·refine sr<|ck 2<|bx H λ k c H=>sp (AH eS c)<|ck 3<|en<|cn H (λ H=>?_)<|λ H=>?_
  ·exact sr<|ck 2<|bx H λ e f H=>sp (AH eS f)<|ck 3<|ae<|qs (fz (enc:=eS) (xs:=[b,e]) 4 0 1)<|re<|qR<|qr (by cases H;exact pr rd)
  ·refine sr<|ck 2<|bx H λ l g H=>sp (AH eS g)<|ck 3<|en<|cn H (λ H=>?_)<|λ H=>?_
   ·exact sr<|ck 2<|en<|re<|qR<|qr (by cases H;exact pr rd)
   ·refine sr<|ck 1<|sp (AR eS a)<|ck 4<|bx H λ m h H=>sE (λ hg=>AH eS<|Dc h hg)<|gc 2 (!(((a.length:Nat):Int)==1))<|pO<|ck 1<|en<|cn H (λ H=>?_)<|λ H=>?_
    ·exact sr<|ck 1<|bx H λ i j H=>sp (AH eS j)<|ck 4<|ae<|qs (fz (enc:=eS) (xs:=[i,b]) 4 0 1)<|re<|qR<|qr (by cases H;exact pr rd)
    ·exact sk<|qN<|qz<|sr<|ck 2<|en<|re (by cases H;exact pr rd)
end
section
variable (f:Ap) (g:(List Int)) (i:(List (List (List (List UInt8))))) (w:Int) (A:(List (List (List (List UInt8))))) (b:(List (List (List (List UInt8))))) (c:Int) (B:(List (List (List (List UInt8))))) (l:(List (List (List UInt8)))) (a:(List (List (List UInt8)))) (h:Int) (C:(List (List (List (List UInt8))))) (E:(List (List UInt8))) (q:(List E1)) (G:(List (List UInt8))) (r:Int) (Q:(List (List UInt8))) (L:(List (List UInt8))) (u:E1) (I:(List (List UInt8))) (M:(List (List UInt8))) (R:Int) (S:(List (List UInt8)))
def Jfy:St:=⟨(0,.dptr (Aw f) 0)::(1,.d<|.sl<|g.map eU8)::[],[]⟩
def Jfz:St:=⟨(0,.dptr (Aw f) 0)::(1,.d<|.sl<|g.map eU8)::(5,.eptr 0 1 0 0)::(15,.d<|.int .i64 w)::[],[some<|.narr 1<|List.map (nL 1<|eL eS) i]⟩
def JfA:St:=⟨(0,.dptr (Aw f) 0)::(1,.d<|.sl<|g.map eU8)::(5,.eptr 0 1 0 0)::[],[some<|.narr 1<|List.map (nL 1<|eL eS) A]⟩
def J5:(List<|List<|List<|List UInt8)->Ex->St->Prop:=xX 0 0<|λ (y:(List<|List<|List<|List UInt8))=>JfA f g y
def Gc:((List<|List<|List<|List UInt8)×Int)->St:=(λ (x:((List<|List<|List<|List UInt8)×Int))=>Jfz f g x.1 x.2)
def JfB:St:=⟨(0,.dptr (Aw f) 0)::(1,.d<|.sl<|g.map eU8)::(5,.eptr 0 1 0 0)::(7,.d<|.int .i64 c)::[],[some<|.narr 1<|List.map (nL 1<|eL eS) b]⟩
def JfC:St:=⟨(5,.eptr 0 1 0 0)::[],[some<|.narr 1<|List.map (nL 1<|eL eS) B]⟩
def JfD:St:=⟨(0,.dptr (Aw f) 0)::(1,.d<|.sl<|g.map eU8)::(5,.eptr 0 1 0 0)::(7,.d<|.int .i64 c)::(8,.osl 1 1 0<|a.length)::(38,.d<|.int .i64 ((l.length:Nat):Int))::(39,.d<|.int .i64 h)::[],[some<|.narr 1<|List.set (List.map (nL 1<|eL eS) b) (Int.toNat<|A7 c 5) [.osl 1 1 0<|a.length],some<|.arr 1<|a.map<|eL eS]⟩
def JfE:St:=⟨(0,.dptr (Aw f) 0)::(1,.d<|.sl<|g.map eU8)::(5,.eptr 0 1 0 0)::(7,.d<|.int .i64 c)::[],[some<|.narr 1<|List.map (nL 1<|eL eS) C]⟩
def JfF:St:=⟨(0,.dptr (Aw f) 0)::(1,.d<|.sl<|g.map eU8)::(5,.eptr 0 1 0 0)::(7,.d<|.int .i64 c)::(8,.osl 1 1 0<|a.length)::(9,.d<|.int .i64 h)::(10,.osl 2 1 0<|E.length)::(38,.d<|.int .i64 ((l.length:Nat):Int))::(39,.d<|.int .i64 h)::[],[some<|.narr 1<|List.set (List.map (nL 1<|eL eS) b) (Int.toNat<|A7 c 5) [.osl 1 1 0<|a.length],some<|.arr 1<|a.map<|eL eS,some<|.arr 1<|E.map eS]⟩
def JfG:St:=⟨(0,.dptr (Aw f) 0)::(1,.d<|.sl<|g.map eU8)::(5,.eptr 0 1 0 0)::(7,.d<|.int .i64 c)::(8,.osl 1 1 0<|a.length)::(9,.d<|.int .i64 h)::(10,.d<|.sl<|G.map eS)::(38,.d<|.int .i64 ((l.length:Nat):Int))::(39,.d<|.int .i64 h)::(62,.d<|.sl<|q.map Bd)::(63,.d<|.int .i64 ((q.length:Nat):Int))::(64,.d<|.int .i64 r)::[],[some<|.narr 1<|List.set (List.map (nL 1<|eL eS) b) (Int.toNat<|A7 c 5) [.osl 1 1 0<|a.length],some<|.arr 1<|a.map<|eL eS]⟩
def JcA:St:=⟨(0,.dptr (Aw f) 0)::(1,.d<|.sl<|g.map eU8)::(5,.eptr 0 1 0 0)::(7,.d<|.int .i64 c)::(8,.osl 1 1 0<|a.length)::(9,.d<|.int .i64 h)::(10,.d<|.sl<|Q.map eS)::(38,.d<|.int .i64 ((l.length:Nat):Int))::(39,.d<|.int .i64 h)::[],[some<|.narr 1<|List.set (List.map (nL 1<|eL eS) b) (Int.toNat<|A7 c 5) [.osl 1 1 0<|a.length],some<|.arr 1<|a.map<|eL eS]⟩
def JcB:St:=⟨(0,.dptr (Aw f) 0)::(1,.d<|.sl<|g.map eU8)::(5,.eptr 0 1 0 0)::(7,.d<|.int .i64 c)::(8,.osl 1 1 0<|a.length)::(9,.d<|.int .i64 h)::(10,.d<|.sl<|L.map eS)::(38,.d<|.int .i64 ((l.length:Nat):Int))::(39,.d<|.int .i64 h)::(62,.d<|.sl<|q.map Bd)::(63,.d<|.int .i64 ((q.length:Nat):Int))::(64,.d<|.int .i64 r)::[],[some<|.narr 1<|List.set (List.map (nL 1<|eL eS) b) (Int.toNat<|A7 c 5) [.osl 1 1 0<|a.length],some<|.arr 1<|a.map<|eL eS]⟩
def JcC:St:=⟨(0,.dptr (Aw f) 0)::(1,.d<|.sl<|g.map eU8)::(5,.eptr 0 1 0 0)::(7,.d<|.int .i64 c)::(8,.osl 1 1 0<|a.length)::(9,.d<|.int .i64 h)::(10,.d<|.sl<|M.map eS)::(12,.ptr 2 0)::(38,.d<|.int .i64 ((l.length:Nat):Int))::(39,.d<|.int .i64 h)::(62,.d<|.sl<|q.map Bd)::(63,.d<|.int .i64 ((q.length:Nat):Int))::(64,.d<|.int .i64 r)::(86,.d<|.sl<|I.map eS)::(87,.d<|.int .i64 ((I.length:Nat):Int))::(88,.d<|.int .i64 R)::[],[some<|.narr 1<|List.set (List.map (nL 1<|eL eS) b) (Int.toNat<|A7 c 5) [.osl 1 1 0<|a.length],some<|.arr 1<|a.map<|eL eS,some<|.box<|Jev u]⟩
def JcD:St:=⟨(0,.dptr (Aw f) 0)::(1,.d<|.sl<|g.map eU8)::(5,.eptr 0 1 0 0)::(7,.d<|.int .i64 c)::(8,.osl 1 1 0<|a.length)::(9,.d<|.int .i64 h)::(10,.d<|.sl<|S.map eS)::(38,.d<|.int .i64 ((l.length:Nat):Int))::(39,.d<|.int .i64 h)::(62,.d<|.sl<|q.map Bd)::(63,.d<|.int .i64 ((q.length:Nat):Int))::(64,.d<|.int .i64 r)::[],[some<|.narr 1<|List.set (List.map (nL 1<|eL eS) b) (Int.toNat<|A7 c 5) [.osl 1 1 0<|a.length],some<|.arr 1<|a.map<|eL eS]⟩
def J6:(List<|List UInt8)->Ex->St->Prop:=xX 0 8<|λ (y:(List<|List UInt8))=>JcD f g b c l a h q r y
def Ge:((List<|List UInt8)×Int)->St:=(λ (x:((List<|List UInt8)×Int))=>JcC f g b c l a h q r u I x.1 x.2)
def J7:(List<|List UInt8)->Ex->St->Prop:=xX 0 6<|λ (y:(List<|List UInt8))=>JcA f g b c l a h y
def Gf:((List<|List UInt8)×Int)->St:=(λ (x:((List<|List UInt8)×Int))=>JfG f g b c l a h q x.1 x.2)
def J8:(List<|List<|List<|List UInt8)->Ex->St->Prop:=xX 0 4<|λ (y:(List<|List<|List<|List UInt8))=>JfE f g c y
def Gg:((List<|List<|List UInt8)×Int)->St:=(λ (x:((List<|List<|List UInt8)×Int))=>JfD f g b c l x.1 x.2)
def J9:(List<|List<|List<|List UInt8)->Ex->St->Prop:=xX 0 2<|λ (y:(List<|List<|List<|List UInt8))=>JfC y
def Gh:((List<|List<|List<|List UInt8)×Int)->St:=(λ (x:((List<|List<|List<|List UInt8)×Int))=>JfB f g x.1 x.2)
variable {f g i w A b c B l a h C E q G r Q L u I M R S}
theorem Jp (x:((List (List (List (List UInt8))))×Int)) (z:(((List (List (List (List UInt8))))×Int)⊕(List (List (List (List UInt8)))))) (H:CB n f g x.1 x.2=some z):WP (cxk 109 0) (AX Try.f26) [1,1,0,1,0,0] (AS 0 (Gc f g) (J5 f g) z) (Gc f g x):=by
 obtain⟨i,w⟩:=x;refine sr<|ck 1<|en<|sq<|cn H (λ H=>?_)<|λ H=>?_
 ·exact sk<|qz<|sq<|bk 1<|sr<|ck 2<|en<|bx H λ a9 ab H=>rg (so1 (encN:=(nL 1<|eL eS)) 0 1 ab)<|ck 5<|sp (AR (eL Bd) f.Arcs)<|bx H λ T W H=>sp (Y8 1 (ez:=[.nil]) W)<|bx H λ bd ac H=>sp (Oe 0 1 0 5 (j:=0) ac)<|sp (Vb (encN:=(nL 1<|eL eS)) (row:=[.own 1<|a9.map<|eL eS]) (row':=[.osl 1 1 0<|Int.toNat ((f.Arcs.length:Nat):Int)]) (k:=0) (sz:=1) (off:=0) (t:=ty 125) (v:=.osl 1 1 0<|Int.toNat ((f.Arcs.length:Nat):Int)) ab)<|ae<|qN<|qz<|rg (tr (tr (tr (tr (Jei (e:=(eL eS)) (n:=((f.Arcs.length:Nat):Int)) 1 (R7 W) (by kernel_rfl) rfl)<|sn 24 1 1<|Od W)<|snr (encN:=(nL 1<|eL eS)) (xs:=i) (n:=w) [.osl 1 1 0<|Int.toNat ((f.Arcs.length:Nat):Int)] 1 0 0 1 1<|Od W)<|sni (encN:=(nL 1<|eL eS)) (xs:=i) (n:=w) (enc:=(eL eS)) [.osl 1 1 0<|T.length] T 1 0 0 1 1)<|scl (encN:=(nL 1<|eL eS)) (xss:=i) w [.own 1<|T.map<|eL eS] 1 0 T)<|ck 2<|ae (by cases H;exact og<|gP [0,1,5,15] [0]<|pn1 (nL 1<|eL eS) (List.set i w.toNat T)<|Pl.z)
 ·exact ex 0<|qx (by cases H;exact xo rfl<|gP [0,1,5] [0]<|pn1 (nL 1<|eL eS) i<|Pl.z)
theorem Jq (x:((List (List UInt8))×Int)) (z:(((List (List UInt8))×Int)⊕(List (List UInt8)))) (H:B1 n f g b c l a h q r u I x.1 x.2=some z):WP (cxk 109 0) (AX Try.f26) [1,1,1,0,1,0,0,1,0,0,1,1,0,0,1,1,0,0,1,1,1,0,1,0,0,1,1,0,0,1,1,1,0,0] (AS 0 (Ge f g b c l a h q r u I) (J6 f g b c l a h q r) z) (Ge f g b c l a h q r u I x):=by
 obtain⟨M,R⟩:=x;refine sr<|ck 1<|en<|sq<|cn H (λ H=>?_)<|λ H=>?_
 ·exact sk<|qz<|sq<|bk 9<|sr<|bx H λ be af H=>sp (AH eS af)<|ck 2<|en<|rz<|ck 4<|bx H λ s5 ag H=>sp (Pi ag)<|bx H λ bf ah H=>ca false (Qm ah)<|ck 1<|ae<|qN<|qz<|rz<|ck 2<|ae (by cases H;exact og<|gP [0,1,5,7,8,9,10,12,38,39,62,63,64,86,87,88] [0,1,2]<|Pl.n _ (nrH (n:=Int.toNat<|A7 c 5) (row:=[.osl 1 1 0<|a.length]) (row':=[.osl 1 1 0<|a.length]) (nrM (encN:=(nL 1<|eL eS)) (xss:=b) λ _=>rfl) rfl)<|po1<|po1<|Pl.z)
 ·exact ex 8<|qx (by cases H;exact xo rfl<|gP [0,1,5,7,8,9,10,38,39,62,63,64] [0,1]<|Pl.n _ (nrH (n:=Int.toNat<|A7 c 5) (row:=[.osl 1 1 0<|a.length]) (row':=[.osl 1 1 0<|a.length]) (nrM (encN:=(nL 1<|eL eS)) (xss:=b) λ _=>rfl) rfl)<|po1<|Pl.z)
theorem Jr (x:((List (List UInt8))×Int)) (z:(((List (List UInt8))×Int)⊕(List (List UInt8)))) (H:B3 n f g b c l a h q x.1 x.2=some z):WP (cxk 109 0) (AX Try.f26) [1,1,1,0,1,0,0,1,0,0,1,1,0,0,1,1,0,0,1,1,1,0,1,0,0] (AS 0 (Gf f g b c l a h q) (J7 f g b c l a h) z) (Gf f g b c l a h q x):=by
 obtain⟨G,r⟩:=x;refine sr<|ck 1<|en<|sq<|cn H (λ H=>?_)<|λ H=>?_
 ·refine sk<|qz<|sj (λ (x:(List<|List UInt8))=>JcB f g b c l a h q r x) (λ (x:(List<|List UInt8))=>De n r x) z ?_ (λ o=>?_)
  ·intro L H;exact rz<|ck 2<|ae (by cases H;exact og<|gP [0,1,5,7,8,9,10,38,39,62,63,64] [0,1]<|Pl.n _ (nrH (n:=Int.toNat<|A7 c 5) (row:=[.osl 1 1 0<|a.length]) (row':=[.osl 1 1 0<|a.length]) (nrM (encN:=(nL 1<|eL eS)) (xss:=b) λ _=>rfl) rfl)<|po1<|Pl.z)
  refine bk 7<|sr<|bx H λ u ai H=>sp (AH Bd ai)<|ck 3<|en<|sq<|sr<|ck 2<|bx H λ bg aj H=>sp (R8 eU8 1 aj)<|ck 2<|bx H λ bh ak H=>ca false (Lh ak)<|ck 1<|en<|cn H (λ H=>?_)<|λ H=>?_
  ·exact ex 7<|qx<|qH<|qs (gP [0,1,5,7,8,9,10,38,39,62,63,64] [0,1]<|Pl.n _ (nrH (n:=Int.toNat<|A7 c 5) (row:=[.osl 1 1 0<|a.length]) (row':=[.osl 1 1 0<|a.length]) (nrM (encN:=(nL 1<|eL eS)) (xss:=b) λ _=>rfl) rfl)<|po1<|Pl.z)<|o G H
  ·exact sk<|qz<|sq<|bx H λ _ X H=>bx H λ J O H=>rg (tr (Jej (encN:=(nL 1<|eL eS)) (xss:=b) (m:=(A7 c 5)) (n:=(A7 (A9 .i64 c ((u.Cells.length:Nat):Int)) 5)) (row:=[.osl 1 1 0<|a.length]) (sz:=1) 0 (by kernel_rfl) O<|NG X)<|V3 (enc:=(eL eS)) (es:=List.set (List.map (nL 1<|eL eS) b) (Int.toNat<|A7 c 5) [.osl 1 1 0<|a.length]) (n:=Int.toNat<|A7 (A9 .i64 c ((u.Cells.length:Nat):Int)) 5) (row:=[.own 1<|J.map<|eL eS]) (sz:=1) (ys:=J) 0 0 1 [.osl 3 1 0<|J.length] (Jhm O) (by kernel_rfl) rfl (by kernel_rfl))<|ck 3<|sp (AR eU8 u.Cells)<|ck 2<|bx H λ bi al H=>sp (Oe 0 1 0 5 (j:=0) al)<|sp (Jel (encN:=(nL 1<|eL eS)) (xss:=b) (m:=(A7 c 5)) (row:=[.osl 1 1 0<|a.length]) (row2:=[.osl 3 1 0<|J.length]) (k:=0) (sz:=1) (off:=0) (t:=ty 125) (v:=.osl 3 1 0<|J.length) O)<|ck 2<|bx H λ I Y H=>sp (Bj 3 1 Y)<|sp (CZ (eL eS) 3 0 (ty 59) Y)<|sp (AR eS I)<|ck 1<|en<|bk 8<|bx H λ ba am H=>lX Jq am (tr (tr (V4 (enc:=(eL eS)) (zs:=J) (es:=List.set (List.map (nL 1<|eL eS) b) (Int.toNat<|A7 c 5) [.osl 1 1 0<|a.length]) (n:=Int.toNat<|A7 (A9 .i64 c ((u.Cells.length:Nat):Int)) 5) (row:=[.osl 3 1 0<|J.length]) (sz:=1) 0 0 3 1 [.own 1<|J.map<|eL eS] (by kernel_rfl) rfl rfl)<|Jek (encN:=(nL 1<|eL eS)) (xss:=b) (x:=J) (m:=(A7 c 5)) (n:=(A7 (A9 .i64 c ((u.Cells.length:Nat):Int)) 5)) (row:=[.osl 1 1 0<|a.length]) (sz:=1) 0 (by kernel_rfl) O<|NG X)<|gP [0,1,5,7,8,9,10,12,38,39,62,63,64,86,87,88] [0,1,2]<|Pl.n _ (nrH (n:=Int.toNat<|A7 c 5) (row:=[.osl 1 1 0<|a.length]) (row':=[.osl 1 1 0<|a.length]) (nrM (encN:=(nL 1<|eL eS)) (xss:=b) λ _=>rfl) rfl)<|po1<|po1<|Pl.z) rfl λ s ap=>qH<|qN<|qs (tr (ap)<|gP [0,1,5,7,8,9,10,38,39,62,63,64] [0,1]<|Pl.n _ (nrH (n:=Int.toNat<|A7 c 5) (row:=[.osl 1 1 0<|a.length]) (row':=[.osl 1 1 0<|a.length]) (nrM (encN:=(nL 1<|eL eS)) (xss:=b) λ _=>rfl) rfl)<|po1<|Pl.z)<|o ba H
 ·exact ex 6<|qx (by cases H;exact xo rfl<|gP [0,1,5,7,8,9,10,38,39] [0,1]<|Pl.n _ (nrH (n:=Int.toNat<|A7 c 5) (row:=[.osl 1 1 0<|a.length]) (row':=[.osl 1 1 0<|a.length]) (nrM (encN:=(nL 1<|eL eS)) (xss:=b) λ _=>rfl) rfl)<|po1<|Pl.z)
theorem Js (x:((List (List (List UInt8)))×Int)) (z:(((List (List (List UInt8)))×Int)⊕(List (List (List (List UInt8)))))) (H:B4 n f g b c l x.1 x.2=some z):WP (cxk 109 0) (AX Try.f26) [1,1,1,0,1,0,0,1,0,0,1,1,0,0] (AS 0 (Gg f g b c l) (J8 f g c) z) (Gg f g b c l x):=by
 obtain⟨a,h⟩:=x;refine sr<|ck 1<|en<|sq<|cn H (λ H=>?_)<|λ H=>?_
 ·refine sk<|qz<|sq<|bk 5<|sr<|ck 2<|en<|sr<|ck 1<|en<|sj (λ (x:(List<|List UInt8))=>JfF f g b c l a h x) (λ (x:(List<|List UInt8))=>CC n f g b c l a h x) z ?_ (λ p=>?_)
  ·intro E H;exact sq<|sr<|ck 5<|bx H λ q ar H=>sp (AH (eL Bd) ar)<|ck 1<|sp (AR Bd q)<|ck 1<|en<|bk 6<|bx H λ bj au H=>lX Jr au (tr (fz (enc:=eS) (xs:=E) 10 2 1)<|gP [0,1,5,7,8,9,10,38,39,62,63,64] [0,1]<|Pl.n _ (nrH (n:=Int.toNat<|A7 c 5) (row:=[.osl 1 1 0<|a.length]) (row':=[.osl 1 1 0<|a.length]) (nrM (encN:=(nL 1<|eL eS)) (xss:=b) λ _=>rfl) rfl)<|po1<|Pl.z) rfl λ s av=>qH<|qs (av)<|rz<|ck 3<|bx H λ bl Z H=>sp (Bj 1 1 Z)<|bx H λ aw P H=>stA (eL eS) 1 0 (ty 59) Z P<|ae<|qN<|qz<|rg (tr (tr (sn 8 1 1<|BT P)<|sn 100 1 1<|BT P)<|snr (encN:=(nL 1<|eL eS)) (xs:=b) (n:=A7 c 5) [.osl 1 1 0<|a.length] 1 0 0 1 1<|BT P)<|ck 2<|ae (by cases H;exact og<|gP [0,1,5,7,8,38,39] [0,1]<|Pl.n _ (nrH (n:=Int.toNat<|A7 c 5) (row:=[.osl 1 1 0<|aw.length]) (row':=[.osl 1 1 0<|aw.length]) (nrM (encN:=(nL 1<|eL eS)) (xss:=b) λ _=>rfl) rfl)<|po1<|Pl.z)
  refine sr<|ck 2<|sp (AR eU8 g)<|ck 3<|gc 3 (c==((g.length:Nat):Int))<|ck 1<|bx H λ bm ay H=>sE (λ hg=>AH eB<|Dc ay hg)<|gc 1 (c==((g.length:Nat):Int))<|pA<|en<|cn H (λ H=>?_)<|λ H=>?_
  ·exact rz<|ck 2<|ae<|qs (gP [0,1,5,7,8,9,10,38,39] [0,1,2]<|Pl.n _ (nrH (n:=Int.toNat<|A7 c 5) (row:=[.osl 1 1 0<|a.length]) (row':=[.osl 1 1 0<|a.length]) (nrM (encN:=(nL 1<|eL eS)) (xss:=b) λ _=>rfl) rfl)<|po1<|po1<|Pl.z)<|p ([[]]) H
  ·exact sk<|qs (tr (Au.nilo 10 1 (by kernel_rfl))<|gP [0,1,5,7,8,9,10,38,39] [0,1,2]<|Pl.n _ (nrH (n:=Int.toNat<|A7 c 5) (row:=[.osl 1 1 0<|a.length]) (row':=[.osl 1 1 0<|a.length]) (nrM (encN:=(nL 1<|eL eS)) (xss:=b) λ _=>rfl) rfl)<|po1<|po1<|Pl.z)<|p ([]:List (List UInt8)) H
 ·exact ex 4<|qx (by cases H;exact xo rfl<|tr (tr (sni (encN:=(nL 1<|eL eS)) (xs:=b) (n:=A7 c 5) (enc:=(eL eS)) [.osl 1 1 0<|a.length] a 1 0 0 1 1)<|scl (encN:=(nL 1<|eL eS)) (xss:=b) (A7 c 5) [.own 1<|a.map<|eL eS] 1 0 a)<|gP [0,1,5,7] [0]<|pn1 (nL 1<|eL eS) (List.set b (Int.toNat<|A7 c 5) a)<|Pl.z)
theorem Jt (x:((List (List (List (List UInt8))))×Int)) (z:(((List (List (List (List UInt8))))×Int)⊕(List (List (List (List UInt8)))))) (H:Df n f g x.1 x.2=some z):WP (cxk 109 0) (AX Try.f26) [1,1,1,0,1,0,0] (AS 0 (Gh f g) (J9) z) (Gh f g x):=by
 obtain⟨b,c⟩:=x;refine sq<|sr<|ck 2<|en<|cn H (λ H=>?_)<|λ H=>?_
 ·exact sk<|qz<|sq<|bk 3<|sq<|bx H λ l U H=>rg (tr (so1 (encN:=(nL 1<|eL eS)) 0 1 U)<|sno (encN:=(nL 1<|eL eS)) (enc:=(eL eS)) U [.own 1<|l.map<|eL eS] l 1 0 0 1)<|ck 2<|bx H λ bn az H=>sp (Oe 0 1 0 5 (j:=0) az)<|sp (R6 (encN:=(nL 1<|eL eS)) (row:=[.osl 1 1 0<|l.length]) (k:=0) (sz:=1) (off:=0) (t:=ty 125) (v:=.osl 1 1 0<|l.length) U)<|ck 1<|en<|sr<|ck 3<|en<|bk 4<|bx H λ bb a0 H=>lX Js a0 (gP [0,1,5,7,8,38,39] [0,1]<|Pl.n _ (nrH (n:=Int.toNat<|A7 c 5) (row:=[.osl 1 1 0<|l.length]) (row':=[.osl 1 1 0<|l.length]) (nrM (encN:=(nL 1<|eL eS)) (xss:=b) λ _=>rfl) rfl)<|po1<|Pl.z) rfl λ s a2=>qH<|qN<|qs (a2)<|rz<|ck 3<|ae (by cases H;exact og<|gP [0,1,5,7] [0]<|pn1 (nL 1<|eL eS) bb<|Pl.z)
 ·exact ex 2<|qx (by cases H;exact xo rfl<|gP [5] [0]<|pn1 (nL 1<|eL eS) b<|Pl.z)
theorem LH {z} (H:EG n f g=some z):AQ Try.prog 26 [.dptr (Aw f) 0,.d (.sl (g.map eU8))] (.d (.sl (z.map eS))):=by
 exact fO 109 (Jfy f g) Try.func26<|sr<|ck 1<|en<|sr<|ck 1<|en<|sq<|sq<|rg (tr (tr (Jb9 0 [.nil,.nil,.nil,.nil,.nil] (by kernel_rfl))<|Y1 (sz:=1) (es:=[[.nil],[.nil],[.nil],[.nil],[.nil]]) 0 (List.map (nL 1<|eL eS) ([[],[],[],[],[]]:List (List<|List<|List UInt8))) (by kernel_rfl) (by kernel_rfl))<|Jg9 5 0 1 (by kernel_rfl))<|ck 1<|en<|bk 0<|bx H λ bc a3 H=>lX Jp a3 (gP [0,1,5,15] [0]<|pn1 (nL 1<|eL eS) ([[],[],[],[],[]]:List (List<|List<|List UInt8))<|Pl.z) rfl λ s a4=>qH<|qs (a4)<|sq<|sr<|ck 1<|sp (AR eU8 g)<|ck 1<|en<|bk 2<|bx H λ a5 a6 H=>lX Jt a6 (gP [0,1,5,7] [0]<|pn1 (nL 1<|eL eS) bc<|Pl.z) rfl λ s a7=>qH<|qs (a7)<|sq<|bx H λ K V H=>rg (tr (so1 (encN:=(nL 1<|eL eS)) 0 1 V)<|sno (encN:=(nL 1<|eL eS)) (enc:=(eL eS)) V [.own 1<|K.map<|eL eS] K 1 0 0 1)<|bx H λ bp a8 H=>sp (Oe 0 1 0 5 (j:=0) a8)<|sp (R6 (encN:=(nL 1<|eL eS)) (row:=[.osl 1 1 0<|K.length]) (k:=0) (sz:=1) (off:=0) (t:=ty 125) (v:=.osl 1 1 0<|K.length) V)<|bx H λ bq aa H=>sp (Bj 1 1 aa)<|sp (CZ (eL eS) 1 0 (ty 59) aa)<|ck 1<|ae<|qs (tr (sni (encN:=(nL 1<|eL eS)) (xs:=a5) (n:=0) (enc:=(eL eS)) [.osl 1 1 0<|K.length] K 1 0 0 1 1)<|scl (encN:=(nL 1<|eL eS)) (xss:=a5) 0 [.own 1<|K.map<|eL eS] 1 0 K)<|re (by cases H;exact pr rd)
end
end Go.AI
end
section
namespace Go.AI
open Go.Proofs
set_option maxRecDepth 10000
variable {n:Nat}
section
variable (b:Ab) (q:Ap) (a:(List Ad)) (e:(List Bool)) (j:(List (Ad×Int))) (C:Int) (r:(List (Ad×Int))) (h:(List (Ad×Int))) (A:Ap) (c:Int) (I:Ap) (B:Ad) (i:Ap) (u:Int) (J:Ap) (E:Ap)
def ZP:St:=⟨(0,.agg [.d<|.int .i64 b.Modes,.d<|.int .u8 b.Accept,.d<|.sl<|b.Rules.map Ax])::[],[]⟩
def ZQ:St:=⟨(2,.ptr 0 0)::[],[some<|.box<|Dk q (.osl 1 1 0<|q.Arcs.length)<|.osl 2 1 0<|q.Accepts.length,some<|.narr 1<|q.Arcs.map<|nL 3 Bd,some<|.arr 1<|q.Accepts.map eB]⟩
def ZR:St:=⟨(1,.ptr 0 0)::(3,.d<|.sl<|a.map AY)::(4,.d<|.sl<|e.map eB)::(5,.mp 1)::(22,.d<|.sl<|a.map AY)::(23,.d<|.int .i64 ((a.length:Nat):Int))::(24,.d<|.int .i64 C)::[],[some<|.box<|Bf b,some<|.map true false<|AC AY AK j]⟩
def ZS:St:=⟨(1,.ptr 0 0)::(3,.d<|.sl<|a.map AY)::(4,.d<|.sl<|e.map eB)::(5,.mp 1)::[],[some<|.box<|Bf b,some<|.map true false<|AC AY AK r]⟩
def Mw:(List<|Ad×Int)->Ex->St->Prop:=xX 0 0<|λ (y:(List<|Ad×Int))=>ZS b a e y
def Hz:((List<|Ad×Int)×Int)->St:=(λ (x:((List<|Ad×Int)×Int))=>ZR b a e x.1 x.2)
def ZT:St:=⟨(1,.ptr 0 0)::(4,.d<|.sl<|e.map eB)::(5,.mp 1)::(8,.ptr 2 0)::(44,.d<|.sl<|a.map AY)::(45,.d<|.int .i64 ((a.length:Nat):Int))::(46,.d<|.int .i64 c)::[],[some<|.box<|Bf b,some<|.map true false<|AC AY AK h,some<|.box<|Dk A (.osl 3 1 0<|A.Arcs.length)<|.osl 4 1 0<|A.Accepts.length,some<|.narr 1<|A.Arcs.map<|nL 3 Bd,some<|.arr 1<|A.Accepts.map eB]⟩
def ZU:St:=⟨(8,.ptr 0 0)::[],[some<|.box<|Dk I (.osl 1 1 0<|I.Arcs.length)<|.osl 2 1 0<|I.Accepts.length,some<|.narr 1<|I.Arcs.map<|nL 3 Bd,some<|.arr 1<|I.Accepts.map eB]⟩
def ZV:St:=⟨(1,.ptr 0 0)::(4,.d<|.sl<|e.map eB)::(5,.mp 1)::(8,.ptr 2 0)::(9,.d<|.int .i64 c)::(10,.ptr 3 0)::(44,.d<|.sl<|a.map AY)::(45,.d<|.int .i64 ((a.length:Nat):Int))::(46,.d<|.int .i64 c)::(61,.d<|.sl<|b.Rules.map Ax)::(62,.d<|.int .i64 ((b.Rules.length:Nat):Int))::(63,.d<|.int .i64 u)::[],[some<|.box<|Bf b,some<|.map true false<|AC AY AK h,some<|.box<|Dk i (.osl 4 1 0<|i.Arcs.length)<|.osl 5 1 0<|i.Accepts.length,some<|.box<|G7 B,some<|.narr 1<|i.Arcs.map<|nL 3 Bd,some<|.arr 1<|i.Accepts.map eB]⟩
def ZW:St:=⟨(1,.ptr 0 0)::(4,.d<|.sl<|e.map eB)::(5,.mp 1)::(8,.ptr 2 0)::(44,.d<|.sl<|a.map AY)::(45,.d<|.int .i64 ((a.length:Nat):Int))::(46,.d<|.int .i64 c)::[],[some<|.box<|Bf b,some<|.map true false<|AC AY AK h,some<|.box<|Dk J (.osl 3 1 0<|J.Arcs.length)<|.osl 4 1 0<|J.Accepts.length,some<|.narr 1<|J.Arcs.map<|nL 3 Bd,some<|.arr 1<|J.Accepts.map eB]⟩
def ZX:St:=⟨(1,.ptr 0 0)::(4,.d<|.sl<|e.map eB)::(5,.mp 1)::(8,.ptr 2 0)::(9,.d<|.int .i64 c)::(10,.ptr 3 0)::(44,.d<|.sl<|a.map AY)::(45,.d<|.int .i64 ((a.length:Nat):Int))::(46,.d<|.int .i64 c)::(61,.d<|.sl<|b.Rules.map Ax)::(62,.d<|.int .i64 ((b.Rules.length:Nat):Int))::(63,.d<|.int .i64 u)::[],[some<|.box<|Bf b,some<|.map true false<|AC AY AK h,some<|.box<|Dk E (.osl 4 1 0<|E.Arcs.length)<|.osl 5 1 0<|E.Accepts.length,some<|.box<|G7 B,some<|.narr 1<|E.Arcs.map<|nL 3 Bd,some<|.arr 1<|E.Accepts.map eB]⟩
def Mx:Ap->Ex->St->Prop:=xX 0 4<|λ (y:Ap)=>ZW b a e h c y
def HA:(Ap×Int)->St:=(λ (x:(Ap×Int))=>ZV b a e h c B x.1 x.2)
def My:Ap->Ex->St->Prop:=xX 0 2<|λ (y:Ap)=>ZU y
def HB:(Ap×Int)->St:=(λ (x:(Ap×Int))=>ZT b a e h x.1 x.2)
variable {b q a e j C r h A c I B i u J E}
theorem LJ (x:((List (Ad×Int))×Int)) (z:(((List (Ad×Int))×Int)⊕(List (Ad×Int)))) (H:Ds n b a e x.1 x.2=some z):WP (cxk 110 0) (AX Try.f23) [1,1,1,0,1,0,0] (AS 0 (Hz b a e) (Mw b a e) z) (Hz b a e x):=by
 obtain⟨j,C⟩:=x;refine sr<|ck 1<|en<|sq<|cn H (λ H=>?_)<|λ H=>?_
 ·exact sk<|qz<|sq<|bk 1<|sr<|ck 1<|bx H λ M P H=>sp (AH AY P)<|ck 4<|en<|rz<|ck 3<|sp (KA (enc:=AK) (encK:=AY) (k:=1) (e1:=λ x=>.int .i64 x) (m:=j) (l:=[.d<|.int .i64 M.Mode,.d<|.int .i64 M.Last,.d<|.int .u8 M.Need]) (key:=M) (y:=C) (v:=.d<|.int .i64 C) (vz:=[.int .i64 0]) Q8)<|ae<|qN<|qz<|rz<|ck 2<|ae (by cases H;exact og<|sg [1,3,4,5,22,23,24])
 ·exact ex 0<|qx (by cases H;exact xo rfl<|sg [1,3,4,5])
theorem LK (x:(Ap×Int)) (z:((Ap×Int)⊕Ap)) (H:CI n b a e h c B x.1 x.2=some z):WP (cxk 110 0) (AX Try.f23) [1,1,1,1,1,0,1,0,0,1,1,0,0,1,1,1,0,0] (AS 0 (HA b a e h c B) (Mx b a e h c) z) (HA b a e h c B x):=by
 obtain⟨i,u⟩:=x;refine sr<|ck 1<|en<|sq<|cn H (λ H=>?_)<|λ H=>?_
 ·refine sk<|qz<|sj (λ (x:Ap)=>ZX b a e h c B u x) (λ (x:Ap)=>EH n u x) z ?_ (λ f=>?_)
  ·intro E H;exact rz<|ck 2<|ae (by cases H;exact og<|gP [1,4,5,8,9,10,44,45,46,61,62,63] [0,1,2,3,4,5]<|po1<|po1<|po1<|po1<|pn1 (nL 3 Bd) E.Arcs<|po1<|Pl.z)
  refine bk 5<|sr<|ck 1<|bx H λ ak Q H=>sp (AH Ax Q)<|ck 4<|en<|sr<|ck 3<|bx H λ p R H=>ca false (NJ R)<|ck 6<|en<|sr<|ck 5<|sE (g:=p.2) (λ hg=>JP (enc:=AK) (encK:=AY) (k:=1) (e1:=λ x=>.int .i64 x) (m:=h) (l:=[.d<|.int .i64 p.1.Mode,.d<|.int .i64 p.1.Last,.d<|.int .u8 p.1.Need]) (key:=p.1) (z:=0) (vz:=[.int .i64 0]) Q8 false)<|bx H λ al S H=>sE (λ hg=>AH eB<|Dc S hg)<|gc 1 p.2<|pA<|en<|cn H (λ H=>?_)<|λ H=>?_
  ·exact bx H λ K w H=>rg (tr (so1 (encN:=(nL 3 Bd)) 4 1 w)<|sno (encN:=(nL 3 Bd)) (enc:=Bd) w [.own 3<|K.map Bd] K 1 4 0 3)<|ck 10<|sp (Bj 4 1 w)<|sp (R6 (encN:=(nL 3 Bd)) (row:=[.osl 8 3 0<|K.length]) (k:=4) (sz:=1) (off:=0) (t:=ty 98) (v:=.osl 8 3 0<|K.length) w)<|ck 6<|sp (JP (enc:=AK) (encK:=AY) (k:=1) (e1:=λ x=>.int .i64 x) (m:=h) (l:=[.d<|.int .i64 p.1.Mode,.d<|.int .i64 p.1.Last,.d<|.int .u8 p.1.Need]) (key:=p.1) (z:=0) (vz:=[.int .i64 0]) Q8 false)<|ck 2<|bx H λ o T H=>sp (Bp Bd 8 3 T)<|sp (Bj 4 1 w)<|sp (Vb (encN:=(nL 3 Bd)) (row:=[.osl 8 3 0<|K.length]) (row':=[.osl 10 3 0<|o.length]) (k:=4) (sz:=1) (off:=0) (t:=ty 98) (v:=.osl 10 3 0<|o.length) w)<|ae<|qN<|qs (tr (tr (tr (tr (tr (sni (encN:=(nL 3 Bd)) (xs:=i.Arcs) (n:=c) (enc:=Bd) [.osl 10 3 0<|o.length] o 1 4 0 10 3)<|scl (encN:=(nL 3 Bd)) (xss:=i.Arcs) c [.own 3<|o.map Bd] 1 4 o)<|sn 87 4 1<|lsS i.Arcs c.toNat o)<|sn 92 4 1<|lsS i.Arcs c.toNat o)<|snc 2 0 4 1<|lsS i.Arcs c.toNat o)<|gP [1,4,5,8,9,10,44,45,46,61,62,63] [0,1,2,3,4,5]<|po1<|po1<|po1<|po1<|pn1 (nL 3 Bd) (List.set i.Arcs c.toNat o)<|po1<|Pl.z)<|f ({ Arcs:=List.set i.Arcs c.toNat o,Accepts:=i.Accepts,Alive:=i.Alive }:Ap) H
  ·exact sk<|qN<|qs (gP [1,4,5,8,9,10,44,45,46,61,62,63] [0,1,2,3,4,5]<|po1<|po1<|po1<|po1<|pn1 (nL 3 Bd) i.Arcs<|po1<|Pl.z)<|f i H
 ·exact ex 4<|qx (by cases H;exact xo rfl<|gP [1,4,5,8,44,45,46] [0,1,2,4,5]<|po1<|po1<|po1<|pn1 (nL 3 Bd) i.Arcs<|po1<|Pl.z)
theorem LL (x:(Ap×Int)) (z:((Ap×Int)⊕Ap)) (H:Dt n b a e h x.1 x.2=some z):WP (cxk 110 0) (AX Try.f23) [1,1,1,1,1,0,1,0,0] (AS 0 (HB b a e h) (My) z) (HB b a e h x):=by
 obtain⟨A,c⟩:=x;refine sr<|ck 1<|en<|sq<|cn H (λ H=>?_)<|λ H=>?_
 ·exact sk<|qz<|sq<|bk 3<|sr<|ck 1<|bx H λ B U H=>sp (AH AY U)<|ck 4<|en<|sr<|ck 7<|bx H λ am V H=>ca false (JZ V)<|bx H λ ap O H=>sp (Bj 4 1 O)<|bx H λ ar L H=>stA eB 4 0 (ty 4) O L<|en<|sq<|rg (tr (sn 54 4 1<|BT L)<|snc 2 1 4 1<|BT L)<|ck 2<|sp (AR Ax b.Rules)<|ck 1<|en<|bk 4<|bx H λ ai W H=>lX LK W (gP [1,4,5,8,9,10,44,45,46,61,62,63] [0,1,2,5,3,4]<|po1<|po1<|po1<|po1<|pn1 (nL 3 Bd) A.Arcs<|po1<|Pl.z) rfl λ s X=>qH<|qN<|qs (X)<|rz<|ck 2<|ae (by cases H;exact og<|gP [1,4,5,8,44,45,46] [0,1,2,3,4]<|po1<|po1<|po1<|pn1 (nL 3 Bd) ai.Arcs<|po1<|Pl.z)
 ·exact ex 2<|qx (by cases H;exact xo rfl<|gP [8] [2,3,4]<|po1<|pn1 (nL 3 Bd) A.Arcs<|po1<|Pl.z)
theorem Je {z} (H:Fh n b=some z):CH Try.prog 23 [.agg (Bf b)] [] 0 (.ptr 0 0) [some (.box (Dk z (.osl 1 1 0 (z.Arcs.length)) (.osl 2 1 0 (z.Accepts.length)))),some (.narr 1 (z.Arcs.map (nL 3 Bd))),some (.arr 1 (z.Accepts.map eB))]:=by
 exact fL 110 0 (ZP b) Try.func23<|sr<|ck 2<|en<|sr<|ck 1<|bx H λ a Y H=>ca false (Qj Y)<|ck 1<|bx H λ e Z H=>ca false (Sk Z)<|ck 2<|en<|sr<|ck 1<|sp (AR AY a)<|ck 2<|en<|sq<|sr<|ck 1<|sp (AR AY a)<|ck 1<|en<|bk 0<|bx H λ h aa H=>lX LJ aa (sg [1,3,4,5,22,23,24]) rfl λ s ab=>qH<|qs (ab)<|sr<|ck 1<|sp (AR AY a)<|bx H λ aj G H=>sp (Y8 1 (ez:=[.nil]) G)<|ck 1<|sp (AR AY a)<|bx H λ au ac H=>sp (Jc4 eB 1 ac)<|ck 1<|bx H λ av af H=>sp (AH eB af)<|ck 4<|en<|sq<|sq<|rg (tr (tr (Jd4 (encN:=(nL 3 Bd)) (sz:=1) (z:=[.nil]) (n:=((a.length:Nat):Int)) 2 (R7 G) (by kernel_rfl) (by kernel_rfl))<|sn 35 2 1<|Od G)<|snc 4 0 2 1<|Od G)<|ck 1<|sp (AR AY a)<|ck 1<|en<|bk 2<|bx H λ aw ag H=>lX LL ag (gP [1,4,5,8,44,45,46] [0,1,4,2,3]<|po1<|po1<|po1<|pn1 (nL 3 Bd) aj<|po1<|Pl.z) rfl λ s ah=>qH<|qs (ah)<|sr<|ck 2<|en<|re (by cases H;exact pL<|rl (s':=ZQ z)<|gP [2] [0,1,2]<|po1<|pn1 (nL 3 Bd) z.Arcs<|po1<|Pl.z)
end
section
variable (a:Ap)
def ZY:St:=⟨(0,.dptr (Aw a) 0)::[],[]⟩
def ZZ:St:=⟨(2,.ptr 0 0)::[],[some<|.box [.dptr (Aw a) 0,.osl 1 2 0<|List.length ([]:List Aa),.mp 2,.osl 3 1 0<|List.length ([]:List (Option<|List Af)),.mp 4],some<|.arr 2<|List.map Al ([]:List Aa),some<|.map true false<|AC Al AK [],some<|.arr 1<|List.map (eOp Ay) ([]:List (Option<|List Af)),some<|.map true true<|AC AT A0 []]⟩
variable {a}
theorem M8 {z} (H:K9 n a=some z):CH Try.prog 24 [.dptr (Aw a) 0] [] 0 (.ptr 0 0) [some (.box [.dptr (Aw a) 0,.osl 1 2 0 (List.length ([]:List Aa)),.mp 2,.osl 3 1 0 (List.length ([]:List (Option (List Af)))),.mp 4]),some (.arr 2 (List.map Al ([]:List Aa))),some (.map true false (AC Al AK [])),some (.arr 1 (List.map (eOp Ay) ([]:List (Option (List Af))))),some (.map true true (AC AT A0 []))]:=by
 exact fL 8 0 (ZY a) Try.func24<|sr<|ck 1<|en<|sr<|ck 6<|en<|re (by cases H;exact pL<|rl (s':=ZZ a)<|tr (tr (DL 2 1 2 (by kernel_rfl))<|DL 2 3 1 (by kernel_rfl))<|sg [2])
end
section
variable (c:Aa) (b:Ap) (e:(List Aa)) (f:(List (Aa×Int))) (g:(List (Option (List Af)))) (h:(List (Am×An))) (s:(List (Aa×Int))) (p:(List Aa)) (q:(List (Option (List Af)))) (t:Int) (o:(List (Aa×Int))) (i:(List Aa)) (j:(List (Option (List Af)))) (r:Int)
def Z0:St:=⟨(0,.ptr 0 0)::(1,.agg [.d<|.int .i64 c.State,.d<|.str c.Rest])::[],[some<|.box [.dptr (Aw b) 0,.osl 1 2 0<|e.length,.mp 2,.osl 3 1 0<|g.length,.mp 4],some<|.arr 2<|e.map Al,some<|.map true false<|AC Al AK f,some<|.arr 1<|g.map<|eOp Ay,some<|.map true true<|AC AT A0 h]⟩
def Z1:St:=⟨(4,.d<|.int .i64 t)::[],[some<|.box [.dptr (Aw b) 0,.osl 5 2 0<|p.length,.mp 2,.osl 6 1 0<|q.length,.mp 4],none,some<|.map true false<|AC Al AK s,none,some<|.map true true<|AC AT A0 h,some<|.arr 2<|p.map Al,some<|.arr 1<|q.map<|eOp Ay]⟩
def Z2:St:=⟨(5,.d<|.int .i64 r)::[],[some<|.box [.dptr (Aw b) 0,.osl 5 2 0<|i.length,.mp 2,.osl 6 1 0<|j.length,.mp 4],none,some<|.map true false<|AC Al AK o,none,some<|.map true true<|AC AT A0 h,some<|.arr 2<|i.map Al,some<|.arr 1<|j.map<|eOp Ay]⟩
variable {c b e f g h s p q t o i j r}
theorem DP {z} (H:Cf n c b e f g h=some z):CH Try.prog 42 [.ptr 0 0,.agg [.d (.int .i64 c.State),.d (.str c.Rest)]] [some (.box [.dptr (Aw b) 0,.osl 1 2 0 (e.length),.mp 2,.osl 3 1 0 (g.length),.mp 4]),some (.arr 2 (e.map Al)),some (.map true false (AC Al AK f)),some (.arr 1 (g.map (eOp Ay))),some (.map true true (AC AT A0 h))] 5 (.d (.int .i64 z.2.2.2)) [some (.box [.dptr (Aw b) 0,.osl 5 2 0 (z.2.1.length),.mp 2,.osl 6 1 0 (z.2.2.1.length),.mp 4]),none,some (.map true false (AC Al AK z.1)),none,some (.map true true (AC AT A0 h)),some (.arr 2 (z.2.1.map Al)),some (.arr 1 (z.2.2.1.map (eOp Ay)))]:=by
 refine fL 49 5 (Z0 c b e f g h) Try.func42<|sr<|ck 2<|en<|sr<|ck 5<|sp (JP (enc:=AK) (encK:=Al) (k:=2) (e1:=λ x=>.int .i64 x) (m:=f) (l:=[.d<|.int .i64 c.State,.d<|.str c.Rest]) (key:=c) (z:=0) (vz:=[.int .i64 0]) ZJ true)<|ck 5<|en<|sj (λ (x:((List<|Aa×Int)×(List Aa)×(List<|Option<|List Af)×Int))=>Z2 b h x.1 x.2.1 x.2.2.1 x.2.2.2) (λ (x:((List<|Aa×Int)×(List Aa)×(List<|Option<|List Af)×Int))=>DN n x.1 x.2.1 x.2.2.1 x.2.2.2) z ?_ (λ a=>?_)
 ·rintro⟨o,i,j,r⟩ H;exact sr<|ck 2<|en<|re (by cases H;exact pL<|rl (s':=Z1 b h o i j r)<|sg [4])
 refine sr<|ck 2<|en<|cn H (λ H=>?_)<|λ H=>?_
 ·exact sr<|ck 6<|en<|sr<|ck 6<|sp (KA (enc:=AK) (encK:=Al) (k:=2) (e1:=λ x=>.int .i64 x) (m:=f) (l:=[.d<|.int .i64 c.State,.d<|.str c.Rest]) (key:=c) (y:=((e.length:Nat):Int)) (v:=.d<|.int .i64 ((e.length:Nat):Int)) (vz:=[.int .i64 0]) ZJ)<|en<|rz<|ck 8<|bx H λ A u H=>sp (Bp Al 1 2 u)<|ck 5<|bx H λ B w H=>sp (Bp (eOp Ay) 3 1 w)<|ck 6<|ae<|qs (sg [5])<|a ((DY c ((e.length:Nat):Int) f),A,B,((e.length:Nat):Int)) H
 ·exact sk<|qs (tr (tr (GB (k:=1) (sz:=2) 0 1 (e.map Al) (e.length) (by kernel_rfl) CY leM rfl)<|GB (k:=3) (sz:=1) 0 3 (g.map<|eOp Ay) (g.length) (by kernel_rfl) CY leM rfl)<|sg [5])<|a (f,e,g,(Option.getD (BJ c f) 0)) H
end
section
variable (c:Ah) (b:Ap) (e:(List Aa)) (g:(List (Aa×Int))) (f:(List (Option (List Af)))) (h:(List (Am×An))) (o:(List (Am×An))) (p:Bool) (i:An) (l:Int)
def Z3:St:=⟨(0,.ptr 0 0)::(1,.agg [.d<|.int .i64 c.Pair.A,.d<|.int .i64 c.Pair.B,.d<|.int .i64 c.Lead.Side,.d<|.str c.Lead.Text])::[],[some<|.box [.dptr (Aw b) 0,.osl 1 2 0<|e.length,.mp 2,.osl 3 1 0<|f.length,.mp 4],some<|.arr 2<|e.map Al,some<|.map true false<|AC Al AK g,some<|.arr 1<|f.map<|eOp Ay,some<|.map true true<|AC AT A0 h]⟩
def PA:St:=⟨(4,.d<|.bool p)::[],[some<|.box [.dptr (Aw b) 0,.osl 1 2 0<|e.length,.mp 2,.osl 3 1 0<|f.length,.mp 4],some<|.arr 2<|e.map Al,some<|.map true false<|AC Al AK g,some<|.arr 1<|f.map<|eOp Ay,some<|.map true true<|AC AT A0 o]⟩
def Z4:St:=⟨(0,.ptr 0 0)::(3,.ptr 5 0)::(5,.ptr 6 0)::(18,.bsl 6 1 2 i.N.toNat)::(19,.d<|.int .i64 ((Int.toNat i.N:Nat):Int))::(20,.d<|.int .i64 l)::[],[some<|.box [.dptr (Aw b) 0,.osl 1 2 0<|e.length,.mp 2,.osl 3 1 0<|f.length,.mp 4],some<|.arr 2<|e.map Al,some<|.map true false<|AC Al AK g,some<|.arr 1<|f.map<|eOp Ay,some<|.map true true<|AC AT A0 h,some<|.box<|I7 c,some<|.box<|Jdq i]⟩
def Z5:St:=⟨(0,.ptr 0 0)::(3,.ptr 5 0)::(5,.ptr 6 0)::[],[some<|.box [.dptr (Aw b) 0,.osl 1 2 0<|e.length,.mp 2,.osl 3 1 0<|f.length,.mp 4],some<|.arr 2<|e.map Al,some<|.map true false<|AC Al AK g,some<|.arr 1<|f.map<|eOp Ay,some<|.map true true<|AC AT A0 h,some<|.box<|I7 c,some<|.box<|Jdq i]⟩
def IM:(Unit⊕((List<|Am×An)×Bool))->Ex->St->Prop:=xS (xX 5 0<|λ (_:Unit)=>Z5 c b e g f h i)<|xL 5 ty Try.f43 (λ (y:((List<|Am×An)×Bool))=>.d<|.bool y.2)<|λ (y:((List<|Am×An)×Bool))=>[some<|.box [.dptr (Aw b) 0,.osl 1 2 0<|e.length,.mp 2,.osl 3 1 0<|f.length,.mp 4],some<|.arr 2<|e.map Al,some<|.map true false<|AC Al AK g,some<|.arr 1<|f.map<|eOp Ay,some<|.map true true<|AC AT A0 y.1]
def Fk:Int->St:=(λ (x:Int)=>Z4 c b e g f h i x)
variable {c b e g f h o p i l}
theorem EZ (x:Int) (z:(Int⊕(Unit⊕((List (Am×An))×Bool)))) (H:Cg n c b e g f h i x=some z):WP (cxk 54 5) (AX Try.f43) [1,1,0,1,0,0] (AS 5 (Fk c b e g f h i) (IM c b e g f h i) z) (Fk c b e g f h i x):=by
 revert H;generalize x=l;intro H;refine sr<|ck 1<|en<|sq<|cn H (λ H=>?_)<|λ H=>?_
 ·refine sk<|qz<|sq<|bk 1<|sr<|bx H λ t q H=>sp (Jct 6 1 2 q)<|sp (Jcr (enc:=ZH) 6 1 2 2 (ty 113) (λ _=>rfl)<|Zl q)<|ck 2<|en<|sr<|ck 6<|gc 2 (!((t.Side==c.Lead.Side)&&((t.Text==c.Lead.Text)&&true)))<|pO<|en<|cn H (λ H=>?_)<|λ H=>?_
  ·exact sr<|ck 1<|en<|re<|qR<|qr (by cases H;exact lo rfl<|rl (s':=PA b e g f h false)<|sg [4])
  ·exact sk<|qN<|qz<|rz<|ck 2<|ae (by cases H;exact og<|sg [0,3,5,18,19,20])
 ·exact ex 0<|qx (by cases H;exact xo rfl<|sg [0,3,5])
theorem Gi {z} (H:CP n c b e g f h=some z):CH Try.prog 43 [.ptr 0 0,.agg (I7 c)] [some (.box [.dptr (Aw b) 0,.osl 1 2 0 (e.length),.mp 2,.osl 3 1 0 (f.length),.mp 4]),some (.arr 2 (e.map Al)),some (.map true false (AC Al AK g)),some (.arr 1 (f.map (eOp Ay))),some (.map true true (AC AT A0 h))] 5 (.d (.bool z.2)) [some (.box [.dptr (Aw b) 0,.osl 1 2 0 (e.length),.mp 2,.osl 3 1 0 (f.length),.mp 4]),some (.arr 2 (e.map Al)),some (.map true false (AC Al AK g)),some (.arr 1 (f.map (eOp Ay))),some (.map true true (AC AT A0 z.1))]:=by
 refine fL 54 5 (Z3 c b e g f h) Try.func43<|sr<|ck 2<|en<|sr<|ck 6<|bx H λ i u H=>sp (Xs (enc:=A0) (encK:=AT) (ka:=true) (va:=true) (k:=4) (m:=h) (a:=.agg [.d<|.int .i64 c.Pair.A,.d<|.int .i64 c.Pair.B]) (key:=c.Pair) (z:=(⟨0,⟨⟨0,[]⟩,⟨0,[]⟩⟩⟩:An)) (vz:=[.int .i64 0,.int .i64 0,.str [],.int .i64 0,.str []]) ZK u)<|ck 2<|en<|sq<|sr<|ck 3<|bx H λ K w H=>sp (Jeh 6 1 2 2 w)<|ck 2<|en<|bk 0<|bx H λ J r H=>?_;rcases J with L|M
 ·refine lX EZ r (sg [0,3,5,18,19,20]) rfl λ s C=>qH<|qs (C)<|sq<|sr<|ck 3<|en<|cn H (λ H=>?_)<|λ H=>?_
  ·exact sr<|ck 1<|en<|re<|qr (by cases H;exact pL<|rl (s':=PA b e g f h false)<|sg [4])
  ·exact sk<|qz<|sr<|ck 5<|bx H λ O E H=>sp (Zi 6 1 2 2 E)<|bx H λ j G H=>sp (Jcs (enc:=ZH) (v:=.agg [.d<|.int .i64 c.Lead.Side,.d<|.str c.Lead.Text]) 6 1 2 2 (ty 113) ⟨0,[]⟩ (λ _=>rfl) G)<|en<|sr<|ck 5<|en<|sr<|ck 7<|sp (Jcp (enc:=A0) (encK:=AT) (ka:=true) (va:=true) (k:=4) (m:=h) (a:=.agg [.d<|.int .i64 c.Pair.A,.d<|.int .i64 c.Pair.B]) (key:=c.Pair) (y:=({ N:=A9 .i64 i.N 1,Leads:=({ a0:=(List.getD j 0 (⟨0,[]⟩:BR)),a1:=(List.getD j 1 (⟨0,[]⟩:BR)) }:(D7 BR)) }:An)) (v:=.agg [.d<|.int .i64<|A9 .i64 i.N 1,.d<|.int .i64<|(List.getD j 0 (⟨0,[]⟩:BR)).Side,.d<|.str<|(List.getD j 0 (⟨0,[]⟩:BR)).Text,.d<|.int .i64<|(List.getD j 1 (⟨0,[]⟩:BR)).Side,.d<|.str<|(List.getD j 1 (⟨0,[]⟩:BR)).Text]) (vz:=[.int .i64 0,.int .i64 0,.str [],.int .i64 0,.str []]) ZK)<|en<|sr<|ck 1<|en<|re (by cases H;exact pL<|rl (s':=PA b e g f (DY c.Pair ({ N:=A9 .i64 i.N 1,Leads:=({ a0:=(List.getD j 0 (⟨0,[]⟩:BR)),a1:=(List.getD j 1 (⟨0,[]⟩:BR)) }:(D7 BR)) }:An) h) true)<|sg [4])
 ·exact lL EZ r (sg [0,3,5,18,19,20]) rfl λ s I=>qR<|qr (by cases H;exact pL I)
end
section
variable (e:Int) (a:Ap) (u:(List Aa)) (G:(List (Aa×Int))) (v:(List (Option (List Af)))) (c:(List (Am×An))) (U:(List (Aa×Int))) (J:(List Aa)) (K:(List (Option (List Af)))) (V:(List Af)) (R:(List (Aa×Int))) (l:(List Af)) (L:(List Aa)) (S:(List (Option (List Af)))) (i:(List E1)) (w:(List (Aa×Int))) (b:(List Af)) (m:(List Aa)) (o:(List (Option (List Af)))) (j:Int) (ac:(List (Aa×Int))) (A:(List Af)) (aa:(List Aa)) (M:(List (Option (List Af)))) (O:(List (Aa×Int))) (p:(List Af)) (C:(List Aa)) (E:(List (Option (List Af)))) (t:E1) (q:(List Int)) (P:Int) (B:(List Int))
def Z6:St:=⟨(0,.ptr 0 0)::(1,.d<|.int .i64 e)::[],[some<|.box [.dptr (Aw a) 0,.osl 1 2 0<|u.length,.mp 2,.osl 3 1 0<|v.length,.mp 4],some<|.arr 2<|u.map Al,some<|.map true false<|AC Al AK G,some<|.arr 1<|v.map<|eOp Ay,some<|.map true true<|AC AT A0 c]⟩
def TV:St:=⟨(4,.d<|.sl<|V.map Ay)::[],[some<|.box [.dptr (Aw a) 0,.osl 5 2 0<|J.length,.mp 2,.osl 6 1 0<|K.length,.mp 4],none,some<|.map true false<|AC Al AK U,none,some<|.map true true<|AC AT A0 c,some<|.arr 2<|J.map Al,some<|.arr 1<|K.map<|eOp Ay]⟩
def Z7:St:=⟨(0,.ptr 0 0)::(1,.d<|.int .i64 e)::(5,.osl 5 3 0<|l.length)::[],[some<|.box [.dptr (Aw a) 0,.osl 6 2 0<|L.length,.mp 2,.osl 7 1 0<|S.length,.mp 4],none,some<|.map true false<|AC Al AK R,none,some<|.map true true<|AC AT A0 c,some<|.arr 3<|l.map Ay,some<|.arr 2<|L.map Al,some<|.arr 1<|S.map<|eOp Ay]⟩
def Z8:St:=⟨(0,.ptr 0 0)::(1,.d<|.int .i64 e)::(5,.osl 5 3 0<|b.length)::(64,.d<|.sl<|i.map Bd)::(65,.d<|.int .i64 ((i.length:Nat):Int))::(66,.d<|.int .i64 j)::[],[some<|.box [.dptr (Aw a) 0,.osl 6 2 0<|m.length,.mp 2,.osl 7 1 0<|o.length,.mp 4],none,some<|.map true false<|AC Al AK w,none,some<|.map true true<|AC AT A0 c,some<|.arr 3<|b.map Ay,some<|.arr 2<|m.map Al,some<|.arr 1<|o.map<|eOp Ay]⟩
def Z9:St:=⟨(0,.ptr 0 0)::(1,.d<|.int .i64 e)::(5,.osl 5 3 0<|A.length)::[],[some<|.box [.dptr (Aw a) 0,.osl 6 2 0<|aa.length,.mp 2,.osl 7 1 0<|M.length,.mp 4],none,some<|.map true false<|AC Al AK ac,none,some<|.map true true<|AC AT A0 c,some<|.arr 3<|A.map Ay,some<|.arr 2<|aa.map Al,some<|.arr 1<|M.map<|eOp Ay]⟩
def Jaa:St:=⟨(0,.ptr 0 0)::(1,.d<|.int .i64 e)::(5,.osl 5 3 0<|p.length)::(64,.d<|.sl<|i.map Bd)::(65,.d<|.int .i64 ((i.length:Nat):Int))::(66,.d<|.int .i64 j)::[],[some<|.box [.dptr (Aw a) 0,.osl 6 2 0<|C.length,.mp 2,.osl 7 1 0<|E.length,.mp 4],none,some<|.map true false<|AC Al AK O,none,some<|.map true true<|AC AT A0 c,some<|.arr 3<|p.map Ay,some<|.arr 2<|C.map Al,some<|.arr 1<|E.map<|eOp Ay]⟩
def Jab:St:=⟨(0,.ptr 0 0)::(1,.d<|.int .i64 e)::(5,.osl 5 3 0<|b.length)::(8,.ptr 6 0)::(9,.osl 7 1 0<|q.length)::(64,.d<|.sl<|i.map Bd)::(65,.d<|.int .i64 ((i.length:Nat):Int))::(66,.d<|.int .i64 j)::(71,.d<|.sl<|t.Cells.map eU8)::(72,.d<|.int .i64 ((t.Cells.length:Nat):Int))::(73,.d<|.int .i64 P)::[],[some<|.box [.dptr (Aw a) 0,.osl 8 2 0<|m.length,.mp 2,.osl 9 1 0<|o.length,.mp 4],none,some<|.map true false<|AC Al AK w,none,some<|.map true true<|AC AT A0 c,some<|.arr 3<|b.map Ay,some<|.box<|Jev t,some<|.arr 1<|q.map eU8,some<|.arr 2<|m.map Al,some<|.arr 1<|o.map<|eOp Ay]⟩
def Jac:St:=⟨(0,.ptr 0 0)::(1,.d<|.int .i64 e)::(5,.osl 5 3 0<|b.length)::(8,.ptr 6 0)::(9,.osl 7 1 0<|B.length)::(64,.d<|.sl<|i.map Bd)::(65,.d<|.int .i64 ((i.length:Nat):Int))::(66,.d<|.int .i64 j)::[],[some<|.box [.dptr (Aw a) 0,.osl 8 2 0<|m.length,.mp 2,.osl 9 1 0<|o.length,.mp 4],none,some<|.map true false<|AC Al AK w,none,some<|.map true true<|AC AT A0 c,some<|.arr 3<|b.map Ay,some<|.box<|Jev t,some<|.arr 1<|B.map eU8,some<|.arr 2<|m.map Al,some<|.arr 1<|o.map<|eOp Ay]⟩
def Ka:(List Int)->Ex->St->Prop:=xX 5 2<|λ (y:(List Int))=>Jac e a c i w b m o j t y
def Gj:((List Int)×Int)->St:=(λ (x:((List Int)×Int))=>Jab e a c i w b m o j t x.1 x.2)
def Kb:((List<|Aa×Int)×(List Af)×(List Aa)×(List<|Option<|List Af))->Ex->St->Prop:=xX 5 0<|λ (y:((List<|Aa×Int)×(List Af)×(List Aa)×(List<|Option<|List Af)))=>Z9 e a c y.1 y.2.1 y.2.2.1 y.2.2.2
def Gk:((List<|Aa×Int)×(List Af)×(List Aa)×(List<|Option<|List Af)×Int)->St:=(λ (x:((List<|Aa×Int)×(List Af)×(List Aa)×(List<|Option<|List Af)×Int))=>Z8 e a c i x.1 x.2.1 x.2.2.1 x.2.2.2.1 x.2.2.2.2)
variable {e a u G v c U J K V R l L S i w b m o j ac A aa M O p C E t q P B}
theorem Ju (x:((List Int)×Int)) (z:(((List Int)×Int)⊕(List Int))) (H:B5 n e a c i w b m o j t x.1 x.2=some z):WP (cxk 113 5) (AX Try.f62) [1,1,1,1,0,1,1,1,0,0,1,1,0,0,1,1,0,1,0,0] (AS 5 (Gj e a c i w b m o j t) (Ka e a c i w b m o j t) z) (Gj e a c i w b m o j t x):=by
 obtain⟨q,P⟩:=x;refine sr<|ck 1<|en<|sq<|cn H (λ H=>?_)<|λ H=>?_
 ·exact sk<|qz<|sq<|bk 3<|sr<|bx H λ bb af H=>sp (AH eU8 af)<|ck 2<|en<|rz<|ck 3<|bx H λ bc ag H=>sp (Bp eU8 7 1 ag)<|ck 1<|ae<|qN<|qz<|rz<|ck 2<|ae (by cases H;exact og<|sg [0,1,5,8,9,64,65,66,71,72,73])
 ·exact ex 2<|qx (by cases H;exact xo rfl<|sg [0,1,5,8,9,64,65,66])
theorem Jv (x:((List (Aa×Int))×(List Af)×(List Aa)×(List (Option (List Af)))×Int)) (z:(((List (Aa×Int))×(List Af)×(List Aa)×(List (Option (List Af)))×Int)⊕((List (Aa×Int))×(List Af)×(List Aa)×(List (Option (List Af)))))) (H:Bk n e a c i x.1 x.2.1 x.2.2.1 x.2.2.2.1 x.2.2.2.2=some z):WP (cxk 113 5) (AX Try.f62) [1,1,1,1,0,1,1,1,0,0] (AS 5 (Gk e a c i) (Kb e a c) z) (Gk e a c i x):=by
 obtain⟨w,b,m,o,j⟩:=x;refine sr<|ck 1<|en<|sq<|cn H (λ H=>?_)<|λ H=>?_
 ·refine sk<|qz<|sj (λ (x:((List<|Aa×Int)×(List Af)×(List Aa)×(List<|Option<|List Af)))=>Jaa e a c i j x.1 x.2.1 x.2.2.1 x.2.2.2) (λ (x:((List<|Aa×Int)×(List Af)×(List Aa)×(List<|Option<|List Af)))=>Dg n j x.1 x.2.1 x.2.2.1 x.2.2.2) z ?_ (λ f=>?_)
  ·rintro⟨O,p,C,E⟩ H;exact rz<|ck 2<|ae (by cases H;exact og<|sg [0,1,5,64,65,66])
  refine bk 1<|sr<|bx H λ t ah H=>sp (AH Bd ah)<|ck 3<|en<|sr<|ck 1<|en<|sq<|sr<|ck 2<|sp (AR eU8 t.Cells)<|ck 1<|en<|bk 2<|bx H λ a6 ai H=>lX Ju ai (tr (Au.nilo 9 1 (by kernel_rfl))<|sg [0,1,5,8,9,64,65,66,71,72,73]) rfl λ s aj=>qH<|qs (aj)<|sq<|rx 12 15 (fz (enc:=eU8) (xs:=a6) 9 7 1)<|ck 1<|bx H λ bd ak H=>sp (AH eU8 ak)<|ck 7<|bx H λ be al H=>sp (R8 eU8 1 al)<|bx H λ s7 am H=>sp (Jcg am)<|ck 1<|bx H λ I ap H=>xs (xok _ _) (g:=true) rfl (Ep) [0,8,2,9,4] (DP ap) rfl<|ck 2<|mx<|ck 1<|nz<|qz<|sr<|ck 2<|bx H λ bf ar H=>cb (ks:=[5]) (obl:=[(0+List.length b,List.length<|b.map Ay)]) false (leK leM<|leZ) (Er TI<|Er rfl rfl) (Sl ar) (Or.inr trivial) rfl<|ck 1<|en<|cn H (λ H=>?_)<|λ H=>?_
  ·exact rz<|ck 3<|bx H λ a7 au H=>sp (Bp Ay 5 3 au)<|ck 1<|ae<|qN<|qs (sg [0,1,5,64,65,66])<|f (I.1,a7,I.2.1,I.2.2.1) H
  ·exact sk<|qN<|qs (sg [0,1,5,64,65,66])<|f (I.1,b,I.2.1,I.2.2.1) H
 ·exact ex 0<|qx (by cases H;exact xo rfl<|sg [0,1,5])
theorem G9 {z} (H:Du n e a u G v c=some z):CH Try.prog 62 [.ptr 0 0,.d (.int .i64 e)] [some (.box [.dptr (Aw a) 0,.osl 1 2 0 (u.length),.mp 2,.osl 3 1 0 (v.length),.mp 4]),some (.arr 2 (u.map Al)),some (.map true false (AC Al AK G)),some (.arr 1 (v.map (eOp Ay))),some (.map true true (AC AT A0 c))] 5 (.d (.sl (z.2.2.2.map Ay))) [some (.box [.dptr (Aw a) 0,.osl 5 2 0 (z.2.1.length),.mp 2,.osl 6 1 0 (z.2.2.1.length),.mp 4]),none,some (.map true false (AC Al AK z.1)),none,some (.map true true (AC AT A0 c)),some (.arr 2 (z.2.1.map Al)),some (.arr 1 (z.2.2.1.map (eOp Ay)))]:=by
 refine fL 113 5 (Z6 e a u G v c) Try.func62<|sr<|ck 1<|en<|sq<|sq<|rn 7 (.refl _)<|ck 5<|bx H λ a8 W H=>sp (Bj 3 1 W)<|sp (CZ (eOp Ay) 3 0 (ty 150) W) ?_;have hD:=Zd H;refine nd0<|nlo (yok _ _) (xok _ _) (r:=a8) (enc:=Ay)<|λ b7 av=>?_;have H:=hD b7 av;refine en<|cn H (λ H=>?_)<|λ H=>?_
 ·exact sr<|ck 5<|bx H λ aw X H=>sp (Bj 3 1 X)<|sp (CZ (eOp Ay) 3 0 (ty 150) X)<|ck 1<|en<|re<|qr (by cases H;exact pL<|rl (s':=TV a c G u v<|Option.getD aw [])<|tr (tr (tr (Jhl (enc:=Ay) (r:=aw) 4)<|GB (k:=1) (sz:=2) 0 1 (u.map Al) (u.length) (by kernel_rfl) CY leM rfl)<|GB (k:=3) (sz:=1) 0 3 (v.map<|eOp Ay) (v.length) (by kernel_rfl) CY leM rfl)<|sg [4])
 ·refine sk<|qz<|sr<|ck 2<|en<|sr<|ck 5<|bx H λ bh Y H=>sp (Bj 1 2 Y)<|sp (CZ Al 1 0 (ty 109) Y)<|ck 2<|en<|sj (λ (x:((List<|Aa×Int)×(List Af)×(List Aa)×(List<|Option<|List Af)))=>Z7 e a c x.1 x.2.1 x.2.2.1 x.2.2.2) (λ (x:((List<|Aa×Int)×(List Af)×(List Aa)×(List<|Option<|List Af)))=>Bs n e x.1 x.2.1 x.2.2.1 x.2.2.2) z ?_ (λ h=>?_)
  ·rintro⟨R,l,L,S⟩ H;exact sq<|rg (fz (enc:=Ay) (xs:=l) 5 5 3)<|ck 6<|bx H λ bi Z H=>sp (Bj 7 1 Z)<|bx H λ a9 Q H=>stA (eOp Ay) 7 0 (ty 150) Z Q<|en<|sq<|rg (tr (sn 108 7 1<|BT Q)<|snc 0 3 7 1<|BT Q)<|ck 2<|en<|re (by cases H;exact pL<|rl (s':=TV a c R L a9 l)<|sg [4])
  refine sr<|ck 3<|en<|cn H (λ H=>?_)<|λ H=>?_
  ·exact rlz 11 13 (.refl _)<|ck 2<|bx H λ b8 ay H=>sp (E9 ay)<|ck 5<|bx H λ s6 az H=>sp (Kz az)<|ck 1<|bx H λ ab a0 H=>xs (xok _ _) (g:=true) rfl (Ep) [0,1,2,3,4] (DP a0) rfl<|ck 1<|mx<|ck 1<|nx 16 14<|mx<|bx H λ ba a2 H=>sp (Bp Ay 5 3 a2)<|nx 16 15<|mx<|ck 1<|nz<|qs (sg [0,1,5])<|h (ab.1,ba,ab.2.1,ab.2.2.1) H
  ·exact sr<|ck 9<|bx H λ i a3 H=>sp (AH (eL Bd) a3)<|ck 1<|sp (AR Bd i)<|ck 1<|en<|bk 0<|bx H λ T a4 H=>lX Jv a4 (tr (tr (GB (k:=1) (sz:=2) 0 1 (u.map Al) (u.length) (by kernel_rfl) CY leM rfl)<|GB (k:=3) (sz:=1) 0 3 (v.map<|eOp Ay) (v.length) (by kernel_rfl) CY leM rfl)<|sg [0,1,5,64,65,66]) rfl λ s a5=>qH<|qs (tr (a5)<|sg [0,1,5])<|h (T.1,T.2.1,T.2.2.1,T.2.2.2) H
end
section
variable (h:Ah) (b:Ap) (C:(List (Int×(List Ah)))) (t:(List Aa)) (E:(List (Aa×Int))) (u:(List (Option (List Af)))) (g:(List (Am×An))) (P:(List (Int×(List Ah)))) (Q:(List (Aa×Int))) (G:(List Aa)) (I:(List (Option (List Af)))) (i:((List (Aa×Int))×(List Aa)×(List (Option (List Af)))×(List Af))) (j:(List (Int×(List Ah)))) (J:(List (Aa×Int))) (v:(List Aa)) (w:(List (Option (List Af)))) (l:Int) (R:(List (Int×(List Ah)))) (S:(List (Aa×Int))) (K:(List Aa)) (L:(List (Option (List Af)))) (o:Af) (e:((List (Aa×Int))×(List Aa)×(List (Option (List Af)))×(List Af))) (c:(List (Int×(List Ah)))) (q:Int) (r:(List (Int×(List Ah)))) (p:(List (Int×(List Ah))))
def Jad:St:=⟨(0,.ptr 0 0)::(1,.agg [.d<|.int .i64 h.Pair.A,.d<|.int .i64 h.Pair.B,.d<|.int .i64 h.Lead.Side,.d<|.str h.Lead.Text])::(2,.mp 1)::[],[some<|.box [.dptr (Aw b) 0,.osl 2 2 0<|t.length,.mp 3,.osl 4 1 0<|u.length,.mp 5],some<|.nmp false (.d<|.sl [])<|D1 eU8 4 Aq C,some<|.arr 2<|t.map Al,some<|.map true false<|AC Al AK E,some<|.arr 1<|u.map<|eOp Ay,some<|.map true true<|AC AT A0 g]⟩
def Jae:St:=⟨[],[some<|.box [.dptr (Aw b) 0,.osl 6 2 0<|G.length,.mp 3,.osl 7 1 0<|I.length,.mp 5],some<|.nmp false (.d<|.sl [])<|D1 eU8 4 Aq P,none,some<|.map true false<|AC Al AK Q,none,some<|.map true true<|AC AT A0 g,some<|.arr 2<|G.map Al,some<|.arr 1<|I.map<|eOp Ay]⟩
def Jaf:St:=⟨(0,.ptr 0 0)::(2,.mp 1)::(4,.ptr 6 0)::(15,.d<|.sl<|i.2.2.2.map Ay)::(16,.d<|.int .i64 ((i.2.2.2.length:Nat):Int))::(17,.d<|.int .i64 l)::[],[some<|.box [.dptr (Aw b) 0,.osl 7 2 0<|v.length,.mp 3,.osl 8 1 0<|w.length,.mp 5],some<|.nmp false (.d<|.sl [])<|D1 eU8 4 Aq j,none,some<|.map true false<|AC Al AK J,none,some<|.map true true<|AC AT A0 g,some<|.box<|I7 h,some<|.arr 2<|v.map Al,some<|.arr 1<|w.map<|eOp Ay]⟩
def Jag:St:=⟨[],[some<|.box [.dptr (Aw b) 0,.osl 6 2 0<|K.length,.mp 3,.osl 7 1 0<|L.length,.mp 5],some<|.nmp false (.d<|.sl [])<|D1 eU8 4 Aq R,none,some<|.map true false<|AC Al AK S,none,some<|.map true true<|AC AT A0 g,some<|.arr 2<|K.map Al,some<|.arr 1<|L.map<|eOp Ay]⟩
def Jah:St:=⟨(0,.ptr 0 0)::(2,.mp 1)::(4,.ptr 6 0)::(7,.ptr 7 0)::(15,.d<|.sl<|i.2.2.2.map Ay)::(16,.d<|.int .i64 ((i.2.2.2.length:Nat):Int))::(17,.d<|.int .i64 l)::(25,.d<|.sl<|e.2.2.2.map Ay)::(26,.d<|.int .i64 ((e.2.2.2.length:Nat):Int))::(27,.d<|.int .i64 q)::[],[some<|.box [.dptr (Aw b) 0,.osl 8 2 0<|e.2.1.length,.mp 3,.osl 9 1 0<|e.2.2.1.length,.mp 5],some<|.nmp false (.d<|.sl [])<|D1 eU8 4 Aq c,none,some<|.map true false<|AC Al AK e.1,none,some<|.map true true<|AC AT A0 g,some<|.box<|I7 h,some<|.box<|TR o,some<|.arr 2<|e.2.1.map Al,some<|.arr 1<|e.2.2.1.map<|eOp Ay]⟩
def Jai:St:=⟨(0,.ptr 0 0)::(2,.mp 1)::(4,.ptr 6 0)::(15,.d<|.sl<|i.2.2.2.map Ay)::(16,.d<|.int .i64 ((i.2.2.2.length:Nat):Int))::(17,.d<|.int .i64 l)::[],[some<|.box [.dptr (Aw b) 0,.osl 7 2 0<|e.2.1.length,.mp 3,.osl 8 1 0<|e.2.2.1.length,.mp 5],some<|.nmp false (.d<|.sl [])<|D1 eU8 4 Aq r,none,some<|.map true false<|AC Al AK e.1,none,some<|.map true true<|AC AT A0 g,some<|.box<|I7 h,some<|.arr 2<|e.2.1.map Al,some<|.arr 1<|e.2.2.1.map<|eOp Ay]⟩
def Jaj:St:=⟨(0,.ptr 0 0)::(2,.mp 1)::(4,.ptr 6 0)::(7,.ptr 7 0)::(15,.d<|.sl<|i.2.2.2.map Ay)::(16,.d<|.int .i64 ((i.2.2.2.length:Nat):Int))::(17,.d<|.int .i64 l)::(25,.d<|.sl<|e.2.2.2.map Ay)::(26,.d<|.int .i64 ((e.2.2.2.length:Nat):Int))::(27,.d<|.int .i64 q)::[],[some<|.box [.dptr (Aw b) 0,.osl 8 2 0<|e.2.1.length,.mp 3,.osl 9 1 0<|e.2.2.1.length,.mp 5],some<|.nmp false (.d<|.sl [])<|D1 eU8 4 Aq p,none,some<|.map true false<|AC Al AK e.1,none,some<|.map true true<|AC AT A0 g,some<|.box<|I7 h,some<|.box<|TR o,some<|.arr 2<|e.2.1.map Al,some<|.arr 1<|e.2.2.1.map<|eOp Ay]⟩
def IN:(List<|Int×(List Ah))->Ex->St->Prop:=xX 6 2<|λ (y:(List<|Int×(List Ah)))=>Jai h b g i l e y
def Fl:((List<|Int×(List Ah))×Int)->St:=(λ (x:((List<|Int×(List Ah))×Int))=>Jah h b g i l o e x.1 x.2)
def IP:((List<|Int×(List Ah))×(List<|Aa×Int)×(List Aa)×(List<|Option<|List Af))->Ex->St->Prop:=xX 6 0<|λ (y:((List<|Int×(List Ah))×(List<|Aa×Int)×(List Aa)×(List<|Option<|List Af)))=>Jag b g y.1 y.2.1 y.2.2.1 y.2.2.2
def Fm:((List<|Int×(List Ah))×(List<|Aa×Int)×(List Aa)×(List<|Option<|List Af)×Int)->St:=(λ (x:((List<|Int×(List Ah))×(List<|Aa×Int)×(List Aa)×(List<|Option<|List Af)×Int))=>Jaf h b g i x.1 x.2.1 x.2.2.1 x.2.2.2.1 x.2.2.2.2)
variable {h b C t E u g P Q G I i j J v w l R S K L o e c q r p}
theorem H9 (x:((List (Int×(List Ah)))×Int)) (z:(((List (Int×(List Ah)))×Int)⊕(List (Int×(List Ah))))) (H:BK n h b g i l o e x.1 x.2=some z):WP (cxk 62 6) (AX Try.f44) [1,1,0,0,1,1,0,0,1,1,0,0] (AS 6 (Fl h b g i l o e) (IN h b g i l e) z) (Fl h b g i l o e x):=by
 obtain⟨c,q⟩:=x;refine sr<|ck 1<|en<|sq<|cn H (λ H=>?_)<|λ H=>?_
 ·refine sk<|qz<|sj (λ (x:(List<|Int×(List Ah)))=>Jaj h b g i l o e q x) (λ (x:(List<|Int×(List Ah)))=>Ci n q x) z ?_ (λ f=>?_)
  ·intro p H;exact rz<|ck 2<|ae (by cases H;exact og<|gP [0,2,4,7,15,16,17,25,26,27] [0,1,2,3,4,5,6,7,8,9]<|po1<|Pl.m false (.d<|.sl []) (nmM (encK:=eU8) (isz:=4) (enc:=Aq) (m:=p) λ _ _=>rfl)<|po1<|po1<|po1<|po1<|po1<|po1<|po1<|po1<|Pl.z)
  refine bk 3<|sr<|bx H λ ah T H=>sp (AH Ay T)<|ck 3<|en<|sq<|sr<|ck 5<|en<|cn H (λ H=>?_)<|λ H=>?_
  ·exact ex 3<|qx<|qH<|qs (gP [0,2,4,7,15,16,17,25,26,27] [0,1,2,3,4,5,6,7,8,9]<|po1<|Pl.m false (.d<|.sl []) (nmM (encK:=eU8) (isz:=4) (enc:=Aq) (m:=c) λ _ _=>rfl)<|po1<|po1<|po1<|po1<|po1<|po1<|po1<|po1<|Pl.z)<|f c H
  ·exact sk<|qz<|sr<|ck 11<|bx H λ ai U H=>ca false (Mv U)<|ck 3<|en<|rg (Jhi (ka:=false) (dv:=.d<|.sl []) (encK:=eU8) (isz:=4) (enc:=Aq) 1 12 o.Cell c)<|ck 6<|sp (Zg (isz:=4) (n:=12) (encK:=eU8) (enc:=Aq) (k:=1) (m:=c) (key:=o.Cell) (x:=.int .u8 o.Cell) Jew)<|ck 1<|bx H λ aj V H=>ca false (K1 V)<|ck 1<|bx H λ O W H=>sp (Bp Aq 12 4 W)<|sp (Jco (isz:=4) (n:=12) (n':=14) (l':=(O.length)) (a:=.osl 12 4 0<|List.length<|Cc o.Cell c) (encK:=eU8) (enc:=Aq) (k:=1) (m:=c) (key:=o.Cell) (x:=.int .u8 o.Cell) Jew)<|ae<|qN<|qs (tr (Jhj (ka:=false) (encK:=eU8) (isz:=4) (enc:=Aq) (dv:=.osl 12 4 0 0) 1 14 o.Cell O c)<|gP [0,2,4,7,15,16,17,25,26,27] [0,1,2,3,4,5,6,7,8,9]<|po1<|Pl.m false (.d<|.sl []) (nmM (encK:=eU8) (isz:=4) (enc:=Aq) (m:=(DY o.Cell O c)) λ _ _=>rfl)<|po1<|po1<|po1<|po1<|po1<|po1<|po1<|po1<|Pl.z)<|f (DY o.Cell O c) H
 ·exact ex 2<|qx (by cases H;exact xo rfl<|gP [0,2,4,15,16,17] [0,1,2,3,4,5,6,8,9]<|po1<|Pl.m false (.d<|.sl []) (nmM (encK:=eU8) (isz:=4) (enc:=Aq) (m:=c) λ _ _=>rfl)<|po1<|po1<|po1<|po1<|po1<|po1<|po1<|Pl.z)
theorem Ia (x:((List (Int×(List Ah)))×(List (Aa×Int))×(List Aa)×(List (Option (List Af)))×Int)) (z:(((List (Int×(List Ah)))×(List (Aa×Int))×(List Aa)×(List (Option (List Af)))×Int)⊕((List (Int×(List Ah)))×(List (Aa×Int))×(List Aa)×(List (Option (List Af)))))) (H:Cj n h b g i x.1 x.2.1 x.2.2.1 x.2.2.2.1 x.2.2.2.2=some z):WP (cxk 62 6) (AX Try.f44) [1,1,0,0] (AS 6 (Fm h b g i) (IP b g) z) (Fm h b g i x):=by
 obtain⟨j,J,v,w,l⟩:=x;refine sr<|ck 1<|en<|sq<|cn H (λ H=>?_)<|λ H=>?_
 ·exact sk<|qz<|sq<|bk 1<|sr<|bx H λ o X H=>sp (AH Ay X)<|ck 3<|en<|sr<|ck 4<|bx H λ e Y H=>lt [0,7,3,8,5] (G9 Y)<|sp (AR Ay e.2.2.2)<|ck 1<|en<|bk 2<|bx H λ ag Z H=>lX H9 Z (gP [0,2,4,7,15,16,17,25,26,27] [0,1,2,3,4,5,6,9,10,11]<|po1<|Pl.m false (.d<|.sl []) (nmM (encK:=eU8) (isz:=4) (enc:=Aq) (m:=j) λ _ _=>rfl)<|po1<|po1<|po1<|po1<|po1<|po1<|po1<|po1<|Pl.z) rfl λ s aa=>qH<|qN<|qs (aa)<|rz<|ck 2<|ae (by cases H;exact og<|gP [0,2,4,15,16,17] [0,1,2,3,4,5,6,7,8]<|po1<|Pl.m false (.d<|.sl []) (nmM (encK:=eU8) (isz:=4) (enc:=Aq) (m:=ag) λ _ _=>rfl)<|po1<|po1<|po1<|po1<|po1<|po1<|po1<|Pl.z)
 ·exact ex 0<|qx (by cases H;exact xo rfl<|gP [] [0,1,2,3,4,5,7,8]<|po1<|Pl.m false (.d<|.sl []) (nmM (encK:=eU8) (isz:=4) (enc:=Aq) (m:=j) λ _ _=>rfl)<|po1<|po1<|po1<|po1<|po1<|po1<|Pl.z)
theorem Kc {z} (H:DO n h b C t E u g=some z):CH Try.prog 44 [.ptr 0 0,.agg (I7 h),.mp 1] [some (.box [.dptr (Aw b) 0,.osl 2 2 0 (t.length),.mp 3,.osl 4 1 0 (u.length),.mp 5]),some (.nmp false (.d (.sl [])) (D1 eU8 4 Aq C)),some (.arr 2 (t.map Al)),some (.map true false (AC Al AK E)),some (.arr 1 (u.map (eOp Ay))),some (.map true true (AC AT A0 g))] 6 (.tup []) [some (.box [.dptr (Aw b) 0,.osl 6 2 0 (z.2.2.1.length),.mp 3,.osl 7 1 0 (z.2.2.2.length),.mp 5]),some (.nmp false (.d (.sl [])) (D1 eU8 4 Aq z.1)),none,some (.map true false (AC Al AK z.2.1)),none,some (.map true true (AC AT A0 g)),some (.arr 2 (z.2.2.1.map Al)),some (.arr 1 (z.2.2.2.map (eOp Ay)))]:=by
 exact fL 62 6 (Jad h b C t E u g) Try.func44<|sr<|ck 1<|en<|sr<|ck 4<|bx H λ i ab H=>lt [0,2,3,4,5] (G9 ab)<|sp (AR Ay i.2.2.2)<|ck 1<|en<|bk 0<|bx H λ M ac H=>lX Ia ac (gP [0,2,4,15,16,17] [0,1,2,3,4,5,6,7,8]<|po1<|Pl.m false (.d<|.sl []) (nmM (encK:=eU8) (isz:=4) (enc:=Aq) (m:=C) λ _ _=>rfl)<|po1<|po1<|po1<|po1<|po1<|po1<|po1<|Pl.z) rfl λ s af=>qH (by cases H;exact pL'<|rl (s':=Jae b g M.1 M.2.1 M.2.2.1 M.2.2.2)<|tr (af)<|gP [] [0,1,2,3,4,5,6,7]<|po1<|Pl.m false (.d<|.sl []) (nmM (encK:=eU8) (isz:=4) (enc:=Aq) (m:=M.1) λ _ _=>rfl)<|po1<|po1<|po1<|po1<|po1<|po1<|Pl.z)
end
section
variable (a:Ah) (b:Ap) (c:(List Aa)) (f:(List (Aa×Int))) (e:(List (Option (List Af)))) (g:(List (Am×An))) (k:Bool)
def Jak:St:=⟨(0,.ptr 0 0)::(1,.agg [.d<|.int .i64 a.Pair.A,.d<|.int .i64 a.Pair.B,.d<|.int .i64 a.Lead.Side,.d<|.str a.Lead.Text])::[],[some<|.box [.dptr (Aw b) 0,.osl 1 2 0<|c.length,.mp 2,.osl 3 1 0<|e.length,.mp 4],some<|.arr 2<|c.map Al,some<|.map true false<|AC Al AK f,some<|.arr 1<|e.map<|eOp Ay,some<|.map true true<|AC AT A0 g]⟩
def Jal:St:=⟨(4,.d<|.bool k)::[],[some<|.box [.dptr (Aw b) 0,.osl 1 2 0<|c.length,.mp 2,.osl 3 1 0<|e.length,.mp 4],some<|.arr 2<|c.map Al,some<|.map true false<|AC Al AK f,some<|.arr 1<|e.map<|eOp Ay,some<|.map true true<|AC AT A0 g]⟩
variable {a b c f e g k}
theorem Jw {z} (H:Dh n a b c f e g=some z):CH Try.prog 45 [.ptr 0 0,.agg (I7 a)] [some (.box [.dptr (Aw b) 0,.osl 1 2 0 (c.length),.mp 2,.osl 3 1 0 (e.length),.mp 4]),some (.arr 2 (c.map Al)),some (.map true false (AC Al AK f)),some (.arr 1 (e.map (eOp Ay))),some (.map true true (AC AT A0 g))] 5 (.d (.bool z)) [some (.box [.dptr (Aw b) 0,.osl 1 2 0 (c.length),.mp 2,.osl 3 1 0 (e.length),.mp 4]),some (.arr 2 (c.map Al)),some (.map true false (AC Al AK f)),some (.arr 1 (e.map (eOp Ay))),some (.map true true (AC AT A0 g))]:=by
 exact fL 65 5 (Jak a b c f e g) Try.func45<|sr<|ck 2<|en<|sr<|ck 7<|bx H λ h l H=>sp (Bj 1 2 l)<|sp (CZ Al 1 0 (ty 109) l)<|ck 7<|bx H λ i m H=>sp (Bj 1 2 m)<|sp (CZ Al 1 0 (ty 109) m)<|ck 4<|en<|sr<|ck 6<|gc 2 (a.Lead.Side != 0)<|pA<|ck 2<|gc 2 ((a.Lead.Side != 0)&&(h.Rest==[]))<|pA<|ck 2<|gc 6 (((a.Lead.Side != 0)&&(h.Rest==[]))&&(i.Rest==[]))<|ck 1<|gc 1 (((a.Lead.Side != 0)&&(h.Rest==[]))&&(i.Rest==[]))<|bx H λ j o H=>sE (λ hg=>AH eB<|Dc o hg)<|gc 1 (((a.Lead.Side != 0)&&(h.Rest==[]))&&(i.Rest==[]))<|pA<|ck 2<|gc 6 ((((a.Lead.Side != 0)&&(h.Rest==[]))&&(i.Rest==[]))&&j)<|ck 1<|gc 1 ((((a.Lead.Side != 0)&&(h.Rest==[]))&&(i.Rest==[]))&&j)<|bx H λ q p H=>sE (λ hg=>AH eB<|Dc p hg)<|gc 1 ((((a.Lead.Side != 0)&&(h.Rest==[]))&&(i.Rest==[]))&&j)<|pA<|ck 1<|en<|re (by cases H;exact pL<|rl (s':=Jal b c f e g<|((((a.Lead.Side != 0)&&(h.Rest==[]))&&(i.Rest==[]))&&j)&&q)<|sg [4])
end
section
variable (b:Ap) (B:(List Aa)) (U:(List (Aa×Int))) (C:(List (Option (List Af)))) (V:(List (Am×An))) (aw:(List (Aa×Int))) (ay:(List (Am×An))) (W:(List Int)) (X:(List Aa)) (Y:(List (Option (List Af)))) (az:Bool) (Z:(List (Aa×Int))) (aa:(List (Am×An))) (a:(List (List ((List Ah)×Int)))) (r:(List (Int×(List Ah)))) (O:(List Aa)) (P:(List (Option (List Af)))) (a0:(List (Aa×Int))) (a2:(List (Am×An))) (ab:(List Aa)) (ac:(List (Option (List Af)))) (af:(List (Aa×Int))) (v:(List (Am×An))) (w:(List (Int×(List Ah)))) (i:(List (List ((List Ah)×Int)))) (Q:(List Aa)) (R:(List (Option (List Af)))) (g:Int) (a3:(List (Aa×Int))) (a4:(List (Am×An))) (E:(List (Int×(List Ah)))) (J:(List (List ((List Ah)×Int)))) (ag:(List Aa)) (ah:(List (Option (List Af)))) (g2:Bh) (ai:(List (Aa×Int))) (t:(List (Int×(List Ah)))) (S:(List Aa)) (T:(List (Option (List Af)))) (aj:Int) (a5:(List (Aa×Int))) (G:(List (Int×(List Ah)))) (ak:(List Aa)) (al:(List (Option (List Af)))) (c:((List (Aa×Int))×(List (Int×(List Ah)))×(List Aa)×(List (Option (List Af))))) (am:(List (Am×An))) (h:(List (List ((List Ah)×Int)))) (l:Int) (a6:(List (Am×An))) (K:(List (List ((List Ah)×Int)))) (ap:(List (Am×An))) (A:(List (List ((List Ah)×Int)))) (j:Bh) (ar:(List (Am×An))) (I:Int) (u:Bh) (a7:(List (Am×An))) (q:Bh) (au:(List (Am×An)))
def Jam:St:=⟨(0,.ptr 0 0)::[],[some<|.box [.dptr (Aw b) 0,.osl 1 2 0<|B.length,.mp 2,.osl 3 1 0<|C.length,.mp 4],some<|.arr 2<|B.map Al,some<|.map true false<|AC Al AK U,some<|.arr 1<|C.map<|eOp Ay,some<|.map true true<|AC AT A0 V]⟩
def PB:St:=⟨(2,.osl 5 1 0<|W.length)::(3,.d<|.bool az)::[],[some<|.box [.dptr (Aw b) 0,.osl 6 2 0<|X.length,.mp 2,.osl 7 1 0<|Y.length,.mp 4],none,some<|.map true false<|AC Al AK aw,none,some<|.map true true<|AC AT A0 ay,some<|.arr 1<|W.map eU8,some<|.arr 2<|X.map Al,some<|.arr 1<|Y.map<|eOp Ay]⟩
def Jan:St:=⟨(0,.ptr 0 0)::(5,.osl 5 1 0<|a.length)::(6,.mp 6)::[],[some<|.box [.dptr (Aw b) 0,.osl 7 2 0<|O.length,.mp 2,.osl 8 1 0<|P.length,.mp 4],none,some<|.map true false<|AC Al AK Z,none,some<|.map true true<|AC AT A0 aa,some<|.arr 1<|a.map<|ePG Aq,some<|.nmp false (.d<|.sl [])<|Ee eU8 Aq r,some<|.arr 2<|O.map Al,some<|.arr 1<|P.map<|eOp Ay]⟩
def Jao:St:=⟨[],[some<|.box [.dptr (Aw b) 0,.osl 5 2 0<|ab.length,.mp 2,.osl 6 1 0<|ac.length,.mp 4],none,some<|.map true false<|AC Al AK a0,none,some<|.map true true<|AC AT A0 a2,some<|.arr 2<|ab.map Al,some<|.arr 1<|ac.map<|eOp Ay]⟩
def Jap:St:=⟨(0,.ptr 0 0)::(6,.mp 5)::(7,.osl 6 1 0<|i.length)::(44,.osl 7 1 0<|a.length)::(45,.d<|.int .i64 ((a.length:Nat):Int))::(46,.d<|.int .i64 g)::[],[some<|.box [.dptr (Aw b) 0,.osl 8 2 0<|Q.length,.mp 2,.osl 9 1 0<|R.length,.mp 4],none,some<|.map true false<|AC Al AK af,none,some<|.map true true<|AC AT A0 v,some<|.nmp false (.d<|.sl [])<|Ee eU8 Aq w,some<|.arr 1<|i.map<|ePG Aq,some<|.arr 1<|a.map<|ePG Aq,some<|.arr 2<|Q.map Al,some<|.arr 1<|R.map<|eOp Ay]⟩
def Jaq:St:=⟨(0,.ptr 0 0)::(6,.mp 5)::(7,.osl 6 1 0<|J.length)::[],[some<|.box [.dptr (Aw b) 0,.osl 7 2 0<|ag.length,.mp 2,.osl 8 1 0<|ah.length,.mp 4],none,some<|.map true false<|AC Al AK a3,none,some<|.map true true<|AC AT A0 a4,some<|.nmp false (.d<|.sl [])<|Ee eU8 Aq E,some<|.arr 1<|J.map<|ePG Aq,some<|.arr 2<|ag.map Al,some<|.arr 1<|ah.map<|eOp Ay]⟩
def Jar:St:=⟨(0,.ptr 0 0)::(6,.mp 5)::(7,.osl 6 1 0<|i.length)::(9,.d<|dPG Aq ((g2.Nodes,g2.Cell)::g2.From))::(44,.osl 7 1 0<|a.length)::(45,.d<|.int .i64 ((a.length:Nat):Int))::(46,.d<|.int .i64 g)::(54,.d<|.sl<|g2.Nodes.map Aq)::(55,.d<|.int .i64 ((g2.Nodes.length:Nat):Int))::(56,.d<|.int .i64 aj)::[],[some<|.box [.dptr (Aw b) 0,.osl 8 2 0<|S.length,.mp 2,.osl 9 1 0<|T.length,.mp 4],none,some<|.map true false<|AC Al AK ai,none,some<|.map true true<|AC AT A0 v,some<|.nmp false (.d<|.sl [])<|D1 eU8 4 Aq t,some<|.arr 1<|i.map<|ePG Aq,some<|.arr 1<|a.map<|ePG Aq,some<|.arr 2<|S.map Al,some<|.arr 1<|T.map<|eOp Ay]⟩
def Jas:St:=⟨(0,.ptr 0 0)::(6,.mp 5)::(7,.osl 6 1 0<|i.length)::(9,.d<|dPG Aq ((g2.Nodes,g2.Cell)::g2.From))::(44,.osl 7 1 0<|a.length)::(45,.d<|.int .i64 ((a.length:Nat):Int))::(46,.d<|.int .i64 g)::[],[some<|.box [.dptr (Aw b) 0,.osl 8 2 0<|ak.length,.mp 2,.osl 9 1 0<|al.length,.mp 4],none,some<|.map true false<|AC Al AK a5,none,some<|.map true true<|AC AT A0 v,some<|.nmp false (.d<|.sl [])<|D1 eU8 4 Aq G,some<|.arr 1<|i.map<|ePG Aq,some<|.arr 1<|a.map<|ePG Aq,some<|.arr 2<|ak.map Al,some<|.arr 1<|al.map<|eOp Ay]⟩
def HG:((List<|Aa×Int)×(List<|Int×(List Ah))×(List Aa)×(List<|Option<|List Af))->Ex->St->Prop:=xX 5 4<|λ (y:((List<|Aa×Int)×(List<|Int×(List Ah))×(List Aa)×(List<|Option<|List Af)))=>Jas b a v i g g2 y.1 y.2.1 y.2.2.1 y.2.2.2
def Ew:((List<|Aa×Int)×(List<|Int×(List Ah))×(List Aa)×(List<|Option<|List Af)×Int)->St:=(λ (x:((List<|Aa×Int)×(List<|Int×(List Ah))×(List Aa)×(List<|Option<|List Af)×Int))=>Jar b a v i g g2 x.1 x.2.1 x.2.2.1 x.2.2.2.1 x.2.2.2.2)
def Jat:St:=⟨(0,.ptr 0 0)::(6,.mp 5)::(7,.osl 6 1 0<|h.length)::(9,.d<|dPG Aq ((g2.Nodes,g2.Cell)::g2.From))::(44,.osl 7 1 0<|a.length)::(45,.d<|.int .i64 ((a.length:Nat):Int))::(46,.d<|.int .i64 g)::(65,.d<|.int .u8 l)::[],[some<|.box [.dptr (Aw b) 0,.osl 8 2 0<|c.2.2.1.length,.mp 2,.osl 9 1 0<|c.2.2.2.length,.mp 4],none,some<|.map true false<|AC Al AK c.1,none,some<|.map true true<|AC AT A0 am,some<|.nmp false (.d<|.sl [])<|Ee eU8 Aq c.2.1,some<|.arr 1<|h.map<|ePG Aq,some<|.arr 1<|a.map<|ePG Aq,some<|.arr 2<|c.2.2.1.map Al,some<|.arr 1<|c.2.2.2.map<|eOp Ay]⟩
def Xw:St:=⟨(0,.ptr 0 0)::(6,.mp 5)::(7,.osl 6 1 0<|K.length)::(44,.osl 7 1 0<|a.length)::(45,.d<|.int .i64 ((a.length:Nat):Int))::(46,.d<|.int .i64 g)::[],[some<|.box [.dptr (Aw b) 0,.osl 8 2 0<|c.2.2.1.length,.mp 2,.osl 9 1 0<|c.2.2.2.length,.mp 4],none,some<|.map true false<|AC Al AK c.1,none,some<|.map true true<|AC AT A0 a6,some<|.nmp false (.d<|.sl [])<|Ee eU8 Aq c.2.1,some<|.arr 1<|K.map<|ePG Aq,some<|.arr 1<|a.map<|ePG Aq,some<|.arr 2<|c.2.2.1.map Al,some<|.arr 1<|c.2.2.2.map<|eOp Ay]⟩
def Xx:St:=⟨(0,.ptr 0 0)::(6,.mp 5)::(7,.osl 6 1 0<|A.length)::(9,.d<|dPG Aq ((g2.Nodes,g2.Cell)::g2.From))::(44,.osl 7 1 0<|a.length)::(45,.d<|.int .i64 ((a.length:Nat):Int))::(46,.d<|.int .i64 g)::(65,.d<|.int .u8 l)::[],[some<|.box [.dptr (Aw b) 0,.osl 8 2 0<|c.2.2.1.length,.mp 2,.osl 9 1 0<|c.2.2.2.length,.mp 4],none,some<|.map true false<|AC Al AK c.1,none,some<|.map true true<|AC AT A0 ap,some<|.nmp false (.d<|.sl [])<|Ee eU8 Aq c.2.1,some<|.arr 1<|A.map<|ePG Aq,some<|.arr 1<|a.map<|ePG Aq,some<|.arr 2<|c.2.2.1.map Al,some<|.arr 1<|c.2.2.2.map<|eOp Ay]⟩
def Xy:St:=⟨(0,.ptr 0 0)::(6,.mp 5)::(7,.osl 6 1 0<|h.length)::(9,.d<|dPG Aq ((g2.Nodes,g2.Cell)::g2.From))::(13,.ptr 7 0)::(44,.osl 8 1 0<|a.length)::(45,.d<|.int .i64 ((a.length:Nat):Int))::(46,.d<|.int .i64 g)::(65,.d<|.int .u8 l)::(74,.d<|.sl<|List.map Aq<|Cc l c.2.1)::(75,.d<|.int .i64 ((List.length (Cc l c.2.1):Nat):Int))::(76,.d<|.int .i64 I)::[],[some<|.box [.dptr (Aw b) 0,.osl 9 2 0<|c.2.2.1.length,.mp 2,.osl 10 1 0<|c.2.2.2.length,.mp 4],none,some<|.map true false<|AC Al AK c.1,none,some<|.map true true<|AC AT A0 ar,some<|.nmp false (.d<|.sl [])<|Ee eU8 Aq c.2.1,some<|.arr 1<|h.map<|ePG Aq,some<|.box<|LE j (.osl 11 4 0<|j.Nodes.length)<|.d<|dPG Aq j.From,some<|.arr 1<|a.map<|ePG Aq,some<|.arr 2<|c.2.2.1.map Al,some<|.arr 1<|c.2.2.2.map<|eOp Ay,some<|.arr 4<|j.Nodes.map Aq]⟩
def Xz:St:=⟨(0,.ptr 0 0)::(6,.mp 5)::(7,.osl 6 1 0<|h.length)::(9,.d<|dPG Aq ((g2.Nodes,g2.Cell)::g2.From))::(13,.ptr 7 0)::(44,.osl 8 1 0<|a.length)::(45,.d<|.int .i64 ((a.length:Nat):Int))::(46,.d<|.int .i64 g)::(65,.d<|.int .u8 l)::[],[some<|.box [.dptr (Aw b) 0,.osl 9 2 0<|c.2.2.1.length,.mp 2,.osl 10 1 0<|c.2.2.2.length,.mp 4],none,some<|.map true false<|AC Al AK c.1,none,some<|.map true true<|AC AT A0 a7,some<|.nmp false (.d<|.sl [])<|Ee eU8 Aq c.2.1,some<|.arr 1<|h.map<|ePG Aq,some<|.box<|LE u (.osl 11 4 0<|u.Nodes.length)<|.d<|dPG Aq u.From,some<|.arr 1<|a.map<|ePG Aq,some<|.arr 2<|c.2.2.1.map Al,some<|.arr 1<|c.2.2.2.map<|eOp Ay,some<|.arr 4<|u.Nodes.map Aq]⟩
def XA:St:=⟨(0,.ptr 0 0)::(6,.mp 5)::(7,.osl 6 1 0<|h.length)::(9,.d<|dPG Aq ((g2.Nodes,g2.Cell)::g2.From))::(13,.ptr 7 0)::(44,.osl 8 1 0<|a.length)::(45,.d<|.int .i64 ((a.length:Nat):Int))::(46,.d<|.int .i64 g)::(65,.d<|.int .u8 l)::(74,.d<|.sl<|List.map Aq<|Cc l c.2.1)::(75,.d<|.int .i64 ((List.length (Cc l c.2.1):Nat):Int))::(76,.d<|.int .i64 I)::[],[some<|.box [.dptr (Aw b) 0,.osl 9 2 0<|c.2.2.1.length,.mp 2,.osl 10 1 0<|c.2.2.2.length,.mp 4],none,some<|.map true false<|AC Al AK c.1,none,some<|.map true true<|AC AT A0 au,some<|.nmp false (.d<|.sl [])<|Ee eU8 Aq c.2.1,some<|.arr 1<|h.map<|ePG Aq,some<|.box<|LE q (.osl 11 4 0<|q.Nodes.length)<|.d<|dPG Aq q.From,some<|.arr 1<|a.map<|ePG Aq,some<|.arr 2<|c.2.2.1.map Al,some<|.arr 1<|c.2.2.2.map<|eOp Ay,some<|.arr 4<|q.Nodes.map Aq]⟩
def HH:((Bh×(List<|Am×An))⊕((List<|Aa×Int)×(List<|Am×An)×(List Int)×(List Aa)×(List<|Option<|List Af)×Bool))->Ex->St->Prop:=xS (xX 5 8<|λ (y:(Bh×(List<|Am×An)))=>Xz b a g g2 c h l y.1 y.2)<|xL 5 ty Try.f25 (λ (y:((List<|Aa×Int)×(List<|Am×An)×(List Int)×(List Aa)×(List<|Option<|List Af)×Bool))=>.tup [.osl 5 1 0<|y.2.2.1.length,.d<|.bool y.2.2.2.2.2])<|λ (y:((List<|Aa×Int)×(List<|Am×An)×(List Int)×(List Aa)×(List<|Option<|List Af)×Bool))=>[some<|.box [.dptr (Aw b) 0,.osl 6 2 0<|y.2.2.2.1.length,.mp 2,.osl 7 1 0<|y.2.2.2.2.1.length,.mp 4],none,some<|.map true false<|AC Al AK y.1,none,some<|.map true true<|AC AT A0 y.2.1,some<|.arr 1<|y.2.2.1.map eU8,some<|.arr 2<|y.2.2.2.1.map Al,some<|.arr 1<|y.2.2.2.2.1.map<|eOp Ay]
def Ey:(Bh×(List<|Am×An)×Int)->St:=(λ (x:(Bh×(List<|Am×An)×Int))=>Xy b a g g2 c h l x.1 x.2.1 x.2.2)
def HI:(((List<|Am×An)×(List<|List<|(List Ah)×Int))⊕((List<|Aa×Int)×(List<|Am×An)×(List Int)×(List Aa)×(List<|Option<|List Af)×Bool))->Ex->St->Prop:=xS (xX 5 6<|λ (y:((List<|Am×An)×(List<|List<|(List Ah)×Int)))=>Xw b a g c y.1 y.2)<|xL 5 ty Try.f25 (λ (y:((List<|Aa×Int)×(List<|Am×An)×(List Int)×(List Aa)×(List<|Option<|List Af)×Bool))=>.tup [.osl 5 1 0<|y.2.2.1.length,.d<|.bool y.2.2.2.2.2])<|λ (y:((List<|Aa×Int)×(List<|Am×An)×(List Int)×(List Aa)×(List<|Option<|List Af)×Bool))=>[some<|.box [.dptr (Aw b) 0,.osl 6 2 0<|y.2.2.2.1.length,.mp 2,.osl 7 1 0<|y.2.2.2.2.1.length,.mp 4],none,some<|.map true false<|AC Al AK y.1,none,some<|.map true true<|AC AT A0 y.2.1,some<|.arr 1<|y.2.2.1.map eU8,some<|.arr 2<|y.2.2.2.1.map Al,some<|.arr 1<|y.2.2.2.2.1.map<|eOp Ay]
def Ez:((List<|Am×An)×(List<|List<|(List Ah)×Int)×Int)->St:=(λ (x:((List<|Am×An)×(List<|List<|(List Ah)×Int)×Int))=>Jat b a g g2 c x.1 x.2.1 x.2.2)
def HJ:(((List<|Aa×Int)×(List<|Am×An)×(List<|Int×(List Ah))×(List<|List<|(List Ah)×Int)×(List Aa)×(List<|Option<|List Af))⊕((List<|Aa×Int)×(List<|Am×An)×(List Int)×(List Aa)×(List<|Option<|List Af)×Bool))->Ex->St->Prop:=xS (xX 5 2<|λ (y:((List<|Aa×Int)×(List<|Am×An)×(List<|Int×(List Ah))×(List<|List<|(List Ah)×Int)×(List Aa)×(List<|Option<|List Af)))=>Jaq b y.1 y.2.1 y.2.2.1 y.2.2.2.1 y.2.2.2.2.1 y.2.2.2.2.2)<|xL 5 ty Try.f25 (λ (y:((List<|Aa×Int)×(List<|Am×An)×(List Int)×(List Aa)×(List<|Option<|List Af)×Bool))=>.tup [.osl 5 1 0<|y.2.2.1.length,.d<|.bool y.2.2.2.2.2])<|λ (y:((List<|Aa×Int)×(List<|Am×An)×(List Int)×(List Aa)×(List<|Option<|List Af)×Bool))=>[some<|.box [.dptr (Aw b) 0,.osl 6 2 0<|y.2.2.2.1.length,.mp 2,.osl 7 1 0<|y.2.2.2.2.1.length,.mp 4],none,some<|.map true false<|AC Al AK y.1,none,some<|.map true true<|AC AT A0 y.2.1,some<|.arr 1<|y.2.2.1.map eU8,some<|.arr 2<|y.2.2.2.1.map Al,some<|.arr 1<|y.2.2.2.2.1.map<|eOp Ay]
def EA:((List<|Aa×Int)×(List<|Am×An)×(List<|Int×(List Ah))×(List<|List<|(List Ah)×Int)×(List Aa)×(List<|Option<|List Af)×Int)->St:=(λ (x:((List<|Aa×Int)×(List<|Am×An)×(List<|Int×(List Ah))×(List<|List<|(List Ah)×Int)×(List Aa)×(List<|Option<|List Af)×Int))=>Jap b a x.1 x.2.1 x.2.2.1 x.2.2.2.1 x.2.2.2.2.1 x.2.2.2.2.2.1 x.2.2.2.2.2.2)
def HK:(((List<|Aa×Int)×(List<|Am×An)×(List Aa)×(List<|Option<|List Af))⊕((List<|Aa×Int)×(List<|Am×An)×(List Int)×(List Aa)×(List<|Option<|List Af)×Bool))->Ex->St->Prop:=xS (xX 5 0<|λ (y:((List<|Aa×Int)×(List<|Am×An)×(List Aa)×(List<|Option<|List Af)))=>Jao b y.1 y.2.1 y.2.2.1 y.2.2.2)<|xL 5 ty Try.f25 (λ (y:((List<|Aa×Int)×(List<|Am×An)×(List Int)×(List Aa)×(List<|Option<|List Af)×Bool))=>.tup [.osl 5 1 0<|y.2.2.1.length,.d<|.bool y.2.2.2.2.2])<|λ (y:((List<|Aa×Int)×(List<|Am×An)×(List Int)×(List Aa)×(List<|Option<|List Af)×Bool))=>[some<|.box [.dptr (Aw b) 0,.osl 6 2 0<|y.2.2.2.1.length,.mp 2,.osl 7 1 0<|y.2.2.2.2.1.length,.mp 4],none,some<|.map true false<|AC Al AK y.1,none,some<|.map true true<|AC AT A0 y.2.1,some<|.arr 1<|y.2.2.1.map eU8,some<|.arr 2<|y.2.2.2.1.map Al,some<|.arr 1<|y.2.2.2.2.1.map<|eOp Ay]
def EB:((List<|Aa×Int)×(List<|Am×An)×(List<|List<|(List Ah)×Int)×(List<|Int×(List Ah))×(List Aa)×(List<|Option<|List Af))->St:=(λ (x:((List<|Aa×Int)×(List<|Am×An)×(List<|List<|(List Ah)×Int)×(List<|Int×(List Ah))×(List Aa)×(List<|Option<|List Af)))=>Jan b x.1 x.2.1 x.2.2.1 x.2.2.2.1 x.2.2.2.2.1 x.2.2.2.2.2)
variable {b B U C V aw ay W X Y az Z aa a r O P a0 a2 ab ac af v w i Q R g a3 a4 E J ag ah g2 ai t S T aj a5 G ak al c am h l a6 K ap A j ar I u a7 q au}
theorem Hl (x:((List (Aa×Int))×(List (Int×(List Ah)))×(List Aa)×(List (Option (List Af)))×Int)) (z:(((List (Aa×Int))×(List (Int×(List Ah)))×(List Aa)×(List (Option (List Af)))×Int)⊕((List (Aa×Int))×(List (Int×(List Ah)))×(List Aa)×(List (Option (List Af)))))) (H:Bu n b a v i g g2 x.1 x.2.1 x.2.2.1 x.2.2.2.1 x.2.2.2.2=some z):WP (cxk 113 5) (AX Try.f25) [1,1,1,1,1,1,0,0,0,1,0,1,0,1,0,0,1,1,0,0,1,1,0,1,0,0] (AS 5 (Ew b a v i g g2) (HG b a v i g g2) z) (Ew b a v i g g2 x):=by
 obtain⟨ai,t,S,T,aj⟩:=x;refine sr<|ck 1<|en<|sq<|cn H (λ H=>?_)<|λ H=>?_
 ·exact sk<|qz<|sq<|bk 5<|sr<|bx H λ b6 be H=>sp (AH Aq be)<|ck 3<|en<|rz<|ck 3<|bx H λ L bf H=>ltP [0,5,8,2,9,4] (Kc bf) (po1<|Pl.m false (.d<|.sl []) (nmM (encK:=eU8) (isz:=4) (enc:=Aq) (m:=t) λ _ _=>rfl)<|po1<|po1<|po1<|po1<|Pl.z)<|tb (f:=Gt<|DG [0,5,8,2,9,4] 11 6) [some<|.box [.dptr (Aw b) 0,.osl 11 2 0<|L.2.2.1.length,.mp 2,.osl 12 1 0<|L.2.2.2.length,.mp 4],none,some<|.map true false<|AC Al AK L.2.1,none,some<|.map true true<|AC AT A0 v,some<|.nmp false (.d<|.sl [])<|D1 eU8 4 Aq L.1,some<|.arr 1<|i.map<|ePG Aq,some<|.arr 1<|a.map<|ePG Aq,none,none,some<|.box<|I7 b6,some<|.arr 2<|L.2.2.1.map Al,some<|.arr 1<|L.2.2.2.map<|eOp Ay] (po1<|po1<|po1<|po1<|po1<|Pl.m false (.d<|.sl []) (nmM (encK:=eU8) (isz:=4) (enc:=Aq) (m:=L.1) λ _ _=>rfl)<|po1<|po1<|po1<|po1<|po1<|po1<|po1<|Pl.z)<|ae<|qN<|qz<|rz<|ck 2<|ae (by cases H;exact og<|gP [0,6,7,9,44,45,46,54,55,56] [0,1,2,3,4,5,6,7,11,12]<|po1<|po1<|po1<|po1<|po1<|Pl.m false (.d<|.sl []) (nmM (encK:=eU8) (isz:=4) (enc:=Aq) (m:=L.1) λ _ _=>rfl)<|po1<|po1<|po1<|po1<|Pl.z)
 ·exact ex 4<|qx (by cases H;exact xo rfl<|gP [0,6,7,9,44,45,46] [0,1,2,3,4,5,6,7,8,9]<|po1<|po1<|po1<|po1<|po1<|Pl.m false (.d<|.sl []) (nmM (encK:=eU8) (isz:=4) (enc:=Aq) (m:=t) λ _ _=>rfl)<|po1<|po1<|po1<|po1<|Pl.z)
theorem Ef (x:(Bh×(List (Am×An))×Int)) (z:((Bh×(List (Am×An))×Int)⊕((Bh×(List (Am×An)))⊕((List (Aa×Int))×(List (Am×An))×(List Int)×(List Aa)×(List (Option (List Af)))×Bool)))) (H:Bv n b a g g2 c h l x.1 x.2.1 x.2.2=some z):WP (cxk 113 5) (AX Try.f25) [1,1,1,1,1,1,0,0,0,1,0,1,0,1,0,0,1,1,0,0,1,1,1,1,0,0,1,1,0,0,1,1,0,1,0,0] (AS 5 (Ey b a g g2 c h l) (HH b a g g2 c h l) z) (Ey b a g g2 c h l x):=by
 obtain⟨j,ar,I⟩:=x;refine sr<|ck 1<|en<|sq<|cn H (λ H=>?_)<|λ H=>?_
 ·refine sk<|qz<|sj (λ (x:(Bh×(List<|Am×An)))=>XA b a g g2 c h l I x.1 x.2) (λ (x:(Bh×(List<|Am×An)))=>Cp n I x.1 x.2) z ?_ (λ o=>?_)
  ·rintro⟨q,au⟩ H;exact rz<|ck 2<|ae (by cases H;exact og<|gP [0,6,7,9,13,44,45,46,65,74,75,76] [0,1,2,3,4,5,6,7,8,9,10,11]<|po1<|po1<|po1<|po1<|po1<|Pl.m false (.d<|.sl []) (IE (encK:=eU8) (enc:=Aq) (m:=c.2.1) λ _=>rfl)<|po1<|po1<|po1<|po1<|po1<|po1<|Pl.z)
  refine bk 9<|sr<|bx H λ cg bg H=>sp (AH Aq bg)<|ck 3<|en<|sq<|sr<|ck 2<|bx H λ bd bh H=>lt [0,9,2,10,4] (Gi bh)<|ck 1<|en<|cn H (λ H=>?_)<|λ H=>?_
  ·exact ex 9<|qx<|qH<|qs (gP [0,6,7,9,13,44,45,46,65,74,75,76] [0,1,2,3,4,5,6,7,8,9,10,11]<|po1<|po1<|po1<|po1<|po1<|Pl.m false (.d<|.sl []) (IE (encK:=eU8) (enc:=Aq) (m:=c.2.1) λ _=>rfl)<|po1<|po1<|po1<|po1<|po1<|po1<|Pl.z)<|o (j,bd.1) H
  ·refine sk<|qz<|sq<|sr<|ck 2<|bx H λ ch bi H=>lt [0,9,2,10,4] (Jw bi)<|en<|cn H (λ H=>?_)<|λ H=>?_
   ·exact sq<|rg (tr (fzc (enc:=Aq) (xs:=j.Nodes) 7 0 11 4)<|Of [13] 7 (by kernel_rfl))<|ck 1<|bx H λ bj bl H=>cl [List.length bj] (LG bl)<|ck 2<|en<|re<|qr<|qR<|qr (by cases H;exact lo rfl<|rl (s':=PB b c.1 bd.1 bj c.2.2.1 c.2.2.2 true)<|sg [2,3])
   ·exact sk<|qz<|rz<|ck 7<|bx H λ b7 bm H=>sp (Bp Aq 11 4 bm)<|ck 3<|ae<|qN<|qs (gP [0,6,7,9,13,44,45,46,65,74,75,76] [0,1,2,3,4,5,6,7,8,9,10,14]<|po1<|po1<|po1<|po1<|po1<|Pl.m false (.d<|.sl []) (IE (encK:=eU8) (enc:=Aq) (m:=c.2.1) λ _=>rfl)<|po1<|po1<|po1<|po1<|po1<|po1<|Pl.z)<|o (({ Nodes:=b7,From:=j.From,Cell:=j.Cell }:Bh),bd.1) H
 ·exact ex 8<|qx (by cases H;exact xo rfl<|gP [0,6,7,9,13,44,45,46,65] [0,1,2,3,4,5,6,7,8,9,10,11]<|po1<|po1<|po1<|po1<|po1<|Pl.m false (.d<|.sl []) (IE (encK:=eU8) (enc:=Aq) (m:=c.2.1) λ _=>rfl)<|po1<|po1<|po1<|po1<|po1<|po1<|Pl.z)
theorem Eg (x:((List (Am×An))×(List (List ((List Ah)×Int)))×Int)) (z:(((List (Am×An))×(List (List ((List Ah)×Int)))×Int)⊕(((List (Am×An))×(List (List ((List Ah)×Int))))⊕((List (Aa×Int))×(List (Am×An))×(List Int)×(List Aa)×(List (Option (List Af)))×Bool)))) (H:Bw n b a g g2 c x.1 x.2.1 x.2.2=some z):WP (cxk 113 5) (AX Try.f25) [1,1,1,1,1,1,0,0,0,1,0,1,0,1,0,0,1,1,0,0,1,1,1,1,0,0] (AS 5 (Ez b a g g2 c) (HI b a g c) z) (Ez b a g g2 c x):=by
 obtain⟨am,h,l⟩:=x;refine sr<|ck 1<|en<|sq<|cn H (λ H=>?_)<|λ H=>?_
 ·refine sk<|qz<|sj (λ (x:((List<|Am×An)×(List<|List<|(List Ah)×Int)))=>Xx b a g g2 c l x.1 x.2) (λ (x:((List<|Am×An)×(List<|List<|(List Ah)×Int)))=>Di n l x.1 x.2) z ?_ (λ p=>?_)
  ·rintro⟨ap,A⟩ H;exact rz<|ck 2<|ae (by cases H;exact og<|gP [0,6,7,9,44,45,46,65] [0,1,2,3,4,5,6,7,8,9]<|po1<|po1<|po1<|po1<|po1<|Pl.m false (.d<|.sl []) (IE (encK:=eU8) (enc:=Aq) (m:=c.2.1) λ _=>rfl)<|po1<|po1<|po1<|po1<|Pl.z)
  refine bk 7<|sr<|ck 2<|en<|sr<|ck 5<|en<|sq<|sr<|ck 2<|sp (Xr (encK:=eU8) (enc:=Aq) (k:=5) (m:=c.2.1) (key:=l) (x:=.int .u8 l) Jew)<|sp (AR Aq<|Cc l c.2.1)<|ck 1<|en<|bk 8<|bx H λ b8 a8 H=>?_;rcases b8 with M|ci
  ·refine lX Ef a8 (tr (DL 10 0 4 (by kernel_rfl))<|gP [0,6,7,9,13,44,45,46,65,74,75,76] [0,1,2,3,4,5,6,10,7,8,9,11]<|po1<|po1<|po1<|po1<|po1<|Pl.m false (.d<|.sl []) (IE (encK:=eU8) (enc:=Aq) (m:=c.2.1) λ _=>rfl)<|po1<|po1<|po1<|po1<|po1<|po1<|Pl.z) rfl λ s bn=>qH<|qs (bn)<|sr<|ck 6<|en<|cn H (λ H=>?_)<|λ H=>?_
   ·exact rg (tr (tr (tr (tr (tr (fzc (enc:=Aq) (xs:=M.1.Nodes) 7 0 11 4)<|Of [13,100,101,102] 7 (by kernel_rfl))<|Q6 (e:=Hx M.1) 13 (by kernel_rfl))<|Q6 (e:=Hx M.1) 100 (by kernel_rfl))<|Q6 (e:=Hx M.1) 101 (by kernel_rfl))<|Q6 (e:=Hx M.1) 102 (by kernel_rfl))<|ck 3<|bx H λ b9 bp H=>sp (Bp (ePG Aq) 6 1 bp)<|ck 1<|ae<|qN<|qs (gP [0,6,7,9,44,45,46,65] [0,1,2,3,4,5,13,8,9,10]<|po1<|po1<|po1<|po1<|po1<|Pl.m false (.d<|.sl []) (IE (encK:=eU8) (enc:=Aq) (m:=c.2.1) λ _=>rfl)<|po1<|po1<|po1<|po1<|Pl.z)<|p (M.2,b9) H
   ·exact sk<|qN<|qs (gP [0,6,7,9,44,45,46,65] [0,1,2,3,4,5,6,8,9,10]<|po1<|po1<|po1<|po1<|po1<|Pl.m false (.d<|.sl []) (IE (encK:=eU8) (enc:=Aq) (m:=c.2.1) λ _=>rfl)<|po1<|po1<|po1<|po1<|Pl.z)<|p (M.2,h) H
  ·exact lL Ef a8 (tr (DL 10 0 4 (by kernel_rfl))<|gP [0,6,7,9,13,44,45,46,65,74,75,76] [0,1,2,3,4,5,6,10,7,8,9,11]<|po1<|po1<|po1<|po1<|po1<|Pl.m false (.d<|.sl []) (IE (encK:=eU8) (enc:=Aq) (m:=c.2.1) λ _=>rfl)<|po1<|po1<|po1<|po1<|po1<|po1<|Pl.z) rfl λ s bq=>qR<|qr<|qR<|qr (by cases H;exact lo rfl bq)
 ·exact ex 6<|qx (by cases H;exact xo rfl<|gP [0,6,7,44,45,46] [0,1,2,3,4,5,6,7,8,9]<|po1<|po1<|po1<|po1<|po1<|Pl.m false (.d<|.sl []) (IE (encK:=eU8) (enc:=Aq) (m:=c.2.1) λ _=>rfl)<|po1<|po1<|po1<|po1<|Pl.z)
theorem Eh (x:((List (Aa×Int))×(List (Am×An))×(List (Int×(List Ah)))×(List (List ((List Ah)×Int)))×(List Aa)×(List (Option (List Af)))×Int)) (z:(((List (Aa×Int))×(List (Am×An))×(List (Int×(List Ah)))×(List (List ((List Ah)×Int)))×(List Aa)×(List (Option (List Af)))×Int)⊕(((List (Aa×Int))×(List (Am×An))×(List (Int×(List Ah)))×(List (List ((List Ah)×Int)))×(List Aa)×(List (Option (List Af))))⊕((List (Aa×Int))×(List (Am×An))×(List Int)×(List Aa)×(List (Option (List Af)))×Bool)))) (H:Bx n b a x.1 x.2.1 x.2.2.1 x.2.2.2.1 x.2.2.2.2.1 x.2.2.2.2.2.1 x.2.2.2.2.2.2=some z):WP (cxk 113 5) (AX Try.f25) [1,1,1,1,1,1,0,0,0,1,0,1,0,1,0,0] (AS 5 (EA b a) (HJ b) z) (EA b a x):=by
 obtain⟨af,v,w,i,Q,R,g⟩:=x;refine sr<|ck 1<|en<|sq<|cn H (λ H=>?_)<|λ H=>?_
 ·refine sk<|qz<|sq<|bk 3<|sr<|bx H λ cj a9 H=>sp (Bj 7 1 a9)<|sp (CZ (ePG Aq) 7 0 (ty 117) a9)<|ck 1<|en<|sr<|ck 1<|xzm (xok _ _) 5<|en<|sq<|sq<|bx H λ g2 br H=>rg (Jc8 (e:=Aq) 9 (Pr br) (by kernel_rfl))<|ck 4<|sp (AR Aq g2.Nodes)<|ck 1<|en<|bk 4<|bx H λ c bt H=>lX Hl bt (tr (Q6 (e:=Hx g2) 9 (by kernel_rfl))<|gP [0,6,7,9,44,45,46,54,55,56] [0,1,2,3,4,5,6,7,8,9]<|po1<|po1<|po1<|po1<|po1<|Pl.m false (.d<|.sl []) (nmM (encK:=eU8) (isz:=4) (enc:=Aq) (m:=([]:(List<|Int×(List Ah)))) λ _ _=>rfl)<|po1<|po1<|po1<|po1<|Pl.z) rfl λ s bu=>qH<|qs (bu)<|sr<|ck 1<|en<|bk 6<|bx H λ cc ba H=>?_;rcases cc with cm|co
  ·exact lX Eg ba (tr (V8 (ka:=false) (dv:=.d<|.sl []) (encK:=eU8) (isz:=4) (enc:=Aq) 5 c.2.1)<|gP [0,6,7,9,44,45,46,65] [0,1,2,3,4,5,6,7,8,9]<|po1<|po1<|po1<|po1<|po1<|Pl.m false (.d<|.sl []) (IE (encK:=eU8) (enc:=Aq) (m:=c.2.1) λ _=>rfl)<|po1<|po1<|po1<|po1<|Pl.z) rfl λ s bv=>qH<|qN<|qs (bv)<|rz<|ck 2<|ae (by cases H;exact og<|gP [0,6,7,44,45,46] [0,1,2,3,4,5,6,7,8,9]<|po1<|po1<|po1<|po1<|po1<|Pl.m false (.d<|.sl []) (IE (encK:=eU8) (enc:=Aq) (m:=c.2.1) λ _=>rfl)<|po1<|po1<|po1<|po1<|Pl.z)
  ·exact lL Eg ba (tr (V8 (ka:=false) (dv:=.d<|.sl []) (encK:=eU8) (isz:=4) (enc:=Aq) 5 c.2.1)<|gP [0,6,7,9,44,45,46,65] [0,1,2,3,4,5,6,7,8,9]<|po1<|po1<|po1<|po1<|po1<|Pl.m false (.d<|.sl []) (IE (encK:=eU8) (enc:=Aq) (m:=c.2.1) λ _=>rfl)<|po1<|po1<|po1<|po1<|Pl.z) rfl λ s bw=>qR<|qR<|qr (by cases H;exact lo rfl bw)
 ·exact ex 2<|qx (by cases H;exact xo rfl<|gP [0,6,7] [0,1,2,3,4,5,6,8,9]<|po1<|po1<|po1<|po1<|po1<|Pl.m false (.d<|.sl []) (IE (encK:=eU8) (enc:=Aq) (m:=w) λ _=>rfl)<|po1<|po1<|po1<|Pl.z)
theorem Ei (x:((List (Aa×Int))×(List (Am×An))×(List (List ((List Ah)×Int)))×(List (Int×(List Ah)))×(List Aa)×(List (Option (List Af))))) (z:(((List (Aa×Int))×(List (Am×An))×(List (List ((List Ah)×Int)))×(List (Int×(List Ah)))×(List Aa)×(List (Option (List Af))))⊕(((List (Aa×Int))×(List (Am×An))×(List Aa)×(List (Option (List Af))))⊕((List (Aa×Int))×(List (Am×An))×(List Int)×(List Aa)×(List (Option (List Af)))×Bool)))) (H:BV n b x.1 x.2.1 x.2.2.1 x.2.2.2.1 x.2.2.2.2.1 x.2.2.2.2.2=some z):WP (cxk 113 5) (AX Try.f25) [1,1,1,1,1,1,0,0,0] (AS 5 (EB b) (HK b) z) (EB b x):=by
 obtain⟨Z,aa,a,r,O,P⟩:=x;refine sq<|sr<|ck 3<|en<|cn H (λ H=>?_)<|λ H=>?_
 ·refine sk<|qz<|bk 1<|sr<|ck 1<|en<|sq<|sr<|ck 3<|en<|bk 2<|bx H λ cd bb H=>?_;rcases cd with ce|cp
  ·exact lX Eh bb (tr (Au.nilo 7 1 (by kernel_rfl))<|gP [0,6,7,44,45,46] [0,1,2,3,4,6,9,5,7,8]<|po1<|po1<|po1<|po1<|po1<|Pl.m false (.d<|.sl []) (IE (encK:=eU8) (enc:=Aq) (m:=r) λ _=>rfl)<|po1<|po1<|po1<|po1<|Pl.z) rfl λ s bz=>qH<|qs (bz)<|rz<|ck 2<|ae<|qN (by cases H;exact og<|gP [0,5,6] [0,1,2,3,4,6,5,7,8]<|po1<|po1<|po1<|po1<|po1<|po1<|Pl.m false (.d<|.sl []) (IE (encK:=eU8) (enc:=Aq) (m:=ce.2.2.1) λ _=>rfl)<|po1<|po1<|Pl.z)
  ·exact lL Eh bb (tr (Au.nilo 7 1 (by kernel_rfl))<|gP [0,6,7,44,45,46] [0,1,2,3,4,6,9,5,7,8]<|po1<|po1<|po1<|po1<|po1<|Pl.m false (.d<|.sl []) (IE (encK:=eU8) (enc:=Aq) (m:=r) λ _=>rfl)<|po1<|po1<|po1<|po1<|Pl.z) rfl λ s b0=>qR<|qr<|qR (by cases H;exact lo rfl b0)
 ·exact ex 0<|qx (by cases H;exact xo rfl<|sg [])
theorem IQ {z} (H:CW n b B U C V=some z):CH Try.prog 25 [.ptr 0 0] [some (.box [.dptr (Aw b) 0,.osl 1 2 0 (B.length),.mp 2,.osl 3 1 0 (C.length),.mp 4]),some (.arr 2 (B.map Al)),some (.map true false (AC Al AK U)),some (.arr 1 (C.map (eOp Ay))),some (.map true true (AC AT A0 V))] 5 (.tup [.osl 5 1 0 (z.2.2.1.length),.d (.bool z.2.2.2.2.2)]) [some (.box [.dptr (Aw b) 0,.osl 6 2 0 (z.2.2.2.1.length),.mp 2,.osl 7 1 0 (z.2.2.2.2.1.length),.mp 4]),none,some (.map true false (AC Al AK z.1)),none,some (.map true true (AC AT A0 z.2.1)),some (.arr 1 (z.2.2.1.map eU8)),some (.arr 2 (z.2.2.2.1.map Al)),some (.arr 1 (z.2.2.2.2.1.map (eOp Ay)))]:=by
 refine fL 113 5 (Jam b B U C V) Try.func25<|sr<|ck 2<|en<|sq<|sr<|ck 8<|en<|cn H (λ H=>?_)<|λ H=>?_
 ·exact sr<|ck 2<|en<|re<|qr (by cases H;exact pL<|rl (s':=PB b U V ([]:List Int) B C false)<|tr (tr (tr (Au.nilo 2 1 (by kernel_rfl))<|GB (k:=1) (sz:=2) 0 1 (B.map Al) (B.length) (by kernel_rfl) CY leM rfl)<|GB (k:=3) (sz:=1) 0 3 (C.map<|eOp Ay) (C.length) (by kernel_rfl) CY leM rfl)<|sg [2,3])
 ·refine sk<|qz<|sr<|ck 2<|bx H λ cq b1 H=>lt [0,1,2,3,4] (DP b1)<|ck 2<|bx H λ cr b2 H=>lt [0,5,2,6,4] (DP b2)<|ck 4<|en<|sr<|ck 2<|bx H λ cs b3 H=>lt [0,7,2,8,4] (Gi b3)<|en<|sr<|ck 1<|sF<|ck 1<|xbd (xok _ _)<|ck 2<|en<|sr<|ck 2<|en<|sq<|bk 0<|bx H λ cf bc H=>?_;rcases cf with av|ct
  ·exact lX Ei bc (tr (tr (Jc7 (ka:=false) (va:=false) 11)<|V8 (ka:=false) (dv:=.d<|.sl []) (encK:=eU8) (isz:=4) (enc:=Aq) 11 ([]:(List<|Int×(List Ah))))<|gP [0,5,6] [0,1,2,3,4,10,11,7,8]<|po1<|po1<|po1<|po1<|po1<|po1<|Pl.m false (.d<|.sl []) (IE (encK:=eU8) (enc:=Aq) (m:=([]:(List<|Int×(List Ah)))) λ _=>rfl)<|po1<|po1<|Pl.z) rfl λ s b4=>qH<|qs (b4)<|sr<|ck 2<|en<|re (by cases H;exact pL<|rl (s':=PB b av.1 av.2.1 ([]:List Int) av.2.2.1 av.2.2.2 false)<|tr (Au.nilo 2 1 (by kernel_rfl))<|sg [2,3])
  ·exact lL Ei bc (tr (tr (Jc7 (ka:=false) (va:=false) 11)<|V8 (ka:=false) (dv:=.d<|.sl []) (encK:=eU8) (isz:=4) (enc:=Aq) 11 ([]:(List<|Int×(List Ah))))<|gP [0,5,6] [0,1,2,3,4,10,11,7,8]<|po1<|po1<|po1<|po1<|po1<|po1<|Pl.m false (.d<|.sl []) (IE (encK:=eU8) (enc:=Aq) (m:=([]:(List<|Int×(List Ah)))) λ _=>rfl)<|po1<|po1<|Pl.z) rfl λ s b5=>qR<|qr (by cases H;exact pL b5)
end
section
variable (a:Ab)
def JfH:St:=⟨(0,.agg [.d<|.int .i64 a.Modes,.d<|.int .u8 a.Accept,.d<|.sl<|a.Rules.map Ax])::[],[]⟩
variable {a}
theorem CQ {z} (H:Bi n a=some z):AQ Try.prog 10 [.agg (Bf a)] (.tup [.agg [.d (.sl (z.1.Cells.map eU8)),.d (.str z.1.A),.d (.str z.1.B)],.d (.int .i64 z.2)]):=by
 refine fO 38 (JfH a) Try.func10<|sr<|ck 3<|en<|sq<|sr<|ck 1<|bx H λ o c H=>ca false (Mr c)<|ck 1<|en<|cn H (λ H=>?_)<|λ H=>?_
 ·exact sr<|ck 3<|en<|re<|qr (by cases H;exact pr<|rT (vs:=[.agg [.d<|.nil,.d<|.str [],.d<|.str []],.d<|.int .i64 20]) []<|t1 (a1<|c1 vn<|c1 vd<|c1 vd<|c0)<|t1 (ad vd)<|t0)
 ·refine sk<|qz<|sr<|ck 1<|bx H λ b e H=>lt [] (Je e)<|tb (f:=Gt<|DG [] 2 0) [some<|.box<|Bf a,some<|.box [.d<|.nil,.d<|.str [],.d<|.str []],some<|.box<|Dk b (.osl 3 1 0<|b.Arcs.length)<|.osl 4 1 0<|b.Accepts.length,some<|.narr 1<|b.Arcs.map<|nL 3 Bd,some<|.arr 1<|b.Accepts.map eB] (po1<|po1<|po1<|pn1 (nL 3 Bd) b.Arcs<|po1<|Pl.z)<|ck 1<|en<|sq<|rg (tr (tr (TJ (encN:=(nL 3 Bd)) (encD:=(eL Bd)) (xss:=b.Arcs) (sz:=1) 2 0 3 (by kernel_rfl) (by kernel_rfl) (λ _=>rfl)<|λ _=>rfl)<|fzc (enc:=eB) (xs:=b.Accepts) 2 1 4 1)<|Of [4] 2 (by kernel_rfl))<|ck 1<|bx H λ p g H=>lt [] (M8 g)<|bx H λ l h H=>lt [5,6,7,8,9] (IQ h)<|ck 5<|en<|sq<|sr<|ck 2<|en<|cn H (λ H=>?_)<|λ H=>?_
  ·exact sr<|ck 3<|en<|re<|qr (by cases H;exact pr<|rT (vs:=[.agg [.d<|.nil,.d<|.str [],.d<|.str []],.d<|.int .i64 0]) []<|t1 (a1<|c1 vn<|c1 vd<|c1 vd<|c0)<|t1 (ad vd)<|t0)
  ·refine sk<|qz<|sq<|rg (fz (enc:=eU8) (xs:=l.2.2.1) 5 10 1)<|ck 2<|bx H λ m i H=>ca false (LH i)<|ck 1<|en<|sq<|sr<|ck 1<|sp (AR eS m)<|ck 1<|en<|cn H (λ H=>?_)<|λ H=>?_
   ·exact sr<|ck 3<|en<|re<|qr (by cases H;exact pr<|rT (vs:=[.agg [.d<|.nil,.d<|.str [],.d<|.str []],.d<|.int .i64 0]) []<|t1 (a1<|c1 vn<|c1 vd<|c1 vd<|c0)<|t1 (ad vd)<|t0)
   ·exact sk<|qz<|sr<|ck 2<|bx H λ q j H=>sp (AH eS j)<|ck 2<|bx H λ r k H=>sp (AH eS k)<|ck 4<|en<|re (by cases H;exact pr rdT)
end
section
variable (a:(List Int)) (b:(List Int)) (e:Int)
def JfI:St:=⟨(0,.d<|.sl<|a.map eU8)::(1,.d<|.sl<|b.map eU8)::[],[]⟩
def JfJ:St:=⟨(0,.d<|.sl<|a.map eU8)::(1,.d<|.sl<|b.map eU8)::(5,.d<|.int .i64 e)::[],[]⟩
def JfK:St:=⟨[],[]⟩
def LM:(Unit⊕Bool)->Ex->St->Prop:=xS (xX 0 0<|λ (_:Unit)=>JfK)<|xR ty Try.f17<|λ (y:Bool)=>.d<|.bool y
def Ha:Int->St:=(λ (x:Int)=>JfJ a b x)
variable {a b e}
theorem Gx (x:Int) (z:(Int⊕(Unit⊕Bool))) (H:Eb n a b x=some z):WP (cxk 26 0) (AX Try.f17) [1,1,0,1,0,0] (AS 0 (Ha a b) (LM) z) (Ha a b x):=by
 revert H;generalize x=e;intro H;refine sq<|sr<|ck 2<|sp (AR eU8 a)<|ck 1<|en<|cn H (λ H=>?_)<|λ H=>?_
 ·refine sk<|qz<|sq<|bk 1<|sr<|ck 2<|bx H λ k f H=>sp (AH eU8 f)<|ck 3<|bx H λ l g H=>sp (AH eU8 g)<|ck 2<|en<|cn H (λ H=>?_)<|λ H=>?_
  ·exact sr<|ck 1<|en<|re<|qR<|qr (by cases H;exact ro rfl rd)
  ·exact sk<|qN<|qz<|rz<|ck 3<|ae (by cases H;exact og<|sg [0,1,5])
 ·exact ex 0<|qx (by cases H;exact xo rfl<|sg [])
theorem Ib {z} (H:Eu n a b=some z):AQ Try.prog 17 [.d (.sl (a.map eU8)),.d (.sl (b.map eU8))] (.d (.bool z)):=by
 refine fO 26 (JfI a b) Try.func17<|sr<|ck 1<|en<|sq<|sr<|ck 1<|sp (AR eU8 a)<|ck 1<|sp (AR eU8 b)<|ck 1<|en<|cn H (λ H=>?_)<|λ H=>?_
 ·exact sr<|ck 1<|en<|re<|qr (by cases H;exact pr rd)
 ·refine sk<|qz<|sq<|sr<|ck 1<|en<|bk 0<|bx H λ j c H=>?_;rcases j with m|o
  ·exact lX Gx c (sg [0,1,5]) rfl λ s h=>qH<|qs (h)<|sr<|ck 1<|en<|re (by cases H;exact pr rd)
  ·exact lR Gx c (sg [0,1,5]) rfl λ s i=>qR<|qr (by cases H;exact pr i)
end
section
variable (a:Ce) (b:Ce)
def JfL:St:=⟨(0,.agg [.d<|.sl<|a.Cells.map eU8,.d<|.str a.A,.d<|.str a.B])::(1,.agg [.d<|.sl<|b.Cells.map eU8,.d<|.str b.A,.d<|.str b.B])::[],[]⟩
variable {a b}
theorem Kd {z} (H:H2 n a b=some z):AQ Try.prog 12 [.agg (Sd a),.agg (Sd b)] (.d (.bool z)):=by
 exact fO 24 (JfL a b) Try.func12<|sr<|ck 3<|en<|sr<|ck 7<|gc 1 (a.A==b.A)<|ck 1<|gc 2 (a.A==b.A)<|pA<|ck 2<|gc 1 ((a.A==b.A)&&(a.B==b.B))<|ck 1<|gc 1 ((a.A==b.A)&&(a.B==b.B))<|bx H λ e c H=>cG false (leZ) rfl (λ hg=>Ib<|Dc c hg) (Or.inl rfl) (CG (λ hh=>hh)<|CG (λ hh=>hh)<|Ep) rfl<|pA<|ck 1<|en<|re (by cases H;exact pr rd)
end
section
variable (a:(List UInt8)) (b:(List UInt8))
def JfM:St:=⟨(0,.d<|.str a)::(1,.d<|.str b)::[],[]⟩
variable {a b}
theorem M9 {z} (H:La n a b=some z):AQ Try.prog 71 [.d (.str a),.d (.str b)] (.d (.bool z)):=by
 exact fO 18 (JfM a b) Try.func71<|sr<|ck 1<|en<|sr<|ck 8<|gc 1 (decide<|((a.length:Nat):Int)>=((b.length:Nat):Int))<|bx H λ e c H=>sE (λ hg=>Kz<|Dc c hg)<|ck 1<|gc 1 (decide<|((a.length:Nat):Int)>=((b.length:Nat):Int))<|pA<|ck 1<|en<|re (by cases H;exact pr rd)
end
section
variable (a:(List UInt8)) (b:(List UInt8))
def JfN:St:=⟨(0,.d<|.str a)::(1,.d<|.str b)::[],[]⟩
variable {a b}
theorem Na {z} (H:Lc n a b=some z):AQ Try.prog 56 [.d (.str a),.d (.str b)] (.d (.bool z)):=by
 exact fO 8 (JfN a b) Try.func56<|sr<|ck 1<|en<|sr<|ck 2<|bx H λ e c H=>ca true (M9 c)<|ck 1<|en<|re (by cases H;exact pr rd)
end
end Go.AI
end
section
namespace Go.AI
open Go.Proofs
set_option maxRecDepth 10000
variable {n:Nat}
section
variable (g:Ap) (c:(List Int)) (f:(List UInt8)) (q:(List (AN×Bool))) (p:(List AN)) (b:AN) (o:(List E1)) (e:(List (AN×Bool))) (h:(List AN)) (u:Int) (w:(List (AN×Bool))) (r:(List AN)) (t:(List (AN×Bool))) (j:(List AN))
def JfO:St:=⟨(0,.dptr (Aw g) 0)::(1,.d<|.sl<|c.map eU8)::(2,.d<|.str f)::[],[]⟩
def JfP:St:=⟨(0,.dptr (Aw g) 0)::(1,.d<|.sl<|c.map eU8)::(2,.d<|.str f)::(7,.mp 0)::(8,.osl 1 3 0<|p.length)::[],[some<|.map true false<|AC CE eB q,some<|.arr 3<|p.map CE]⟩
def JfQ:St:=⟨[],[]⟩
def JfR:St:=⟨(0,.dptr (Aw g) 0)::(1,.d<|.sl<|c.map eU8)::(2,.d<|.str f)::(7,.mp 0)::(8,.osl 1 3 0<|h.length)::(9,.ptr 2 0)::(61,.d<|.sl<|o.map Bd)::(62,.d<|.int .i64 ((o.length:Nat):Int))::(63,.d<|.int .i64 u)::[],[some<|.map true false<|AC CE eB e,some<|.arr 3<|h.map CE,some<|.box<|ZI b]⟩
def JfS:St:=⟨(0,.dptr (Aw g) 0)::(1,.d<|.sl<|c.map eU8)::(2,.d<|.str f)::(7,.mp 0)::(8,.osl 1 3 0<|r.length)::[],[some<|.map true false<|AC CE eB w,some<|.arr 3<|r.map CE]⟩
def JfT:St:=⟨(0,.dptr (Aw g) 0)::(1,.d<|.sl<|c.map eU8)::(2,.d<|.str f)::(7,.mp 0)::(8,.osl 1 3 0<|j.length)::(9,.ptr 2 0)::(61,.d<|.sl<|o.map Bd)::(62,.d<|.int .i64 ((o.length:Nat):Int))::(63,.d<|.int .i64 u)::[],[some<|.map true false<|AC CE eB t,some<|.arr 3<|j.map CE,some<|.box<|ZI b]⟩
def Jx:((List<|AN×Bool)×(List AN))->Ex->St->Prop:=xX 0 2<|λ (y:((List<|AN×Bool)×(List AN)))=>JfS g c f y.1 y.2
def Ft:((List<|AN×Bool)×(List AN)×Int)->St:=(λ (x:((List<|AN×Bool)×(List AN)×Int))=>JfR g c f b o x.1 x.2.1 x.2.2)
def Jy:(Unit⊕Bool)->Ex->St->Prop:=xS (xX 0 0<|λ (_:Unit)=>JfQ)<|xR ty Try.f33<|λ (y:Bool)=>.d<|.bool y
def Fu:((List<|AN×Bool)×(List AN))->St:=(λ (x:((List<|AN×Bool)×(List AN)))=>JfP g c f x.1 x.2)
variable {g c f q p b o e h u w r t j}
theorem IR (x:((List (AN×Bool))×(List AN)×Int)) (z:(((List (AN×Bool))×(List AN)×Int)⊕((List (AN×Bool))×(List AN)))) (H:Gu n g c f b o x.1 x.2.1 x.2.2=some z):WP (cxk 111 0) (AX Try.f33) [1,1,1,0,0,0,1,0,1,1,1,1,0,0] (AS 0 (Ft g c f b o) (Jx g c f) z) (Ft g c f b o x):=by
 obtain⟨e,h,u⟩:=x;refine sr<|ck 1<|en<|sq<|cn H (λ H=>?_)<|λ H=>?_
 ·refine sk<|qz<|sj (λ (x:((List<|AN×Bool)×(List AN)))=>JfT g c f b o u x.1 x.2) (λ (x:((List<|AN×Bool)×(List AN)))=>CX n u x.1 x.2) z ?_ (λ a=>?_)
  ·rintro⟨t,j⟩ H;exact rz<|ck 2<|ae (by cases H;exact og<|sg [0,1,2,7,8,9,61,62,63])
  refine bk 3<|sr<|bx H λ i G H=>sp (AH Bd G)<|ck 3<|en<|sq<|sr<|ck 3<|bx H λ X I H=>sp (R8 eU8 1 I)<|ck 2<|bx H λ E J H=>ca false (Lh J)<|ck 4<|gc 1 (!(!E))<|bx H λ s9 K H=>sE (λ hg=>Kz<|Dc K hg)<|ck 1<|gc 1 (!(!E))<|bx H λ Y L H=>cG false (leZ) rfl (λ hg=>Na<|Dc L hg) (Or.inl rfl) (CG (λ hh=>hh)<|CG (λ hh=>hh)<|Ep) rfl<|gc 1 (!(!E))<|pO<|en<|cn H (λ H=>?_)<|λ H=>?_
  ·exact ex 3<|qx<|qH<|qs (sg [0,1,2,7,8,9,61,62,63])<|a (e,h) H
  ·refine sk<|qz<|sr<|ck 4<|sp (AR eU8 i.Cells)<|ck 12<|en<|sr<|ck 2<|sp (JP (enc:=eB) (encK:=CE) (k:=0) (e1:=λ x=>.bool x) (m:=e) (l:=[.d<|.int .i64<|A9 .i64 b.Cell ((i.Cells.length:Nat):Int),.d<|.int .i64<|A9 .i64 b.Byte ((i.Print.length:Nat):Int),.d<|.int .i64 i.To]) (key:=({ Cell:=A9 .i64 b.Cell ((i.Cells.length:Nat):Int),Byte:=A9 .i64 b.Byte ((i.Print.length:Nat):Int),State:=i.To }:AN)) (z:=false) (vz:=[.bool false]) Vk false)<|ck 1<|en<|cn H (λ H=>?_)<|λ H=>?_
   ·exact sr<|ck 2<|sp (KA (enc:=eB) (encK:=CE) (k:=0) (e1:=λ x=>.bool x) (m:=e) (l:=[.d<|.int .i64<|A9 .i64 b.Cell ((i.Cells.length:Nat):Int),.d<|.int .i64<|A9 .i64 b.Byte ((i.Print.length:Nat):Int),.d<|.int .i64 i.To]) (key:=({ Cell:=A9 .i64 b.Cell ((i.Cells.length:Nat):Int),Byte:=A9 .i64 b.Byte ((i.Print.length:Nat):Int),State:=i.To }:AN)) (y:=true) (v:=.d<|.bool true) (vz:=[.bool false]) Vk)<|en<|rz<|ck 3<|bx H λ V M H=>sp (Bp CE 1 3 M)<|ck 1<|ae<|qN<|qs (sg [0,1,2,7,8,9,61,62,63])<|a ((DY ({ Cell:=A9 .i64 b.Cell ((i.Cells.length:Nat):Int),Byte:=A9 .i64 b.Byte ((i.Print.length:Nat):Int),State:=i.To }:AN) true e),V) H
   ·exact sk<|qN<|qs (sg [0,1,2,7,8,9,61,62,63])<|a (e,h) H
 ·exact ex 2<|qx (by cases H;exact xo rfl<|sg [0,1,2,7,8])
theorem Fn (x:((List (AN×Bool))×(List AN))) (z:(((List (AN×Bool))×(List AN))⊕(Unit⊕Bool))) (H:Gv n g c f x.1 x.2=some z):WP (cxk 111 0) (AX Try.f33) [1,1,1,0,0,0] (AS 0 (Fu g c f) (Jy) z) (Fu g c f x):=by
 obtain⟨q,p⟩:=x;refine sq<|sr<|ck 3<|en<|cn H (λ H=>?_)<|λ H=>?_
 ·refine sk<|qz<|bk 1<|sr<|ck 4<|bx H λ b B H=>sp (Bj 1 3 B)<|sp (CZ CE 1 0 (ty 138) B)<|ck 2<|en<|sr<|ck 4<|bx H λ O A H=>sp (Va 1 3 A)<|ck 1<|en<|sq<|sq<|rg (YV (k:=1) (sz:=3) 8 (O.map CE) (O.length) (by kernel_rfl) (R2 A) (U6 (enc:=CE) A)<|R3 A)<|ck 3<|sp (AR eU8 c)<|ck 3<|gc 1 (b.Cell==((c.length:Nat):Int))<|ck 1<|gc 2 (b.Cell==((c.length:Nat):Int))<|pA<|ck 2<|gc 3 ((b.Cell==((c.length:Nat):Int))&&(b.Byte==((f.length:Nat):Int)))<|ck 1<|gc 1 ((b.Cell==((c.length:Nat):Int))&&(b.Byte==((f.length:Nat):Int)))<|bx H λ Z P H=>sE (λ hg=>AH eB<|Dc P hg)<|gc 1 ((b.Cell==((c.length:Nat):Int))&&(b.Byte==((f.length:Nat):Int)))<|pA<|en<|cn H (λ H=>?_)<|λ H=>?_
  ·exact sr<|ck 1<|en<|re<|qr<|qR (by cases H;exact ro rfl rd)
  ·exact sk<|qz<|sr<|ck 6<|bx H λ o Q H=>sp (AH (eL Bd) Q)<|ck 1<|sp (AR Bd o)<|ck 1<|en<|bk 2<|bx H λ aa R H=>lX IR R (sg [0,1,2,7,8,9,61,62,63]) rfl λ s S=>qH<|qN (by cases H;exact og<|tr (S)<|sg [0,1,2,7,8])
 ·exact ex 0<|qx (by cases H;exact xo rfl<|sg [])
theorem Gy {z} (H:FG n g c f=some z):AQ Try.prog 33 [.dptr (Aw g) 0,.d (.sl (c.map eU8)),.d (.str f)] (.d (.bool z)):=by
 refine fO 111 (JfO g c f) Try.func33<|sr<|ck 1<|en<|sr<|ck 2<|sp (KA (enc:=eB) (encK:=CE) (k:=0) (e1:=λ x=>.bool x) (m:=[]) (l:=[.d<|.int .i64 0,.d<|.int .i64 0,.d<|.int .i64 0]) (key:=({ Cell:=0,Byte:=0,State:=0 }:AN)) (y:=true) (v:=.d<|.bool true) (vz:=[.bool false]) Vk)<|ck 2<|en<|sr<|ck 3<|en<|sq<|bk 0<|bx H λ W C H=>?_;rcases W with ab|ac
 ·exact lX Fn C (sg [0,1,2,7,8]) rfl λ s T=>qH<|qs (T)<|sr<|ck 1<|en<|re (by cases H;exact pr rd)
 ·exact lR Fn C (sg [0,1,2,7,8]) rfl λ s U=>qR<|qr (by cases H;exact pr U)
end
section
variable (a:Ab) (b:Ce)
def JfU:St:=⟨(0,.agg [.d<|.int .i64 a.Modes,.d<|.int .u8 a.Accept,.d<|.sl<|a.Rules.map Ax])::(1,.agg [.d<|.sl<|b.Cells.map eU8,.d<|.str b.A,.d<|.str b.B])::[],[]⟩
variable {a b}
theorem HL {z} (H:FH n a b=some z):AQ Try.prog 20 [.agg (Bf a),.agg (Sd b)] (.d (.bool z)):=by
 refine fO 32 (JfU a b) Try.func20<|sr<|ck 3<|en<|sq<|sr<|ck 1<|bx H λ e g H=>ca false (Mr g)<|ck 3<|gc 1 (!(!e))<|ck 1<|gc 2 (!(!e))<|pO<|en<|cn H (λ H=>?_)<|λ H=>?_
 ·exact sr<|ck 1<|en<|re<|qr (by cases H;exact pr rd)
 ·exact sk<|qz<|sr<|ck 1<|bx H λ c h H=>lt [] (Je h)<|tb (f:=Gt<|DG [] 2 0) [some<|.box<|Bf a,some<|.box<|Sd b,some<|.box<|Dk c (.osl 3 1 0<|c.Arcs.length)<|.osl 4 1 0<|c.Accepts.length,some<|.narr 1<|c.Arcs.map<|nL 3 Bd,some<|.arr 1<|c.Accepts.map eB] (po1<|po1<|po1<|pn1 (nL 3 Bd) c.Arcs<|po1<|Pl.z)<|ck 1<|en<|sq<|rg (tr (tr (TJ (encN:=(nL 3 Bd)) (encD:=(eL Bd)) (xss:=c.Arcs) (sz:=1) 2 0 3 (by kernel_rfl) (by kernel_rfl) (λ _=>rfl)<|λ _=>rfl)<|fzc (enc:=eB) (xs:=c.Accepts) 2 1 4 1)<|Of [5] 2 (by kernel_rfl))<|ck 5<|bx H λ i j H=>ca false (Gy j)<|ck 3<|gc 1 i<|ck 1<|gc 1 i<|bx H λ l k H=>cG false (leZ) rfl (λ hg=>Gy<|Dc k hg) (Or.inl rfl) (CG (λ hh=>hh)<|CG (λ hh=>hh)<|CG (λ hh=>hh)<|Ep) rfl<|pA<|ck 1<|en<|re (by cases H;exact pr rd)
end
section
variable (b:(List UInt8)) (c:(List Int)) (a:(D7 Int))
def JfV:St:=⟨(0,.d<|.str b)::(1,.d<|.sl<|c.map eU8)::(2,.agg [.d<|.int .i64 a.a0,.d<|.int .i64 a.a1])::[],[]⟩
variable {b c a}
theorem AU {z} (H:A6 n b c a=some z):AQ Try.prog 36 [.d (.str b),.d (.sl (c.map eU8)),.agg [.d (.int .i64 a.a0),.d (.int .i64 a.a1)]] (.agg [.d (.str z.Print),.d (.sl (z.Cells.map eU8)),.d (.int .u8 z.Left),.d (.int .u8 z.Right),.d (.int .i64 z.From),.d (.int .i64 z.To)]):=by
 exact fO 14 (JfV b c a) Try.func36<|sr<|ck 2<|en<|sr<|ck 8<|en<|re (by cases H;exact pr rd)
end
def JfW:St:=⟨[],[]⟩
theorem PC {z} (H:NI n=some z):AQ Try.prog 34 [] (.own 6 (z.map Ax)):=by
 exact fO 16 JfW Try.func34<|sr<|ck 1<|en<|sr<|ck 3<|en<|sr<|sF<|ck 1<|bx H λ e a H=>ca false (AU a)<|sF<|ck 1<|bx H λ f b H=>ca false (AU b)<|sF<|ck 1<|bx H λ g c H=>ca false (AU c)<|sF<|ck 1<|bx H λ h d H=>ca false (AU d)<|ck 2<|en<|re (by cases H;exact pr<|rO (v:=.osl 1 6 0<|List.length [e,f,g,h]) [1]<|ao vo)
section
variable (b:Int) (c:Int) (a:(D7 Int))
def JfX:St:=⟨(0,.d<|.int .u8 b)::(1,.d<|.int .i64 c)::(2,.agg [.d<|.int .i64 a.a0,.d<|.int .i64 a.a1])::[],[]⟩
variable {b c a}
theorem FI {z} (H:FO n b c a=some z):AQ Try.prog 35 [.d (.int .u8 b),.d (.int .i64 c),.agg [.d (.int .i64 a.a0),.d (.int .i64 a.a1)]] (.agg [.d (.str z.Print),.d (.sl (z.Cells.map eU8)),.d (.int .u8 z.Left),.d (.int .u8 z.Right),.d (.int .i64 z.From),.d (.int .i64 z.To)]):=by
 exact fO 16 (JfX b c a) Try.func35<|sr<|ck 2<|en<|sr<|ck 1<|sF<|ck 1<|bx H λ g e H=>ca false (AU e)<|ck 2<|en<|sr<|ck 1<|bx H λ h f H=>so (G1 f)<|ck 2<|en<|sr<|ck 2<|en<|re (by cases H;exact pr rd)
end
section
variable (b:Int) (c:(List As))
def JfY:St:=⟨(0,.d<|.int .u8 b)::[],[]⟩
def JfZ:St:=⟨(2,.ptr 0 0)::(3,.osl 1 6 0<|c.length)::[],[some<|.box [.d<|.int .i64 0,.d<|.int .u8 0,.osl 2 6 0<|List.length ([]:List As)],some<|.arr 6<|c.map Ax,some<|.arr 6<|List.map Ax ([]:List As)]⟩
variable {b c}
theorem Ke {z} (H:F5 n b=some z):AQ Try.prog 21 [.d (.int .u8 b)] (.agg [.d (.int .i64 z.Modes),.d (.int .u8 z.Accept),.own 6 (z.Rules.map Ax)]):=by
 refine fO 121 (JfY b) Try.func21<|sr<|ck 1<|en<|sr<|bx H λ e f H=>cl [List.length e] (PC f)<|ck 13<|en<|sj (λ (x:(List As))=>JfZ x) (λ (x:(List As))=>EU n x) z ?_ (λ a=>?_)
 ·intro c H;exact sr<|ck 3<|en<|re (by cases H;exact pr<|rO (v:=.agg [.d<|.int .i64 1,.d<|.int .u8 1,.osl 1 6 0<|c.length]) [1]<|a1<|c1 vd<|c1 vd<|c1 vo<|c0)
 refine sr<|ck 2<|en<|bk 0<|sr<|ck 2<|en<|cn H (λ H=>?_)<|λ H=>?_
 ·exact sr<|ck 2<|bx H λ W g H=>ca false (FI g)<|sF<|ck 1<|bx H λ X h H=>ca false (AU h)<|sF<|ck 1<|bx H λ Y i H=>ca false (AU i)<|sF<|ck 1<|bx H λ Z j H=>ca false (AU j)<|ck 1<|bx H λ P k H=>sp (Bp Ax 1 6 k)<|ck 1<|en<|sr<|ck 3<|en<|re<|qR<|qr (by cases H;exact pr<|rO (v:=.agg [.d<|.int .i64 2,.d<|.int .u8 3,.osl 7 6 0<|P.length]) [7]<|a1<|c1 vd<|c1 vd<|c1 vo<|c0)
 ·refine sr<|ck 2<|en<|cn H (λ H=>?_)<|λ H=>?_
  ·exact sr<|ck 2<|bx H λ aa l H=>ca false (FI l)<|sF<|ck 1<|bx H λ ab m H=>ca false (AU m)<|sF<|ck 1<|bx H λ ac o H=>ca false (AU o)<|ck 1<|bx H λ Q p H=>sp (Bp Ax 1 6 p)<|ck 1<|en<|sr<|ck 3<|en<|re<|qR<|qr (by cases H;exact pr<|rO (v:=.agg [.d<|.int .i64 2,.d<|.int .u8 1,.osl 7 6 0<|Q.length]) [7]<|a1<|c1 vd<|c1 vd<|c1 vo<|c0)
  ·refine sr<|ck 2<|en<|cn H (λ H=>?_)<|λ H=>?_
   ·exact rz<|ck 1<|sF<|ck 1<|bx H λ af q H=>ca false (AU q)<|sF<|ck 1<|bx H λ ag r H=>ca false (AU r)<|sF<|ck 1<|bx H λ ah s H=>ca false (AU s)<|ck 1<|bx H λ R t H=>sp (Bp Ax 1 6 t)<|ck 1<|ae<|qN<|qs (tr (DL 0 2 6 (by kernel_rfl))<|sg [2,3])<|a R H
   ·refine sr<|ck 2<|en<|cn H (λ H=>?_)<|λ H=>?_
    ·exact rz<|ck 1<|sF<|ck 1<|bx H λ ai u H=>ca false (AU u)<|ck 1<|bx H λ S w H=>sp (Bp Ax 1 6 w)<|ck 1<|ae<|qN<|qs (tr (DL 0 2 6 (by kernel_rfl))<|sg [2,3])<|a S H
    ·refine sr<|ck 2<|en<|cn H (λ H=>?_)<|λ H=>?_
     ·exact sr<|sF<|ck 1<|bx H λ aj y H=>ca false (AU y)<|sF<|ck 1<|bx H λ ak A H=>ca false (AU A)<|ck 4<|en<|sr<|ck 4<|en<|rz<|ck 3<|sF<|ck 1<|bx H λ al B H=>ca false (AU B)<|ck 1<|bx H λ T C H=>sp (Bp Ax 1 6 C)<|ck 1<|ae<|qN<|qs (tr (DL 0 2 6 (by kernel_rfl))<|sg [2,3])<|a T H
     ·refine sr<|ck 2<|en<|cn H (λ H=>?_)<|λ H=>?_
      ·exact sr<|ck 2<|bx H λ am E H=>ca false (FI E)<|sF<|ck 1<|bx H λ ap G H=>ca false (AU G)<|sF<|ck 1<|bx H λ ar I H=>ca false (AU I)<|ck 1<|bx H λ U J H=>sp (Bp Ax 1 6 J)<|ck 1<|en<|sr<|ck 3<|en<|re<|qR<|qr (by cases H;exact pr<|rO (v:=.agg [.d<|.int .i64 2,.d<|.int .u8 1,.osl 7 6 0<|U.length]) [7]<|a1<|c1 vd<|c1 vd<|c1 vo<|c0)
      ·refine sr<|ck 2<|en<|cn H (λ H=>?_)<|λ H=>?_
       ·exact rz<|ck 1<|sF<|ck 1<|bx H λ au K H=>ca false (AU K)<|sF<|ck 1<|bx H λ av L H=>ca false (AU L)<|sF<|ck 1<|bx H λ aw M H=>ca false (AU M)<|ck 1<|bx H λ V O H=>sp (Bp Ax 1 6 O)<|ck 1<|ae<|qN<|qs (tr (DL 0 2 6 (by kernel_rfl))<|sg [2,3])<|a V H
       ·exact sk<|qN<|qs (tr (DL 0 2 6 (by kernel_rfl))<|sg [2,3])<|a e H
end
section
variable (a:Ab)
def Jf0:St:=⟨(0,.agg [.d<|.int .i64 a.Modes,.d<|.int .u8 a.Accept,.d<|.sl<|a.Rules.map Ax])::[],[]⟩
variable {a}
theorem Jf {z} (H:IH n a=some z):AQ Try.prog 13 [.agg (Bf a)] (.d (.bool z)):=by
 exact fO 12 (Jf0 a) Try.func13<|sr<|ck 2<|en<|sr<|ck 1<|bx H λ c b H=>ca false (CQ b)<|ck 6<|en<|sr<|ck 3<|en<|re (by cases H;exact pr rd)
end
def Jh2:St:=⟨[],[]⟩
theorem Qn {z} (H:G6 n=some z):AQ Try.prog 8 [] (.d (.bool z)):=by
 exact fO 152 Jh2 Try.func8<|sr<|ck 1<|en<|sr<|ck 4<|en<|sr<|ck 2<|en<|sq<|rg (tr (fz (enc:=eU8) (xs:=[1]) 1 0 1)<|fz (enc:=eU8) (xs:=[3]) 2 1 1)<|sF<|ck 2<|sF<|bx H λ T m H=>ca false (EY m)<|bx H λ a o H=>ca false (CQ o)<|ck 6<|en<|sq<|rg (fz (enc:=eU8) (xs:=[1,3]) 3 2 1)<|sF<|ck 3<|sF<|bx H λ U p H=>ca false (EY p)<|bx H λ b q H=>ca false (CQ q)<|ck 6<|en<|sr<|sF<|ck 2<|sF<|bx H λ V r H=>ca false (EY r)<|bx H λ g s H=>ca false (CQ s)<|ck 6<|en<|sr<|sF<|ck 3<|sF<|bx H λ W t H=>ca false (EY t)<|bx H λ c u H=>ca false (CQ u)<|ck 6<|en<|sr<|sF<|ck 2<|sF<|ck 1<|sF<|bx H λ X v H=>ca false (EY v)<|bx H λ e w H=>ca false (CQ w)<|ck 6<|en<|sr<|ck 1<|bx H λ i x H=>ca false (CQ x)<|ck 6<|en<|sr<|ck 4<|gc 1 (a.2==0)<|pA<|ck 3<|gc 1 ((a.2==0)&&(b.2==50))<|bx H λ f y H=>cG false (leZ) rfl (λ hg=>Kd<|Dc y hg) (Or.inl rfl) (CG (λ hh=>hh)<|CG (λ hh=>hh)<|Ep) rfl<|pA<|ck 2<|gc 1 (((a.2==0)&&(b.2==50))&&f)<|pA<|ck 3<|gc 1 ((((a.2==0)&&(b.2==50))&&f)&&(g.2==50))<|bx H λ j A H=>cG false (leZ) rfl (λ hg=>Kd<|Dc A hg) (Or.inl rfl) (CG (λ hh=>hh)<|CG (λ hh=>hh)<|Ep) rfl<|pA<|ck 1<|en<|sr<|ck 4<|gc 1 (c.2==0)<|pA<|ck 3<|gc 1 ((c.2==0)&&(e.2==50))<|bx H λ h B H=>cG false (leZ) rfl (λ hg=>Kd<|Dc B hg) (Or.inl rfl) (CG (λ hh=>hh)<|CG (λ hh=>hh)<|Ep) rfl<|pA<|ck 2<|gc 1 (((c.2==0)&&(e.2==50))&&h)<|pA<|ck 1<|en<|sr<|sF<|ck 2<|sF<|bx H λ Y C H=>ca false (EY C)<|ck 2<|en<|sr<|ck 3<|pA<|ck 3<|gc 1 ((((((a.2==0)&&(b.2==50))&&f)&&(g.2==50))&&j)&&((((c.2==0)&&(e.2==50))&&h)&&(i.2==20)))<|bx H λ k E H=>cG (ks:=[10]) (obl:=[(0+List.length [1,1],List.length<|List.map eU8 [1,1])]) false (leK leM<|leZ) (Er rfl<|Er (JbX<|Er TI<|Er rfl<|Er rfl rfl) rfl) (λ hg=>HL<|Dc E hg) (Or.inr trivial) (CG (λ hh=>hh)<|CG (λ hh=>hh)<|Ep) rfl<|pA<|ck 3<|gc 1 (((((((a.2==0)&&(b.2==50))&&f)&&(g.2==50))&&j)&&((((c.2==0)&&(e.2==50))&&h)&&(i.2==20)))&&k)<|bx H λ l G H=>cG false (leZ) rfl (λ hg=>HL<|Dc G hg) (Or.inl rfl) (CG (λ hh=>hh)<|CG (λ hh=>hh)<|Ep) rfl<|gc 1 (((((((a.2==0)&&(b.2==50))&&f)&&(g.2==50))&&j)&&((((c.2==0)&&(e.2==50))&&h)&&(i.2==20)))&&k)<|pA<|ck 3<|gc 1 ((((((((a.2==0)&&(b.2==50))&&f)&&(g.2==50))&&j)&&((((c.2==0)&&(e.2==50))&&h)&&(i.2==20)))&&k)&&(!l))<|bx H λ I J H=>cG false (leZ) rfl (λ hg=>HL<|Dc J hg) (Or.inl rfl) (CG (λ hh=>hh)<|CG (λ hh=>hh)<|Ep) rfl<|gc 1 ((((((((a.2==0)&&(b.2==50))&&f)&&(g.2==50))&&j)&&((((c.2==0)&&(e.2==50))&&h)&&(i.2==20)))&&k)&&(!l))<|pA<|ck 1<|bx H λ Q K H=>cG false (leZ) rfl (λ hg=>Ke<|Dc K hg) (Or.inl rfl) (Ep) rfl<|bx H λ L M H=>cG false (leZ) rfl (λ hg=>Jf<|Dc M hg) (Or.inl rfl) (CG (λ hh=>hh)<|Ep) rfl<|pA<|ck 1<|bx H λ R O H=>cG false (leZ) rfl (λ hg=>Ke<|Dc O hg) (Or.inl rfl) (Ep) rfl<|bx H λ S P H=>cG false (leZ) rfl (λ hg=>Jf<|Dc P hg) (Or.inl rfl) (CG (λ hh=>hh)<|Ep) rfl<|gc 1 ((((((((((a.2==0)&&(b.2==50))&&f)&&(g.2==50))&&j)&&((((c.2==0)&&(e.2==50))&&h)&&(i.2==20)))&&k)&&(!l))&&(!I))&&L)<|pA<|ck 1<|en<|re (by cases H;exact pr rd)
section
variable (a:CO) (g:Int) (b:As) (h:Int) (e:As) (c:As) (i:Int) (f:As)
def Jf1:St:=⟨(0,.agg [.d<|.sl<|a.P.map eU8,.d<|.sl<|a.C.map eU8,.d<|.int .u8 a.L,.d<|.int .u8 a.R,.d<|.int .u8 a.W.a0,.d<|.int .u8 a.W.a1])::(1,.d<|.int .i64 g)::[],[]⟩
def Jf2:St:=⟨(2,.ptr 0 0)::(4,.ptr 1 0)::(5,.d<|.str [97,98,99,65,66,49,50,45,46])::(7,.ptr 2 0)::(8,.d<|.int .i64 h)::[],[some<|.box<|Mp a,some<|.box [.d<|.str [],.osl 3 1 0<|List.length ([]:List Int),.d<|.int .u8 0,.d<|.int .u8 0,.d<|.int .i64 0,.d<|.int .i64 0],some<|.box<|Og b<|.osl 4 1 0<|b.Cells.length,some<|.arr 1<|List.map eU8 ([]:List Int),some<|.arr 1<|b.Cells.map eU8]⟩
def Jf3:St:=⟨(2,.ptr 0 0)::(4,.ptr 1 0)::(7,.ptr 2 0)::[],[some<|.box<|Mp a,some<|.box [.d<|.str [],.osl 3 1 0<|List.length ([]:List Int),.d<|.int .u8 0,.d<|.int .u8 0,.d<|.int .i64 0,.d<|.int .i64 0],some<|.box<|Og e<|.osl 4 1 0<|e.Cells.length,some<|.arr 1<|List.map eU8 ([]:List Int),some<|.arr 1<|e.Cells.map eU8]⟩
def Qo:As->Ex->St->Prop:=xX 0 0<|λ (y:As)=>Jf3 a y
def Li:(As×Int)->St:=(λ (x:(As×Int))=>Jf2 a x.1 x.2)
def Jf4:St:=⟨(2,.ptr 0 0)::(4,.ptr 1 0)::(7,.ptr 2 0)::(10,.osl 3 1 0<|List.length [1,3,9,5,7,32,44,60])::(11,.d<|.int .i64 i)::[],[some<|.box<|Mp a,some<|.box [.d<|.str [],.osl 4 1 0<|List.length ([]:List Int),.d<|.int .u8 0,.d<|.int .u8 0,.d<|.int .i64 0,.d<|.int .i64 0],some<|.box<|Og c<|.osl 5 1 0<|c.Cells.length,some<|.arr 1<|List.map eU8 [1,3,9,5,7,32,44,60],some<|.arr 1<|List.map eU8 ([]:List Int),some<|.arr 1<|c.Cells.map eU8]⟩
def Jf5:St:=⟨(4,.ptr 0 0)::(7,.ptr 1 0)::[],[some<|.box [.d<|.str [],.osl 2 1 0<|List.length ([]:List Int),.d<|.int .u8 0,.d<|.int .u8 0,.d<|.int .i64 0,.d<|.int .i64 0],some<|.box<|Og f<|.osl 3 1 0<|f.Cells.length,some<|.arr 1<|List.map eU8 ([]:List Int),some<|.arr 1<|f.Cells.map eU8]⟩
def Qp:As->Ex->St->Prop:=xX 0 2<|λ (y:As)=>Jf5 y
def Lj:(As×Int)->St:=(λ (x:(As×Int))=>Jf4 a x.1 x.2)
variable {a g b h e c i f}
theorem PD (x:(As×Int)) (z:((As×Int)⊕As)) (H:EV n a x.1 x.2=some z):WP (cxk 101 0) (AX Try.f14) [1,1,1,0,1,0,0] (AS 0 (Li a) (Qo a) z) (Li a x):=by
 obtain⟨b,h⟩:=x;refine sq<|sr<|ck 3<|sp (AR eU8 a.P)<|ck 3<|gc 1 (decide<|h<((a.P.length:Nat):Int))<|pA<|en<|cn H (λ H=>?_)<|λ H=>?_
 ·exact sk<|qz<|sq<|bk 1<|sr<|ck 3<|bx H λ J o H=>sp (AH eU8 o)<|ck 4<|en<|rz<|ck 6<|bx H λ K p H=>sp (Kz p)<|bx H λ M q H=>sp (Pi q)<|ck 2<|ae<|qN<|qz<|rz<|ck 3<|ae (by cases H;exact og<|sg [2,4,5,7,8])
 ·exact ex 0<|qx (by cases H;exact xo rfl<|sg [2,4,7])
theorem PE (x:(As×Int)) (z:((As×Int)⊕As)) (H:C5 n a x.1 x.2=some z):WP (cxk 101 0) (AX Try.f14) [1,1,1,1,1,1,0,1,0,0] (AS 0 (Lj a) (Qp) z) (Lj a x):=by
 obtain⟨c,i⟩:=x;refine sq<|sr<|ck 3<|sp (AR eU8 a.C)<|ck 3<|gc 1 (decide<|i<((a.C.length:Nat):Int))<|pA<|en<|cn H (λ H=>?_)<|λ H=>?_
 ·exact sk<|qz<|sq<|bk 3<|rz<|ck 6<|bx H λ O r H=>sp (AH eU8 r)<|ck 2<|bx H λ Q j H=>sp (Bj 3 1 j)<|sp (CZ eU8 3 0 (ty 52) j)<|ck 1<|bx H λ S t H=>sp (Bp eU8 5 1 t)<|ck 2<|ae<|qN<|qz<|rz<|ck 3<|ae (by cases H;exact og<|sg [2,4,7,10,11])
 ·exact ex 2<|qx (by cases H;exact xo rfl<|sg [4,7])
theorem TW {z} (H:H3 n a g=some z):AQ Try.prog 14 [.agg (Mp a),.d (.int .i64 g)] (.agg [.d (.str z.Print),.own 1 (z.Cells.map eU8),.d (.int .u8 z.Left),.d (.int .u8 z.Right),.d (.int .i64 z.From),.d (.int .i64 z.To)]):=by
 exact fO 101 (Jf1 a g) Try.func14<|sr<|ck 2<|en<|sr<|ck 3<|en<|sr<|ck 4<|bx H λ T k H=>sp (Bj 2 1 k)<|sp (CZ eU8 2 0 (ty 5) k)<|ck 4<|bx H λ U l H=>sp (Bj 2 1 l)<|sp (CZ eU8 2 0 (ty 5) l)<|ck 5<|bx H λ V u H=>so (Pe u)<|ck 5<|bx H λ I w H=>so (Pe w)<|ck 3<|en<|sq<|sr<|ck 1<|en<|bk 0<|bx H λ X A H=>lX PD A (tr (tr (DL 1 1 1 (by kernel_rfl))<|DL 3 1 1 (by kernel_rfl))<|sg [2,4,5,7,8]) rfl λ s B=>qH<|qs (B)<|sr<|ck 2<|en<|sr<|ck 5<|bx H λ Y m H=>sp (Bj 5 1 m)<|sp (CZ eU8 5 0 (ty 52) m)<|ck 3<|en<|sq<|sr<|ck 1<|en<|bk 2<|bx H λ Z E H=>lX PE E (sg [2,4,7,10,11]) rfl λ s G=>qH<|qs (G)<|sr<|ck 2<|en<|re (by cases H;exact pr<|rO (v:=.agg [.d<|.str z.Print,.osl 3 1 0<|z.Cells.length,.d<|.int .u8 z.Left,.d<|.int .u8 z.Right,.d<|.int .i64 z.From,.d<|.int .i64 z.To]) [3]<|a1<|c1 vd<|c1 vo<|c1 vd<|c1 vd<|c1 vd<|c1 vd<|c0)
end
section
variable (a:Int)
def Jf6:St:=⟨(0,.d<|.int .u8 a)::[],[]⟩
variable {a}
theorem Nb {z} (H:HF n a=some z):AQ Try.prog 81 [.d (.int .u8 a)] (.d (.bool z)):=by
 exact fO 11 (Jf6 a) Try.func81<|sr<|ck 1<|en<|sr<|ck 5<|gc 2 (decide<|B0 .u8 a 127>=32)<|pA<|ck 1<|en<|re (by cases H;exact pr rd)
end
section
variable (a:(List UInt8)) (c:Int)
def Jf7:St:=⟨(0,.d<|.str a)::[],[]⟩
def Jf8:St:=⟨(0,.d<|.str a)::(4,.d<|.int .i64 c)::[],[]⟩
def Jf9:St:=⟨(0,.d<|.str a)::[],[]⟩
def Qq:(Unit⊕(Int×Int))->Ex->St->Prop:=xS (xX 0 0<|λ (_:Unit)=>Jf9 a)<|xR ty Try.f78<|λ (y:(Int×Int))=>.tup [.d<|.int .i64 y.1,.d<|.int .i64 y.2]
def Lk:Int->St:=(λ (x:Int)=>Jf8 a x)
variable {a c}
theorem Kf (x:Int) (z:(Int⊕(Unit⊕(Int×Int)))) (H:Hu n a x=some z):WP (cxk 19 0) (AX Try.f78) [1,0,1,0,0] (AS 0 (Lk a) (Qq a) z) (Lk a x):=by
 revert H;generalize x=c;intro H;refine sq<|sr<|ck 4<|en<|cn H (λ H=>?_)<|λ H=>?_
 ·refine sk<|qz<|sq<|bk 1<|sr<|ck 2<|bx H λ m e H=>sp (E9 e)<|bx H λ j f H=>ca false (Nb f)<|ck 1<|en<|cn H (λ H=>?_)<|λ H=>?_
  ·exact sr<|ck 3<|en<|re<|qR<|qr (by cases H;exact ro rfl rdT)
  ·exact sk<|qN<|qz<|rz<|ck 3<|ae (by cases H;exact og<|sg [0,4])
 ·exact ex 0<|qx (by cases H;exact xo rfl<|sg [0])
theorem TX {z} (H:Mn n a=some z):AQ Try.prog 78 [.d (.str a)] (.tup [.d (.int .i64 z.1),.d (.int .i64 z.2)]):=by
 refine fO 19 (Jf7 a) Try.func78<|sr<|ck 2<|en<|sq<|sr<|ck 1<|en<|bk 0<|bx H λ i b H=>?_;rcases i with k|l
 ·exact lX Kf b (sg [0,4]) rfl λ s g=>qH<|qs (g)<|sr<|ck 4<|en<|re (by cases H;exact pr rdT)
 ·exact lR Kf b (sg [0,4]) rfl λ s h=>qR<|qr (by cases H;exact pr h)
end
section
variable (a:(List UInt8))
def Jga:St:=⟨(0,.d<|.str a)::[],[]⟩
variable {a}
theorem Qr {z} (H:II n a=some z):AQ Try.prog 69 [.d (.str a)] (.d (.bool z)):=by
 exact fO 12 (Jga a) Try.func69<|sr<|ck 1<|en<|sr<|ck 1<|bx H λ c b H=>ca false (TX b)<|ck 5<|en<|sr<|ck 3<|en<|re (by cases H;exact pr rd)
end
section
variable (a:Int)
def Jgb:St:=⟨(0,.d<|.int .u8 a)::[],[]⟩
variable {a}
theorem Sm {z} (H:M4 n a=some z):AQ Try.prog 70 [.d (.int .u8 a)] (.d (.bool z)):=by
 exact fO 6 (Jgb a) Try.func70<|sr<|ck 1<|en<|sr<|ck 4<|en<|re (by cases H;exact pr rd)
end
section
variable (a:As) (h:Int) (c:Bool) (l:Int) (i:Bool) (f:Bool) (b:Bool) (m:Int) (j:Bool)
def Jgc:St:=⟨(0,.agg [.d<|.str a.Print,.d<|.sl<|a.Cells.map eU8,.d<|.int .u8 a.Left,.d<|.int .u8 a.Right,.d<|.int .i64 a.From,.d<|.int .i64 a.To])::(1,.d<|.int .i64 h)::[],[]⟩
def Jgd:St:=⟨(2,.ptr 0 0)::(5,.d<|.bool c)::(6,.d<|.bool false)::(7,.d<|.int .i64 l)::[],[some<|.box<|H5 a]⟩
def Jge:St:=⟨(2,.ptr 0 0)::(5,.d<|.bool i)::(6,.d<|.bool false)::[],[some<|.box<|H5 a]⟩
def PF:Bool->Ex->St->Prop:=xX 0 0<|λ (y:Bool)=>Jge a y
def Kg:(Bool×Int)->St:=(λ (x:(Bool×Int))=>Jgd a x.1 x.2)
def Jgf:St:=⟨(2,.ptr 0 0)::(5,.d<|.bool f)::(6,.d<|.bool b)::(8,.d<|.int .i64 m)::[],[some<|.box<|H5 a]⟩
def Jgg:St:=⟨(2,.ptr 0 0)::(5,.d<|.bool f)::(6,.d<|.bool j)::[],[some<|.box<|H5 a]⟩
def PG:(Bool⊕Bool)->Ex->St->Prop:=xS (xX 0 2<|λ (y:Bool)=>Jgg a f y)<|xR ty Try.f52<|λ (y:Bool)=>.d<|.bool y
def Kh:(Bool×Int)->St:=(λ (x:(Bool×Int))=>Jgf a f x.1 x.2)
variable {a h c l i f b m j}
theorem N0 (x:(Bool×Int)) (z:((Bool×Int)⊕Bool)) (H:Ec n a x.1 x.2=some z):WP (cxk 125 0) (AX Try.f52) [1,1,1,1,0,1,0,0] (AS 0 (Kg a) (PF a) z) (Kg a x):=by
 obtain⟨c,l⟩:=x;refine sq<|sr<|ck 5<|en<|cn H (λ H=>?_)<|λ H=>?_
 ·exact sk<|qz<|sq<|bk 1<|rz<|ck 3<|gc 1 (!c)<|ck 1<|bx H λ E o H=>sE (λ hg=>E9<|Dc o hg)<|bx H λ C p H=>cG false (leZ) rfl (λ hg=>Sm<|Dc p hg) (Or.inl rfl) (CG (λ hh=>hh)<|Ep) rfl<|pO<|ck 1<|ae<|qN<|qz<|rz<|ck 3<|ae (by cases H;exact og<|sg [2,5,6,7])
 ·exact ex 0<|qx (by cases H;exact xo rfl<|sg [2,5,6])
theorem Jg (x:(Bool×Int)) (z:((Bool×Int)⊕(Bool⊕Bool))) (H:Dj n a f x.1 x.2=some z):WP (cxk 125 0) (AX Try.f52) [1,1,1,1,1,0,1,0,0] (AS 0 (Kh a f) (PG a f) z) (Kh a f x):=by
 obtain⟨b,m⟩:=x;refine sq<|sr<|ck 3<|sp (AR eU8 a.Cells)<|ck 1<|en<|cn H (λ H=>?_)<|λ H=>?_
 ·refine sk<|qz<|sq<|bk 3<|sq<|sr<|ck 3<|bx H λ G q H=>sp (AH eU8 q)<|ck 2<|en<|cn H (λ H=>?_)<|λ H=>?_
  ·exact sr<|ck 1<|en<|re<|qr<|qR<|qr (by cases H;exact ro rfl rd)
  ·exact sk<|qz<|rz<|ck 3<|gc 1 (!b)<|ck 1<|bx H λ I r H=>sE (λ hg=>AH eU8<|Dc r hg)<|gc 2 (!b)<|pO<|ck 1<|ae<|qN<|qz<|rz<|ck 3<|ae (by cases H;exact og<|sg [2,5,6,8])
 ·exact ex 2<|qx (by cases H;exact xo rfl<|sg [2,5,6])
theorem Sn {z} (H:KI n a h=some z):AQ Try.prog 52 [.agg (H5 a),.d (.int .i64 h)] (.d (.bool z)):=by
 refine fO 125 (Jgc a h) Try.func52<|sr<|ck 2<|en<|sq<|sr<|ck 2<|bx H λ e t H=>ca false (Qr t)<|ck 3<|gc 3 (!(!e))<|pO<|ck 2<|gc 1 (!((!e)||(decide<|((a.Print.length:Nat):Int)>4)))<|sE (g:=(!((!e)||(decide<|((a.Print.length:Nat):Int)>4)))) (λ hg=>AR eU8 a.Cells)<|gc 1 (!((!e)||(decide<|((a.Print.length:Nat):Int)>4)))<|pO<|ck 2<|gc 1 (!(((!e)||(decide<|((a.Print.length:Nat):Int)>4))||(decide<|((a.Cells.length:Nat):Int)<1)))<|sE (g:=(!(((!e)||(decide<|((a.Print.length:Nat):Int)>4))||(decide<|((a.Cells.length:Nat):Int)<1)))) (λ hg=>AR eU8 a.Cells)<|gc 1 (!(((!e)||(decide<|((a.Print.length:Nat):Int)>4))||(decide<|((a.Cells.length:Nat):Int)<1)))<|pO<|en<|cn H (λ H=>?_)<|λ H=>?_
 ·exact sr<|ck 1<|en<|re<|qr (by cases H;exact pr rd)
 ·refine sk<|qz<|sq<|sr<|ck 5<|gc 2 (!(decide<|a.Left<1))<|pO<|ck 2<|gc 2 (!((decide<|a.Left<1)||(decide<|a.Left>63)))<|pO<|ck 2<|gc 2 (!(((decide<|a.Left<1)||(decide<|a.Left>63))||(decide<|a.Right<1)))<|pO<|ck 2<|gc 2 (!((((decide<|a.Left<1)||(decide<|a.Left>63))||(decide<|a.Right<1))||(decide<|a.Right>63)))<|pO<|ck 2<|gc 1 (!(((((decide<|a.Left<1)||(decide<|a.Left>63))||(decide<|a.Right<1))||(decide<|a.Right>63))||(decide<|a.From<0)))<|ck 1<|gc 1 (!(((((decide<|a.Left<1)||(decide<|a.Left>63))||(decide<|a.Right<1))||(decide<|a.Right>63))||(decide<|a.From<0)))<|pO<|ck 2<|gc 2 (!((((((decide<|a.Left<1)||(decide<|a.Left>63))||(decide<|a.Right<1))||(decide<|a.Right>63))||(decide<|a.From<0))||(decide<|a.From>=h)))<|pO<|ck 2<|gc 1 (!(((((((decide<|a.Left<1)||(decide<|a.Left>63))||(decide<|a.Right<1))||(decide<|a.Right>63))||(decide<|a.From<0))||(decide<|a.From>=h))||(decide<|a.To<0)))<|ck 1<|gc 1 (!(((((((decide<|a.Left<1)||(decide<|a.Left>63))||(decide<|a.Right<1))||(decide<|a.Right>63))||(decide<|a.From<0))||(decide<|a.From>=h))||(decide<|a.To<0)))<|pO<|en<|cn H (λ H=>?_)<|λ H=>?_
  ·exact sr<|ck 1<|en<|re<|qr (by cases H;exact pr rd)
  ·refine sk<|qz<|sr<|ck 2<|en<|sq<|sr<|ck 1<|en<|bk 0<|bx H λ f u H=>lX N0 u (sg [2,5,6,7]) rfl λ s v=>qH<|qs (v)<|sq<|sr<|ck 1<|en<|bk 2<|bx H λ B k H=>?_;rcases B with J|K
   ·refine lX Jg k (sg [2,5,6,8]) rfl λ s w=>qH<|qs (w)<|sq<|sr<|ck 2<|en<|cn H (λ H=>?_)<|λ H=>?_
    ·exact sr<|ck 3<|en<|re<|qr (by cases H;exact pr rd)
    ·exact sk<|qz<|sr<|ck 6<|gc 1 (((a.Print.length:Nat):Int)==1)<|sE (g:=(((a.Print.length:Nat):Int)==1)) (λ hg=>AR eU8 a.Cells)<|gc 1 (((a.Print.length:Nat):Int)==1)<|pA<|ck 2<|pA<|ck 1<|en<|re (by cases H;exact pr rd)
   ·exact lR Jg k (sg [2,5,6,8]) rfl λ s A=>qR<|qr (by cases H;exact pr A)
end
section
variable (a:As) (b:As)
def Jgh:St:=⟨(0,.agg [.d<|.str a.Print,.d<|.sl<|a.Cells.map eU8,.d<|.int .u8 a.Left,.d<|.int .u8 a.Right,.d<|.int .i64 a.From,.d<|.int .i64 a.To])::(1,.agg [.d<|.str b.Print,.d<|.sl<|b.Cells.map eU8,.d<|.int .u8 b.Left,.d<|.int .u8 b.Right,.d<|.int .i64 b.From,.d<|.int .i64 b.To])::[],[]⟩
variable {a b}
theorem N3 {z} (H:GI n a b=some z):AQ Try.prog 53 [.agg (H5 a),.agg (H5 b)] (.d (.bool z)):=by
 exact fO 45 (Jgh a b) Try.func53<|sr<|ck 3<|en<|sr<|ck 7<|gc 1 (a.Print==b.Print)<|ck 1<|gc 1 (a.Print==b.Print)<|bx H λ c e H=>cG false (leZ) rfl (λ hg=>Ib<|Dc e hg) (Or.inl rfl) (CG (λ hh=>hh)<|CG (λ hh=>hh)<|Ep) rfl<|pA<|ck 2<|gc 1 ((a.Print==b.Print)&&c)<|ck 1<|gc 2 ((a.Print==b.Print)&&c)<|pA<|ck 2<|gc 1 (((a.Print==b.Print)&&c)&&(a.Left==b.Left))<|ck 1<|gc 2 (((a.Print==b.Print)&&c)&&(a.Left==b.Left))<|pA<|ck 2<|gc 1 ((((a.Print==b.Print)&&c)&&(a.Left==b.Left))&&(a.Right==b.Right))<|ck 1<|gc 2 ((((a.Print==b.Print)&&c)&&(a.Left==b.Left))&&(a.Right==b.Right))<|pA<|ck 2<|gc 1 (((((a.Print==b.Print)&&c)&&(a.Left==b.Left))&&(a.Right==b.Right))&&(a.From==b.From))<|ck 1<|gc 2 (((((a.Print==b.Print)&&c)&&(a.Left==b.Left))&&(a.Right==b.Right))&&(a.From==b.From))<|pA<|ck 1<|en<|re (by cases H;exact pr rd)
end
section
variable (a:Ab) (b:Int) (f:Int)
def Jgi:St:=⟨(0,.agg [.d<|.int .i64 a.Modes,.d<|.int .u8 a.Accept,.d<|.sl<|a.Rules.map Ax])::[],[]⟩
def Jgj:St:=⟨(1,.ptr 0 0)::(4,.d<|.int .i64 b)::[],[some<|.box<|Bf a]⟩
def Jgk:St:=⟨[],[]⟩
def Jgl:St:=⟨(1,.ptr 0 0)::(4,.d<|.int .i64 b)::(5,.d<|.int .i64 f)::[],[some<|.box<|Bf a]⟩
def Jgm:St:=⟨(1,.ptr 0 0)::(4,.d<|.int .i64 b)::[],[some<|.box<|Bf a]⟩
def PH:(Unit⊕(Int×Int))->Ex->St->Prop:=xS (xX 0 2<|λ (_:Unit)=>Jgm a b)<|xR ty Try.f29<|λ (y:(Int×Int))=>.tup [.d<|.int .i64 y.1,.d<|.int .i64 y.2]
def Ki:Int->St:=(λ (x:Int)=>Jgl a b x)
def PI:(Unit⊕(Int×Int))->Ex->St->Prop:=xS (xX 0 0<|λ (_:Unit)=>Jgk)<|xR ty Try.f29<|λ (y:(Int×Int))=>.tup [.d<|.int .i64 y.1,.d<|.int .i64 y.2]
def Kj:Int->St:=(λ (x:Int)=>Jgj a x)
variable {a b f}
theorem Jh (x:Int) (z:(Int⊕(Unit⊕(Int×Int)))) (H:Fi n a b x=some z):WP (cxk 74 0) (AX Try.f29) [1,1,0,1,0,0,1,0,0,1,1,0,0] (AS 0 (Ki a b) (PH a b) z) (Ki a b x):=by
 revert H;generalize x=f;intro H;refine sq<|sr<|ck 3<|en<|cn H (λ H=>?_)<|λ H=>?_
 ·refine sk<|qz<|sq<|bk 3<|sr<|ck 3<|bx H λ B h H=>sp (AH Ax h)<|ck 4<|bx H λ C i H=>sp (AH Ax i)<|ck 1<|bx H λ v j H=>ca false (N3 j)<|en<|cn H (λ H=>?_)<|λ H=>?_
  ·exact sr<|ck 3<|en<|re<|qR<|qr (by cases H;exact ro rfl rdT)
  ·exact sk<|qN<|qz<|rz<|ck 3<|ae (by cases H;exact og<|sg [1,4,5])
 ·exact ex 2<|qx (by cases H;exact xo rfl<|sg [1,4])
theorem Ji (x:Int) (z:(Int⊕(Unit⊕(Int×Int)))) (H:Fj n a x=some z):WP (cxk 74 0) (AX Try.f29) [1,1,0,1,0,0] (AS 0 (Kj a) (PI) z) (Kj a x):=by
 revert H;generalize x=b;intro H;refine sq<|sr<|ck 3<|sp (AR Ax a.Rules)<|ck 1<|en<|cn H (λ H=>?_)<|λ H=>?_
 ·refine sk<|qz<|sq<|bk 1<|sq<|sr<|ck 3<|bx H λ E k H=>sp (AH Ax k)<|ck 3<|bx H λ w l H=>ca false (Sn l)<|ck 1<|en<|cn H (λ H=>?_)<|λ H=>?_
  ·exact sr<|ck 3<|en<|re<|qr<|qR<|qr (by cases H;exact ro rfl rdT)
  ·refine sk<|qz<|sr<|ck 1<|en<|bk 2<|bx H λ t c H=>?_;rcases t with G|I
   ·exact lX Jh c (sg [1,4,5]) rfl λ s m=>qH<|qN<|qs (m)<|rz<|ck 3<|ae (by cases H;exact og<|sg [1,4])
   ·exact lR Jh c (sg [1,4,5]) rfl λ s o=>qR<|qR<|qr (by cases H;exact ro rfl o)
 ·exact ex 0<|qx (by cases H;exact xo rfl<|sg [])
theorem So {z} (H:KJ n a=some z):AQ Try.prog 29 [.agg (Bf a)] (.tup [.d (.int .i64 z.1),.d (.int .i64 z.2)]):=by
 refine fO 74 (Jgi a) Try.func29<|sr<|ck 3<|en<|sq<|sr<|ck 5<|gc 2 (!(decide<|a.Modes<1))<|pO<|ck 2<|gc 2 (!((decide<|a.Modes<1)||(decide<|a.Modes>8)))<|pO<|ck 2<|gc 2 (!(((decide<|a.Modes<1)||(decide<|a.Modes>8))||(a.Accept==0)))<|ck 1<|gc 1 (!(((decide<|a.Modes<1)||(decide<|a.Modes>8))||(a.Accept==0)))<|bx H λ A p H=>soG (λ hg=>G1<|Dc p hg) (CG (λ hh=>hh)<|Ep)<|gc 1 (!(((decide<|a.Modes<1)||(decide<|a.Modes>8))||(a.Accept==0)))<|pO<|ck 2<|gc 1 (!((((decide<|a.Modes<1)||(decide<|a.Modes>8))||(a.Accept==0))||(decide<|IntKind.i64.wrap a.Accept>=O6 .i64 1 a.Modes)))<|sE (g:=(!((((decide<|a.Modes<1)||(decide<|a.Modes>8))||(a.Accept==0))||(decide<|IntKind.i64.wrap a.Accept>=O6 .i64 1 a.Modes)))) (λ hg=>AR Ax a.Rules)<|gc 1 (!((((decide<|a.Modes<1)||(decide<|a.Modes>8))||(a.Accept==0))||(decide<|IntKind.i64.wrap a.Accept>=O6 .i64 1 a.Modes)))<|pO<|ck 2<|gc 1 (!(((((decide<|a.Modes<1)||(decide<|a.Modes>8))||(a.Accept==0))||(decide<|IntKind.i64.wrap a.Accept>=O6 .i64 1 a.Modes))||(decide<|((a.Rules.length:Nat):Int)<1)))<|sE (g:=(!(((((decide<|a.Modes<1)||(decide<|a.Modes>8))||(a.Accept==0))||(decide<|IntKind.i64.wrap a.Accept>=O6 .i64 1 a.Modes))||(decide<|((a.Rules.length:Nat):Int)<1)))) (λ hg=>AR Ax a.Rules)<|gc 1 (!(((((decide<|a.Modes<1)||(decide<|a.Modes>8))||(a.Accept==0))||(decide<|IntKind.i64.wrap a.Accept>=O6 .i64 1 a.Modes))||(decide<|((a.Rules.length:Nat):Int)<1)))<|pO<|en<|cn H (λ H=>?_)<|λ H=>?_
 ·exact sr<|ck 2<|en<|re<|qr (by cases H;exact pr rdT)
 ·refine sk<|qz<|sq<|sr<|ck 1<|en<|bk 0<|bx H λ u e H=>?_;rcases u with J|K
  ·exact lX Ji e (sg [1,4]) rfl λ s q=>qH<|qs (q)<|sr<|ck 2<|en<|re (by cases H;exact pr rdT)
  ·exact lR Ji e (sg [1,4]) rfl λ s r=>qR<|qr (by cases H;exact pr r)
end
section
variable (a:Ab)
def Jgn:St:=⟨(0,.agg [.d<|.int .i64 a.Modes,.d<|.int .u8 a.Accept,.d<|.sl<|a.Rules.map Ax])::[],[]⟩
variable {a}
theorem Mz {z} (H:KK n a=some z):AQ Try.prog 15 [.agg (Bf a)] (.d (.bool z)):=by
 exact fO 12 (Jgn a) Try.func15<|sr<|ck 2<|en<|sr<|ck 1<|bx H λ c b H=>ca false (So b)<|ck 5<|en<|sr<|ck 3<|en<|re (by cases H;exact pr rd)
end
section
variable (b:Jn) (a:Ab) (j:Ab) (h:Int) (q:Ab) (m:Ab) (i:Ab) (g:Int) (r:Ab) (o:Ab) (p:Ab)
def Jh3:St:=⟨(0,.agg [.d<|.int .u8 b.Base,.d<|.int .u8 b.Drop,.d<|.sl<|b.More.map EX])::[],[]⟩
def Jh4:St:=⟨(1,.ptr 0 0)::(2,.ptr 1 0)::(3,.ptr 2 0)::(4,.osl 3 6 0<|a.Rules.length)::(5,.d<|.int .i64 h)::[],[some<|.box<|Vj b,some<|.box [.d<|.int .i64 0,.d<|.int .u8 0,.osl 4 6 0<|List.length ([]:List As)],some<|.box<|D5 j<|.osl 5 6 0<|j.Rules.length,some<|.arr 6<|a.Rules.map Ax,some<|.arr 6<|List.map Ax ([]:List As),some<|.arr 6<|j.Rules.map Ax]⟩
def Jh5:St:=⟨(1,.ptr 0 0)::(2,.ptr 1 0)::(3,.ptr 2 0)::(4,.osl 3 6 0<|a.Rules.length)::[],[some<|.box<|Vj b,some<|.box [.d<|.int .i64 0,.d<|.int .u8 0,.osl 4 6 0<|List.length ([]:List As)],some<|.box<|D5 q<|.osl 5 6 0<|q.Rules.length,some<|.arr 6<|a.Rules.map Ax,some<|.arr 6<|List.map Ax ([]:List As),some<|.arr 6<|q.Rules.map Ax]⟩
def Jh6:St:=⟨(1,.ptr 0 0)::(2,.ptr 1 0)::(3,.ptr 2 0)::(4,.osl 3 6 0<|a.Rules.length)::(5,.d<|.int .i64 h)::[],[some<|.box<|Vj b,some<|.box [.d<|.int .i64 0,.d<|.int .u8 0,.osl 4 6 0<|List.length ([]:List As)],some<|.box<|D5 m<|.osl 5 6 0<|m.Rules.length,some<|.arr 6<|a.Rules.map Ax,some<|.arr 6<|List.map Ax ([]:List As),some<|.arr 6<|m.Rules.map Ax]⟩
def Qs:Ab->Ex->St->Prop:=xX 0 0<|λ (y:Ab)=>Jh5 b a y
def Ll:(Ab×Int)->St:=(λ (x:(Ab×Int))=>Jh4 b a x.1 x.2)
def Jh7:St:=⟨(1,.ptr 0 0)::(2,.ptr 1 0)::(3,.ptr 2 0)::(4,.osl 3 6 0<|a.Rules.length)::(6,.d<|.int .i64 g)::[],[some<|.box<|Vj b,some<|.box [.d<|.int .i64 0,.d<|.int .u8 0,.osl 4 6 0<|List.length ([]:List As)],some<|.box<|D5 i<|.osl 5 6 0<|i.Rules.length,some<|.arr 6<|a.Rules.map Ax,some<|.arr 6<|List.map Ax ([]:List As),some<|.arr 6<|i.Rules.map Ax]⟩
def Jh8:St:=⟨(2,.ptr 0 0)::(3,.ptr 1 0)::(4,.osl 2 6 0<|a.Rules.length)::[],[some<|.box [.d<|.int .i64 0,.d<|.int .u8 0,.osl 3 6 0<|List.length ([]:List As)],some<|.box<|D5 r<|.osl 4 6 0<|r.Rules.length,some<|.arr 6<|a.Rules.map Ax,some<|.arr 6<|List.map Ax ([]:List As),some<|.arr 6<|r.Rules.map Ax]⟩
def Jh9:St:=⟨(1,.ptr 0 0)::(2,.ptr 1 0)::(3,.ptr 2 0)::(4,.osl 3 6 0<|a.Rules.length)::(6,.d<|.int .i64 g)::[],[some<|.box<|Vj b,some<|.box [.d<|.int .i64 0,.d<|.int .u8 0,.osl 4 6 0<|List.length ([]:List As)],some<|.box<|D5 o<|.osl 5 6 0<|o.Rules.length,some<|.arr 6<|a.Rules.map Ax,some<|.arr 6<|List.map Ax ([]:List As),some<|.arr 6<|o.Rules.map Ax]⟩
def Qt:Ab->Ex->St->Prop:=xX 0 2<|λ (y:Ab)=>Jh8 a y
def Lm:(Ab×Int)->St:=(λ (x:(Ab×Int))=>Jh7 b a x.1 x.2)
def Jia:St:=⟨(2,.ptr 0 0)::(3,.ptr 1 0)::[],[some<|.box [.d<|.int .i64 0,.d<|.int .u8 0,.osl 2 6 0<|List.length ([]:List As)],some<|.box<|D5 p<|.osl 3 6 0<|p.Rules.length,some<|.arr 6<|List.map Ax ([]:List As),some<|.arr 6<|p.Rules.map Ax]⟩
variable {b a j h q m i g r o p}
theorem PJ (x:(Ab×Int)) (z:((Ab×Int)⊕Ab)) (H:C6 n b a x.1 x.2=some z):WP (cxk 77 0) (AX Try.f9) [1,1,1,1,0,1,0,0] (AS 0 (Ll b a) (Qs b a) z) (Ll b a x):=by
 obtain⟨j,h⟩:=x;refine sq<|sr<|ck 4<|en<|cn H (λ H=>?_)<|λ H=>?_
 ·refine sk<|qz<|sj (λ (x:Ab)=>Jh6 b a h x) (λ (x:Ab)=>D3 n h x) z ?_ (λ c=>?_)
  ·intro m H;exact rz<|ck 3<|ae (by cases H;exact og<|sg [1,2,3,4,5])
  refine bk 1<|sr<|ck 3<|bx H λ R B H=>so (G1 B)<|ck 2<|en<|cn H (λ H=>?_)<|λ H=>?_
  ·exact rz<|ck 4<|bx H λ U t H=>sp (Bj 3 6 t)<|sp (CZ Ax 3 0 (ty 42) t)<|ck 1<|bx H λ Q C H=>sp (Bp Ax 5 6 C)<|ck 2<|ae<|qN<|qs (sg [1,2,3,4,5])<|c ({ Modes:=j.Modes,Accept:=j.Accept,Rules:=Q }:Ab) H
  ·exact sk<|qN<|qs (sg [1,2,3,4,5])<|c j H
 ·exact ex 0<|qx (by cases H;exact xo rfl<|sg [1,2,3,4])
theorem PK (x:(Ab×Int)) (z:((Ab×Int)⊕Ab)) (H:C7 n b a x.1 x.2=some z):WP (cxk 77 0) (AX Try.f9) [1,1,1,1,1,0,1,0,0] (AS 0 (Lm b a) (Qt a) z) (Lm b a x):=by
 obtain⟨i,g⟩:=x;refine sq<|sr<|ck 3<|sp (AR EX b.More)<|ck 3<|gc 1 (decide<|g<((b.More.length:Nat):Int))<|pA<|en<|cn H (λ H=>?_)<|λ H=>?_
 ·refine sk<|qz<|sj (λ (x:Ab)=>Jh9 b a g x) (λ (x:Ab)=>D4 n g x) z ?_ (λ e=>?_)
  ·intro o H;exact rz<|ck 3<|ae (by cases H;exact og<|sg [1,2,3,4,6])
  refine bk 3<|sr<|ck 5<|bx H λ V E H=>sp (AH EX E)<|ck 3<|bx H λ S G H=>ca false (TW G)<|ck 1<|bx H λ u I H=>sp (Bp Ax 5 6 I)<|ck 2<|en<|sr<|ck 1<|bx H λ T J H=>cb (ks:=[7]) (obl:=[(0+List.length u,List.length<|u.map Ax)]) false (leK leM<|leZ) (Er (JbX<|Er rfl<|Er rfl<|Er TI rfl) rfl) (Mz J) (Or.inr trivial) rfl<|ck 1<|en<|cn H (λ H=>?_)<|λ H=>?_
  ·exact rz<|ck 6<|bx H λ w l H=>sp (Va 7 6 l)<|ck 2<|ae<|qN<|qs (tr (GB (k:=7) (sz:=6) 2 2 (w.map Ax) (w.length) (by kernel_rfl) (R2 l) (U6 (enc:=Ax) l)<|R3 l)<|sg [1,2,3,4,6])<|e ({ Modes:=i.Modes,Accept:=i.Accept,Rules:=w }:Ab) H
  ·exact sk<|qN<|qs (sg [1,2,3,4,6])<|e ({ Modes:=i.Modes,Accept:=i.Accept,Rules:=u }:Ab) H
 ·exact ex 2<|qx (by cases H;exact xo rfl<|sg [2,3,4])
theorem TY {z} (H:F6 n b=some z):AQ Try.prog 9 [.agg (Vj b)] (.agg [.d (.int .i64 z.Modes),.d (.int .u8 z.Accept),.own 6 (z.Rules.map Ax)]):=by
 refine fO 77 (Jh3 b) Try.func9<|sr<|ck 2<|en<|sr<|ck 2<|bx H λ a K H=>cl [List.length a.Rules] (Ke K)<|ck 2<|en<|sr<|ck 3<|en<|sr<|ck 3<|en<|sq<|sr<|ck 1<|en<|bk 0<|bx H λ W L H=>lX PJ L (tr (DL 1 2 6 (by kernel_rfl))<|sg [1,2,3,4,5]) rfl λ s M=>qH<|qs (M)<|sq<|sr<|ck 1<|en<|bk 2<|bx H λ A O H=>lX PK O (sg [1,2,3,4,6]) rfl λ s P=>qH<|qs (P)<|sj (λ (x:Ab)=>Jia x) (λ (x:Ab)=>EW n x) z ?_ (λ f=>?_)
 ·intro p H;exact sr<|ck 2<|en<|re (by cases H;exact pr<|rO (v:=.agg [.d<|.int .i64 z.Modes,.d<|.int .u8 z.Accept,.osl 3 6 0<|z.Rules.length]) [3]<|a1<|c1 vd<|c1 vd<|c1 vo<|c0)
 refine sr<|ck 4<|en<|cn H (λ H=>?_)<|λ H=>?_
 ·exact rz<|ck 3<|ae<|qs (sg [2,3])<|f ({ Modes:=A.Modes,Accept:=A.Accept,Rules:=a.Rules }:Ab) H
 ·exact sk<|qs (sg [2,3])<|f A H
end
def Jgo:St:=⟨[],[]⟩
theorem Sq {z} (H:Q7 n=some z):AQ Try.prog 30 [] (.agg [.d (.int .i64 z.Mode),.d (.int .i64 z.Last),.d (.int .u8 z.Need)]):=by
 exact fO 2 Jgo Try.func30<|sr<|ck 1<|en<|sr<|ck 2<|en<|re (by cases H;exact pr rd)
section
variable (b:Int) (a:Int)
def Jgp:St:=⟨(0,.d<|.int .u8 b)::(1,.d<|.int .i64 a)::[],[]⟩
variable {b a}
theorem IS {z} (H:IJ n b a=some z):AQ Try.prog 54 [.d (.int .u8 b),.d (.int .i64 a)] (.d (.bool z)):=by
 exact fO 18 (Jgp b a) Try.func54<|sr<|ck 1<|en<|sr<|ck 4<|gc 1 (decide<|a>=0)<|pA<|ck 3<|bx H λ e c H=>soG (λ hg=>G1<|Dc c hg) (CG (λ hh=>hh)<|CG (λ hh=>hh)<|Ep)<|gc 2 ((decide<|a>=0)&&(decide<|a<8))<|pA<|ck 1<|en<|re (by cases H;exact pr rd)
end
section
variable (b:Ab) (a:Ad)
def Jgq:St:=⟨(0,.agg [.d<|.int .i64 b.Modes,.d<|.int .u8 b.Accept,.d<|.sl<|b.Rules.map Ax])::(1,.agg [.d<|.int .i64 a.Mode,.d<|.int .i64 a.Last,.d<|.int .u8 a.Need])::[],[]⟩
variable {b a}
theorem PL {z} (H:Hv n b a=some z):AQ Try.prog 31 [.agg (Bf b),.agg (G7 a)] (.d (.bool z)):=by
 exact fO 27 (Jgq b a) Try.func31<|sr<|ck 3<|en<|sr<|ck 5<|gc 1 (decide<|a.Mode>=0)<|ck 1<|gc 2 (decide<|a.Mode>=0)<|pA<|ck 2<|gc 1 ((decide<|a.Mode>=0)&&(decide<|a.Mode<b.Modes))<|ck 1<|gc 1 ((decide<|a.Mode>=0)&&(decide<|a.Mode<b.Modes))<|bx H λ c e H=>cG false (leZ) rfl (λ hg=>IS<|Dc e hg) (Or.inl rfl) (CG (λ hh=>hh)<|CG (λ hh=>hh)<|Ep) rfl<|pA<|ck 2<|gc 1 (((decide<|a.Mode>=0)&&(decide<|a.Mode<b.Modes))&&c)<|bx H λ g f H=>cG false (leZ) rfl (λ hg=>IS<|Dc f hg) (Or.inl rfl) (CG (λ hh=>hh)<|Ep) rfl<|pA<|ck 1<|en<|re (by cases H;exact pr rd)
end
section
variable (a:Int)
def Jgr:St:=⟨(0,.d<|.int .u8 a)::[],[]⟩
variable {a}
theorem MA {z} (H:H4 n a=some z):AQ Try.prog 55 [.d (.int .u8 a)] (.d (.int .i64 z)):=by
 refine fO 26 (Jgr a) Try.func55<|sr<|ck 1<|en<|sr<|ck 3<|en<|sq<|sr<|ck 4<|gc 1 (decide<|B0 .u8 a 127>=97)<|pA<|en<|cn H (λ H=>?_)<|λ H=>?_
 ·exact sr<|ck 1<|en<|re<|qr (by cases H;exact pr rd)
 ·refine sk<|qz<|sq<|sr<|ck 4<|gc 1 (decide<|B0 .u8 a 127>=65)<|pA<|en<|cn H (λ H=>?_)<|λ H=>?_
  ·exact sr<|ck 1<|en<|re<|qr (by cases H;exact pr rd)
  ·refine sk<|qz<|sq<|sr<|ck 4<|gc 1 (decide<|B0 .u8 a 127>=48)<|pA<|en<|cn H (λ H=>?_)<|λ H=>?_
   ·exact sr<|ck 1<|en<|re<|qr (by cases H;exact pr rd)
   ·refine sk<|qz<|sq<|sr<|ck 2<|en<|cn H (λ H=>?_)<|λ H=>?_
    ·exact sr<|ck 1<|en<|re<|qr (by cases H;exact pr rd)
    ·exact sk<|qz<|sr<|ck 1<|en<|re (by cases H;exact pr rd)
end
section
variable (b:Ab) (a:Ad) (c:Int)
def Jgs:St:=⟨(0,.agg [.d<|.int .i64 b.Modes,.d<|.int .u8 b.Accept,.d<|.sl<|b.Rules.map Ax])::(1,.agg [.d<|.int .i64 a.Mode,.d<|.int .i64 a.Last,.d<|.int .u8 a.Need])::(2,.d<|.int .i64 c)::[],[]⟩
variable {b a c}
theorem NK {z} (H:JS n b a c=some z):AQ Try.prog 32 [.agg (Bf b),.agg (G7 a),.d (.int .i64 c)] (.tup [.agg [.d (.int .i64 z.1.Mode),.d (.int .i64 z.1.Last),.d (.int .u8 z.1.Need)],.d (.bool z.2)]):=by
 refine fO 87 (Jgs b a c) Try.func32<|sr<|ck 4<|en<|sq<|sr<|ck 5<|gc 1 (!(decide<|c<0))<|sE (g:=(!(decide<|c<0))) (λ hg=>AR Ax b.Rules)<|gc 1 (!(decide<|c<0))<|pO<|en<|cn H (λ H=>?_)<|λ H=>?_
 ·exact sr<|ck 3<|en<|re<|qr (by cases H;exact pr rdT)
 ·refine sk<|qz<|sr<|ck 3<|bx H λ e f H=>sp (AH Ax f)<|ck 3<|en<|sq<|sr<|ck 7<|gc 1 (!(e.From != a.Mode))<|ck 1<|gc 1 (!(e.From != a.Mode))<|bx H λ o h H=>cG false (leZ) rfl (λ hg=>IS<|Dc h hg) (Or.inl rfl) (CG (λ hh=>hh)<|CG (λ hh=>hh)<|Ep) rfl<|gc 1 (!(e.From != a.Mode))<|pO<|en<|cn H (λ H=>?_)<|λ H=>?_
  ·exact sr<|ck 3<|en<|re<|qr (by cases H;exact pr rdT)
  ·refine sk<|qz<|sq<|sr<|ck 6<|gc 1 (((e.Print.length:Nat):Int)==0)<|ck 1<|gc 3 (((e.Print.length:Nat):Int)==0)<|pA<|en<|cn H (λ H=>?_)<|λ H=>?_
   ·exact sr<|ck 3<|en<|re<|qr (by cases H;exact pr rdT)
   ·refine sk<|qz<|sq<|sr<|ck 4<|en<|cn H (λ H=>?_)<|λ H=>?_
    ·exact sr<|ck 12<|en<|re<|qr (by cases H;exact pr rdT)
    ·refine sk<|qz<|sq<|sr<|ck 4<|bx H λ s i H=>sp (E9 i)<|bx H λ p j H=>ca false (MA j)<|bx H λ q k H=>ca false (IS k)<|ck 1<|en<|cn H (λ H=>?_)<|λ H=>?_
     ·exact sr<|ck 3<|en<|re<|qr (by cases H;exact pr rdT)
     ·exact sk<|qz<|sr<|ck 8<|bx H λ t l H=>sp (E9 l)<|bx H λ r m H=>ca false (MA m)<|ck 5<|en<|re (by cases H;exact pr rdT)
end
section
variable (c:Ab) (g:(List Int)) (h:Int) (f:Ad) (a:(List Int)) (b:(List UInt8)) (e:Int) (i:(List Int)) (p:Int) (m:(List Int)) (l:(List Int)) (o:(List Int)) (t:Int)
def Jgt:St:=⟨(0,.agg [.d<|.int .i64 c.Modes,.d<|.int .u8 c.Accept,.d<|.sl<|c.Rules.map Ax])::(1,.d<|.sl<|g.map eU8)::(2,.d<|.int .i64 h)::[],[]⟩
def Jgu:St:=⟨(1,.d<|.sl<|g.map eU8)::(2,.d<|.int .i64 h)::(3,.ptr 0 0)::(9,.ptr 1 0)::(10,.osl 2 1 0<|a.length)::(11,.d<|.str b)::(12,.d<|.int .i64 e)::[],[some<|.box<|Bf c,some<|.box<|G7 f,some<|.arr 1<|a.map eU8]⟩
def Jgv:St:=⟨[],[]⟩
def Jgw:St:=⟨(1,.d<|.sl<|g.map eU8)::(2,.d<|.int .i64 h)::(3,.ptr 0 0)::(9,.ptr 1 0)::(10,.osl 2 1 0<|a.length)::(11,.d<|.str b)::(12,.d<|.int .i64 e)::(13,.osl 3 1 0<|i.length)::(14,.d<|.int .i64 p)::[],[some<|.box<|Bf c,some<|.box<|G7 f,some<|.arr 1<|a.map eU8,some<|.arr 1<|i.map AK]⟩
def Jgx:St:=⟨(1,.d<|.sl<|g.map eU8)::(2,.d<|.int .i64 h)::(3,.ptr 0 0)::(9,.ptr 1 0)::(10,.osl 2 1 0<|a.length)::(11,.d<|.str b)::(12,.d<|.int .i64 e)::(13,.osl 3 1 0<|m.length)::[],[some<|.box<|Bf c,some<|.box<|G7 f,some<|.arr 1<|a.map eU8,some<|.arr 1<|m.map AK]⟩
def Jgy:St:=⟨(1,.d<|.sl<|g.map eU8)::(2,.d<|.int .i64 h)::(3,.ptr 0 0)::(9,.ptr 1 0)::(10,.osl 2 1 0<|a.length)::(11,.d<|.str b)::(12,.d<|.int .i64 e)::(13,.osl 3 1 0<|l.length)::(14,.d<|.int .i64 p)::[],[some<|.box<|Bf c,some<|.box<|G7 f,some<|.arr 1<|a.map eU8,some<|.arr 1<|l.map AK]⟩
def Qu:(List Int)->Ex->St->Prop:=xX 0 2<|λ (y:(List Int))=>Jgx c g h f a b e y
def Ln:((List Int)×Int)->St:=(λ (x:((List Int)×Int))=>Jgw c g h f a b e x.1 x.2)
def Jgz:St:=⟨(1,.d<|.sl<|g.map eU8)::(2,.d<|.int .i64 h)::(3,.ptr 0 0)::(9,.ptr 1 0)::(10,.osl 2 1 0<|a.length)::(11,.d<|.str b)::(12,.d<|.int .i64 e)::(13,.osl 3 1 0<|o.length)::(17,.d<|.int .i64 t)::[],[some<|.box<|Bf c,some<|.box<|G7 f,some<|.arr 1<|a.map eU8,some<|.arr 1<|o.map AK]⟩
def Qv:(Unit⊕((List Int)×(List UInt8)×Bool))->Ex->St->Prop:=xS (xX 0 0<|λ (_:Unit)=>Jgv)<|xR ty Try.f18<|λ (y:((List Int)×(List UInt8)×Bool))=>.tup [.own 1<|y.1.map eU8,.d<|.str y.2.1,.d<|.bool y.2.2]
def Lo:(Ad×(List Int)×(List UInt8)×Int)->St:=(λ (x:(Ad×(List Int)×(List UInt8)×Int))=>Jgu c g h x.1 x.2.1 x.2.2.1 x.2.2.2)
variable {c g h f a b e i p m l o t}
theorem PM (x:((List Int)×Int)) (z:(((List Int)×Int)⊕(List Int))) (H:F7 n c g h f a b e x.1 x.2=some z):WP (cxk 103 0) (AX Try.f18) [1,1,0,1,0,0,1,0,0,1,1,0,1,0,0] (AS 0 (Ln c g h f a b e) (Qu c g h f a b e) z) (Ln c g h f a b e x):=by
 obtain⟨i,p⟩:=x;refine sq<|sr<|ck 3<|sp (AR Ax c.Rules)<|ck 1<|en<|cn H (λ H=>?_)<|λ H=>?_
 ·refine sk<|qz<|sj (λ (x:(List Int))=>Jgy c g h f a b e p x) (λ (x:(List Int))=>Hw n p x) z ?_ (λ j=>?_)
  ·intro l H;exact rz<|ck 3<|ae (by cases H;exact og<|sg [1,2,3,9,10,11,12,13,14])
  refine bk 3<|sr<|ck 3<|bx H λ T u H=>ca false (NK u)<|ck 6<|en<|sr<|ck 1<|en<|cn H (λ H=>?_)<|λ H=>?_
  ·exact rz<|ck 3<|bx H λ S v H=>sp (Bp AK 3 1 v)<|ck 1<|ae<|qN<|qs (sg [1,2,3,9,10,11,12,13,14])<|j S H
  ·exact sk<|qN<|qs (sg [1,2,3,9,10,11,12,13,14])<|j i H
 ·exact ex 2<|qx (by cases H;exact xo rfl<|sg [1,2,3,9,10,11,12,13])
theorem Kk (x:(Ad×(List Int)×(List UInt8)×Int)) (z:((Ad×(List Int)×(List UInt8)×Int)⊕(Unit⊕((List Int)×(List UInt8)×Bool)))) (H:F9 n c g h x.1 x.2.1 x.2.2.1 x.2.2.2=some z):WP (cxk 103 0) (AX Try.f18) [1,1,0,1,0,0] (AS 0 (Lo c g h) (Qv) z) (Lo c g h x):=by
 obtain⟨f,a,b,e⟩:=x;refine sq<|sr<|ck 4<|en<|cn H (λ H=>?_)<|λ H=>?_
 ·refine sk<|qz<|sq<|bk 1<|sq<|sr<|ck 2<|sp (AR eU8 g)<|ck 6<|bx H λ U w H=>cG false (leZ) rfl (λ hg=>PL<|Dc w hg) (Or.inl rfl) (CG (λ hh=>hh)<|CG (λ hh=>hh)<|Ep) rfl<|pA<|en<|cn H (λ H=>?_)<|λ H=>?_
  ·exact sr<|ck 5<|en<|re<|qr<|qR<|qr (by cases H;exact ro rfl<|rT (vs:=[.osl 2 1 0<|a.length,.d<|.str b,.d<|.bool true]) [2]<|t1 (ao vo)<|t1 (ad vd)<|t1 (ad vd)<|t0)
  ·refine sk<|qz<|sr<|ck 2<|en<|sq<|sr<|ck 1<|en<|bk 2<|bx H λ o A H=>lX PM A (sg [1,2,3,9,10,11,12,13,14]) rfl λ s B=>qH<|qs (B)<|sq<|sr<|ck 3<|en<|cn H (λ H=>?_)<|λ H=>?_
   ·exact sr<|ck 3<|en<|re<|qr<|qR<|qr (by cases H;exact ro rfl<|rT (vs:=[.d<|.nil,.d<|.str [],.d<|.bool false]) []<|t1 (ad vz)<|t1 (ad vd)<|t1 (ad vd)<|t0)
   ·refine sk<|qz<|sr<|ck 2<|en<|sj (λ (x:Int)=>Jgz c g h f a b e o x) (λ (x:Int)=>F8 n c f a b e o x) z ?_ (λ k=>?_)
    ·intro t H;exact sr<|ck 4<|bx H λ V C H=>so (Pe C)<|bx H λ W q H=>sp (Bj 3 1 q)<|sp (CZ AK 3 0 (ty 3) q)<|ck 1<|en<|sr<|ck 3<|bx H λ X E H=>ca false (NK E)<|ck 4<|en<|sr<|ck 4<|bx H λ Y G H=>sp (AH Ax G)<|ck 2<|bx H λ af I H=>sp (Jd5 eU8 2 1 I)<|ck 1<|en<|rz<|ck 4<|bx H λ Z J H=>sp (AH Ax J)<|ck 2<|bx H λ ag K H=>sp (Pi K)<|ck 1<|ae<|qN<|qz<|rz<|ck 3<|ae (by cases H;exact og<|sg [1,2,3,9,10,11,12])
    refine sr<|ck 2<|sp (AR eU8 g)<|ck 1<|en<|cn H (λ H=>?_)<|λ H=>?_
    ·exact rz<|ck 2<|bx H λ L M H=>sp (AH eU8 M)<|ck 3<|ae<|qs (sg [1,2,3,9,10,11,12,13,17])<|k (IntKind.i64.wrap L) H
    ·exact sk<|qs (sg [1,2,3,9,10,11,12,13,17])<|k e H
 ·exact ex 0<|qx (by cases H;exact xo rfl<|sg [])
theorem TZ {z} (H:Mo n c g h=some z):AQ Try.prog 18 [.agg (Bf c),.d (.sl (g.map eU8)),.d (.int .i64 h)] (.tup [.own 1 (z.1.map eU8),.d (.str z.2.1),.d (.bool z.2.2)]):=by
 refine fO 103 (Jgt c g h) Try.func18<|sr<|ck 4<|en<|sr<|bx H λ aa O H=>ca false (Sq O)<|ck 5<|en<|sq<|sr<|ck 1<|en<|bk 0<|bx H λ P r H=>?_;rcases P with ab|ac
 ·exact lX Kk r (sg [1,2,3,9,10,11,12]) rfl λ s Q=>qH<|qs (Q)<|sr<|ck 3<|en<|re (by cases H;exact pr<|rT (vs:=[.d<|.nil,.d<|.str [],.d<|.bool false]) []<|t1 (ad vz)<|t1 (ad vd)<|t1 (ad vd)<|t0)
 ·exact lR Kk r (sg [1,2,3,9,10,11,12]) rfl λ s R=>qR<|qr (by cases H;exact pr R)
end
section
variable (f:Jn) (i:(List Int)) (j:Int) (c:Bool) (b:Ab) (a:((List Int)×(List UInt8)×Bool)) (h:As) (l:As)
def Jib:St:=⟨(0,.agg [.d<|.int .u8 f.Base,.d<|.int .u8 f.Drop,.d<|.sl<|f.More.map EX])::(1,.d<|.sl<|i.map eU8)::(2,.d<|.int .u8 j)::[],[]⟩
def Jic:St:=⟨(7,.d<|.bool c)::(8,.ptr 0 0)::(9,.d<|.sl<|a.1.map eU8)::(10,.d<|.str a.2.1)::(12,.ptr 1 0)::[],[some<|.box<|D5 b<|.osl 2 6 0<|b.Rules.length,some<|.box<|H5 h,some<|.arr 6<|b.Rules.map Ax]⟩
def Jid:St:=⟨(7,.d<|.bool c)::(8,.ptr 0 0)::(9,.d<|.sl<|a.1.map eU8)::(10,.d<|.str a.2.1)::(12,.ptr 1 0)::[],[some<|.box<|D5 b<|.osl 2 6 0<|b.Rules.length,some<|.box<|H5 l,some<|.arr 6<|b.Rules.map Ax]⟩
def Kl:As->Ex->St->Prop:=xX 0 0<|λ (y:As)=>Jid c b a y
def Gl:As->St:=(λ (x:As)=>Jic c b a x)
variable {f i j c b a h l}
theorem Jz (x:As) (z:(As⊕As)) (H:CD n c b a x=some z):WP (cxk 104 0) (AX Try.f7) [1,1,1,1,1,1,0,0,0] (AS 0 (Gl c b a) (Kl c b a) z) (Gl c b a x):=by
 revert H;generalize x=h;intro H;refine sq<|sr<|ck 7<|gc 1 (decide<|h.To<b.Modes)<|ck 1<|gc 1 (decide<|h.To<b.Modes)<|bx H λ E m H=>soG (λ hg=>G1<|Dc m hg) (CG (λ hh=>hh)<|CG (λ hh=>hh)<|Ep)<|gc 2 (decide<|h.To<b.Modes)<|pA<|en<|cn H (λ H=>?_)<|λ H=>?_
 ·exact sk<|qz<|bk 1<|rz<|ck 5<|ae<|qN (by cases H;exact og<|sg [7,8,9,10,12])
 ·exact ex 0<|qx (by cases H;exact xo rfl<|sg [7,8,9,10,12])
theorem LO {z} (H:EI n f i j=some z):AQ Try.prog 7 [.agg (Vj f),.d (.sl (i.map eU8)),.d (.int .u8 j)] (.d (.bool z)):=by
 refine fO 104 (Jib f i j) Try.func7<|sr<|ck 2<|en<|sr<|bx H λ c o H=>ca true (Qn o)<|ck 1<|en<|sr<|ck 1<|bx H λ b p H=>cl [List.length b.Rules] (TY p)<|ck 2<|en<|sr<|ck 2<|bx H λ a q H=>cb (ks:=[1]) (obl:=[(0+List.length b.Rules,List.length<|b.Rules.map Ax)]) false (leK leM<|leZ) (Er (JbX<|Er rfl<|Er rfl<|Er TI rfl)<|Er rfl<|Er rfl rfl) (TZ q) (Or.inr ⟨(JiA λ _=>rfl),⟨trivial,⟨trivial,trivial⟩⟩⟩) rfl<|ck 7<|en<|sq<|sr<|ck 4<|sE (g:=(!(!a.2.2))) (λ hg=>AR eU8 a.1)<|gc 1 (!(!a.2.2))<|pO<|ck 2<|sE (g:=(!((!a.2.2)||(((a.1.length:Nat):Int)==0)))) (λ hg=>AR eU8 a.1)<|gc 1 (!((!a.2.2)||(((a.1.length:Nat):Int)==0)))<|pO<|en<|cn H (λ H=>?_)<|λ H=>?_
 ·exact sr<|ck 2<|en<|re<|qr (by cases H;exact pr rd)
 ·refine sk<|qz<|sr<|ck 4<|bx H λ I r H=>xv (xok _ _) (g:=true) rfl (Ep) 3 r<|ck 4<|en<|sq<|bk 0<|bx H λ G t H=>lX Jz t (sg [7,8,9,10,12]) rfl λ s u=>qH<|qs (u)<|sr<|ck 3<|en<|sr<|ck 3<|bx H λ J v H=>sp (Bp Ax 4 6 v)<|ck 2<|en<|sr<|ck 4<|bx H λ k w H=>sp (Bp Ax 5 6 w)<|ck 2<|en<|sq<|sr<|ck 1<|bx H λ A B H=>cb (ks:=[7]) (obl:=[(0+List.length k,List.length<|k.map Ax)]) false (leK leM<|leZ) (Er (JbX<|Er rfl<|Er rfl<|Er TI rfl) rfl) (Mz B) (Or.inr trivial) rfl<|ck 4<|gc 2 (!(!A))<|pO<|en<|cn H (λ H=>?_)<|λ H=>?_
  ·exact sr<|ck 2<|en<|re<|qr (by cases H;exact pr rd)
  ·exact sk<|qz<|sq<|rg (fzc (enc:=Ax) (xs:=k) 3 2 7 6)<|ck 1<|bx H λ e C H=>ca false (CQ C)<|ck 6<|en<|sr<|ck 4<|gc 1 (e.2==50)<|sE (g:=(e.2==50)) (λ hg=>AR eU8 e.1.Cells)<|ck 1<|sE (g:=(e.2==50)) (λ hg=>AR eU8 a.1)<|gc 1 (e.2==50)<|pA<|ck 2<|pA<|ck 1<|en<|re (by cases H;exact pr rd)
end
end Go.AI
end
section
namespace Go.AI
def CRd (F:Nat->Option Obj) (l:List D) (cs:List Value):Prop:=l.length=cs.length/\∀ (i:Nat) (y:D) (v:Value),l[i]?=some y->cs[i]?=some v->Ba F y v
def Hb {α:Type} (P:Program) (t:TypeId) (enc:α->List D) (ok:α->Prop):Prop:=
 ∀ (H:Type) (e:TypeId×Value->H) (w:World) (base:Nat) (spare:Nat->Bool) (held:Bool) (fuel:Nat) (cs:List Value) (x:DataW H×List MemPlace),DataW.trod e P w base spare held fuel t cs=some x->∃ a:α,ok a/\CRd (λ b=>w.heap[b]?) (enc a) cs
theorem Sr {F:Nat->Option Obj} {y:D} {v:Value} (h:Ba F y v):CRd F [y] [v]:=by
 refine⟨rfl,λ i a b ha hb=>?_⟩;cases i with
 | zero=>simp at ha hb;subst ha;subst hb;exact h
 | succ i=>simp at ha
theorem XB {P:Program} {t:TypeId} {k:IntKind} (ht:P.underlying t=some (.int k)):Hb P t (λ n=>[.int k n]) (λ n=>(Lit.int k n).wf=true):=by
 intro H e w base spare held fuel cs x h;obtain⟨n,rfl,_,hw⟩:=DataW.trod_int ht h;exact⟨n,hw,Sr (.int k n)⟩
theorem T3 {α:Type} {Q:Nat->α->Prop}:∀ n,(∀ i,i<n->∃ a,Q i a)->∃ l:List α,l.length=n/\∀ i a,l[i]?=some a->Q i a:=by
 intro n;induction n with
 | zero=>intro _;exact⟨[],rfl,λ i a h=>by simp at h⟩
 | succ n ih=>
  intro h;obtain⟨l,hl,hq⟩:=ih λ i hi=>h i (by omega);obtain⟨a,ha⟩:=h n (by omega);refine⟨l++[a],by simp[hl],λ i b hb=>?_⟩;rcases JjI i l.length with hlt|hge
  ·rw[Jj0 hlt]at hb;exact hq i b hb
  ·rw[Jka hge]at hb;have:i-l.length=0:=by have:=Ae hb;simp at this;omega
   rw[this]at hb;simp at hb;subst hb;have:i=n:=by omega
   subst this;exact ha
theorem T4 {α β:Type} {f:α->Option β}:∀ {l:List α} {r:List β},l.mapM f=some r->r.length=l.length/\∀ (i:Nat) (a:α),l[i]?=some a->r[i]?=f a:=by
 intro l;induction l with
 | nil=>intro r h;simp at h;subst h;exact⟨rfl,λ i a h=>by simp at h⟩
 | cons a l ih=>
  intro r h;rw[List.mapM_cons]at h;simp only[Option.bind_eq_bind,Option.bind_eq_some_iff,Option.pure_def,Jj2]at h;obtain⟨b,hb,r',hr',rfl⟩:=h;obtain⟨h1,h2⟩:=ih hr';refine⟨by simp[h1],λ i x hx=>?_⟩;cases i with
  | zero=>simp at hx;subst hx;simp[hb]
  | succ i=>simpa using h2 i x (by simpa using hx)
theorem Ss {α:Type} {P:Program} {t e:TypeId} {enc:α->List D} {ok:α->Prop} {sz:Nat} (ht:P.underlying t=some (.slice e)) (hsz:P.cellsOf e=sz) (h1:Nat.ble 1 sz=true) (hl:∀ a,(enc a).length=sz) (he:Hb P e enc ok):Hb P t (eL enc) (λ l=>l.length<=9223372036854775807/\∀ a∈l,ok a):=by
 intro H en w base spare held fuel cs x h;have h1:=Jj7 h1;rcases DataW.trod_slice ht h with⟨rfl,_⟩|⟨a,len,cap,elems,rest,n,_,rfl,_,_,hcap,hmx,hel,hget,_,_⟩
 ·exact⟨[],⟨by simp,λ a h=>by simp at h⟩,Sr (.sl0 _ _)⟩
 ·rw[hsz]at hget;have hex:∀ i,i<len->∃ y:α,ok y/\∃ ci,w.cells? base (a.add (i*sz)) sz=some ci/\CRd (λ b=>w.heap[b]?) (enc y) ci:=λ i hi=>by
   have hg:=hget i hi;rw[JjS (show i<elems.length by omega)]at hg;simp only[Option.bind_eq_some_iff]at hg;obtain⟨ci,hc,htr⟩:=hg;obtain⟨y,hy,hcr⟩:=he H en w base spare held n ci _ htr;exact⟨y,hy,ci,hc,hcr⟩
  obtain⟨l,hll,hq⟩:=T3 len hex;refine⟨l,⟨by unfold maxLen at hmx;omega,λ y hy=>?_⟩,Sr ?_⟩
  ·obtain⟨i,hi⟩:=List.mem_iff_getElem?.1 hy;exact(hq i y hi).1
  ·rcases Nat.eq_zero_or_pos len with h0|hpos
   ·have:l=[]:=List.length_eq_zero_iff.1 (by omega);subst this;subst h0;exact .sl0 _ _
   ·
    have hcell:∀ i y,l[i]?=some y->∀ j,j<sz->∃ v,w.cell? ((a.add (i*sz)).add j)=some v/\∀ d,(enc y)[j]?=some d->Ba (λ b=>w.heap[b]?) d v:=λ i y hy j hj=>by
     obtain⟨_,ci,hc,hcr⟩:=hq i y hy;unfold World.cells? at hc;split at hc
     ·obtain⟨g1,g2⟩:=T4 hc;have:=g2 j j (by simp[hj]);have hjc:j<ci.length:=by rw[g1];simpa using hj
      rw[JjS hjc]at this;exact⟨ci[j],this.symm,λ d hd=>hcr.2 j d _ hd (JjS hjc)⟩
     ·cases hc
    have h0:l[0]?=some l[0]:=JjS (by omega);obtain⟨v0,hv0,_⟩:=hcell 0 _ h0 0 (by omega);have ha0:(a.add (0*sz)).add 0=a:=by simp[Addr.add]
    rw[ha0]at hv0;obtain⟨b,off,spot⟩:=a;unfold World.cell? at hv0;simp only at hv0;split at hv0
    ·rename_i c ty fr hblk;cases spot with
     | some s=>simp at hv0
     | none=>
      have hcell':∀ i y,l[i]?=some y->∀ j d,(enc y)[j]?=some d->∃ v,c[off+i*sz+j]?=some v/\Ba (λ b=>w.heap[b]?) d v:=λ i y hy j d hd=>by
       have hj:j<sz:=by rw[← hl y];exact Ae hd
       obtain⟨v,hv,hr⟩:=hcell i y hy j hj;rw[BG,BG,JC hblk]at hv;exact⟨v,hv,hr d hd⟩
      have hlen:(l.map enc).length=len:=by simp[hll]
      have:=Ba.sl (F:=λ b=>w.heap[b]?) (l.map enc) b off cap sz c ty fr (λ i j=>(c[off+i*sz+j]?).getD undef) hblk (λ e he=>by
        simp only[JjK]at he;obtain⟨y,_,rfl⟩:=he;exact hl y) (by omega) (λ i e hi j d hd=>by
        simp only[JjW,JjV]at hi;obtain⟨y,hy,rfl⟩:=hi;obtain⟨v,hv,_⟩:=hcell' i y hy j d hd;simp only[hv,JjD]) (λ i e hi j d hd=>by
        simp only[JjW,JjV]at hi;obtain⟨y,hy,rfl⟩:=hi;obtain⟨v,hv,hr⟩:=hcell' i y hy j d hd;simp only[hv,JjD];exact hr)
      rw[hlen]at this;exact this
    ·cases hv0
theorem NL {α:Type} {P:Program} {t e:TypeId} {enc:α->List D} {ok:α->Prop} {sz:Nat} (ht:P.underlying t=some (.slice e)) (hsz:P.cellsOf e=sz) (h1:Nat.ble 1 sz=true) (hl:∀ a,(enc a).length=sz) (he:Hb P e enc ok):Hb P t (eL enc) (λ l=>∀ a∈l,ok a):=by
 intro H en w base spare held fuel cs x h;obtain⟨l,h1,h2⟩:=Ss ht hsz h1 hl he H en w base spare held fuel cs x h;exact⟨l,h1.2,h2⟩
theorem EC {F:Nat->Option Obj} {l m:List D} {cs:List Value} {o n:Nat} (h:CRd F l ((cs.drop o).take n)) (hn:Nat.beq l.length n=true) (h':CRd F m (cs.drop (o+n))):CRd F (l++m) (cs.drop o):=by
 have hn:=JjZ hn;have e:cs.drop o=(cs.drop o).take n++cs.drop (o+n):=by rw[← List.drop_drop,List.take_append_drop]
 rw[e];refine⟨by simp only[List.length_append,h.1,h'.1],λ i y v hy hv=>?_⟩;rcases JjI i l.length with hlt|hge
 ·rw[Jj0 hlt]at hy;rw[Jj0 (by rw[← h.1];exact hlt)]at hv;exact h.2 i y v hy hv
 ·rw[Jka hge]at hy;rw[Jka (by rw[← h.1];exact hge),← h.1]at hv;exact h'.2 _ y v hy hv
theorem Su {F:Nat->Option Obj} {cs:List Value} {o:Nat} (h:cs.length<=o):CRd F [] (cs.drop o):=by
 rw[List.drop_eq_nil_of_le h];exact⟨rfl,λ i y v hy=>by simp at hy⟩
theorem Vl {H:Type} {enc:TypeId×Value->H} {P:Program} {w:World} {base:Nat} {spare:Nat->Bool} {held:Bool} {fuel:Nat} {t e:TypeId} {n:Nat} {cs:List Value} {x:DataW H×List MemPlace} (ht:P.underlying t=some (.array n e)) (h:DataW.trod enc P w base spare held fuel t cs=some x) :
  ∃ m,cs.length=P.cellsOf t/\∀ i,i<n->∃ y,DataW.trod enc P w base spare held m e ((cs.drop (i*P.cellsOf e)).take (P.cellsOf e))=some y:=by
 cases fuel with
 | zero=>simp[DataW.trod]at h
 | succ m=>
  unfold DataW.trod at h;rw[ht]at h;split at h<;>simp_all;obtain⟨xs,hp,_⟩:=h.2;refine⟨m,λ i hi=>?_⟩;obtain⟨g1,g2⟩:=T4 hp;have:=g2 i i (by simp[hi]);have hlt:i<xs.length:=by rw[g1];simpa using hi
  rw[JjS hlt]at this;exact⟨_,_,this.symm⟩
end Go.AI
end
section
namespace Go.AI
open Go.ChangeShapes Go.WideShapes Go.ChangeAt Go.RowKit
variable {P:Program} {H:Type} {en:TypeId×Value->H} {W W':World} {base:Nat} {spare:Nat->Bool} {held:Bool} {t e:TypeId} {v:Value} {d:DataW H} {ps:List MemPlace} {α:Type} {enc:α->List D} {ok:α->Prop}
theorem JcE {cs:Array Value} (hv:v=.agg cs) (hd:DataW.Trod en P W base spare held t v d ps) (hr:Hb P t enc ok):∃ a,ok a/\Ai (λ b=>W.heap[b]?) noR (.agg ((enc a).map .d)) v:=by
 subst hv;obtain⟨fuel,hf⟩:=hd;obtain⟨a,h1,h2,h3⟩:=hr H en W base spare held fuel _ _ hf;refine⟨a,h1,.agg _ _ (by simpa [Value.cells]using h2) λ i x u hx hu=>?_⟩;simp only[JjW,JjV]at hx;obtain⟨y,hy,rfl⟩:=hx;exact .d _ _ (h3 i y u hy (by simpa [Value.cells]using hu))
theorem Wc {y:α->D} (hc:v.cells=#[v]) (hd:DataW.Trod en P W base spare held t v d ps) (hr:Hb P t enc ok) (he:∀ a,enc a=[y a]):∃ a,ok a/\Ai (λ b=>W.heap[b]?) noR (.d (y a)) v:=by
 obtain⟨fuel,hf⟩:=hd;obtain⟨a,h1,h2,h3⟩:=hr H en W base spare held fuel _ _ hf;refine⟨a,h1,.d _ _ (h3 0 (y a) v (by rw[he];rfl) (by rw[hc];rfl))⟩
theorem JgA {F:Nat->Option Obj} {ρ:Nat->Option Loc}:CR F ρ [] []:=⟨rfl,λ i a v h=>by simp at h⟩
theorem Sv {F:Nat->Option Obj} {ρ:Nat->Option Loc} {a:AV} {v:Value} {l:List AV} {vs:List Value} (h:Ai F ρ a v) (h':CR F ρ l vs):CR F ρ (a::l) (v::vs):=by
 refine⟨by simp[h'.1],λ i x u hx hu=>?_⟩;cases i with
 | zero=>simp at hx hu;subst hx;subst hu;exact h
 | succ i=>exact h'.2 i x u (by simpa using hx) (by simpa using hu)
theorem fld {w:World} {fuel:Nat} {cs:List Value} {fs:Array Field} {xs:List (DataW H×List MemPlace)} (hg:∀ (i:Nat) (f:Field),fs[i]?=some f->DataW.trod en P w base spare held fuel f.type ((cs.drop f.offset).take (P.cellsOf f.type))=xs[i]?) (hxl:xs.length=fs.size) (i:Nat) {f:Field} (hf:fs[i]?=some f) (u o n:Nat) (hu:f.type=u) (ho:f.offset=o) (hn:P.cellsOf u=n) (hr:Hb P u enc ok) :
  ∃ a,ok a/\CRd (λ b=>w.heap[b]?) (enc a) ((cs.drop o).take n):=by
 have:=hg i f hf;have hi:i<xs.length:=by rw[hxl];exact Ar hf
 rw[JjS hi,hu,ho,hn]at this;exact hr H en w base spare held fuel _ _ this
theorem Jie {w:World} {fuel:Nat} {cs:List Value} {m:Nat} (hg:∀ i,i<m->∃ y,DataW.trod en P w base spare held fuel e ((cs.drop (i*P.cellsOf e)).take (P.cellsOf e))=some y) (i:Nat) (hi:Nat.ble (i+1) m=true) (o n:Nat) (hn:P.cellsOf e=n) (ho:i*n=o) (hr:Hb P e enc ok) :
  ∃ a,ok a/\CRd (λ b=>w.heap[b]?) (enc a) ((cs.drop o).take n):=by
 obtain⟨y,hy⟩:=hg i (Jj7 hi);rw[hn,ho]at hy;exact hr H en w base spare held fuel _ _ hy
theorem Jau {f:FuncId} {args:List AV} {vs:Array Value} (hc:AQ P f args (.d (.bool true))) (hcr:CR (λ b=>W.heap[b]?) noR args vs.toList):Calls P f vs W λ e W'=>e=.returned (.bool true)/\(∀ before:List MemPlace,W.keptBut W' (·∈before))/\∀ b,b<W.heap.size->W'.heap[b]?=W.heap[b]? := by
 refine(hc.2 (λ b=>W.heap[b]?) W vs hcr λ b o h=>h).mono λ e W' h=>?_;obtain⟨v,F',ρ,rfl,hS,hr,hmu⟩:=h;have hv:v=.bool true:=by
  have:(BN true 0 (.d (.bool true))).1=.d (.bool true):=rfl;rw[this]at hr;exact hr.bool
 subst hv;have hold:∀ b,b<W.heap.size->W'.heap[b]?=W.heap[b]? := λ b hb=>hS.old b (by omega);refine⟨rfl,λ before=>World.keptBut_mono (λ p hp=>hp.elim) (?_:W.keptBut W' λ _=>False),hold⟩;refine⟨hmu.os,hmu.out,λ i hi=>?_⟩;rw[hold i hi];cases hh:W.heap[i]? with
 | none=>rfl
 | some o=>cases o<;>first|exact⟨rfl,rfl,rfl,λ _ _=>rfl⟩|exact .inr ⟨rfl,rfl⟩|rfl
theorem XC {f:Func} {s:ChangeSpec} {apart fresh handsOn again:Bool} {args:Array Value} {ds gs:List (DataW H)} {before pa pv:List MemPlace}
  (hW:DataW.Whole en P f.params.toList s.vars apart W args.toList ds gs before)
  (hres:∀ (b:Nat) (sp:Nat->Bool) (hd:Bool),DataW.TrodAll en P W' b sp hd f.resultTypes.toList (v.resultList f.resultTypes.size) (s.fn H (ds++gs)).results [])
  (hargs:∀ sp:Nat->Bool,(∀ p∈before,sp p.block=true)->DataW.TrodAll en P W' 0 sp true f.params.toList args.toList (s.fn H (ds++gs)).args pa)
  (hvars:∀ sp:Nat->Bool,(∀ p∈before,sp p.block=true)->DataW.TrodVars en P W' sp s.vars (s.fn H (ds++gs)).vars pv)
  (hps:before=pa++pv) (hk:W.keptBut W' (·∈before)) (hold:∀ b,b<W.heap.size->W'.heap[b]?=W.heap[b]?)
  (hok:∀ (j:Nat) (t:TypeId) (r:Value),f.resultTypes[j]?=some t->(v.resultList f.resultTypes.size)[j]?=some r->Value.okWide P W' .any 0 t r) :
  s.post en P f apart fresh handsOn again W args v W':=by
 have hin:∀ p∈before,(λ b=>decide (b<W.heap.size)) p.block=true:=λ p hp=>by simpa using hW.lt p hp
 have hlt:=hW.lt;refine⟨ds,gs,before,[],pa,pv,hW,hres _ _ _,hargs _ hin,hvars _ hin,World.keptBut_mono (λ p hp=>⟨hp,?_⟩) hk,λ _=>?_⟩
 ·rw[hps,List.mem_append]at hp;exact Or.inr hp
 ·obtain⟨_,_,_,_,_,hz,hn⟩:=hW;refine⟨hok,_,_,([]++pa)++pv,⟨[]++pa,pv,trodAll_append (hargs _ (λ _ _=>rfl)) (hres _ _ _),hvars _ (λ _ _=>rfl),rfl,?_,?_⟩,?_⟩
  ·intro b off hp;have hp:MemPlace.cell b off∈before:=by rw[hps];simpa using hp
   have:=hz b off hp;simp only[World.frozen?,hold b (hlt _ hp)]at this⊢;exact this
  ·intro ha;have:=hn ha;rw[hps]at this;simpa using this
  ·intro p hp _;rw[hps];simpa using hp
theorem Jav (hl:laidOutB P=true) (hr:P.readableRec t=true) (hrow:t<P.types.size) (h:DataW.Trod en P W 0 (λ _=>true) true t v d ps) (hb:∀ p∈ps,p.block<W.heap.size) {sp:Nat->Bool} (hs:∀ p∈ps,sp p.block=true) (hold:∀ b,b<W.heap.size->W'.heap[b]?=W.heap[b]?):DataW.Trod en P W' 0 sp true t v d ps:=by
 refine WideElems.Trod_stays hl hr hrow h (λ p hp=>?_) hs;have:=hb p hp;cases p with
 | cell b o=>exact World.cell?_of_block (w:=W) (hold b this)
 | map b=>exact hold b this
end Go.AI
end
section
namespace Go.AI
open Go.Proofs Go.ChangeShapes Go.WideShapes Go.ChangeAt Go.RowKit
def okI (k:IntKind) (n:Int):Prop:=(Lit.int k n).wf=true
theorem rd5:Hb Try.prog 5 eU8 (okI .u8):=XB Try.underlying5
theorem JgB:Hb Try.prog 44 (eL eU8) (λ l=>∀ a∈l,okI .u8 a):=NL (sz:=1) Try.underlying44 (by kernel_rfl) rfl (λ _=>rfl) rd5
theorem Jjb:Hb Try.prog 45 (Jh0 eU8) (λ x=>okI .u8 x.a0/\okI .u8 x.a1):=by
 intro H e w base spare held fuel cs x h;obtain⟨m,hcl,hg⟩:=Vl Try.underlying45 h;have hcl:cs.length=2:=hcl.trans (by kernel_rfl);obtain⟨a0,k0,c0⟩:=Jie hg 0 rfl 0 1 (by kernel_rfl) rfl rd5;obtain⟨a1,k1,c1⟩:=Jie hg 1 rfl 1 1 (by kernel_rfl) rfl rd5;refine⟨⟨a0,a1⟩,⟨k0,k1⟩,?_⟩;have:=EC c0 rfl (EC c1 rfl (Su (Nat.le_of_eq hcl)));exact this
def IT (x:CO):Prop:=(∀ a∈x.P,okI .u8 a)/\(∀ a∈x.C,okI .u8 a)/\okI .u8 x.L/\okI .u8 x.R/\(okI .u8 x.W.a0/\okI .u8 x.W.a1)
theorem Jjc:Hb Try.prog 47 EX IT:=by
 intro H e w base spare held fuel cs x h;obtain⟨xs,n,_,_,hcl,hxl,hg⟩:=DataW.trod_struct Try.underlying47 h;have hcl:cs.length=6:=hcl.trans (by kernel_rfl);obtain⟨a0,k0,c0⟩:=fld hg hxl 0 rfl 44 0 1 rfl rfl (by kernel_rfl) JgB;obtain⟨a1,k1,c1⟩:=fld hg hxl 1 rfl 44 1 1 rfl rfl (by kernel_rfl) JgB;obtain⟨a2,k2,c2⟩:=fld hg hxl 2 rfl 5 2 1 rfl rfl (by kernel_rfl) rd5;obtain⟨a3,k3,c3⟩:=fld hg hxl 3 rfl 5 3 1 rfl rfl (by kernel_rfl) rd5;obtain⟨a4,k4,c4⟩:=fld hg hxl 4 rfl 45 4 2 rfl rfl (by kernel_rfl) Jjb;refine⟨⟨a0,a1,a2,a3,a4⟩,⟨k0,k1,k2,k3,k4⟩,?_⟩;have:=EC c0 rfl (EC c1 rfl (EC c2 rfl (EC c3 rfl (EC c4 rfl (Su (Nat.le_of_eq hcl))))));exact this
theorem Jjd:Hb Try.prog 22 (eL EX) (λ l=>∀ a∈l,IT a):=NL (sz:=6) Try.underlying22 (by kernel_rfl) rfl (λ _=>rfl) Jjc
def Vm (x:Jn):Prop:=okI .u8 x.Base/\okI .u8 x.Drop/\(∀ a∈x.More,IT a)
theorem Jje:Hb Try.prog 24 Jh1 Vm:=by
 intro H e w base spare held fuel cs x h;obtain⟨xs,n,_,_,hcl,hxl,hg⟩:=DataW.trod_struct Try.underlying24 h;have hcl:cs.length=3:=hcl.trans (by kernel_rfl);obtain⟨a0,k0,c0⟩:=fld hg hxl 0 rfl 5 0 1 rfl rfl (by kernel_rfl) rd5;obtain⟨a1,k1,c1⟩:=fld hg hxl 1 rfl 5 1 1 rfl rfl (by kernel_rfl) rd5;obtain⟨a2,k2,c2⟩:=fld hg hxl 2 rfl 22 2 1 rfl rfl (by kernel_rfl) Jjd;refine⟨⟨a0,a1,a2⟩,⟨k0,k1,k2⟩,?_⟩;have:=EC c0 rfl (EC c1 rfl (EC c2 rfl (Su (Nat.le_of_eq hcl))));exact this
end Go.AI
end
section
namespace Go.AI
def Le {α:Type} (a b:Option α):Prop:=∀ z,a=some z->b=some z
theorem Le.refl {α:Type} (a:Option α):Le a a:=λ _ h=>h
theorem Le.bind {α β:Type} {a a':Option α} {f f':α->Option β} (h:Le a a') (hf:∀ x,Le (f x) (f' x)):Le (a.bind f) (a'.bind f'):=by
 intro z hz;obtain⟨x,h1,h2⟩:=bind_some hz;rw[h x h1];exact hf x z h2
theorem Le.ite {α:Type} {c:Prop} [Decidable c] {a a' b b':Option α} (h:Le a a') (h':Le b b'):Le (if c then a else b) (if c then a' else b'):=by
 split
 ·exact h
 ·exact h'
theorem Le.whl {σ ρ:Type} {body body':σ->Option (σ⊕ρ)} (hb:∀ x,Le (body x) (body' x)):∀ {n m:Nat},n<=m->∀ x,Le (whl body n x) (whl body' m x):=by
 intro n;induction n with
 | zero=>intro m _ x z hz;cases hz
 | succ n ih=>
  intro m hm x z hz;cases m with
  | zero=>omega
  | succ m=>
   simp only[Go.AI.whl]at hz⊢;cases hx:body x with
   | none=>rw[hx]at hz;cases hz
   | some y=>
    rw[hb x y hx];rw[hx]at hz;cases y with
    | inl y=>exact ih (by omega) y z hz
    | inr r=>exact hz
def Ev {α:Type} (f:Nat->Option α) (z:α):Prop:=∃ n,∀ m,n<=m->f m=some z
theorem Ev.const {α:Type} {z:α}:Ev (λ _=>some z) z:=⟨0,λ _ _=>rfl⟩
theorem Ev.of {α:Type} {f:Nat->Option α} {z:α} (hm:∀ n m,n<=m->Le (f n) (f m)) {n:Nat} (h:f n=some z):Ev f z:=⟨n,λ m hnm=>hm n m hnm z h⟩
theorem Ev.all {α:Type} {f:Nat->Option α} {z:α} (h:∀ n,f n=some z):Ev f z:=⟨0,λ m _=>h m⟩
theorem Ev.bind {α β:Type} {f:Nat->Option α} {g:Nat->α->Option β} {x:α} {z:β} (h:Ev f x) (hg:Ev (λ n=>g n x) z):Ev (λ n=>(f n).bind (g n)) z:=by
 obtain⟨n,hn⟩:=h;obtain⟨m,hm⟩:=hg;refine⟨max n m,λ k hk=>?_⟩;show(f k).bind (g k)=_;rw[hn k (by omega)];exact hm k (by omega)
theorem Ev.out {α:Type} {f:Nat->Option α} {z:α} (h:Ev f z):∃ n,f n=some z:=by
 obtain⟨n,hn⟩:=h;exact⟨n,hn n (JjH n)⟩
theorem Ev.congr {α:Type} {f g:Nat->Option α} {z:α} (h:Ev f z) (e:∀ n,g n=f n):Ev g z:=by
 obtain⟨n,hn⟩:=h;exact⟨n,λ m hm=>by rw[e m];exact hn m hm⟩
theorem Ev.whl {σ ρ:Type} {body:Nat->σ->Option (σ⊕ρ)} {r:ρ} (I:Nat->σ->Prop) (h:∀ k x,I k x->(∃ y j,j<k/\I j y/\Ev (λ n=>body n x) (.inl y))\/Ev (λ n=>body n x) (.inr r)):∀ (k:Nat) (x:σ),I k x->Ev (λ n=>Go.AI.whl (body n) n x) r:=by
 have key:∀ (k:Nat) (x:σ),I k x->∃ N c,∀ n fuel,N<=n->c<=fuel->Go.AI.whl (body n) fuel x=some r:=by
  intro k;induction k using Nat.strongRecOn with
  | _ k ih=>
   intro x hx;rcases h k x hx with⟨y,j,hj,hy,N1,h1⟩|⟨N1,h1⟩
   ·obtain⟨N2,c,h2⟩:=ih j hj y hy;refine⟨max N1 N2,c+1,λ n fuel hn hf=>?_⟩;cases fuel with
    | zero=>omega
    | succ fuel=>
     have e:=h1 n (by omega);simp only at e;simp only[Go.AI.whl,e];exact h2 n fuel (by omega) (by omega)
   ·refine⟨N1,1,λ n fuel hn hf=>?_⟩;cases fuel with
    | zero=>omega
    | succ fuel=>
     have e:=h1 n hn;simp only at e;simp only[Go.AI.whl,e]
 intro k x hx;obtain⟨N,c,hh⟩:=key k x hx;exact⟨max N c,λ m hm=>hh m m (by omega) (by omega)⟩
end Go.AI
end
section
namespace Go.AI
variable {α ε σ ρ ζ β:Type}
theorem Le.dem {S:α->Prop} {k k':α->Option ζ} (h:∀ a,Le (k a) (k' a)):Le (dem S k) (dem S k'):=by
 intro z hz;have h1:=Zd hz;have h0:∃ a,S a:=by
  unfold Go.AI.dem at hz;split at hz
  ·rename_i hx;exact hx.choose_spec.1
  ·cases hz
 exact Ze h0 λ a ha=>h a _ (h1 a ha)
end Go.AI
end
section
namespace Go.AI
theorem Vn (a:Int):IntKind.i64.wrap a=if decide (a % 18446744073709551616>=9223372036854775808)=true then a % 18446744073709551616-18446744073709551616 else a % 18446744073709551616:=rfl
theorem Q9 (a:Int):IntKind.u8.wrap a=a % 256:=rfl
theorem PN {a:Int} (h:-9223372036854775808<=a) (h':a<9223372036854775808):IntKind.i64.wrap a=a:=by
 rw[Vn];split
 ·rename_i hc;simp at hc;omega
 ·rename_i hc;simp at hc;omega
theorem PO {a b:Int} (h:-9223372036854775808<=a+b) (h':a+b<9223372036854775808):A9 .i64 a b=a+b:=PN h h'
theorem Vo {a b:Int} (h:-9223372036854775808<=a-b) (h':a-b<9223372036854775808):IC .i64 a b=a-b:=PN h h'
theorem Jif {a:Int} (h:0<=a) (h':a<256):IntKind.u8.wrap a=a:=by
 rw[Q9];omega
theorem T5 (a:Int):0<=IntKind.u8.wrap a/\IntKind.u8.wrap a<256:=by
 rw[Q9];omega
def HM (m k:Int):Bool:=decide (0<=k)&&decide (k<8)&&(B0 .u8 (Xc .u8 m k) 1==1)
theorem Jaw (n:Nat) (m k:Int):IF n m k=some (HM m k):=by
 unfold IF HM;by_cases h:0<=k
 ·by_cases h':k<8<;>simp[h,h',BP]
 ·simp[h]
theorem Jax (n:Nat) (m k:Int):IJ n m k=some (HM m k):=by
 unfold IJ HM;by_cases h:0<=k
 ·by_cases h':k<8<;>simp[h,h',BP]
 ·simp[h]
def Fp (b:Int):Int:=
 if(decide (97<=B0 .u8 b 127)&&decide (B0 .u8 b 127<=122))=true then 1
 else if(decide (65<=B0 .u8 b 127)&&decide (B0 .u8 b 127<=90))=true then 2
 else if(decide (48<=B0 .u8 b 127)&&decide (B0 .u8 b 127<=57))=true then 3
 else if(B0 .u8 b 127==32)=true then 4 else 5
theorem T6 (n:Nat) (b:Int):GM n b=some (Fp b):=by
 unfold GM Fp;split
 ·rfl
 ·split
  ·rfl
  ·split
   ·rfl
   ·split<;>rfl
theorem XD (n:Nat) (b:Int):H4 n b=some (Fp b):=by
 unfold H4 Fp;simp only[ge_iff_le];split
 ·rfl
 ·split
  ·rfl
  ·split
   ·rfl
   ·split<;>rfl
theorem NM (b:Int):1<=Fp b/\Fp b<=5:=by
 unfold Fp;split
 ·omega
 ·split
  ·omega
  ·split
   ·omega
   ·split<;>omega
def NN (s:List UInt8) (i:Nat):Int:=(s[i]?.getD 0).toNat
theorem MB {s:List UInt8} {i:Nat} (h:i<s.length):HV s (i:Int)=some (NN s i):=by
 unfold HV NN;rw[if_pos (by omega)];simp
def Wd:Ad:=⟨0,0,0⟩
def Lp (r:As) (s:Ad):Ad×Bool:=
 if((r.From != s.Mode)||!HM r.Left s.Last)=true then(Wd,false)
 else if(r.Print==[])=true then
  (if(B0 .u8 s.Need r.Right==0)=true then(Wd,false)else(⟨r.To,s.Last,B0 .u8 s.Need r.Right⟩,true))
 else if(!HM s.Need (Fp (NN r.Print 0)))=true then(Wd,false)
 else(⟨r.To,Fp (NN r.Print (r.Print.length-1)),r.Right⟩,true)
def Bq (t:Ab) (s:Ad) (k:Int):Ad×Bool:=
 if(decide (k<0)||decide (k>=(t.Rules.length:Int)))=true then(Wd,false)else Lp (t.Rules[k.toNat]?.getD default) s
def Jay (t:Ab):Prop:=∀ r∈t.Rules,r.Print.length<9223372036854775808
theorem PP {α:Type} [Inhabited α] {l:List α} {k:Int} (h:0<=k) (h':k<l.length):idx l k=some (l[k.toNat]?.getD default):=by
 unfold idx;rw[if_pos h];have:k.toNat<l.length:=by omega
 simp[this]
theorem Oh {t:Ab} (ht:Jay t) (n:Nat) (s:Ad) (k:Int):JR n t s k=some (Bq t s k):=by
 unfold JR Bq;by_cases hk:(decide (k<0)||decide (k>=(t.Rules.length:Int)))=true
 ·rw[if_pos hk,if_pos hk];rfl
 ·rw[if_neg hk,if_neg hk];simp only[Jkb,decide_eq_true_eq,not_or,Int.not_lt,ge_iff_le,Int.not_le]at hk;rw[PP hk.1 hk.2];have hmem:(t.Rules[k.toNat]?.getD default)∈t.Rules:=by
   have:k.toNat<t.Rules.length:=by omega
   simp[this]
  have hlen:=ht _ hmem;generalize t.Rules[k.toNat]?.getD default=r at hlen⊢;simp only[Jjy,Jaw,T6];unfold Lp;by_cases h1:r.From=s.Mode
  ·simp only[h1,bne_self_eq_false,Bool.not_false,if_true,Jjy,Bool.false_or];by_cases h2:HM r.Left s.Last=true
   ·simp only[h2,JjF,Jj4,if_false];by_cases h3:r.Print=[]
    ·simp only[h3,beq_self_eq_true,if_true];split<;>rfl
    ·have h3':(r.Print==[])=false:=by simpa using h3
     have hpos:0<r.Print.length:=List.length_pos_iff.2 h3;simp only[h3',Jj4,if_false];have e0:=MB (s:=r.Print) (i:=0) hpos;simp only[Int.natCast_zero]at e0;rw[e0];have e1:IC .i64 ((r.Print.length:Nat):Int) 1=((r.Print.length-1:Nat):Int):=by rw[Vo (by omega) (by omega)];omega
     rw[e1,MB (by omega)];simp only[Jjy];split<;>rfl
   ·have h2:HM r.Left s.Last=false:=by simpa using h2
    simp only[h2,Bool.not_false,if_true];rfl
  ·have h1':(r.From != s.Mode)=true:=by simpa using h1
   simp only[h1',JjF,Jj4,if_false,Jjy,Bool.true_or,if_true];rfl
end Go.AI
end
section
namespace Go.AI
theorem Ak {α:Type} {l:List α} {i:Nat} {x:α} (h:l[i]?=some x):i<l.length:=(List.getElem?_eq_some_iff.1 h).1
theorem T7 {t:Ab} (ht:Jay t) (n:Nat) (s:Ad) (k:Int):JS n t s k=some (Bq t s k):=by
 unfold JS Bq;by_cases hk:(decide (k<0)||decide (k>=(t.Rules.length:Int)))=true
 ·rw[if_pos hk,if_pos hk];rfl
 ·rw[if_neg hk,if_neg hk];simp only[Jkb,decide_eq_true_eq,not_or,Int.not_lt,ge_iff_le,Int.not_le]at hk;rw[PP hk.1 hk.2];have hmem:(t.Rules[k.toNat]?.getD default)∈t.Rules:=by
   have:k.toNat<t.Rules.length:=by omega
   simp[this]
  have hlen:=ht _ hmem;generalize t.Rules[k.toNat]?.getD default=r at hlen⊢;simp only[Jjy,Jax,XD];unfold Lp;by_cases h1:r.From=s.Mode
  ·simp only[h1,bne_self_eq_false,Bool.not_false,if_true,Jjy,Bool.false_or];by_cases h2:HM r.Left s.Last=true
   ·simp only[h2,JjF,Jj4,if_false];by_cases h3:r.Print=[]
    ·simp only[h3,List.length_nil,Int.natCast_zero,beq_self_eq_true,Bool.true_and,if_true];split<;>rfl
    ·have h3':(r.Print==[])=false:=by simpa using h3
     have hpos:0<r.Print.length:=List.length_pos_iff.2 h3;have h4:(((r.Print.length:Nat):Int)==0)=false:=by simp;omega
     simp only[h3',h4,Bool.false_and,Jj4,if_false];have e0:=MB (s:=r.Print) (i:=0) hpos;simp only[Int.natCast_zero]at e0;rw[e0];have e1:IC .i64 ((r.Print.length:Nat):Int) 1=((r.Print.length-1:Nat):Int):=by rw[Vo (by omega) (by omega)];omega
     rw[e1,MB (by omega)];simp only[Jjy];split<;>rfl
   ·have h2:HM r.Left s.Last=false:=by simpa using h2
    simp only[h2,Bool.not_false,if_true];rfl
  ·have h1':(r.From != s.Mode)=true:=by simpa using h1
   simp only[h1',JjF,Jj4,if_false,Jjy,Bool.true_or,if_true];rfl
def Bl (t:Ab) (s:Ad):Bool:=decide (s.Mode<t.Modes)&&HM t.Accept s.Mode&&HM s.Need 0
theorem PR (n:Nat) (t:Ab) (s:Ad):F3 n t s=some (Bl t s):=by
 unfold F3 Bl;simp only[Jaw];by_cases h1:s.Mode<t.Modes
 ·cases h2:HM t.Accept s.Mode<;>simp[h1]
 ·simp[h1]
theorem T8 (n:Nat) (t:Ab) (s:Ad):Hv n t s=some (Bl t s):=by
 unfold Hv Bl;simp only[Jax];have h0:¬ (0<=s.Mode)->HM t.Accept s.Mode=false:=λ h=>by simp[HM,h]
 by_cases h:0<=s.Mode
 ·by_cases h1:s.Mode<t.Modes
  ·cases h2:HM t.Accept s.Mode<;>simp[h,h1]
  ·simp[h1]
 ·simp[h,h0 h]
end Go.AI
end
section
namespace Go.AI
theorem PS (a b:Int) (h:0<=b) (h':b<256):0<=B0 .u8 a b/\B0 .u8 a b<=b:=by
 unfold B0;have hb:(BitVec.ofInt 8 b).toNat=b.toNat:=by
  rw[BitVec.toNat_ofInt];omega
 have hle:(BitVec.ofInt 8 a &&& BitVec.ofInt 8 b).toNat<=b.toNat:=by
  rw[BitVec.toNat_and,hb];exact Nat.and_le_right
 have e:(BitVec.ofInt IntKind.u8.bits a &&& BitVec.ofInt IntKind.u8.bits b).toNat=(BitVec.ofInt 8 a &&& BitVec.ofInt 8 b).toNat:=rfl;rw[e,Jif (by omega) (by omega)];omega
def Km (r:As):Prop:=0<=r.To/\r.To<2/\0<=r.Right/\r.Right<=63/\r.Print.length<=3
def Gz (t:Ab):Prop:=t.Rules.length<=11/\∀ r∈t.Rules,Km r
theorem Gz.short {t:Ab} (h:Gz t):Jay t:=λ r hr=>by have:=(h.2 r hr).2.2.2.2;omega
def InU (s:Ad):Prop:=0<=s.Mode/\s.Mode<2/\0<=s.Last/\s.Last<=5/\0<=s.Need/\s.Need<=63
def JgC:List Ad:=(List.range 768).map λ i=>⟨(i / 384:Nat),(i / 64 % 6:Nat),(i % 64:Nat)⟩
theorem Jaz {s:Ad} (h:InU s):s∈JgC:=by
 obtain⟨h1,h2,h3,h4,h5,h6⟩:=h;obtain⟨m,l,d⟩:=s;simp only at h1 h2 h3 h4 h5 h6;simp only[JgC,JjK,List.mem_range];refine⟨m.toNat*384+l.toNat*64+d.toNat,by omega,?_⟩;have e1:(m.toNat*384+l.toNat*64+d.toNat) / 384=m.toNat:=by omega
 have e2:(m.toNat*384+l.toNat*64+d.toNat) / 64 % 6=l.toNat:=by omega
 have e3:(m.toNat*384+l.toNat*64+d.toNat) % 64=d.toNat:=by omega
 rw[e1,e2,e3];congr 1<;>omega
theorem JaA {l m:List Ad} (h:l.Nodup) (hs:∀ x∈l,x∈m):l.length<=m.length:=by
 induction l generalizing m with
 | nil=>simp
 | cons a l ih=>
  rw[List.nodup_cons]at h;have ha:=hs a (by simp);have hlen:(m.erase a).length=m.length-1:=List.length_erase_of_mem ha;have hpos:0<m.length:=List.length_pos_of_mem ha;have:=ih (m:=m.erase a) h.2 λ x hx=>by
   have hne:x≠a:=λ e=>h.1 (e▸hx);exact(List.mem_erase_of_ne hne).2 (hs x (by simp[hx]))
  simp;omega
theorem JaB {l:List Ad} (h:l.Nodup) (hs:∀ x∈l,InU x):l.length<=768:=by
 have:=JaA h λ x hx=>Jaz (hs x hx);simpa [JgC]using this
theorem JaC {t:Ab} (ht:Gz t) {s:Ad} (hs:InU s) {k:Int} (h:(Bq t s k).2=true):InU (Bq t s k).1:=by
 unfold Bq at h⊢;split at h
 ·cases h
 ·rename_i hk;rw[if_neg hk];simp only[Jkb,decide_eq_true_eq,not_or,Int.not_lt,ge_iff_le,Int.not_le]at hk;have hmem:(t.Rules[k.toNat]?.getD default)∈t.Rules:=by
   have:k.toNat<t.Rules.length:=by omega
   simp[this]
  have hr:=ht.2 _ hmem;generalize t.Rules[k.toNat]?.getD default=r at hr h⊢;obtain⟨a1,a2,a3,a4,a5⟩:=hr;obtain⟨b1,b2,b3,b4,b5,b6⟩:=hs;unfold Lp at h⊢;split at h
  ·cases h
  ·rename_i h1;rw[if_neg h1];split at h
   ·rename_i h2;rw[if_pos h2];split at h
    ·cases h
    ·rename_i h3;rw[if_neg h3];have:=PS s.Need r.Right a3 (by omega);exact⟨a1,a2,b3,b4,this.1,by show B0 .u8 s.Need r.Right<=63;omega⟩
   ·rename_i h2;rw[if_neg h2];split at h
    ·cases h
    ·rename_i h3;rw[if_neg h3];have:=NM (NN r.Print (r.Print.length-1));exact⟨a1,a2,by show 0<=Fp _;omega,by show Fp _<=5;omega,a3,a4⟩
def Eo:Ad:=⟨0,0,63⟩
def K2 (t:Ab) (s:Ad) (st:List Ad) (k:Nat):List Ad:=if(Bq t s k).2=true/\(Bq t s k).1 ∉ st then st++[(Bq t s k).1]else st
def N4 (t:Ab) (s:Ad) (m:Nat) (st:List Ad):List Ad:=(List.range m).foldl (K2 t s) st
theorem KL (t:Ab) (s:Ad) (m:Nat) (st:List Ad):N4 t s (m+1) st=K2 t s (N4 t s m st) m:=by
 simp[N4,List.range_succ]
def T9 (t:Ab):Nat->Nat->List Ad->List Ad
 | 0,_,st=>st
 | f+1,i,st=>match st[i]? with
  | some s=>T9 t f (i+1) (N4 t s t.Rules.length st)
  | none=>st
def AP (t:Ab):List Ad:=T9 t 800 0 [Eo]
structure Fv (t:Ab) (st:List Ad):Prop where
 nodup:st.Nodup
 inU:∀ s∈st,InU s
 first:st[0]?=some Eo
 origin:∀ (j:Nat) (s:Ad),st[j]?=some s->0<j->∃ (i:Nat) (s':Ad) (k:Nat),i<j/\st[i]?=some s'/\k<t.Rules.length/\Bq t s' k=(s,true)
theorem Fv.len {t:Ab} {st:List Ad} (h:Fv t st):st.length<=768:=JaB h.nodup h.inU
theorem Fv.add {t:Ab} (ht:Gz t) {st:List Ad} (h:Fv t st) {i:Nat} {s:Ad} (hi:st[i]?=some s) {k:Nat} (hk:k<t.Rules.length):Fv t (K2 t s st k):=by
 unfold K2;split
 ·rename_i hc;have hil:=Ak hi;refine⟨?_,λ x hx=>?_,?_,λ j x hj h0=>?_⟩
  ·rw[List.nodup_append];refine⟨h.nodup,by simp,λ a ha b hb=>?_⟩;simp at hb;subst hb;exact λ e=>hc.2 (e▸ha)
  ·simp only[List.mem_append,List.mem_singleton]at hx;rcases hx with hx|rfl
   ·exact h.inU x hx
   ·exact JaC ht (h.inU s (JjU hi)) hc.1
  ·rw[Jj0 (by omega)];exact h.first
  ·rcases JjI j st.length with hlt|hge
   ·rw[Jj0 hlt]at hj;obtain⟨i',s',k',a1,a2,a3,a4⟩:=h.origin j x hj h0;exact⟨i',s',k',a1,by rw[Jj0 (by omega)];exact a2,a3,a4⟩
   ·rw[Jka hge]at hj;have:j-st.length=0:=by have:=Ak hj;simp at this;omega
    rw[this]at hj;simp at hj;subst hj;refine⟨i,s,k,by omega,by rw[Jj0 hil];exact hi,hk,?_⟩;exact Prod.ext rfl hc.1
 ·exact h
theorem Ua (t:Ab) (s:Ad) (st:List Ad) (k:Nat):st <+: K2 t s st k:=by
 unfold K2;split
 ·exact List.prefix_append _ _
 ·exact List.prefix_refl _
theorem Ic (t:Ab) (s:Ad) (st:List Ad):∀ m,st <+: N4 t s m st:=by
 intro m;induction m with
 | zero=>exact List.prefix_refl _
 | succ m ih=>rw[KL];exact ih.trans (Ua _ _ _ _)
theorem CF {α:Type} {l m:List α} (h:l <+: m) {i:Nat} {x:α} (hi:l[i]?=some x):m[i]?=some x:=by
 obtain⟨r,rfl⟩:=h;rw[Jj0 (Ak hi)];exact hi
theorem Fv.exp {t:Ab} (ht:Gz t) {st:List Ad} (h:Fv t st) {i:Nat} {s:Ad} (hi:st[i]?=some s):∀ m,m<=t.Rules.length->Fv t (N4 t s m st):=by
 intro m;induction m with
 | zero=>intro _;exact h
 | succ m ih=>
  intro hm;rw[KL];exact(ih (by omega)).add ht (CF (Ic t s st m) hi) (by omega)
theorem JaD (t:Ab) (s:Ad) (st:List Ad):∀ m k:Nat,k<m->(Bq t s k).2=true->(Bq t s k).1∈N4 t s m st:=by
 intro m;induction m with
 | zero=>intro k hk;omega
 | succ m ih=>
  intro k hk h;rw[KL];by_cases e:k=m
  ·subst e;unfold K2;by_cases hc:(Bq t s k).1∈N4 t s k st
   ·rw[if_neg (λ hh=>hh.2 hc)];exact hc
   ·rw[if_pos ⟨h,hc⟩];simp
  ·exact(Ua t s _ m).subset (ih k (by omega) h)
def JaE (t:Ab) (i:Nat) (st:List Ad):Prop:=∀ (j:Nat) (s:Ad),j<i->st[j]?=some s->∀ k:Nat,k<t.Rules.length->(Bq t s k).2=true->(Bq t s k).1∈st
theorem JgD {t:Ab} (ht:Gz t):∀ (f i:Nat) (st:List Ad),Fv t st->JaE t i st->768<f+i->Fv t (T9 t f i st)/\∀ i',JaE t i' (T9 t f i st):=by
 intro f;induction f with
 | zero=>
  intro i st h hd hf;have:=h.len;refine⟨h,λ i' j s hj hs=>?_⟩;have hs:st[j]?=some s:=hs;exact hd j s (by have:=Ak hs;omega) hs
 | succ f ih=>
  intro i st h hd hf;simp only[T9];cases hi:st[i]? with
  | none=>
   refine⟨h,λ i' j s hj hs=>?_⟩;have hs:st[j]?=some s:=hs;exact hd j s (by have:=Ak hs;rw[List.getElem?_eq_none_iff]at hi;omega) hs
  | some s=>
   refine ih (i+1) _ (h.exp ht hi _ (JjH _)) (λ j x hj hx k hk hk2=>?_) (by omega);by_cases e:j=i
   ·subst e;have:=CF (Ic t s st t.Rules.length) hi;rw[this]at hx;cases hx;exact JaD t s st _ k hk hk2
   ·have hjl:j<st.length:=by have:=Ak hi;omega
    have hxx:st[j]?=some st[j]:=JjS hjl;have:=CF (Ic t s st t.Rules.length) hxx;rw[this]at hx;cases hx;exact(Ic t s st t.Rules.length).subset (hd j _ (by omega) hxx k hk hk2)
theorem Ed {t:Ab} (ht:Gz t):Fv t (AP t)/\∀ i,JaE t i (AP t):=by
 refine JgD ht 800 0 [Eo] ⟨by simp,λ s hs=>?_,rfl,λ j s hj h0=>?_⟩ (λ j s hj=>by omega) (by omega)
 ·simp at hs;subst hs;exact⟨by decide,by decide,by decide,by decide,by decide,by decide⟩
 ·cases j with
  | zero=>omega
  | succ j=>simp at hj
end Go.AI
end
section
namespace Go.AI
theorem Jjn {σ ρ:Type} {body:Nat->σ->Option (σ⊕ρ)} {R:ρ->Prop} (I:Nat->σ->Prop) (h:∀ k x,I k x->(∃ y j,j<k/\I j y/\Ev (λ n=>body n x) (.inl y))\/∃ r,R r/\Ev (λ n=>body n x) (.inr r)):∀ (k:Nat) (x:σ),I k x->∃ r,R r/\Ev (λ n=>Go.AI.whl (body n) n x) r:=by
 have key:∀ (k:Nat) (x:σ),I k x->∃ r,R r/\∃ N c,∀ n fuel,N<=n->c<=fuel->Go.AI.whl (body n) fuel x=some r:=by
  intro k;induction k using Nat.strongRecOn with
  | _ k ih=>
   intro x hx;rcases h k x hx with⟨y,j,hj,hy,N1,h1⟩|⟨r,hr,N1,h1⟩
   ·obtain⟨r,hr,N2,c,h2⟩:=ih j hj y hy;refine⟨r,hr,max N1 N2,c+1,λ n fuel hn hf=>?_⟩;cases fuel with
    | zero=>omega
    | succ fuel=>
     have e:=h1 n (by omega);simp only at e;simp only[Go.AI.whl,e];exact h2 n fuel (by omega) (by omega)
   ·refine⟨r,hr,N1,1,λ n fuel hn hf=>?_⟩;cases fuel with
    | zero=>omega
    | succ fuel=>
     have e:=h1 n hn;simp only at e;simp only[Go.AI.whl,e]
 intro k x hx;obtain⟨r,hr,N,c,hh⟩:=key k x hx;exact⟨r,hr,max N c,λ m hm=>hh m m (by omega) (by omega)⟩
def Jj (st:List Ad) (nb:List (Ad×Int)):Prop:=∀ s,BJ s nb=(st.findIdx? λ x=>decide (x=s)).map λ i=>(i:Int)
theorem Dl {st:List Ad} {s:Ad} {i:Nat} (hn:st.Nodup) (h:st[i]?=some s):(st.findIdx? λ x=>decide (x=s))=some i:=by
 have hi:=Ak h;rw[List.findIdx?_eq_some_iff_getElem];have he:st[i]=s:=by rw[JjS hi]at h;exact Option.some.inj h
 refine⟨hi,by simpa using he,λ j hj=>?_⟩;simp only[JjG,decide_eq_false_iff_not];intro e;have:=(List.getElem_inj (i:=j) (j:=i) (h₀:=by omega) (h₁:=hi) hn).1 (by rw[e,he]);omega
theorem IU {st:List Ad} {s:Ad} (h:s ∉ st):(st.findIdx? λ x=>decide (x=s))=none:=by
 rw[List.findIdx?_eq_none_iff];intro y hy;simp only[decide_eq_false_iff_not];exact λ e=>h (e▸hy)
theorem Id {κ α:Type} [DecidableEq κ] (k k':κ) (v:α) (m:List (κ×α)):BJ k' (DY k v m)=if k'=k then some v else BJ k' m:=by
 induction m with
 | nil=>simp[DY,BJ]
 | cons p m ih=>
  simp only[DY];by_cases h:k=p.1
  ·rw[if_pos h];simp only[BJ];by_cases h':k'=k
   ·simp[h']
   ·have:k'≠p.1:=λ e=>h' (e.trans h.symm);simp[h',this]
  ·rw[if_neg h];simp only[BJ];by_cases h':k'=p.1
   ·have:k'≠k:=λ e=>h (e▸h');rw[if_pos h',if_neg this,if_pos h']
   ·rw[if_neg h',if_neg h',ih]
theorem Jj.snoc {st:List Ad} {nb:List (Ad×Int)} (h:Jj st nb) (hn:st.Nodup) {p:Ad} (hp:p ∉ st):Jj (st++[p]) (DY p (st.length:Nat) nb):=by
 intro s;rw[Id];have hnd:(st++[p]).Nodup:=by
  rw[List.nodup_append];exact⟨hn,by simp,λ a ha b hb=>by simp at hb;subst hb;exact λ e=>hp (e▸ha)⟩
 by_cases e:s=p
 ·subst e;rw[if_pos rfl,Dl hnd (i:=st.length) (by simp)];rfl
 ·rw[if_neg e,h s];by_cases hs:s∈st
  ·obtain⟨i,hi⟩:=List.mem_iff_getElem?.1 hs;rw[Dl hn hi,Dl hnd (i:=i) (by rw[Jj0 (Ak hi)];exact hi)]
  ·rw[IU hs,IU (by simp[hs,e])]
def Hc (i m j k:Nat):Prop:=j<i\/(j=i/\k<m)
structure CV (t:Ab) (st:List Ad) (fr:List (List Int)) (i m:Nat):Prop where
 len:fr.length=st.length
 cov:∀ j s k,Hc i m j k->st[j]?=some s->k<t.Rules.length->(Bq t s (k:Nat)).2=true->(Bq t s (k:Nat)).1∈st
 sound:∀ (n:Nat) l,fr[n]?=some l->∀ x∈l,∃ (j:Nat) (s:Ad) (k:Nat) (s':Ad),x=(j:Int)/\st[j]?=some s/\k<t.Rules.length/\st[n]?=some s'/\Bq t s (k:Nat)=(s',true)
 compl:∀ (n:Nat) l,fr[n]?=some l->∀ (j:Nat) (s:Ad) (k:Nat) (s':Ad),Hc i m j k->st[j]?=some s->k<t.Rules.length->st[n]?=some s'->Bq t s (k:Nat)=(s',true)->(j:Int)∈l
 small:∀ (n:Nat) l,fr[n]?=some l->l.length<=i*11+m
theorem CV.snoc {t:Ab} {st:List Ad} {fr:List (List Int)} {i m:Nat} (h:CV t st fr i m) {p:Ad} (hp:p ∉ st) (hi:i<st.length):CV t (st++[p]) (fr++[[]]) i m:=by
 have hget:∀ (j:Nat) s,Hc i m j 0\/j<=i->(st++[p])[j]?=some s->st[j]?=some s:=λ j s hj hs=>by
  rcases JjI j st.length with hlt|hge
  ·rwa[Jj0 hlt]at hs
  ·rcases hj with (h1|⟨h1,_⟩)|h1<;>omega
 have hle:∀ {j k},Hc i m j k->j<=i:=λ h=>by rcases h with h|⟨h,_⟩<;>omega
 refine⟨by simp[h.len],λ j s k ht hs hk h2=>?_,λ n l hl x hx=>?_,λ n l hl j s k s' ht hs hk hs' he=>?_,λ n l hl=>?_⟩
 ·exact List.mem_append_left _ (h.cov j s k ht (hget j s (.inr (hle ht)) hs) hk h2)
 ·rcases JjI n fr.length with hlt|hge
  ·rw[Jj0 hlt]at hl;obtain⟨j,s,k,s',a1,a2,a3,a4,a5⟩:=h.sound n l hl x hx;exact⟨j,s,k,s',a1,by rw[Jj0 (Ak a2)];exact a2,a3,by rw[Jj0 (Ak a4)];exact a4,a5⟩
  ·rw[Jka hge]at hl;have:n-fr.length=0:=by have:=Ak hl;simp at this;omega
   rw[this]at hl;simp at hl;subst hl;simp at hx
 ·have hs0:=hget j s (.inr (hle ht)) hs;have hmem:s'∈st:=by have:=h.cov j s k ht hs0 hk (by rw[he]);rwa[he]at this
  rcases JjI n fr.length with hlt|hge
  ·rw[Jj0 hlt]at hl;rw[Jj0 (by rw[← h.len];exact hlt)]at hs';exact h.compl n l hl j s k s' ht hs0 hk hs' he
  ·have hn:n=st.length:=by have:=Ak hs';simp at this;rw[h.len]at hge;omega
   subst hn;simp at hs';subst hs';exact absurd hmem hp
 ·rcases JjI n fr.length with hlt|hge
  ·rw[Jj0 hlt]at hl;exact h.small n l hl
  ·rw[Jka hge]at hl;have:n-fr.length=0:=by have:=Ak hl;simp at this;omega
   rw[this]at hl;simp at hl;subst hl;simp
theorem CV.put {t:Ab} {st:List Ad} {fr:List (List Int)} {i m:Nat} (h:CV t st fr i m) (hnd:st.Nodup) {s p:Ad} {q:Nat} {l:List Int} (hs:st[i]?=some s) (hm:m<t.Rules.length) (hst:Bq t s (m:Nat)=(p,true)) (hq:st[q]?=some p) (hl:fr[q]?=some l):CV t st (fr.set q (l++[(i:Int)])) i (m+1):=by
 have htk:∀ {j k},Hc i (m+1) j k->Hc i m j k\/(j=i/\k=m):=λ {j k} h=>by
  unfold Hc at *;omega
 have hql:=Ak hl;refine⟨by simp[h.len],λ j x k ht hx hk h2=>?_,λ n l' hl' x hx=>?_,λ n l' hl' j x k x' ht hx hk hx' he=>?_,λ n l' hl'=>?_⟩
 ·rcases htk ht with ht|⟨rfl,rfl⟩
  ·exact h.cov j x k ht hx hk h2
  ·rw[hs]at hx;cases hx;rw[hst];exact JjU hq
 ·by_cases e:n=q
  ·subst e;rw[Jj3 hql]at hl';cases hl';simp only[List.mem_append,List.mem_singleton]at hx;rcases hx with hx|rfl
   ·exact h.sound n l hl x hx
   ·exact⟨i,s,m,p,rfl,hs,hm,hq,hst⟩
  ·rw[Jj8 (Ne.symm e)]at hl';exact h.sound n l' hl' x hx
 ·rcases htk ht with ht|⟨rfl,rfl⟩
  ·by_cases e:n=q
   ·subst e;rw[Jj3 hql]at hl';cases hl';exact List.mem_append_left _ (h.compl n l hl j x k x' ht hx hk hx' he)
   ·rw[Jj8 (Ne.symm e)]at hl';exact h.compl n l' hl' j x k x' ht hx hk hx' he
  ·rw[hs]at hx;cases hx;rw[hst]at he;cases he;have e:n=q:=by
    have h1:=Ak hx';have h2:=Ak hq;rw[JjS h1]at hx';rw[JjS h2]at hq;exact(List.getElem_inj (h₀:=h1) (h₁:=h2) hnd).1 ((Option.some.inj hx').trans (Option.some.inj hq).symm)
   subst e;rw[Jj3 hql]at hl';cases hl';simp
 ·by_cases e:n=q
  ·subst e;rw[Jj3 hql]at hl';cases hl';have:=h.small n l hl;simp;omega
  ·rw[Jj8 (Ne.symm e)]at hl';have:=h.small n l' hl';omega
theorem CV.skip {t:Ab} {st:List Ad} {fr:List (List Int)} {i m:Nat} (h:CV t st fr i m) {s:Ad} (hs:st[i]?=some s) (hst:(Bq t s (m:Nat)).2=false):CV t st fr i (m+1):=by
 have htk:∀ {j k},Hc i (m+1) j k->Hc i m j k\/(j=i/\k=m):=λ {j k} h=>by
  unfold Hc at *;omega
 refine⟨h.len,λ j x k ht hx hk h2=>?_,h.sound,λ n l hl j x k x' ht hx hk hx' he=>?_,λ n l hl=>by have:=h.small n l hl;omega⟩
 ·rcases htk ht with ht|⟨rfl,rfl⟩
  ·exact h.cov j x k ht hx hk h2
  ·rw[hs]at hx;cases hx;rw[hst]at h2;cases h2
 ·rcases htk ht with ht|⟨rfl,rfl⟩
  ·exact h.compl n l hl j x k x' ht hx hk hx' he
  ·rw[hs]at hx;cases hx;rw[he]at hst;cases hst
end Go.AI
end
section
namespace Go.AI
theorem IV {α:Type} {l:List α} {i:Nat} {x:α} (h:l[i]?=some x):idx l (i:Int)=some x:=by
 unfold idx;rw[if_pos (by omega)];simpa using h
theorem DB {α:Type} {eb:Nat} {xs ys:List α} (h:(xs.length+ys.length)*eb<=70368744177664):app eb xs ys=some (xs++ys):=by
 unfold app;rw[if_pos h]
theorem Ub {t:Ab} (ht:Gz t) {i m:Nat} {s:Ad} {st:List Ad} {fr:List (List Int)} {nb:List (Ad×Int)} (hF:Fv t st) (hi:st[i]?=some s) (hN:Jj st nb) (hR:CV t st fr i m) (hm:m<t.Rules.length) :
  ∃ fr' nb',Jj (K2 t s st m) nb'/\CV t (K2 t s st m) fr' i (m+1)/\∀ n,BU n t (i:Int) st fr nb (m:Int)=some (.inl (K2 t s st m,fr',nb',((m+1:Nat):Int))):=by
 have hil:=Ak hi;have hlen:=hF.len;have hrl:=ht.1;have hinc:A9 .i64 (m:Int) 1=((m+1:Nat):Int):=by rw[PO (by omega) (by omega)];rfl
 have hcond:decide ((m:Int)<((t.Rules.length:Nat):Int))=true:=by simpa using hm
 cases hp:(Bq t s (m:Nat)).2 with
 | false=>
  have ha:K2 t s st m=st:=by unfold K2;rw[if_neg (by rw[hp];simp)]
  refine⟨fr,nb,by rw[ha];exact hN,by rw[ha];exact hR.skip hi hp,λ n=>?_⟩;unfold BU;rw[if_pos hcond,IV hi];simp only[Jjy,Oh ht.short,hp,Bool.not_false,if_true,C0,hinc,ha]
 | true=>
  have hpe:Bq t s (m:Nat)=((Bq t s (m:Nat)).1,true):=Prod.ext rfl hp;generalize hpp:(Bq t s (m:Nat)).1=p at hpe;by_cases hmem:p∈st
  ·have ha:K2 t s st m=st:=by unfold K2;rw[if_neg (by rw[hpp];exact λ hh=>hh.2 hmem)]
   obtain⟨q,hq⟩:=List.mem_iff_getElem?.1 hmem;have hql:=Ak hq;obtain⟨lq,hfq⟩:∃ lq,fr[q]?=some lq:=⟨_,JjS (by rw[hR.len];exact hql)⟩;have hsm:=hR.small q _ hfq;have hget:BJ p nb=some (q:Int):=by rw[hN p,Dl hF.nodup hq];rfl
   have hiv:i<768:=by omega
   refine⟨fr.set q (lq++[(i:Int)]),nb,by rw[ha];exact hN,by rw[ha];exact hR.put hF.nodup hi hm hpe hq hfq,λ n=>?_⟩;unfold BU;rw[if_pos hcond,IV hi];simp only[Jjy,Oh ht.short,hpe,hget,Option.isSome_some,JjF,Jj4,if_false,JjD,D2];rw[IV hfq];simp only[Jjy];rw[DB (by simp;omega)];simp only[Jjy,C0,hinc,ha,Jj1]
  ·have ha:K2 t s st m=st++[p]:=by unfold K2;rw[if_pos ⟨hp,by rw[hpp];exact hmem⟩,hpp]
   have hnd:(st++[p]).Nodup:=by have:=(hF.add ht hi hm).nodup;rwa[ha]at this
   have hget:BJ p nb=none:=by rw[hN p,IU hmem];rfl
   have hR':=hR.snoc hmem hil;have hfq:(fr++[[]])[st.length]?=some ([]:List Int):=by rw[← hR.len];simp
   refine⟨(fr++[[]]).set st.length ([]++[(i:Int)]),DY p (st.length:Nat) nb,by rw[ha];exact hN.snoc hF.nodup hmem,by rw[ha];exact hR'.put hnd (by rw[Jj0 hil];exact hi) hm hpe (by simp) hfq,λ n=>?_⟩;unfold BU;rw[if_pos hcond,IV hi];simp only[Jjy,Oh ht.short,hpe,hget,Option.isSome_none,Bool.not_false,JjF,Jj4,if_true,if_false];rw[DB (by simp;omega),Jjy,DB (by simp[hR.len];omega),Jjy];simp only[D2];rw[IV hfq];simp only[Jjy];rw[DB (by simp)];simp only[Jjy,C0,hinc,ha,Jj1]
theorem CV.next {t:Ab} {st:List Ad} {fr:List (List Int)} {i:Nat} (h:CV t st fr i t.Rules.length) (hr:t.Rules.length<=11):CV t st fr (i+1) 0:=by
 have htk:∀ {j k},k<t.Rules.length->Hc (i+1) 0 j k->Hc i t.Rules.length j k:=λ {j k} hk h=>by
  unfold Hc at *;omega
 exact⟨h.len,λ j s k ht hs hk=>h.cov j s k (htk hk ht) hs hk,h.sound,λ n l hl j s k s' ht hs hk=>h.compl n l hl j s k s' (htk hk ht) hs hk,λ n l hl=>by have:=h.small n l hl;omega⟩
theorem JaF {t:Ab} (ht:Gz t) {i:Nat} {s:Ad} {st:List Ad} {fr:List (List Int)} {nb:List (Ad×Int)} (hF:Fv t st) (hi:st[i]?=some s) (hN:Jj st nb) (hR:CV t st fr i 0) :
  ∃ r:List Ad×List (List Int)×List (Ad×Int),(r.1=N4 t s t.Rules.length st/\Jj r.1 r.2.2/\CV t r.1 r.2.1 (i+1) 0) /\
   Ev (λ n=>whl (λ (x:((List Ad)×(List (List Int))×(List (Ad×Int))×Int))=>BU n t (i:Int) x.1 x.2.1 x.2.2.1 x.2.2.2) n (st,fr,nb,0)) r:=by
 refine Jjn (body:=λ n x=>BU n t (i:Int) x.1 x.2.1 x.2.2.1 x.2.2.2) (λ k x=>∃ m:Nat,m<=t.Rules.length/\k=t.Rules.length-m/\x.1=N4 t s m st/\x.2.2.2=(m:Int)/\Jj x.1 x.2.2.1/\CV t x.1 x.2.1 i m) ?_ t.Rules.length (st,fr,nb,0) ⟨0,by omega,by omega,rfl,rfl,hN,hR⟩;rintro k ⟨st',fr',nb',m'⟩ ⟨m,hm,rfl,h1,h2,h3,h4⟩;simp only at h1 h2 h3 h4;subst h1;subst h2;rcases JjI m t.Rules.length with hlt|hge
 ·left;have hi':(N4 t s m st)[i]?=some s:=CF (Ic t s st m) hi;obtain⟨fr2,nb2,g1,g2,g3⟩:=Ub ht (hF.exp ht hi m hm) hi' h3 h4 hlt;exact⟨_,t.Rules.length-(m+1),by omega,⟨m+1,hlt,rfl,(KL t s m st).symm,rfl,g1,g2⟩,Ev.all g3⟩
 ·right;have e:m=t.Rules.length:=by omega
  subst e;refine⟨(N4 t s t.Rules.length st,fr',nb'),⟨rfl,h3,h4.next ht.1⟩,Ev.all λ n=>?_⟩;unfold BU;rw[if_neg (by simp)]
theorem PT {t:Ab} (ht:Gz t):∃ fr,CV t (AP t) fr (AP t).length 0/\Ev (λ n=>FZ n t) (AP t,fr):=by
 have h0:Fv t [Eo]:=⟨by simp,λ s hs=>by simp at hs;subst hs;exact⟨by decide,by decide,by decide,by decide,by decide,by decide⟩,rfl,λ j s hj h0=>by cases j with|zero=>omega|succ j=>simp at hj⟩;have loop:∃ r:List Ad×List (List Int),(r.1=AP t/\CV t r.1 r.2 r.1.length 0) /\
   Ev (λ n=>whl (λ (x:((List Ad)×(List (List Int))×(List (Ad×Int))×Int))=>C1 n t x.1 x.2.1 x.2.2.1 x.2.2.2) n ([Eo],([[]]:List (List Int)),(DY Eo 0 []),0)) r:=by
  refine Jjn (body:=λ n x=>C1 n t x.1 x.2.1 x.2.2.1 x.2.2.2) (λ k x=>∃ i:Nat,i<=x.1.length/\k=800-i/\T9 t (800-i) i x.1=AP t/\x.2.2.2=(i:Int)/\Fv t x.1/\Jj x.1 x.2.2.1/\CV t x.1 x.2.1 i 0) ?_ 800 _ ⟨0,by simp,by omega,rfl,rfl,h0,?_,?_⟩
  ·rintro k ⟨st,fr,nb,i'⟩ ⟨i,hil,rfl,hb,hi',hF,hN,hR⟩;simp only at hil hb hi' hF hN hR;subst hi';have hlen:=hF.len;rcases JjI i st.length with hlt|hge
   ·left;have hi:st[i]?=some st[i]:=JjS hlt;obtain⟨r,⟨g1,g2,g3⟩,g4⟩:=JaF ht hF hi hN hR;have hexp:=hF.exp ht hi _ (JjH _);refine⟨(r.1,r.2.1,r.2.2,((i+1:Nat):Int)),800-(i+1),by omega,⟨i+1,?_,rfl,?_,rfl,by rw[g1];exact hexp,g2,g3⟩,?_⟩
    ·simp only[g1];have:=(Ic t st[i] st t.Rules.length).length_le;omega
    ·simp only[g1];rw[← hb];have e:800-i=(800-(i+1))+1:=by omega
     rw[e];simp only[T9,hi]
    ·refine(Ev.bind g4 (g:=λ _ y2=>some (.inl (y2.1,y2.2.1,y2.2.2,((i+1:Nat):Int)))) Ev.const).congr λ n=>?_;unfold C1;rw[if_pos (by simpa using hlt)];have hinc:A9 .i64 (i:Int) 1=((i+1:Nat):Int):=by rw[PO (by omega) (by omega)];rfl
     rw[hinc]
   ·right;have e:i=st.length:=by omega
    subst e;have hst:st=AP t:=by
     rw[← hb];have e:800-st.length=(800-(st.length+1))+1:=by omega
     rw[e];simp[T9]
    refine⟨(st,fr),⟨hst,hR⟩,Ev.all λ n=>?_⟩;unfold C1;rw[if_neg (by simp)]
  ·intro s;simp only[DY,BJ];by_cases e:s=Eo
   ·subst e;simp
   ·have:¬ Eo=s:=λ h=>e h.symm;simp[e,this]
  ·refine⟨rfl,λ j s k ht=>?_,λ n l hl x hx=>?_,λ n l hl j s k s' ht=>?_,λ n l hl=>?_⟩
   ·unfold Hc at ht;omega
   ·cases n with
    | zero=>simp at hl;subst hl;simp at hx
    | succ n=>simp at hl
   ·unfold Hc at ht;omega
   ·cases n with
    | zero=>simp at hl;subst hl;simp
    | succ n=>simp at hl
 obtain⟨⟨st,fr⟩,⟨g1,g2⟩,g3⟩:=loop;simp only at g1 g2;subst g1;refine⟨fr,g2,?_⟩;have hs:∀ n,M3 n=some Eo:=λ n=>rfl;refine(Ev.bind g3 (g:=λ _ y3=>some (y3.1,y3.2)) Ev.const).congr λ n=>?_;unfold FZ;rw[hs,Jjy]
theorem Vp {t:Ab} (ht:Gz t):Ev (λ n=>LD n t) (AP t):=by
 obtain⟨fr,_,h⟩:=PT ht;exact(Ev.bind h (g:=λ _ r=>some r.1) Ev.const).congr λ n=>rfl
end Go.AI
end
section
namespace Go.AI
def Tot {α:Type} (f:Nat->Option α) (P:α->Prop):Prop:=∃ z,P z/\Ev f z
def Rd2 {σ ρ:Type} (I:σ->Prop) (P:ρ->Prop):σ⊕ρ->Prop
 | .inl y=>I y
 | .inr r=>P r
variable {α β σ ρ:Type} {P R:α->Prop}
theorem Tot.ev {f:Nat->Option α} {z:α} (h:Tot f (λ x=>x=z)):Ev f z:=by obtain⟨_,rfl,h⟩:=h;exact h
theorem Ev.tot {f:Nat->Option α} {z:α} (h:Ev f z) (hp:P z):Tot f P:=⟨z,hp,h⟩
theorem Jjo {z:α} (h:P z):Tot (λ _=>some z) P:=⟨z,h,Ev.const⟩
theorem Tot.all {f:Nat->Option α} {z:α} (h:∀ n,f n=some z) (hp:P z):Tot f P:=⟨z,hp,Ev.all h⟩
theorem Tot.mono {f:Nat->Option α} (h:Tot f R) (hp:∀ x,R x->P x):Tot f P:=by obtain⟨z,hz,h⟩:=h;exact⟨z,hp z hz,h⟩
theorem Tot.bind {f:Nat->Option β} {g:Nat->β->Option α} {R:β->Prop} (h:Tot f R) (k:∀ x,R x->Tot (λ n=>g n x) P):Tot (λ n=>(f n).bind (g n)) P:=by
 obtain⟨x,hx,h⟩:=h;obtain⟨z,hz,h'⟩:=k x hx;exact⟨z,hz,Ev.bind h h'⟩
theorem Jjp {f:Nat->Option β} {g:Nat->β->Option α} {x:β} (h:Ev f x) (k:Tot (λ n=>g n x) P):Tot (λ n=>(f n).bind (g n)) P:=by
 obtain⟨z,hz,h'⟩:=k;exact⟨z,hz,Ev.bind h h'⟩
theorem Tot.bindC {x:Option β} {y:β} {g:Nat->β->Option α} (h:x=some y) (k:Tot (λ n=>g n y) P):Tot (λ n=>x.bind (g n)) P:=by subst h;exact k
theorem Jjq {f:Nat->Option β} {y:β} {g:Nat->β->Option α} (h:∀ n,f n=some y) (k:Tot (λ n=>g n y) P):Tot (λ n=>(f n).bind (g n)) P:=Jjp (Ev.all h) k
theorem Tot.ite {c:Bool} {a b:Nat->Option α} (h1:c=true->Tot a P) (h2:c=false->Tot b P):Tot (λ n=>if c=true then a n else b n) P:=by
 cases c with
 | true=>exact h1 rfl
 | false=>exact h2 rfl
theorem Tot.iteT {c:Bool} {a b:Nat->Option α} (h:c=true) (k:Tot a P):Tot (λ n=>if c=true then a n else b n) P:=by subst h;exact k
theorem Tot.iteF {c:Bool} {a b:Nat->Option α} (h:c=false) (k:Tot b P):Tot (λ n=>if c=true then a n else b n) P:=by subst h;exact k
theorem Tot.guard {c:Bool} {f:Nat->Option β} {d:β} {g:Nat->β->Option α} {R:β->Prop} (h:c=true->Tot f R) (k:∀ x,(c=true->R x)->Tot (λ n=>g n x) P):Tot (λ n=>(if c=true then f n else some d).bind (g n)) P:=by
 cases c with
 | true=>exact Tot.bind (h rfl) λ x hx=>k x λ _=>hx
 | false=>exact k d λ h=>by cases h
theorem Tot.congr {f g:Nat->Option α} (h:Tot f P) (e:∀ n,g n=f n):Tot g P:=by obtain⟨z,hz,h⟩:=h;exact⟨z,hz,h.congr e⟩
theorem Tot.whl {body:Nat->σ->Option (σ⊕ρ)} {P:ρ->Prop} (I:Nat->σ->Prop) (h:∀ k x,I k x->Tot (λ n=>body n x) (Rd2 (λ y=>∃ j,j<k/\I j y) P)):∀ (k:Nat) (x:σ),I k x->Tot (λ n=>Go.AI.whl (body n) n x) P:=by
 have key:∀ (k:Nat) (x:σ),I k x->∃ r,P r/\∃ N c,∀ n fuel,N<=n->c<=fuel->Go.AI.whl (body n) fuel x=some r:=by
  intro k;induction k using Nat.strongRecOn with
  | _ k ih=>
   intro x hx;obtain⟨z,hz,N1,h1⟩:=h k x hx;cases z with
   | inl y=>
    obtain⟨j,hj,hy⟩:=hz;obtain⟨r,hr,N2,c,h2⟩:=ih j hj y hy;refine⟨r,hr,max N1 N2,c+1,λ n fuel hn hf=>?_⟩;cases fuel with
    | zero=>omega
    | succ fuel=>
     have e:=h1 n (by omega);simp only at e;simp only[Go.AI.whl,e];exact h2 n fuel (by omega) (by omega)
   | inr r=>
    refine⟨r,hz,N1,1,λ n fuel hn hf=>?_⟩;cases fuel with
    | zero=>omega
    | succ fuel=>
     have e:=h1 n hn;simp only at e;simp only[Go.AI.whl,e]
 intro k x hx;obtain⟨r,hr,N,c,hh⟩:=key k x hx;exact⟨r,hr,max N c,λ m hm=>hh m m (by omega) (by omega)⟩
theorem Tot.upto {body:Nat->σ->Option (σ⊕ρ)} {P:ρ->Prop} (N:Nat) (I:Nat->σ->Prop)
  (step:∀ i x,i<N->I i x->Tot (λ n=>body n x) (Rd2 (I (i+1)) P))
  (last:∀ x,I N x->Tot (λ n=>body n x) (Rd2 (λ _=>False) P)) (x:σ) (h0:I 0 x):Tot (λ n=>Go.AI.whl (body n) n x) P:=by
 refine Tot.whl (body:=body) (λ k x=>∃ i,i<=N/\k=N-i/\I i x) ?_ N x ⟨0,by omega,by omega,h0⟩;rintro k x ⟨i,hi,rfl,hx⟩;rcases JjI i N with hlt|hge
 ·refine(step i x hlt hx).mono λ z hz=>?_;cases z with
  | inl y=>exact⟨N-(i+1),by omega,i+1,by omega,rfl,hz⟩
  | inr r=>exact hz
 ·have:i=N:=by omega
  subst this;refine(last x hx).mono λ z hz=>?_;cases z with
  | inl y=>exact hz.elim
  | inr r=>exact hz
theorem Dm {l:List α} {i:Nat} {x:α} (h:l[i]?=some x):idx l (i:Int)=some x:=by
 unfold idx;rw[if_pos (by omega)];simpa using h
theorem Bn {l:List α} {i:Nat} (h:i<l.length):idx l (i:Int)=some l[i]:=Dm (JjS h)
theorem PU {eb:Nat} {xs ys:List α} (h:(xs.length+ys.length)*eb<=70368744177664):app eb xs ys=some (xs++ys):=by
 unfold app;rw[if_pos h]
theorem IW {l:List α} {i:Nat} {y:α} (h:i<l.length):put l (i:Int) y=some (l.set i y):=by
 unfold put;rw[if_pos (by omega),Jj1]
theorem PV {x y:List UInt8} (h:x.length+y.length<=9223372036854775807):cat x y=some (x++y):=by
 unfold cat;rw[if_pos h]
end Go.AI
end
section
namespace Go.AI
theorem JcF (a:Int):IntKind.i64.wrap a=if decide (a % 18446744073709551616>=9223372036854775808)=true then a % 18446744073709551616-18446744073709551616 else a % 18446744073709551616:=rfl
theorem w64 {a:Int} (h:-9223372036854775808<=a) (h':a<9223372036854775808):IntKind.i64.wrap a=a:=by
 rw[JcF];simp only[decide_eq_true_eq];split<;>omega
theorem JaG {a b:Int} (h:-9223372036854775808<=a+b) (h':a+b<9223372036854775808):A9 .i64 a b=a+b:=w64 h h'
theorem We {a b:Int} (h:-9223372036854775808<=a-b) (h':a-b<9223372036854775808):IC .i64 a b=a-b:=w64 h h'
theorem Bm {i:Nat} (h:i<9223372036854775807):A9 .i64 (i:Int) 1=((i+1:Nat):Int):=by rw[JaG]<;>omega
theorem JgE (a:Int):IntKind.u8.wrap a=a % 256:=rfl
theorem w8 {a:Int} (h:0<=a) (h':a<256):IntKind.u8.wrap a=a:=by rw[JgE];omega
theorem KM {a m:Int} (h:0<=a) (hm:0<m):A7 a m=a % m/\0<=A7 a m/\A7 a m<m:=by
 have e:A7 a m=a % m:=by unfold A7;rw[Int.tmod_eq_emod_of_nonneg h]
 rw[e];exact⟨rfl,Int.emod_nonneg _ (by omega),Int.emod_lt_of_pos _ hm⟩
variable {α β σ ρ:Type}
theorem Jig [Inhabited α] {l:List α} {i:Int} (h:0<=i) (h':i<l.length):idx l i=some (l.getD i.toNat default):=by
 unfold idx;rw[if_pos h,List.getD_eq_getElem?_getD,JjS (by omega)];rfl
theorem He [Inhabited α] {l:List α} {i:Nat} (h:i<l.length):idx l (i:Int)=some (l.getD i default):=by
 rw[Jig (by omega) (by omega),Jj1]
theorem JaH {l:List α} {a b:Int} (h:0<=a) (h1:a<=b) (h2:b<=l.length):sub l a b=some ((l.take b.toNat).drop a.toNat):=by
 unfold sub;rw[if_pos ⟨h,h1,h2⟩]
theorem Wf {l:List α} {k:Nat} (h:k<=l.length):sub l 0 (k:Int)=some (l.take k):=by
 rw[JaH (by omega) (by omega) (by omega)];simp
theorem JaI {eb:Nat} {k:Int} {z:α} (h:0<=k) (h':k.toNat*eb<=70368744177664):mkl eb k z=some (List.replicate k.toNat z):=by
 unfold mkl;rw[if_pos ⟨h,h'⟩]
theorem Cs {b:Bool} (h:b=true):BP b=some ():=by subst h;rfl
theorem Vq {body:σ->Option (σ⊕ρ)} {r:ρ} (st:Nat->σ) (k:Nat) (step:∀ i,i<k->body (st i)=some (.inl (st (i+1)))) (last:body (st k)=some (.inr r)):∀ n,k<n->whl body n (st 0)=some r:=by
 have key:∀ (j n i:Nat),i+j=k->j<n->whl body n (st i)=some r:=by
  intro j;induction j with
  | zero=>
   intro n i hi hn;cases n with
   | zero=>omega
   | succ n=>
    have:i=k:=by omega
    subst this;simp only[whl,last]
  | succ j ih=>
   intro n i hi hn;cases n with
   | zero=>omega
   | succ n=>simp only[whl,step i (by omega)];exact ih n (i+1) (by omega) (by omega)
 intro n hn;exact key k n 0 (by omega) hn
theorem Ev.to {body:Nat->σ->Option (σ⊕ρ)} {r:ρ} (st:Nat->σ) (k:Nat) (h:∃ N,∀ n,N<=n->(∀ i,i<k->body n (st i)=some (.inl (st (i+1))))/\body n (st k)=some (.inr r)):Ev (λ n=>Go.AI.whl (body n) n (st 0)) r:=by
 obtain⟨N,h⟩:=h;exact⟨max N (k+1),λ n hn=>Vq st k (h n (by omega)).1 (h n (by omega)).2 n (by omega)⟩
def HC (N:Nat) (stop:Nat->Option ρ) (d:ρ):ρ:=((List.range N).findSome? stop).getD d
theorem XE {N:Nat} {stop:Nat->Option ρ} {d:ρ} (h:∀ i,i<N->stop i=none):HC N stop d=d:=by
 unfold HC;rw[List.findSome?_eq_none_iff.2 λ i hi=>h i (List.mem_range.1 hi)];rfl
theorem XF {N:Nat} {stop:Nat->Option ρ} {d r:ρ} (k:Nat) (hk:k<N) (hr:stop k=some r) (h:∀ i,i<k->stop i=none):HC N stop d=r:=by
 unfold HC;have:(List.range N).findSome? stop=some r:=by
  have e:List.range N=List.range k++(List.range (N-k)).map (k+·):=by rw[← List.range_add];congr 1;omega
  rw[e,List.findSome?_append,List.findSome?_eq_none_iff.2 λ i hi=>h i (List.mem_range.1 hi)];have:N-k=(N-k-1)+1:=by omega
  rw[this,List.range_succ_eq_map];simp[hr]
 rw[this];rfl
theorem Qx (N:Nat) (stop:Nat->Option ρ) (d:ρ):((∀ i,i<N->stop i=none)/\HC N stop d=d)\/∃ k r,k<N/\stop k=some r/\(∀ i,i<k->stop i=none)/\HC N stop d=r:=by
 by_cases h:∀ i,i<N->stop i=none
 ·exact .inl ⟨h,XE h⟩
 ·right;have hex:∃ k,k<N/\stop k≠none:=by
   apply Classical.byContradiction;intro hh;exact h λ i hi=>Classical.byContradiction λ hn=>hh ⟨i,hi,hn⟩
  have key:∀ m,(∃ k,k<m/\k<N/\stop k≠none)->∃ k,k<N/\stop k≠none/\∀ i,i<k->stop i=none:=by
   intro m;induction m with
   | zero=>rintro⟨k,hk,_⟩;omega
   | succ m ih=>
    rintro⟨k,hk,h1,h2⟩;by_cases hm:∃ k,k<m/\k<N/\stop k≠none
    ·exact ih hm
    ·refine⟨k,h1,h2,λ i hi=>Classical.byContradiction λ hn=>hm ⟨i,by omega,by omega,hn⟩⟩
  obtain⟨k0,h1,h2⟩:=hex;obtain⟨k,h3,h4,h5⟩:=key (k0+1) ⟨k0,by omega,h1,h2⟩;obtain⟨r,hr⟩:=Option.ne_none_iff_exists'.1 h4;exact⟨k,r,h3,hr,h5,XF k h3 hr h5⟩
theorem XG {body:Int->Option (Int⊕ρ)} {N:Nat} (stop:Nat->Option ρ) {d:ρ} (h1:∀ i,i<N->body (i:Int)=some (match stop i with|some r=>.inr r|none=>.inl ((i+1:Nat):Int))) (h2:body (N:Int)=some (.inr d)):∀ n,N<n->whl body n 0=some (HC N stop d):=by
 intro n hn;rcases Qx N stop d with⟨h,e⟩|⟨k,r,hk,hr,h,e⟩
 ·rw[e];exact Vq (λ i=>(i:Int)) N (λ i hi=>by rw[h1 i hi,h i hi]) h2 n hn
 ·rw[e];exact Vq (λ i=>(i:Int)) k (λ i hi=>by rw[h1 i (by omega),h i hi]) (by rw[h1 k hk,hr]) n (by omega)
theorem Ev.first {body:Nat->Int->Option (Int⊕ρ)} {N:Nat} (stop:Nat->Option ρ) {d:ρ} (h:∃ M,∀ n,M<=n->(∀ i,i<N->body n (i:Int)=some (match stop i with|some r=>.inr r|none=>.inl ((i+1:Nat):Int)))/\body n (N:Int)=some (.inr d)):Ev (λ n=>Go.AI.whl (body n) n 0) (HC N stop d):=by
 obtain⟨M,h⟩:=h;exact⟨max M (N+1),λ n hn=>XG stop (h n (by omega)).1 (h n (by omega)).2 n (by omega)⟩
theorem Jjr {P:α->Prop} {c:Bool} {f:Nat->Option β} {d:β} {g:Nat->β->Option α} (hc:c=false) (k:Tot (λ n=>g n d) P):Tot (λ n=>(if c=true then f n else some d).bind (g n)) P:=by
 subst hc;exact k
theorem Jjs {f:Nat->Nat->Option α} {z:Nat->α} (N:Nat) (h:∀ i,i<N->Ev (λ n=>f n i) (z i)):∃ M,∀ n,M<=n->∀ i,i<N->f n i=some (z i):=by
 induction N with
 | zero=>exact⟨0,λ n _ i hi=>by omega⟩
 | succ N ih=>
  obtain⟨M1,h1⟩:=ih λ i hi=>h i (by omega);obtain⟨M2,h2⟩:=h N (by omega);exact⟨max M1 M2,λ n hn i hi=>by
   by_cases e:i=N
   ·subst e;exact h2 n (by omega)
   ·exact h1 n (by omega) i (by omega)⟩
end Go.AI
end
section
namespace Go.AI
def scan {ρ:Type} (N:Nat) (stop:Nat->Option ρ):Unit⊕ρ:=match (List.range N).findSome? stop with
 | some r=>.inr r
 | none=>.inl ()
theorem FP {ρ:Type} {body:Nat->Int->Option (Int⊕(Unit⊕ρ))} (N:Nat) (stop:Nat->Option ρ)
  (h:∀ i,i<N->Ev (λ n=>body n (i:Int)) (match stop i with|some r=>.inr (.inr r)|none=>.inl ((i+1:Nat):Int)))
  (h2:Ev (λ n=>body n (N:Int)) (.inr (.inl ()))):Ev (λ n=>whl (body n) n 0) (AI.scan N stop):=by
 have key:∀ (k i:Nat),i+k=N->(List.range N).findSome? stop=((List.range k).map (i+·)).findSome? stop->∃ M c,∀ n fuel,M<=n->c<=fuel->whl (body n) fuel (i:Int)=some (AI.scan N stop):=by
  intro k;induction k with
  | zero=>
   intro i hi hf;have:i=N:=by omega
   subst this;obtain⟨M,hM⟩:=h2;refine⟨M,1,λ n fuel hn hfu=>?_⟩;obtain⟨fuel,rfl⟩:∃ f,fuel=f+1:=⟨fuel-1,by omega⟩;have e:=hM n hn;simp only at e;simp only[AI.whl,e];unfold AI.scan;rw[hf];rfl
  | succ k ih=>
   intro i hi hf;obtain⟨M,hM⟩:=h i (by omega);have hs:(List.range (k+1)).map (i+·)=i::(List.range k).map ((i+1)+·):=by
    rw[List.range_succ_eq_map];simp only[JjO,Nat.add_zero,List.map_map,List.cons.injEq,true_and];apply JjQ;intro a _;simp only[Function.comp];omega
   rw[hs,List.findSome?_cons]at hf;cases hst:stop i with
   | some r=>
    rw[hst]at hf hM;refine⟨M,1,λ n fuel hn hfu=>?_⟩;obtain⟨fuel,rfl⟩:∃ f,fuel=f+1:=⟨fuel-1,by omega⟩;have e:=hM n hn;simp only at e;simp only[AI.whl,e];unfold AI.scan;rw[hf]
   | none=>
    rw[hst]at hf hM;obtain⟨M2,c,h3⟩:=ih (i+1) (by omega) hf;refine⟨max M M2,c+1,λ n fuel hn hfu=>?_⟩;obtain⟨fuel,rfl⟩:∃ f,fuel=f+1:=⟨fuel-1,by omega⟩;have e:=hM n (by omega);simp only at e;simp only[AI.whl,e];exact h3 n fuel (by omega) (by omega)
 obtain⟨M,c,hh⟩:=key N 0 (by omega) (by simp);exact⟨max M c,λ m hm=>hh m m (by omega) (by omega)⟩
theorem GN {ρ:Type} {N:Nat} {stop:Nat->Option ρ} (h:∀ i,i<N->stop i=none):scan N stop=.inl ():=by
 unfold scan;rw[List.findSome?_eq_none_iff.2 λ i hi=>h i (List.mem_range.1 hi)]
theorem GO {ρ:Type} {N:Nat} {stop:Nat->Option ρ} {i:Nat} (hi:i<N) (h:(stop i).isSome=true):∃ k r,k<N/\stop k=some r/\scan N stop=.inr r:=by
 unfold scan;cases hf:(List.range N).findSome? stop with
 | none=>rw[List.findSome?_eq_none_iff.1 hf i (List.mem_range.2 hi)]at h;cases h
 | some r=>
  obtain⟨k,hk,hr⟩:=List.exists_of_findSome?_eq_some hf;exact⟨k,r,List.mem_range.1 hk,hr,rfl⟩
def MC (b:UInt8):Int:=(b.toNat:Int)
def GA (b:UInt8):Bool:=decide (B0 .u8 (MC b) 127>=32)&&decide (B0 .u8 (MC b) 127<=126)
def C2 (b:UInt8):Bool:=B0 .u8 (MC b) 127==32
theorem MD {s:List UInt8} {i:Nat} {b:UInt8} (h:s[i]?=some b):HV s (i:Int)=some (MC b):=by
 rw[MB (Ak h)];unfold NN MC;rw[h];rfl
theorem Qy {i n:Nat} (h:i<n):decide ((i:Int)<((n:Nat):Int))=true:=by simpa using h
def NO (s:List UInt8):Int×Int:=match scan s.length (λ i=>if GA (s.getD i 0)then none else some ((i:Int),(60:Int)))with
 | .inl _=>(((s.length:Nat):Int),0)
 | .inr p=>p
theorem Cd {α:Type} {l:List α} {i:Nat} {d:α} (h:i<l.length):l.getD i d=l[i]:=by
 rw[List.getD_eq_getElem?_getD,JjS h];rfl
theorem JcG {s:List UInt8} (hl:s.length<9223372036854775807):Ev (λ n=>Mm n s) (NO s):=by
 unfold Mm NO;refine Ev.bind (FP s.length (λ i=>if GA (s.getD i 0)then none else some ((i:Int),(60:Int))) (λ i hi=>Ev.all λ n=>?_) (Ev.all λ n=>?_)) ?_
 ·unfold Ht;have hg:s[i]?=some s[i]:=JjS hi;rw[if_pos (Qy hi),MD hg,Cd hi];have hc:Gq n (MC s[i])=some (GA s[i]):=rfl;simp only[Jjy,hc];cases GA s[i]with
  | true=>simp[Bm (show i<9223372036854775807 by omega)]
  | false=>simp
 ·unfold Ht;rw[if_neg (by simp)]
 ·generalize scan s.length _=z;cases z<;>exact Ev.const
theorem JaJ {s:List UInt8} (hl:s.length<9223372036854775807):Ev (λ n=>Mn n s) (NO s):=by
 unfold Mn NO;refine Ev.bind (FP s.length (λ i=>if GA (s.getD i 0)then none else some ((i:Int),(60:Int))) (λ i hi=>Ev.all λ n=>?_) (Ev.all λ n=>?_)) ?_
 ·unfold Hu;have hg:s[i]?=some s[i]:=JjS hi;rw[if_pos (Qy hi),MD hg,Cd hi];have hc:HF n (MC s[i])=some (GA s[i]):=rfl;simp only[Jjy,hc];cases GA s[i]with
  | true=>simp[Bm (show i<9223372036854775807 by omega)]
  | false=>simp
 ·unfold Hu;rw[if_neg (by simp)]
 ·generalize scan s.length _=z;cases z<;>exact Ev.const
theorem Uc {s:List UInt8} (h:s.all GA=true):NO s=(((s.length:Nat):Int),0):=by
 unfold NO;rw[GN λ i hi=>by rw[Cd hi,JjC.1 h _ (JjE hi)];rfl]
theorem Ra {s:List UInt8} (h:s.all GA=false):(NO s).2=60:=by
 rw[List.all_eq_false]at h;obtain⟨b,hb,hc⟩:=h;obtain⟨i,hi,e⟩:=List.getElem_of_mem hb;unfold NO;obtain⟨k,r,hk,hr,hs⟩:=GO (stop:=λ i=>if GA (s.getD i 0)then none else some ((i:Int),(60:Int))) hi (by
  rw[Cd hi,e];simp only[JjG]at hc;rw[hc];rfl)
 rw[hs];simp only at hr⊢;split at hr
 ·cases hr
 ·cases hr;rfl
theorem XH {s:List UInt8} (hl:s.length<9223372036854775807):Ev (λ n=>II n s) (s.all GA):=by
 unfold II;refine Ev.bind (JaJ hl) ?_;cases h:s.all GA with
 | true=>rw[Uc h];exact Ev.const
 | false=>rw[Ra h];exact Ev.const
def BX (r:As) (m:Int):Bool:=
 r.Print.all GA&&decide (r.Print.length<=4)&&decide (1<=r.Cells.length)&&decide (r.Cells.length<=4) &&
 (decide (1<=r.Left)&&decide (r.Left<=63)&&decide (1<=r.Right)&&decide (r.Right<=63)&&decide (0<=r.From)&&decide (r.From<m)&&decide (0<=r.To)&&decide (r.To<m)) &&
 r.Cells.all (λ c=>decide (c<63)) &&
 (bif r.Print.any C2 then decide (r.Print.length=1)&&decide (r.Cells.length=1)&&r.Cells.any (λ c=>c==0)else !r.Cells.any (λ c=>c==0))
end Go.AI
end
section
namespace Go.AI
theorem XI {r:As} (hl:r.Print.length<9223372036854775807):Ev (λ n=>whl (λ (x:(Bool×Int))=>Ec n r x.1 x.2) n (false,0)) (r.Print.any C2):=by
 refine Ev.whl (body:=λ n x=>Ec n r x.1 x.2) (λ k x=>∃ i:Nat,x.2=(i:Int)/\i<=r.Print.length/\k=r.Print.length-i/\x.1=(r.Print.take i).any C2) ?_ r.Print.length (false,0) ⟨0,rfl,by omega,by omega,by simp⟩;rintro k ⟨b,i'⟩ ⟨i,h1,hi,rfl,h2⟩;simp only at h1 h2;subst h1;subst h2;rcases JjI i r.Print.length with hlt|hge
 ·left;have hg:r.Print[i]?=some r.Print[i]:=JjS hlt;have hcond:decide ((i:Int)<((r.Print.length:Nat):Int))=true:=by simpa using hlt
  refine⟨((r.Print.take (i+1)).any C2,((i+1:Nat):Int)),r.Print.length-(i+1),by omega,⟨i+1,rfl,by omega,rfl,rfl⟩,Ev.all λ n=>?_⟩;unfold Ec;rw[if_pos hcond];have ht:(r.Print.take (i+1)).any C2=((r.Print.take i).any C2||C2 r.Print[i]):=by
   rw[List.take_add_one,hg];simp only[Option.toList_some,List.any_append,List.any_cons,List.any_nil,Bool.or_false]
  have hsp:∀ n,M4 n (MC r.Print[i])=some (C2 r.Print[i]):=λ n=>rfl;rw[ht,PO (by omega) (by omega),MD hg];cases (r.Print.take i).any C2 with
  | true=>simp
  | false=>simp[hsp]
 ·right;have e:i=r.Print.length:=by omega
  subst e;refine Ev.all λ n=>?_;unfold Ec;rw[if_neg (by simp),List.take_length]
theorem Ev.upto {σ ρ:Type} {body:Nat->σ->Option (σ⊕ρ)} {R:ρ->Prop} (N:Nat) (I:Nat->σ->Prop)
  (step:∀ i x,i<N->I i x->(∃ y,I (i+1) y/\Ev (λ n=>body n x) (.inl y))\/∃ r,R r/\Ev (λ n=>body n x) (.inr r))
  (last:∀ x,I N x->∃ r,R r/\Ev (λ n=>body n x) (.inr r)) (x:σ) (h0:I 0 x):∃ r,R r/\Ev (λ n=>Go.AI.whl (body n) n x) r:=by
 refine Jjn (body:=body) (λ k x=>∃ i,i<=N/\k=N-i/\I i x) ?_ N x ⟨0,by omega,by omega,h0⟩;rintro k x ⟨i,hi,rfl,hx⟩;rcases JjI i N with hlt|hge
 ·rcases step i x hlt hx with⟨y,hy,hE⟩|h
  ·exact .inl ⟨y,N-(i+1),by omega,⟨i+1,by omega,rfl,hy⟩,hE⟩
  ·exact .inr h
 ·have:i=N:=by omega
  subst this;exact .inr (last x hx)
theorem XJ {r:As} (hl:r.Cells.length<9223372036854775807) (y:Bool):∃ z:Bool⊕Bool,(if r.Cells.all (λ c=>decide (c<63))=true then z=.inl (r.Cells.any (λ c=>c==0))else z=.inr false)/\Ev (λ n=>whl (λ (x:(Bool×Int))=>Dj n r y x.1 x.2) n (false,0)) z:=by
 refine Ev.upto (body:=λ n x=>Dj n r y x.1 x.2) r.Cells.length (λ i x=>x.2=(i:Int)/\x.1=(r.Cells.take i).any (λ c=>c==0)/\(r.Cells.take i).all (λ c=>decide (c<63))=true) ?_ ?_ (false,0) ⟨rfl,by simp,by simp⟩
 ·rintro i ⟨b,i'⟩ hlt ⟨h1,h2,h3⟩;simp only at h1 h2;subst h1;subst h2;have hg:r.Cells[i]?=some r.Cells[i]:=JjS hlt;have hcond:decide ((i:Int)<((r.Cells.length:Nat):Int))=true:=by simpa using hlt
  by_cases hc:r.Cells[i]<63
  ·left;refine⟨((r.Cells.take (i+1)).any (λ c=>c==0),((i+1:Nat):Int)),⟨rfl,rfl,?_⟩,Ev.all λ n=>?_⟩
   ·rw[List.take_add_one,hg];simp only[Option.toList_some,List.all_append,h3,List.all_cons,decide_eq_true hc,List.all_nil,Bool.and_self]
   ·unfold Dj;have ht:(r.Cells.take (i+1)).any (λ c=>c==0)=((r.Cells.take i).any (λ c=>c==0)||r.Cells[i]==0):=by
     rw[List.take_add_one,hg];simp only[Option.toList_some,List.any_append,List.any_cons,List.any_nil,Bool.or_false]
    rw[if_pos hcond,IV hg,Jjy,if_neg (by simpa using hc),ht,PO (by omega) (by omega)];cases (r.Cells.take i).any (λ c=>c==0)with
    | true=>simp
    | false=>simp
  ·right;refine⟨.inr false,?_,Ev.all λ n=>?_⟩
   ·rw[if_neg];intro h;rw[JjC]at h;exact hc (by simpa using h r.Cells[i] (JjE hlt))
   ·unfold Dj;rw[if_pos hcond,IV hg,Jjy,if_pos (by simp;omega)]
 ·rintro⟨b,i'⟩ ⟨h1,h2,h3⟩;simp only at h1 h2;subst h1;subst h2;rw[List.take_length]at h3⊢;refine⟨.inl (r.Cells.any (λ c=>c==0)),by rw[if_pos h3],Ev.all λ n=>?_⟩;unfold Dj;rw[if_neg (by simp)]
theorem JaK {r:As} (hp:r.Print.length<9223372036854775807) (hc:r.Cells.length<9223372036854775807) (m:Int):Ev (λ n=>KI n r m) (BX r m):=by
 obtain⟨z,hz,hE⟩:=XJ hc (r.Print.any C2);have h1:=XH hp;have h2:=XI (r:=r) hp;unfold KI;refine Ev.bind h1 ?_;unfold BX;generalize r.Print.all GA=a;by_cases g1:((((!a)||(decide (((r.Print.length:Nat):Int)>4)))||(decide (((r.Cells.length:Nat):Int)<1)))||(decide (((r.Cells.length:Nat):Int)>4)))=true
 ·simp only[g1,if_true];have:(a&&decide (r.Print.length<=4)&&decide (1<=r.Cells.length)&&decide (r.Cells.length<=4))=false:=by
   rw[← JjG];intro h;simp only[JjT,decide_eq_true_eq]at h;simp only[Jkb,decide_eq_true_eq,Bool.not_eq_true']at g1;rcases g1 with ((g|g)|g)|g
   ·rw[g]at h;simp at h
   all_goals omega
  rw[this];exact Ev.const
 ·simp only[g1];by_cases g2:((((((((decide (r.Left<1))||(decide (r.Left>63)))||(decide (r.Right<1)))||(decide (r.Right>63)))||(decide (r.From<0)))||(decide (r.From>=m)))||(decide (r.To<0)))||(decide (r.To>=m)))=true
  ·simp only[g2,if_true];have:(decide (1<=r.Left)&&decide (r.Left<=63)&&decide (1<=r.Right)&&decide (r.Right<=63)&&decide (0<=r.From)&&decide (r.From<m)&&decide (0<=r.To)&&decide (r.To<m))=false:=by
    rw[← JjG];intro h;simp only[JjT,decide_eq_true_eq]at h;simp only[Jkb,decide_eq_true_eq]at g2;omega
   rw[this,Bool.and_false];exact Ev.const
  ·have e1:(a&&decide (r.Print.length<=4)&&decide (1<=r.Cells.length)&&decide (r.Cells.length<=4))=true:=by
    simp only[Jkb,decide_eq_true_eq,Bool.not_eq_true',not_or]at g1;simp only[JjT,decide_eq_true_eq];refine⟨⟨⟨by simpa using g1.1.1.1,?_⟩,?_⟩,?_⟩<;>omega
   have e2:(decide (1<=r.Left)&&decide (r.Left<=63)&&decide (1<=r.Right)&&decide (r.Right<=63)&&decide (0<=r.From)&&decide (r.From<m)&&decide (0<=r.To)&&decide (r.To<m))=true:=by
    simp only[Jkb,decide_eq_true_eq,not_or]at g2;simp only[JjT,decide_eq_true_eq];omega
   rw[e1,e2];simp only[g2,Jj4,if_false];refine Ev.bind h2 (Ev.bind hE ?_);split at hz
   ·rename_i h;subst hz;rw[h];generalize r.Print.any C2=b;cases b with
    | false=>exact Ev.const
    | true=>
     refine Ev.all λ n=>?_;simp only[JjF,Jj4,if_false,Bool.and_true,Bool.true_and,cond_true];congr 3<;>rw[Bool.eq_iff_iff]<;>simp<;>omega
   ·rename_i h;subst hz;rw[JjG]at h;rw[h];exact Ev.const
end Go.AI
end
