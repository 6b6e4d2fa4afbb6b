/- Part 5 of 6 of the proof: lemmas about the model and the program's functions, with no condition beyond those that each states. -/
import Derived.Test.YtnpikfdkjmebjaaLD
import Derived.ChangeArms
import Derived.WalkKit
import Derived.ProofKit
import Derived.OpenShut
import Derived.Carry
import Derived.WideKeyArgs
import Derived.ChangeSame
import Derived.KernelRfl
section
namespace Go.AI
open Go.Proofs
set_option maxRecDepth 10000
theorem xok (n kl:Nat):XOK Try.prog (cxk n kl):=⟨tyOK,rfl⟩
theorem fO (k:Nat) (s:St) {fn:Func} {f:FuncId} {args:List AV} {r:AV} (hf:Try.prog.funcs[f]? = some fn) (h:WP (cxk k 0) (A1 fn) [] (SJ (cxk k 0).ty fn.results.toList r) s) (hb:fn.body=some (A1 fn):=by kernel_rfl) (hnm:(fn.name == "runtime.NumGoroutine")=false:=by kernel_rfl) (hnt:(cxk k 0).nt.n=fn.ntmps:=by kernel_rfl) (hlen:Nat.ble args.length fn.ntmps=true:=by kernel_rfl) (hs:(⟨(List.range args.length).zip args,[]⟩:St)=s:=by kernel_rfl):A0 Try.prog f args r:=fo follows (Jcl k 0) hf h hb hnm hnt hlen hs
theorem fL (k nb:Nat) (s:St) {fn:Func} {f:FuncId} {args:List AV} {O0 O1:List (Option Ob)} {r:AV} (hf:Try.prog.funcs[f]? = some fn) (h:WP (cxk k nb) (A1 fn) [] (P3 nb (cxk k nb).ty fn.results.toList r O1) s) (hb:fn.body=some (A1 fn):=by kernel_rfl) (hnm:(fn.name == "runtime.NumGoroutine")=false:=by kernel_rfl) (hnt:(cxk k nb).nt=⟨fn.ntmps,[],nb,qfT⟩:=by kernel_rfl) (hlen:Nat.ble args.length fn.ntmps=true:=by kernel_rfl) (hs:(⟨(List.range args.length).zip args,O0⟩:St)=s:=by kernel_rfl):CG Try.prog f args O0 nb r O1:=fl follows (Jcl k nb) hf h hb hnm hnt hlen hs
theorem yok (n kl:Nat):YOK Try.prog (cxk n kl):=⟨rfl⟩
variable {n:Nat}
def AH (x:AF):List D:=[.str x.Print,.sl<|x.Cells.map eU8,.int .u8 x.Left,.int .u8 x.Right,.int .i64 x.From,.int .i64 x.To]
def AU (x:Ad):List D:=[.int .i64 x.Mode,.int .i64 x.Last,.int .u8 x.Need]
def Bb (x:EO):List D:=[.str x.Print,.sl<|x.Cells.map eU8,.int .i64 x.To]
def Av (x:Ap):List D:=[.sl<|x.Arcs.map<|eL Bb,.sl<|x.Accepts.map eB,.bool x.Alive]
def Aw (x:Af):List D:=[.int .u8 x.Cell,.str x.Print,.int .i64 x.To]
def YO (x:BR):List D:=[.int .i64 x.Side,.str x.Text]
def AQ (x:Am):List D:=[.int .i64 x.A,.int .i64 x.B]
def Aq (x:Ah):List D:=[.int .i64 x.Pair.A,.int .i64 x.Pair.B,.int .i64 x.Lead.Side,.str x.Lead.Text]
def Hg (x:Bf):List D:=[.sl<|x.Nodes.map Aq,dPG Aq x.From,.int .u8 x.Cell]
theorem OM {x:(List ((List Ah)×Int))} {y:Bf} (h:Q9 x=some y):x=(y.Nodes,y.Cell)::y.From:=by
  cases x with
  | nil=>cases h
  | cons p r=>cases h;rfl
def Al (x:Aa):List D:=[.int .i64 x.State,.str x.Rest]
def AY (x:An):List D:=[.int .i64 x.N,.int .i64 x.Leads.a0.Side,.str x.Leads.a0.Text,.int .i64 x.Leads.a1.Side,.str x.Leads.a1.Text]
def CE (x:AL):List D:=[.int .i64 x.Cell,.int .i64 x.Byte,.int .i64 x.State]
@[reducible] def HL {α:Type} (e:α->List D) (x:Ps α):List D:=e x.a0++e x.a1++e x.a2
def Du (x:Ab) (v2:AV):List AV:=[.d<|.int .i64 x.Modes,.d<|.int .u8 x.Accept,v2]
def HM (x:AF):List AV:=[.d<|.str x.Print,.d<|.sl<|x.Cells.map eU8,.d<|.int .u8 x.Left,.d<|.int .u8 x.Right,.d<|.int .i64 x.From,.d<|.int .i64 x.To]
def Bt (x:Ab):List AV:=[.d<|.int .i64 x.Modes,.d<|.int .u8 x.Accept,.d<|.sl<|x.Rules.map AH]
def Ra (x:Ad):List AV:=[.d<|.int .i64 x.Mode,.d<|.int .i64 x.Last,.d<|.int .u8 x.Need]
def Di (x:Ap) (v0:AV) (v1:AV):List AV:=[v0,v1,.d<|.bool x.Alive]
def SV (x:Af):List AV:=[.d<|.int .u8 x.Cell,.d<|.str x.Print,.d<|.int .i64 x.To]
def II (x:Ah):List AV:=[.d<|.int .i64 x.Pair.A,.d<|.int .i64 x.Pair.B,.d<|.int .i64 x.Lead.Side,.d<|.str x.Lead.Text]
def Jdt (x:EO):List AV:=[.d<|.str x.Print,.d<|.sl<|x.Cells.map eU8,.d<|.int .i64 x.To]
def Jcm (x:An):List AV:=[.d<|.int .i64 x.N,.d<|.int .i64 x.Leads.a0.Side,.d<|.str x.Leads.a0.Text,.d<|.int .i64 x.Leads.a1.Side,.d<|.str x.Leads.a1.Text]
def K9 (x:Bf) (v0:AV) (v1:AV):List AV:=[v0,v1,.d<|.int .u8 x.Cell]
def Rb (x:Cb):List AV:=[.d<|.sl<|x.Cells.map eU8,.d<|.str x.A,.d<|.str x.B]
def YP (x:AL):List AV:=[.d<|.int .i64 x.Cell,.d<|.int .i64 x.Byte,.d<|.int .i64 x.State]
def Vf (x:AF) (v1:AV):List AV:=[.d<|.str x.Print,v1,.d<|.int .u8 x.Left,.d<|.int .u8 x.Right,.d<|.int .i64 x.From,.d<|.int .i64 x.To]
theorem Jdu:∀ a b:Int,Au [.int .u8] ((eU8 a).map .d) ((eU8 b).map .d)=some (decide (a=b)):=by
  intro a b;simp[Au,eU8]
  all_goals (first|rfl|(rw[Bool.eq_iff_iff];simp))
theorem Qb:∀ a b:Ad,Au [.int .i64,.int .i64,.int .u8] ((AU a).map .d) ((AU b).map .d)=some (decide (a=b)):=by
  intro a b;cases a;cases b;simp[Au,AU,Bool.decide_and]
  all_goals (first|rfl|(rw[Bool.eq_iff_iff];simp))
theorem YQ:∀ a b:Aa,Au [.int .i64,.string] ((Al a).map .d) ((Al b).map .d)=some (decide (a=b)):=by
  intro a b;cases a;cases b;simp[Au,Al,Bool.decide_and]
  all_goals (first|rfl|(rw[Bool.eq_iff_iff];simp))
theorem YR:∀ a b:Am,Au [.int .i64,.int .i64] ((AQ a).map .d) ((AQ b).map .d)=some (decide (a=b)):=by
  intro a b;cases a;cases b;simp[Au,AQ,Bool.decide_and]
  all_goals (first|rfl|(rw[Bool.eq_iff_iff];simp))
theorem Ul:∀ a b:AL,Au [.int .i64,.int .i64,.int .i64] ((CE a).map .d) ((CE b).map .d)=some (decide (a=b)):=by
  intro a b;cases a;cases b;simp[Au,CE,Bool.decide_and]
  all_goals (first|rfl|(rw[Bool.eq_iff_iff];simp))
section
variable (a:(List (List UInt8))) (b:(List (List Int))) (c:Ab) (f:Int) (e:Ab)
def Jdv:St:=⟨(0,.d<|.sl<|a.map eS)::(1,.d<|.sl<|b.map<|eL eU8)::[],[]⟩
def Jdw:St:=⟨(0,.d<|.sl<|a.map eS)::(1,.d<|.sl<|b.map<|eL eU8)::(4,.ptr 0 0)::(5,.ptr 1 0)::(6,.d<|.int .i64 f)::[],[some<|.box [.d<|.int .i64 0,.d<|.int .u8 0,.osl 2 6 0<|List.length ([]:List AF)],some<|.box<|Du c<|.osl 3 6 0<|c.Rules.length,some<|.arr 6<|List.map AH ([]:List AF),some<|.arr 6<|c.Rules.map AH]⟩
def Jdx:St:=⟨(4,.ptr 0 0)::(5,.ptr 1 0)::[],[some<|.box [.d<|.int .i64 0,.d<|.int .u8 0,.osl 2 6 0<|List.length ([]:List AF)],some<|.box<|Du e<|.osl 3 6 0<|e.Rules.length,some<|.arr 6<|List.map AH ([]:List AF),some<|.arr 6<|e.Rules.map AH]⟩
def Pt:Ab->Ex->St->Prop:=xX 0 0<|λ (y:Ab)=>Jdx y
def KP:(Ab×Int)->St:=(λ (x:(Ab×Int))=>Jdw a b x.1 x.2)
variable {a b c f e}
theorem ON (x:(Ab×Int)) (z:((Ab×Int)⊕Ab)) (H:M7 n a b x.1 x.2=some z):WP (cxk 29 0) (A1 Try.f19) [1,1,0,1,0,0] (AX 0 (KP a b) (Pt) z) (KP a b x):=by
 obtain⟨c,f⟩:=x;refine sq<|sr<|ck 2<|sp (AT eS a)<|ck 1<|en<|cn H (λ H=>?_)<|λ H=>?_
 ·exact sk<|qz<|sq<|bk 1<|rz<|ck 4<|bx H λ l h H=>sp (AM eS h)<|ck 3<|bx H λ m i H=>sp (AM (eL eU8) i)<|ck 3<|bx H λ o j H=>sp (BC AH 3 6 j)<|ck 2<|ae<|qN<|qz<|rz<|ck 3<|ae (by cases H;exact og<|sg [0,1,4,5,6])
 ·exact ex 0<|qx (by cases H;exact xo rfl<|sg [4,5])
theorem EL {z} (H:EY n a b=some z):A0 Try.prog 19 [.d (.sl (a.map eS)),.d (.sl (b.map (eL eU8)))] (.agg [.d (.int .i64 z.Modes),.d (.int .u8 z.Accept),.own 6 (z.Rules.map AH)]):=by
 exact fO 29 (Jdv a b) Try.func19<|sr<|ck 1<|en<|sr<|ck 3<|en<|sq<|sr<|ck 1<|en<|bk 0<|bx H λ p k H=>lX ON k (tr (tr (D1 0 2 6 (by kernel_rfl))<|D1 1 2 6 (by kernel_rfl))<|sg [0,1,4,5,6]) rfl λ s g=>qH<|qs (g)<|sr<|ck 2<|en<|re (by cases H;exact pr<|rO (v:=.agg [.d<|.int .i64 z.Modes,.d<|.int .u8 z.Accept,.osl 3 6 0<|z.Rules.length]) [3]<|a1<|c1 vd<|c1 vd<|c1 vo<|c0)
end
section
variable (a:Int)
def Jdy:St:=⟨(0,.d<|.int .u8 a)::[],[]⟩
variable {a}
theorem La {z} (H:F6 n a=some z):A0 Try.prog 79 [.d (.int .u8 a)] (.d (.bool z)):=by
 exact fO 12 (Jdy a) Try.func79<|sr<|ck 1<|en<|sr<|ck 3<|en<|sr<|ck 4<|gc 1 (decide<|32<=Dp .u8 a 127)<|pA<|ck 1<|en<|re (by cases H;exact pr rd)
end
section
variable (a:(List UInt8)) (b:Int)
def Jdz:St:=⟨(0,.d<|.str a)::[],[]⟩
def JdA:St:=⟨(0,.d<|.str a)::(6,.d<|.int .i64 ((a.length:Nat):Int))::(7,.d<|.int .i64 b)::[],[]⟩
def JdB:St:=⟨(0,.d<|.str a)::[],[]⟩
def Pu:(Unit⊕(Int×Int))->Ex->St->Prop:=xS (xX 0 0<|λ (_:Unit)=>JdB a)<|xR ty Try.f72<|λ (y:(Int×Int))=>.tup [.d<|.int .i64 y.1,.d<|.int .i64 y.2]
def KQ:Int->St:=(λ (x:Int)=>JdA a x)
variable {a b}
theorem Jt (x:Int) (z:(Int⊕(Unit⊕(Int×Int)))) (H:Hc n a x=some z):WP (cxk 19 0) (A1 Try.f72) [1,0,1,0,0] (AX 0 (KQ a) (Pu a) z) (KQ a x):=by
 revert H;generalize x=b;intro H;refine sr<|ck 1<|en<|sq<|cn H (λ H=>?_)<|λ H=>?_
 ·refine sk<|qz<|sq<|bk 1<|sr<|ck 2<|en<|sr<|ck 2<|bx H λ j g H=>sp (Gn g)<|bx H λ k h H=>ca false (La h)<|ck 1<|en<|cn H (λ H=>?_)<|λ H=>?_
  ·exact sr<|ck 3<|en<|re<|qR<|qr (by cases H;exact ro rfl rdT)
  ·exact sk<|qN<|qz<|rz<|ck 2<|ae (by cases H;exact og<|sg [0,6,7])
 ·exact ex 0<|qx (by cases H;exact xo rfl<|sg [0])
theorem SW {z} (H:LO n a=some z):A0 Try.prog 72 [.d (.str a)] (.tup [.d (.int .i64 z.1),.d (.int .i64 z.2)]):=by
 refine fO 19 (Jdz a) Try.func72<|sr<|ck 2<|en<|sq<|sr<|ck 3<|en<|bk 0<|bx H λ i f H=>?_;rcases i with l|m
 ·exact lX Jt f (sg [0,6,7]) rfl λ s c=>qH<|qs (c)<|sr<|ck 4<|en<|re (by cases H;exact pr rdT)
 ·exact lR Jt f (sg [0,6,7]) rfl λ s e=>qR<|qr (by cases H;exact pr e)
end
section
variable (a:Int)
def JdC:St:=⟨(0,.d<|.int .u8 a)::[],[]⟩
variable {a}
theorem Ip {z} (H:Gw n a=some z):A0 Try.prog 61 [.d (.int .u8 a)] (.d (.int .i64 z)):=by
 refine fO 30 (JdC a) Try.func61<|sr<|ck 1<|en<|sr<|ck 3<|en<|sq<|bk 0<|sr<|ck 4<|gc 1 (decide<|97<=Dp .u8 a 127)<|pA<|ck 1<|en<|cn H (λ H=>?_)<|λ H=>?_
 ·exact sr<|ck 1<|en<|re<|qR<|qr (by cases H;exact pr rd)
 ·refine sr<|ck 4<|gc 1 (decide<|65<=Dp .u8 a 127)<|pA<|ck 1<|en<|cn H (λ H=>?_)<|λ H=>?_
  ·exact sr<|ck 1<|en<|re<|qR<|qr (by cases H;exact pr rd)
  ·refine sr<|ck 4<|gc 1 (decide<|48<=Dp .u8 a 127)<|pA<|ck 1<|en<|cn H (λ H=>?_)<|λ H=>?_
   ·exact sr<|ck 1<|en<|re<|qR<|qr (by cases H;exact pr rd)
   ·refine sr<|ck 3<|en<|cn H (λ H=>?_)<|λ H=>?_
    ·exact sr<|ck 1<|en<|re<|qR<|qr (by cases H;exact pr rd)
    ·exact sk<|qN<|qz<|sr<|ck 1<|en<|re (by cases H;exact pr rd)
end
section
variable (a:(List UInt8)) (b:Int)
def JdD:St:=⟨(0,.d<|.str a)::[],[]⟩
def JdE:St:=⟨(0,.d<|.str a)::(5,.d<|.int .i64 ((a.length:Nat):Int))::(6,.d<|.int .i64 b)::[],[]⟩
def JdF:St:=⟨[],[]⟩
def LR:(Unit⊕Bool)->Ex->St->Prop:=xS (xX 0 0<|λ (_:Unit)=>JdF)<|xR ty Try.f73<|λ (y:Bool)=>.d<|.bool y
def Hh:Int->St:=(λ (x:Int)=>JdE a x)
variable {a b}
theorem GO (x:Int) (z:(Int⊕(Unit⊕Bool))) (H:Ey n a x=some z):WP (cxk 15 0) (A1 Try.f73) [1,0,1,0,0] (AX 0 (Hh a) (LR) z) (Hh a x):=by
 revert H;generalize x=b;intro H;refine sr<|ck 1<|en<|sq<|cn H (λ H=>?_)<|λ H=>?_
 ·refine sk<|qz<|sq<|bk 1<|sr<|ck 2<|en<|sr<|ck 2<|bx H λ j g H=>sp (Gn g)<|bx H λ k h H=>ca false (Ip h)<|ck 1<|en<|cn H (λ H=>?_)<|λ H=>?_
  ·exact sr<|ck 1<|en<|re<|qR<|qr (by cases H;exact ro rfl rd)
  ·exact sk<|qN<|qz<|rz<|ck 2<|ae (by cases H;exact og<|sg [0,5,6])
 ·exact ex 0<|qx (by cases H;exact xo rfl<|sg [])
theorem Nl {z} (H:Gq n a=some z):A0 Try.prog 73 [.d (.str a)] (.d (.bool z)):=by
 refine fO 15 (JdD a) Try.func73<|sr<|ck 1<|en<|sq<|sr<|ck 3<|en<|bk 0<|bx H λ i c H=>?_;rcases i with l|m
 ·exact lX GO c (sg [0,5,6]) rfl λ s e=>qH<|qs (e)<|sr<|ck 1<|en<|re (by cases H;exact pr rd)
 ·exact lR GO c (sg [0,5,6]) rfl λ s f=>qR<|qr (by cases H;exact pr f)
end
section
variable (a:Int)
def JdG:St:=⟨(0,.d<|.int .u8 a)::[],[]⟩
variable {a}
theorem Rc {z} (H:Mq n a=some z):A0 Try.prog 74 [.d (.int .u8 a)] (.d (.bool z)):=by
 exact fO 5 (JdG a) Try.func74<|sr<|ck 1<|en<|sr<|ck 3<|en<|re (by cases H;exact pr rd)
end
section
variable (a:AF) (b:Int) (c:Int)
def JdH:St:=⟨(0,.agg [.d<|.str a.Print,.d<|.sl<|a.Cells.map eU8,.d<|.int .u8 a.Left,.d<|.int .u8 a.Right,.d<|.int .i64 a.From,.d<|.int .i64 a.To])::(1,.d<|.int .i64 b)::[],[]⟩
def JdI:St:=⟨(92,.d<|.sl<|a.Cells.map eU8)::(93,.d<|.int .i64 ((a.Cells.length:Nat):Int))::(94,.d<|.int .i64 c)::[],[]⟩
def JdJ:St:=⟨[],[]⟩
def OO:(Unit⊕Bool)->Ex->St->Prop:=xS (xX 0 0<|λ (_:Unit)=>JdJ)<|xR ty Try.f57<|λ (y:Bool)=>.d<|.bool y
def Ju:Int->St:=(λ (x:Int)=>JdI a x)
variable {a b c}
theorem IJ (x:Int) (z:(Int⊕(Unit⊕Bool))) (H:Gr n a x=some z):WP (cxk 110 0) (A1 Try.f57) [1,1,1,1,1,1,0,1,0,0] (AX 0 (Ju a) (OO) z) (Ju a x):=by
 revert H;generalize x=c;intro H;refine sr<|ck 1<|en<|sq<|cn H (λ H=>?_)<|λ H=>?_
 ·refine sk<|qz<|sq<|bk 1<|sr<|bx H λ p f H=>sp (AM eU8 f)<|ck 2<|en<|sr<|ck 1<|bx H λ o h H=>ca false (Rc h)<|ck 3<|gc 1 (!(!o))<|pO<|ck 2<|gc 1 (!((!o)||(p==63)))<|pO<|en<|cn H (λ H=>?_)<|λ H=>?_
  ·exact sr<|ck 1<|en<|re<|qR<|qr (by cases H;exact ro rfl rd)
  ·exact sk<|qN<|qz<|rz<|ck 2<|ae (by cases H;exact og<|sg [92,93,94])
 ·exact ex 0<|qx (by cases H;exact xo rfl<|sg [])
theorem Re {z} (H:Kd n a b=some z):A0 Try.prog 57 [.agg (HM a),.d (.int .i64 b)] (.d (.bool z)):=by
 refine fO 110 (JdH a b) Try.func57<|sr<|ck 2<|en<|sq<|sr<|ck 6<|gc 1 (!(decide<|((a.Print.length:Nat):Int)>4))<|sE (g:=(!(decide<|((a.Print.length:Nat):Int)>4))) (λ hg=>AT eU8 a.Cells)<|gc 1 (!(decide<|((a.Print.length:Nat):Int)>4))<|pO<|ck 2<|gc 1 (!((decide<|((a.Print.length:Nat):Int)>4)||(decide<|((a.Cells.length:Nat):Int)<1)))<|sE (g:=(!((decide<|((a.Print.length:Nat):Int)>4)||(decide<|((a.Cells.length:Nat):Int)<1)))) (λ hg=>AT eU8 a.Cells)<|gc 1 (!((decide<|((a.Print.length:Nat):Int)>4)||(decide<|((a.Cells.length:Nat):Int)<1)))<|pO<|en<|cn H (λ H=>?_)<|λ H=>?_
 ·exact sr<|ck 1<|en<|re<|qr (by cases H;exact pr rd)
 ·refine sk<|qz<|sq<|sr<|ck 2<|bx H λ t i H=>ca false (SW i)<|ck 5<|en<|sr<|ck 2<|en<|cn H (λ H=>?_)<|λ H=>?_
  ·exact sr<|ck 1<|en<|re<|qr (by cases H;exact pr rd)
  ·refine sk<|qz<|sq<|sr<|ck 5<|gc 2 (!(decide<|a.Left<1))<|pO<|ck 2<|gc 2 (!((decide<|a.Left<1)||(decide<|a.Left>63)))<|pO<|ck 2<|gc 2 (!(((decide<|a.Left<1)||(decide<|a.Left>63))||(decide<|a.Right<1)))<|pO<|en<|cn H (λ H=>?_)<|λ H=>?_
   ·exact sr<|ck 1<|en<|re<|qr (by cases H;exact pr rd)
   ·refine sk<|qz<|sq<|sr<|ck 5<|gc 1 (!(decide<|a.From<0))<|ck 1<|gc 1 (!(decide<|a.From<0))<|pO<|ck 2<|gc 2 (!((decide<|a.From<0)||(decide<|a.From>=b)))<|pO<|ck 2<|gc 1 (!(((decide<|a.From<0)||(decide<|a.From>=b))||(decide<|a.To<0)))<|ck 1<|gc 1 (!(((decide<|a.From<0)||(decide<|a.From>=b))||(decide<|a.To<0)))<|pO<|en<|cn H (λ H=>?_)<|λ H=>?_
    ·exact sr<|ck 1<|en<|re<|qr (by cases H;exact pr rd)
    ·refine sk<|qz<|sq<|sr<|ck 2<|bx H λ u j H=>ca false (Nl j)<|en<|cn H (λ H=>?_)<|λ H=>?_
     ·exact sr<|ck 6<|gc 1 (((a.Print.length:Nat):Int)==1)<|sE (g:=(((a.Print.length:Nat):Int)==1)) (λ hg=>AT eU8 a.Cells)<|gc 1 (((a.Print.length:Nat):Int)==1)<|pA<|ck 2<|gc 1 ((((a.Print.length:Nat):Int)==1)&&(((a.Cells.length:Nat):Int)==1))<|bx H λ v k H=>sE (λ hg=>AM eU8<|DA k hg)<|gc 2 ((((a.Print.length:Nat):Int)==1)&&(((a.Cells.length:Nat):Int)==1))<|pA<|ck 1<|en<|re<|qr (by cases H;exact pr rd)
     ·refine sk<|qz<|sq<|sr<|ck 2<|sp (AT eU8 a.Cells)<|ck 1<|en<|bk 0<|bx H λ q e H=>?_;rcases q with w|r
      ·exact lX IJ e (sg [92,93,94]) rfl λ s l=>qH<|qs (l)<|sr<|ck 1<|en<|re (by cases H;exact pr rd)
      ·exact lR IJ e (sg [92,93,94]) rfl λ s m=>qR<|qr (by cases H;exact pr m)
end
section
variable (a:(List Int)) (b:(List Int)) (c:Int)
def JdK:St:=⟨(0,.d<|.sl<|a.map eU8)::(1,.d<|.sl<|b.map eU8)::[],[]⟩
def JdL:St:=⟨(0,.d<|.sl<|a.map eU8)::(1,.d<|.sl<|b.map eU8)::(12,.d<|.int .i64 ((a.length:Nat):Int))::(13,.d<|.int .i64 c)::[],[]⟩
def JdM:St:=⟨[],[]⟩
def OP:(Unit⊕Bool)->Ex->St->Prop:=xS (xX 0 0<|λ (_:Unit)=>JdM)<|xR ty Try.f75<|λ (y:Bool)=>.d<|.bool y
def Jv:Int->St:=(λ (x:Int)=>JdL a b x)
variable {a b c}
theorem IK (x:Int) (z:(Int⊕(Unit⊕Bool))) (H:Gs n a b x=some z):WP (cxk 26 0) (A1 Try.f75) [1,1,0,1,0,0] (AX 0 (Jv a b) (OP) z) (Jv a b x):=by
 revert H;generalize x=c;intro H;refine sr<|ck 1<|en<|sq<|cn H (λ H=>?_)<|λ H=>?_
 ·refine sk<|qz<|sq<|bk 1<|sr<|ck 2<|en<|sr<|ck 2<|bx H λ m f H=>sp (AM eU8 f)<|ck 3<|bx H λ o g H=>sp (AM eU8 g)<|ck 2<|en<|cn H (λ H=>?_)<|λ H=>?_
  ·exact sr<|ck 1<|en<|re<|qR<|qr (by cases H;exact ro rfl rd)
  ·exact sk<|qN<|qz<|rz<|ck 2<|ae (by cases H;exact og<|sg [0,1,12,13])
 ·exact ex 0<|qx (by cases H;exact xo rfl<|sg [])
theorem Rf {z} (H:Ke n a b=some z):A0 Try.prog 75 [.d (.sl (a.map eU8)),.d (.sl (b.map eU8))] (.d (.bool z)):=by
 refine fO 26 (JdK a b) Try.func75<|sr<|ck 1<|en<|sq<|sr<|ck 1<|sp (AT eU8 a)<|ck 1<|sp (AT eU8 b)<|ck 1<|en<|cn H (λ H=>?_)<|λ H=>?_
 ·exact sr<|ck 1<|en<|re<|qr (by cases H;exact pr rd)
 ·refine sk<|qz<|sq<|sr<|ck 1<|sp (AT eU8 a)<|ck 1<|en<|bk 0<|bx H λ h e H=>?_;rcases h with k|l
  ·exact lX IK e (sg [0,1,12,13]) rfl λ s i=>qH<|qs (i)<|sr<|ck 1<|en<|re (by cases H;exact pr rd)
  ·exact lR IK e (sg [0,1,12,13]) rfl λ s j=>qR<|qr (by cases H;exact pr j)
end
section
variable (a:AF) (b:AF)
def JdN:St:=⟨(0,.agg [.d<|.str a.Print,.d<|.sl<|a.Cells.map eU8,.d<|.int .u8 a.Left,.d<|.int .u8 a.Right,.d<|.int .i64 a.From,.d<|.int .i64 a.To])::(1,.agg [.d<|.str b.Print,.d<|.sl<|b.Cells.map eU8,.d<|.int .u8 b.Left,.d<|.int .u8 b.Right,.d<|.int .i64 b.From,.d<|.int .i64 b.To])::[],[]⟩
variable {a b}
theorem Rg {z} (H:Kf n a b=some z):A0 Try.prog 58 [.agg (HM a),.agg (HM b)] (.d (.bool z)):=by
 exact fO 45 (JdN a b) Try.func58<|sr<|ck 3<|en<|sr<|ck 7<|gc 1 (a.From==b.From)<|ck 1<|gc 2 (a.From==b.From)<|pA<|ck 2<|gc 1 ((a.From==b.From)&&(a.To==b.To))<|ck 1<|gc 2 ((a.From==b.From)&&(a.To==b.To))<|pA<|ck 2<|gc 1 (((a.From==b.From)&&(a.To==b.To))&&(a.Left==b.Left))<|ck 1<|gc 2 (((a.From==b.From)&&(a.To==b.To))&&(a.Left==b.Left))<|pA<|ck 2<|gc 1 ((((a.From==b.From)&&(a.To==b.To))&&(a.Left==b.Left))&&(a.Right==b.Right))<|ck 1<|gc 2 ((((a.From==b.From)&&(a.To==b.To))&&(a.Left==b.Left))&&(a.Right==b.Right))<|pA<|ck 2<|gc 1 (((((a.From==b.From)&&(a.To==b.To))&&(a.Left==b.Left))&&(a.Right==b.Right))&&(a.Print==b.Print))<|ck 1<|gc 1 (((((a.From==b.From)&&(a.To==b.To))&&(a.Left==b.Left))&&(a.Right==b.Right))&&(a.Print==b.Print))<|bx H λ e c H=>cG false (leZ) rfl (λ hg=>Rf<|DA c hg) (Or.inl rfl) (C0 (λ hh=>hh)<|C0 (λ hh=>hh)<|EW) rfl<|pA<|ck 1<|en<|re (by cases H;exact pr rd)
end
section
variable (a:Ab) (b:Int) (e:AF) (c:(List AF)) (f:Int)
def JdO:St:=⟨(0,.agg [.d<|.int .i64 a.Modes,.d<|.int .u8 a.Accept,.d<|.sl<|a.Rules.map AH])::[],[]⟩
def JdP:St:=⟨(1,.ptr 0 0)::(39,.d<|.sl<|a.Rules.map AH)::(40,.d<|.int .i64 ((a.Rules.length:Nat):Int))::(41,.d<|.int .i64 b)::[],[some<|.box<|Bt a]⟩
def JdQ:St:=⟨[],[]⟩
def JdR:St:=⟨(1,.ptr 0 0)::(4,.d<|.int .i64 b)::(5,.ptr 1 0)::(39,.d<|.sl<|a.Rules.map AH)::(40,.d<|.int .i64 ((a.Rules.length:Nat):Int))::(41,.d<|.int .i64 b)::(55,.d<|.sl<|c.map AH)::(56,.d<|.int .i64 ((c.length:Nat):Int))::(57,.d<|.int .i64 f)::[],[some<|.box<|Bt a,some<|.box<|HM e]⟩
def JdS:St:=⟨(1,.ptr 0 0)::(39,.d<|.sl<|a.Rules.map AH)::(40,.d<|.int .i64 ((a.Rules.length:Nat):Int))::(41,.d<|.int .i64 b)::[],[some<|.box<|Bt a]⟩
def OQ:(Unit⊕(Int×Int))->Ex->St->Prop:=xS (xX 0 2<|λ (_:Unit)=>JdS a b)<|xR ty Try.f37<|λ (y:(Int×Int))=>.tup [.d<|.int .i64 y.1,.d<|.int .i64 y.2]
def Jw:Int->St:=(λ (x:Int)=>JdR a b e c x)
def OR:(Unit⊕(Int×Int))->Ex->St->Prop:=xS (xX 0 0<|λ (_:Unit)=>JdQ)<|xR ty Try.f37<|λ (y:(Int×Int))=>.tup [.d<|.int .i64 y.1,.d<|.int .i64 y.2]
def Jx:Int->St:=(λ (x:Int)=>JdP a x)
variable {a b e c f}
theorem IL (x:Int) (z:(Int⊕(Unit⊕(Int×Int)))) (H:EZ n a b e c x=some z):WP (cxk 67 0) (A1 Try.f37) [1,1,1,1,0,1,0,0,1,1,0,0,1,1,1,0,0] (AX 0 (Jw a b e c) (OQ a b) z) (Jw a b e c x):=by
 revert H;generalize x=f;intro H;refine sr<|ck 1<|en<|sq<|cn H (λ H=>?_)<|λ H=>?_
 ·refine sk<|qz<|sq<|bk 3<|sr<|bx H λ I o H=>sp (AM AH o)<|ck 3<|en<|sr<|ck 2<|bx H λ J p H=>ca false (Rg p)<|en<|cn H (λ H=>?_)<|λ H=>?_
  ·exact sr<|ck 3<|en<|re<|qR<|qr (by cases H;exact ro rfl rdT)
  ·exact sk<|qN<|qz<|rz<|ck 2<|ae (by cases H;exact og<|sg [1,4,5,39,40,41,55,56,57])
 ·exact ex 2<|qx (by cases H;exact xo rfl<|sg [1,39,40,41])
theorem IM (x:Int) (z:(Int⊕(Unit⊕(Int×Int)))) (H:E0 n a x=some z):WP (cxk 67 0) (A1 Try.f37) [1,1,1,1,0,1,0,0] (AX 0 (Jx a) (OR) z) (Jx a x):=by
 revert H;generalize x=b;intro H;refine sr<|ck 1<|en<|sq<|cn H (λ H=>?_)<|λ H=>?_
 ·refine sk<|qz<|sq<|bk 1<|sr<|ck 1<|bx H λ e q H=>sp (AM AH q)<|ck 4<|en<|sq<|sr<|ck 3<|bx H λ K r H=>ca false (Re r)<|ck 1<|en<|cn H (λ H=>?_)<|λ H=>?_
  ·exact sr<|ck 3<|en<|re<|qr<|qR<|qr (by cases H;exact ro rfl rdT)
  ·refine sk<|qz<|sr<|ck 3<|bx H λ c t H=>sp (Uc AH 6 t)<|sp (AT AH c)<|ck 1<|en<|bk 2<|bx H λ u h H=>?_;rcases u with A|B
   ·exact lX IL h (sg [1,4,5,39,40,41,55,56,57]) rfl λ s i=>qH<|qN<|qs (i)<|rz<|ck 2<|ae (by cases H;exact og<|sg [1,39,40,41])
   ·exact lR IL h (sg [1,4,5,39,40,41,55,56,57]) rfl λ s j=>qR<|qR<|qr (by cases H;exact ro rfl j)
 ·exact ex 0<|qx (by cases H;exact xo rfl<|sg [])
theorem Rh {z} (H:Kg n a=some z):A0 Try.prog 37 [.agg (Bt a)] (.tup [.d (.int .i64 z.1),.d (.int .i64 z.2)]):=by
 refine fO 67 (JdO a) Try.func37<|sr<|ck 3<|en<|sq<|sr<|ck 5<|gc 2 (!(decide<|a.Modes<1))<|pO<|en<|cn H (λ H=>?_)<|λ H=>?_
 ·exact sr<|ck 2<|en<|re<|qr (by cases H;exact pr rdT)
 ·refine sk<|qz<|sq<|sr<|ck 5<|gc 2 (!(a.Accept==0))<|ck 1<|gc 1 (!(a.Accept==0))<|bx H λ C v H=>soG (λ hg=>LK<|DA v hg) (C0 (λ hh=>hh)<|EW)<|gc 1 (!(a.Accept==0))<|pO<|en<|cn H (λ H=>?_)<|λ H=>?_
  ·exact sr<|ck 2<|en<|re<|qr (by cases H;exact pr rdT)
  ·refine sk<|qz<|sq<|sr<|ck 2<|sp (AT AH a.Rules)<|ck 3<|gc 1 (!(decide<|((a.Rules.length:Nat):Int)<1))<|sE (g:=(!(decide<|((a.Rules.length:Nat):Int)<1))) (λ hg=>AT AH a.Rules)<|gc 1 (!(decide<|((a.Rules.length:Nat):Int)<1))<|pO<|en<|cn H (λ H=>?_)<|λ H=>?_
   ·exact sr<|ck 2<|en<|re<|qr (by cases H;exact pr rdT)
   ·refine sk<|qz<|sq<|sr<|ck 2<|sp (AT AH a.Rules)<|ck 1<|en<|bk 0<|bx H λ w k H=>?_;rcases w with E|G
    ·exact lX IM k (sg [1,39,40,41]) rfl λ s l=>qH<|qs (l)<|sr<|ck 2<|en<|re (by cases H;exact pr rdT)
    ·exact lR IM k (sg [1,39,40,41]) rfl λ s m=>qR<|qr (by cases H;exact pr m)
end
section
variable (a:Ab)
def JdT:St:=⟨(0,.agg [.d<|.int .i64 a.Modes,.d<|.int .u8 a.Accept,.d<|.sl<|a.Rules.map AH])::[],[]⟩
variable {a}
theorem LS {z} (H:Kh n a=some z):A0 Try.prog 22 [.agg (Bt a)] (.d (.bool z)):=by
 exact fO 12 (JdT a) Try.func22<|sr<|ck 2<|en<|sr<|ck 1<|bx H λ c b H=>ca false (Rh b)<|ck 5<|en<|sr<|ck 3<|en<|re (by cases H;exact pr rd)
end
def JdU:St:=⟨[],[]⟩
theorem Ri {z} (H:Mr n=some z):A0 Try.prog 76 [] (.agg [.d (.int .i64 z.Mode),.d (.int .i64 z.Last),.d (.int .u8 z.Need)]):=by
 exact fO 2 JdU Try.func76<|sr<|ck 1<|en<|sr<|ck 2<|en<|re (by cases H;exact pr rd)
section
variable (b:Int) (a:Int)
def JdV:St:=⟨(0,.d<|.int .u8 b)::(1,.d<|.int .i64 a)::[],[]⟩
variable {b a}
theorem Iq {z} (H:Ik n b a=some z):A0 Try.prog 60 [.d (.int .u8 b),.d (.int .i64 a)] (.d (.bool z)):=by
 exact fO 18 (JdV b a) Try.func60<|sr<|ck 1<|en<|sr<|ck 4<|gc 1 (decide<|0<=a)<|pA<|ck 3<|bx H λ e c H=>soG (λ hg=>LK<|DA c hg) (C0 (λ hh=>hh)<|C0 (λ hh=>hh)<|EW)<|gc 2 ((decide<|0<=a)&&(decide<|a<8))<|pA<|ck 1<|en<|re (by cases H;exact pr rd)
end
section
variable (b:Ab) (a:Ad) (c:Int)
def JdW:St:=⟨(0,.agg [.d<|.int .i64 b.Modes,.d<|.int .u8 b.Accept,.d<|.sl<|b.Rules.map AH])::(1,.agg [.d<|.int .i64 a.Mode,.d<|.int .i64 a.Last,.d<|.int .u8 a.Need])::(2,.d<|.int .i64 c)::[],[]⟩
variable {b a c}
theorem M9 {z} (H:Js n b a c=some z):A0 Try.prog 41 [.agg (Bt b),.agg (Ra a),.d (.int .i64 c)] (.tup [.agg [.d (.int .i64 z.1.Mode),.d (.int .i64 z.1.Last),.d (.int .u8 z.1.Need)],.d (.bool z.2)]):=by
 refine fO 78 (JdW b a c) Try.func41<|sr<|ck 4<|en<|sq<|sr<|ck 5<|gc 1 (!(decide<|c<0))<|sE (g:=(!(decide<|c<0))) (λ hg=>AT AH b.Rules)<|gc 1 (!(decide<|c<0))<|pO<|en<|cn H (λ H=>?_)<|λ H=>?_
 ·exact sr<|ck 3<|en<|re<|qr (by cases H;exact pr rdT)
 ·refine sk<|qz<|sr<|ck 3<|bx H λ e f H=>sp (AM AH f)<|ck 3<|en<|sq<|sr<|ck 7<|gc 1 (!(e.From != a.Mode))<|ck 1<|gc 1 (!(e.From != a.Mode))<|bx H λ o h H=>cG false (leZ) rfl (λ hg=>Iq<|DA h hg) (Or.inl rfl) (C0 (λ hh=>hh)<|C0 (λ hh=>hh)<|EW) rfl<|gc 1 (!(e.From != a.Mode))<|pO<|en<|cn H (λ H=>?_)<|λ H=>?_
  ·exact sr<|ck 3<|en<|re<|qr (by cases H;exact pr rdT)
  ·refine sk<|qz<|sq<|sr<|ck 3<|en<|cn H (λ H=>?_)<|λ H=>?_
   ·refine sr<|ck 6<|en<|sq<|sr<|ck 2<|en<|cn H (λ H=>?_)<|λ H=>?_
    ·exact sr<|ck 3<|en<|re<|qr<|qr (by cases H;exact pr rdT)
    ·exact sk<|qz<|sr<|ck 8<|en<|re<|qr (by cases H;exact pr rdT)
   ·refine sk<|qz<|sq<|sr<|ck 4<|bx H λ s i H=>sp (Gn i)<|bx H λ p j H=>ca false (Ip j)<|bx H λ q k H=>ca false (Iq k)<|ck 1<|en<|cn H (λ H=>?_)<|λ H=>?_
    ·exact sr<|ck 3<|en<|re<|qr (by cases H;exact pr rdT)
    ·exact sk<|qz<|sr<|ck 8<|bx H λ t l H=>sp (Gn l)<|bx H λ r m H=>ca false (Ip m)<|ck 5<|en<|re (by cases H;exact pr rdT)
end
section
variable (f:Ab) (o:(List Ad)) (p:(List (List Int))) (A:(List (Ad×Int))) (u:Int) (B:(List Ad)) (K:(List (List Int))) (a:(List Ad)) (g:(List (List Int))) (b:(List (Ad×Int))) (L:Int) (C:(List Ad)) (M:(List (List Int))) (J:(List (Ad×Int))) (q:(List Ad)) (w:(List (List Int))) (E:(List (Ad×Int))) (h:(List Ad)) (c:(List (List Int))) (r:(List (Ad×Int))) (G:Int)
def JdX:St:=⟨(0,.agg [.d<|.int .i64 f.Modes,.d<|.int .u8 f.Accept,.d<|.sl<|f.Rules.map AH])::[],[]⟩
def JdY:St:=⟨(1,.ptr 0 0)::(5,.osl 1 3 0<|o.length)::(6,.osl 2 1 0<|p.length)::(7,.mp 3)::(8,.d<|.int .i64 u)::[],[some<|.box<|Bt f,some<|.arr 3<|o.map AU,some<|.narr 1<|p.map<|nL 1 AN,some<|.map true false<|AA AU AN A]⟩
def JdZ:St:=⟨(5,.osl 0 3 0<|B.length)::(6,.osl 1 1 0<|K.length)::[],[some<|.arr 3<|B.map AU,some<|.narr 1<|K.map<|nL 1 AN]⟩
def Jd0:St:=⟨(1,.ptr 0 0)::(5,.osl 1 3 0<|a.length)::(6,.osl 2 1 0<|g.length)::(7,.mp 3)::(8,.d<|.int .i64 u)::(29,.d<|.int .i64 ((f.Rules.length:Nat):Int))::(30,.d<|.int .i64 L)::[],[some<|.box<|Bt f,some<|.arr 3<|a.map AU,some<|.narr 1<|g.map<|nL 1 AN,some<|.map true false<|AA AU AN b]⟩
def Jd1:St:=⟨(1,.ptr 0 0)::(5,.osl 1 3 0<|C.length)::(6,.osl 2 1 0<|M.length)::(7,.mp 3)::(8,.d<|.int .i64 u)::[],[some<|.box<|Bt f,some<|.arr 3<|C.map AU,some<|.narr 1<|M.map<|nL 1 AN,some<|.map true false<|AA AU AN J]⟩
def Jd2:St:=⟨(1,.ptr 0 0)::(5,.osl 1 3 0<|q.length)::(6,.osl 2 1 0<|w.length)::(7,.mp 3)::(8,.d<|.int .i64 u)::(29,.d<|.int .i64 ((f.Rules.length:Nat):Int))::(30,.d<|.int .i64 L)::[],[some<|.box<|Bt f,some<|.arr 3<|q.map AU,some<|.narr 1<|w.map<|nL 1 AN,some<|.map true false<|AA AU AN E]⟩
def Jd3:St:=⟨(1,.ptr 0 0)::(5,.osl 1 3 0<|h.length)::(6,.osl 2 1 0<|c.length)::(7,.mp 3)::(8,.d<|.int .i64 u)::(12,.d<|.int .i64 G)::(29,.d<|.int .i64 ((f.Rules.length:Nat):Int))::(30,.d<|.int .i64 L)::[],[some<|.box<|Bt f,some<|.arr 3<|h.map AU,some<|.narr 1<|c.map<|nL 1 AN,some<|.map true false<|AA AU AN r]⟩
def Mv:((List Ad)×(List<|List Int)×(List<|Ad×Int))->Ex->St->Prop:=xX 0 2<|λ (y:((List Ad)×(List<|List Int)×(List<|Ad×Int)))=>Jd1 f u y.1 y.2.1 y.2.2
def HN:((List Ad)×(List<|List Int)×(List<|Ad×Int)×Int)->St:=(λ (x:((List Ad)×(List<|List Int)×(List<|Ad×Int)×Int))=>Jd0 f u x.1 x.2.1 x.2.2.1 x.2.2.2)
def Mw:((List Ad)×(List<|List Int))->Ex->St->Prop:=xX 0 0<|λ (y:((List Ad)×(List<|List Int)))=>JdZ y.1 y.2
def HO:((List Ad)×(List<|List Int)×(List<|Ad×Int)×Int)->St:=(λ (x:((List Ad)×(List<|List Int)×(List<|Ad×Int)×Int))=>JdY f x.1 x.2.1 x.2.2.1 x.2.2.2)
variable {f o p A u B K a g b L C M J q w E h c r G}
theorem LT (x:((List Ad)×(List (List Int))×(List (Ad×Int))×Int)) (z:(((List Ad)×(List (List Int))×(List (Ad×Int))×Int)⊕((List Ad)×(List (List Int))×(List (Ad×Int))))) (H:BU n f u x.1 x.2.1 x.2.2.1 x.2.2.2=some z):WP (cxk 78 0) (A1 Try.f59) [1,1,1,1,0,1,0,0,1,0,0,1,0,0] (AX 0 (HN f u) (Mv f u) z) (HN f u x):=by
 obtain⟨a,g,b,L⟩:=x;refine sr<|ck 1<|en<|sq<|cn H (λ H=>?_)<|λ H=>?_
 ·refine sk<|qz<|sj (λ (x:((List Ad)×(List<|List Int)×(List<|Ad×Int)))=>Jd2 f u L x.1 x.2.1 x.2.2) (λ (x:((List Ad)×(List<|List Int)×(List<|Ad×Int)))=>C2 n L x.1 x.2.1 x.2.2) z ?_ (λ i=>?_)
  ·rintro⟨q,w,E⟩ H;exact rz<|ck 2<|ae (by cases H;exact og<|gP [1,5,6,7,8,29,30] [0,1,2,3]<|po1<|po1<|pn1 (nL 1 AN) w<|po1<|Pl.z)
  refine bk 3<|sr<|ck 2<|en<|sr<|ck 3<|bx H λ ah T H=>sp (Bo 1 3 T)<|sp (Ej AU 1 0 (ty 79) T)<|ck 1<|bx H λ I X H=>ca false (M9 X)<|ck 6<|en<|sq<|sr<|ck 2<|en<|cn H (λ H=>?_)<|λ H=>?_
  ·exact ex 3<|qx<|qH<|qs (gP [1,5,6,7,8,29,30] [0,1,2,3]<|po1<|po1<|pn1 (nL 1 AN) g<|po1<|Pl.z)<|i (a,g,b) H
  ·refine sk<|qz<|sr<|ck 2<|sp (Jr (enc:=AN) (encK:=AU) (k:=3) (e1:=λ x=>.int .i64 x) (m:=b) (l:=[.d<|.int .i64 I.1.Mode,.d<|.int .i64 I.1.Last,.d<|.int .u8 I.1.Need]) (key:=I.1) (z:=0) (vz:=[.int .i64 0]) Qb true)<|ck 5<|en<|sj (λ (x:((List Ad)×(List<|List Int)×(List<|Ad×Int)×Int))=>Jd3 f u L x.1 x.2.1 x.2.2.1 x.2.2.2) (λ (x:((List Ad)×(List<|List Int)×(List<|Ad×Int)×Int))=>DZ n u L x.1 x.2.1 x.2.2.1 x.2.2.2) z ?_ (λ j=>?_)
   ·rintro⟨h,c,r,G⟩ H;exact bx H λ P O H=>rg (tr (so1 (encN:=(nL 1 AN)) 2 1 O)<|sno (encN:=(nL 1 AN)) (enc:=AN) O [.own 1<|P.map AN] P 1 2 0 1)<|ck 4<|sp (Bo 2 1 O)<|sp (Q3 (encN:=(nL 1 AN)) (row:=[.osl 4 1 0<|P.length]) (k:=2) (sz:=1) (off:=0) (t:=ty 82) (v:=.osl 4 1 0<|P.length) O)<|ck 2<|bx H λ Q Y H=>sp (BC AN 4 1 Y)<|sp (Bo 2 1 O)<|sp (Ud (encN:=(nL 1 AN)) (row:=[.osl 4 1 0<|P.length]) (row':=[.osl 6 1 0<|Q.length]) (k:=2) (sz:=1) (off:=0) (t:=ty 82) (v:=.osl 6 1 0<|Q.length) O)<|ae<|qN<|qs (tr (tr (tr (tr (tr (sni (encN:=(nL 1 AN)) (xs:=c) (n:=G) (enc:=AN) [.osl 6 1 0<|Q.length] Q 1 2 0 6 1)<|scl (encN:=(nL 1 AN)) (xss:=c) G [.own 1<|Q.map AN] 1 2 Q)<|sn 6 2 1<|lsS c G.toNat Q)<|sn 65 2 1<|lsS c G.toNat Q)<|sn 67 2 1<|lsS c G.toNat Q)<|gP [1,5,6,7,8,29,30] [0,1,2,3]<|po1<|po1<|pn1 (nL 1 AN) (List.set c G.toNat Q)<|po1<|Pl.z)<|i (h,(List.set c G.toNat Q),r) H
   refine sr<|ck 2<|en<|cn H (λ H=>?_)<|λ H=>?_
   ·exact sr<|ck 3<|en<|sr<|ck 3<|sp (Kc (enc:=AN) (encK:=AU) (k:=3) (e1:=λ x=>.int .i64 x) (m:=b) (l:=[.d<|.int .i64 I.1.Mode,.d<|.int .i64 I.1.Last,.d<|.int .u8 I.1.Need]) (key:=I.1) (y:=((a.length:Nat):Int)) (v:=.d<|.int .i64 ((a.length:Nat):Int)) (vz:=[.int .i64 0]) Qb)<|en<|rz<|ck 3<|bx H λ l4 Z H=>sp (BC AU 1 3 Z)<|ck 1<|sK false<|bx H λ l5 U H=>sp (Jbg (encN:=(nL 1 AN)) (esz:=1) (k:=2) (e:=[.nil]) U)<|ck 2<|ae<|qs (tr (JcX (encN:=(nL 1 AN)) (xss:=g) (yss:=l5) (y:=([]:(List Int))) (row:=[.own 0 []]) (sz:=1) 7 (by kernel_rfl) (Ja5 U) (by kernel_rfl))<|gP [1,5,6,7,8,12,29,30] [0,6,7,3]<|po1<|po1<|pn1 (nL 1 AN) l5<|po1<|Pl.z)<|j (l4,l5,(DV I.1 ((a.length:Nat):Int) b),((a.length:Nat):Int)) H
   ·exact sk<|qs (gP [1,5,6,7,8,12,29,30] [0,1,2,3]<|po1<|po1<|pn1 (nL 1 AN) g<|po1<|Pl.z)<|j (a,g,b,(Option.getD (BJ I.1 b) 0)) H
 ·exact ex 2<|qx (by cases H;exact xo rfl<|gP [1,5,6,7,8] [0,1,2,3]<|po1<|po1<|pn1 (nL 1 AN) g<|po1<|Pl.z)
theorem LU (x:((List Ad)×(List (List Int))×(List (Ad×Int))×Int)) (z:(((List Ad)×(List (List Int))×(List (Ad×Int))×Int)⊕((List Ad)×(List (List Int))))) (H:C3 n f x.1 x.2.1 x.2.2.1 x.2.2.2=some z):WP (cxk 78 0) (A1 Try.f59) [1,1,1,1,0,1,0,0] (AX 0 (HO f) (Mw) z) (HO f x):=by
 obtain⟨o,p,A,u⟩:=x;refine sq<|sr<|ck 4<|en<|cn H (λ H=>?_)<|λ H=>?_
 ·exact sk<|qz<|sq<|bk 1<|sr<|ck 2<|sp (AT AH f.Rules)<|ck 1<|en<|bk 2<|bx H λ ab ac H=>lX LT ac (gP [1,5,6,7,8,29,30] [0,1,2,3]<|po1<|po1<|pn1 (nL 1 AN) p<|po1<|Pl.z) rfl λ s V=>qH<|qN<|qs (V)<|rz<|ck 3<|ae (by cases H;exact og<|gP [1,5,6,7,8] [0,1,2,3]<|po1<|po1<|pn1 (nL 1 AN) ab.2.1<|po1<|Pl.z)
 ·exact ex 0<|qx (by cases H;exact xo rfl<|gP [5,6] [1,2]<|po1<|pn1 (nL 1 AN) p<|Pl.z)
theorem Jy {z} (H:FN n f=some z):A0 Try.prog 59 [.agg (Bt f)] (.tup [.own 3 (z.1.map AU),.d (.sl (z.2.map (eL AN)))]):=by
 exact fO 78 (JdX f) Try.func59<|sr<|ck 3<|en<|sr<|bx H λ R af H=>ca false (Ri af)<|ck 2<|en<|sr<|ck 2<|sK true<|ck 2<|en<|sq<|rg (X6 (sz:=1) (es:=[[.nil]]) 3 (List.map (nL 1 AN) ([[]]:List (List Int))) (by kernel_rfl) (by kernel_rfl))<|ck 2<|sp (Kc (enc:=AN) (encK:=AU) (k:=4) (e1:=λ x=>.int .i64 x) (m:=[]) (l:=[.d<|.int .i64 R.Mode,.d<|.int .i64 R.Last,.d<|.int .u8 R.Need]) (key:=R) (y:=0) (v:=.d<|.int .i64 0) (vz:=[.int .i64 0]) Qb)<|ck 2<|en<|sq<|sr<|ck 1<|en<|bk 0<|bx H λ S ag H=>lX LU ag (gP [1,5,6,7,8] [0,2,3,4]<|po1<|po1<|pn1 (nL 1 AN) ([[]]:List (List Int))<|po1<|Pl.z) rfl λ s W=>qH<|qs (W)<|sr<|ck 4<|ae<|qs (Ja7 (encN:=(nL 1 AN)) (encD:=(eL AN)) (xss:=S.2) (k:=1) (sz:=1) 3 (by kernel_rfl) (λ _=>rfl)<|λ _=>rfl)<|re (by cases H;exact pr<|rT (vs:=[.osl 0 3 0<|S.1.length,.d<|.sl<|S.2.map<|eL AN]) [0]<|t1 (ao vo)<|t1 (ad vd)<|t0)
end
section
variable (a:Ab)
def Jd4:St:=⟨(0,.agg [.d<|.int .i64 a.Modes,.d<|.int .u8 a.Accept,.d<|.sl<|a.Rules.map AH])::[],[]⟩
variable {a}
theorem Pv {z} (H:K8 n a=some z):A0 Try.prog 38 [.agg (Bt a)] (.own 3 (z.map AU)):=by
 exact fO 11 (Jd4 a) Try.func38<|sr<|ck 2<|en<|sr<|ck 1<|bx H λ b c H=>cl [List.length b.1] (Jy c)<|ck 5<|en<|sr<|ck 2<|en<|re (by cases H;exact pr<|rO (v:=.osl 1 3 0<|b.1.length) [1]<|ao vo)
end
section
variable (a:Ab) (b:Ad)
def Jd5:St:=⟨(0,.agg [.d<|.int .i64 a.Modes,.d<|.int .u8 a.Accept,.d<|.sl<|a.Rules.map AH])::(1,.agg [.d<|.int .i64 b.Mode,.d<|.int .i64 b.Last,.d<|.int .u8 b.Need])::[],[]⟩
variable {a b}
theorem Jz {z} (H:FO n a b=some z):A0 Try.prog 40 [.agg (Bt a),.agg (Ra b)] (.d (.bool z)):=by
 exact fO 22 (Jd5 a b) Try.func40<|sr<|ck 3<|en<|sr<|ck 7<|gc 1 (decide<|b.Mode<a.Modes)<|ck 1<|gc 1 (decide<|b.Mode<a.Modes)<|bx H λ c e H=>cG false (leZ) rfl (λ hg=>Iq<|DA e hg) (Or.inl rfl) (C0 (λ hh=>hh)<|C0 (λ hh=>hh)<|EW) rfl<|pA<|ck 2<|gc 1 ((decide<|b.Mode<a.Modes)&&c)<|bx H λ g f H=>cG false (leZ) rfl (λ hg=>Iq<|DA f hg) (Or.inl rfl) (C0 (λ hh=>hh)<|EW) rfl<|pA<|ck 1<|en<|re (by cases H;exact pr rd)
end
section
variable (g:Ab) (a:((List Ad)×(List (List Int)))) (b:(List Bool)) (h:(List Int)) (C:Int) (t:(List Bool)) (A:(List Int)) (i:(List Bool)) (p:(List Int)) (j:(List Bool)) (q:(List Int)) (u:(List Bool)) (o:(List Int)) (c:(List Bool)) (l:(List Int)) (E:Int) (w:(List Bool)) (B:(List Int)) (m:(List Bool)) (r:(List Int))
def Jd6:St:=⟨(0,.agg [.d<|.int .i64 g.Modes,.d<|.int .u8 g.Accept,.d<|.sl<|g.Rules.map AH])::[],[]⟩
def Jd7:St:=⟨(1,.ptr 0 0)::(4,.d<|.sl<|a.2.map<|eL AN)::(5,.osl 1 1 0<|b.length)::(6,.osl 2 1 0<|h.length)::(20,.d<|.sl<|a.1.map AU)::(21,.d<|.int .i64 ((a.1.length:Nat):Int))::(22,.d<|.int .i64 C)::[],[some<|.box<|Bt g,some<|.arr 1<|b.map eB,some<|.arr 1<|h.map AN]⟩
def Jd8:St:=⟨(4,.d<|.sl<|a.2.map<|eL AN)::(5,.osl 0 1 0<|t.length)::(6,.osl 1 1 0<|A.length)::[],[some<|.arr 1<|t.map eB,some<|.arr 1<|A.map AN]⟩
def Jd9:St:=⟨(1,.ptr 0 0)::(4,.d<|.sl<|a.2.map<|eL AN)::(5,.osl 1 1 0<|i.length)::(6,.osl 2 1 0<|p.length)::(20,.d<|.sl<|a.1.map AU)::(21,.d<|.int .i64 ((a.1.length:Nat):Int))::(22,.d<|.int .i64 C)::[],[some<|.box<|Bt g,some<|.arr 1<|i.map eB,some<|.arr 1<|p.map AN]⟩
def OS:((List Bool)×(List Int))->Ex->St->Prop:=xX 0 0<|λ (y:((List Bool)×(List Int)))=>Jd8 a y.1 y.2
def JA:((List Bool)×(List Int)×Int)->St:=(λ (x:((List Bool)×(List Int)×Int))=>Jd7 g a x.1 x.2.1 x.2.2)
def Jea:St:=⟨(4,.d<|.sl<|a.2.map<|eL AN)::(5,.osl 0 1 0<|j.length)::(6,.osl 1 1 0<|q.length)::[],[some<|.arr 1<|j.map eB,some<|.arr 1<|q.map AN]⟩
def Jeb:St:=⟨(5,.osl 0 1 0<|u.length)::[],[some<|.arr 1<|u.map eB]⟩
def Jec:St:=⟨(4,.d<|.sl<|a.2.map<|eL AN)::(5,.osl 0 1 0<|c.length)::(6,.osl 1 1 0<|l.length)::(55,.d<|.sl<|o.map AN)::(56,.d<|.int .i64 ((o.length:Nat):Int))::(57,.d<|.int .i64 E)::[],[some<|.arr 1<|c.map eB,some<|.arr 1<|l.map AN]⟩
def Jed:St:=⟨(4,.d<|.sl<|a.2.map<|eL AN)::(5,.osl 0 1 0<|w.length)::(6,.osl 1 1 0<|B.length)::[],[some<|.arr 1<|w.map eB,some<|.arr 1<|B.map AN]⟩
def Jee:St:=⟨(4,.d<|.sl<|a.2.map<|eL AN)::(5,.osl 0 1 0<|m.length)::(6,.osl 1 1 0<|r.length)::(55,.d<|.sl<|o.map AN)::(56,.d<|.int .i64 ((o.length:Nat):Int))::(57,.d<|.int .i64 E)::[],[some<|.arr 1<|m.map eB,some<|.arr 1<|r.map AN]⟩
def OU:((List Bool)×(List Int))->Ex->St->Prop:=xX 0 4<|λ (y:((List Bool)×(List Int)))=>Jed a y.1 y.2
def JB:((List Bool)×(List Int)×Int)->St:=(λ (x:((List Bool)×(List Int)×Int))=>Jec a o x.1 x.2.1 x.2.2)
def OW:(List Bool)->Ex->St->Prop:=xX 0 2<|λ (y:(List Bool))=>Jeb y
def JC:((List Bool)×(List Int))->St:=(λ (x:((List Bool)×(List Int)))=>Jea a x.1 x.2)
variable {g a b h C t A i p j q u o c l E w B m r}
theorem Nm (x:((List Bool)×(List Int)×Int)) (z:(((List Bool)×(List Int)×Int)⊕((List Bool)×(List Int)))) (H:D2 n g a x.1 x.2.1 x.2.2=some z):WP (cxk 75 0) (A1 Try.f39) [1,1,1,1,0,1,0,0] (AX 0 (JA g a) (OS a) z) (JA g a x):=by
 obtain⟨b,h,C⟩:=x;refine sr<|ck 1<|en<|sq<|cn H (λ H=>?_)<|λ H=>?_
 ·refine sk<|qz<|sj (λ (x:((List Bool)×(List Int)))=>Jd9 g a C x.1 x.2) (λ (x:((List Bool)×(List Int)))=>E1 n C x.1 x.2) z ?_ (λ e=>?_)
  ·rintro⟨i,p⟩ H;exact rz<|ck 2<|ae (by cases H;exact og<|sg [1,4,5,6,20,21,22])
  refine bk 1<|sr<|ck 1<|bx H λ ai S H=>sp (AM AU S)<|ck 4<|en<|sr<|ck 2<|bx H λ aj T H=>ca false (Jz T)<|en<|cn H (λ H=>?_)<|λ H=>?_
  ·exact sr<|ck 2<|bx H λ ak K H=>sp (Bo 1 1 K)<|bx H λ l7 J H=>stA eB 1 0 (ty 4) K J<|en<|rg (tr (sn 5 1 1<|BT J)<|sn 30 1 1<|BT J)<|ck 3<|bx H λ l8 U H=>sp (BC AN 2 1 U)<|ck 1<|ae<|qN<|qs (sg [1,4,5,6,20,21,22])<|e (l7,l8) H
  ·exact sk<|qN<|qs (sg [1,4,5,6,20,21,22])<|e (b,h) H
 ·exact ex 0<|qx (by cases H;exact xo rfl<|sg [4,5,6])
theorem Nn (x:((List Bool)×(List Int)×Int)) (z:(((List Bool)×(List Int)×Int)⊕((List Bool)×(List Int)))) (H:D3 n a o x.1 x.2.1 x.2.2=some z):WP (cxk 75 0) (A1 Try.f39) [1,1,1,1,1,0,0,0,1,0,1,1,1,0,0] (AX 0 (JB a o) (OU a) z) (JB a o x):=by
 obtain⟨c,l,E⟩:=x;refine sr<|ck 1<|en<|sq<|cn H (λ H=>?_)<|λ H=>?_
 ·refine sk<|qz<|sj (λ (x:((List Bool)×(List Int)))=>Jee a o E x.1 x.2) (λ (x:((List Bool)×(List Int)))=>E2 n E x.1 x.2) z ?_ (λ f=>?_)
  ·rintro⟨m,r⟩ H;exact rz<|ck 2<|ae (by cases H;exact og<|sg [4,5,6,55,56,57])
  refine bk 5<|sr<|bx H λ ap V H=>sp (AM AN V)<|ck 2<|en<|sr<|ck 2<|bx H λ ar L H=>sp (Bo 0 1 L)<|sp (Ej eB 0 0 (ty 4) L)<|ck 1<|en<|cn H (λ H=>?_)<|λ H=>?_
  ·exact sr<|ck 2<|bx H λ au M H=>sp (Bo 0 1 M)<|bx H λ W G H=>stA eB 0 0 (ty 4) M G<|en<|rg (tr (tr (sn 5 0 1<|BT G)<|sn 61 0 1<|BT G)<|sn 66 0 1<|BT G)<|ck 3<|bx H λ X Y H=>sp (BC AN 1 1 Y)<|ck 1<|ae<|qN<|qs (sg [4,5,6,55,56,57])<|f (W,X) H
  ·exact sk<|qN<|qs (sg [4,5,6,55,56,57])<|f (c,l) H
 ·exact ex 4<|qx (by cases H;exact xo rfl<|sg [4,5,6])
theorem No (x:((List Bool)×(List Int))) (z:(((List Bool)×(List Int))⊕(List Bool))) (H:Gt n a x.1 x.2=some z):WP (cxk 75 0) (A1 Try.f39) [1,1,1,1,1,0,0,0] (AX 0 (JC a) (OW) z) (JC a x):=by
 obtain⟨j,q⟩:=x;refine sq<|sr<|ck 3<|en<|cn H (λ H=>?_)<|λ H=>?_
 ·exact sk<|qz<|bk 3<|sr<|ck 4<|bx H λ av O H=>sp (Bo 1 1 O)<|sp (Ej AN 1 0 (ty 3) O)<|ck 1<|en<|sr<|ck 4<|bx H λ l9 I H=>sp (Ya 1 1 I)<|ck 1<|en<|sq<|rg (XZ (k:=1) (sz:=1) 6 (l9.map AN) (l9.length) (by kernel_rfl) (U1 I) (X2 (enc:=AN) I)<|U2 I)<|ck 2<|bx H λ o Z H=>sp (AM (eL AN) Z)<|ck 1<|sp (AT AN o)<|ck 1<|en<|bk 4<|bx H λ aw aa H=>lX Nn aa (sg [4,5,6,55,56,57]) rfl λ s P=>qH<|qN (by cases H;exact og<|tr (P)<|sg [4,5,6])
 ·exact ex 2<|qx (by cases H;exact xo rfl<|sg [5])
theorem Rj {z} (H:Ki n g=some z):A0 Try.prog 39 [.agg (Bt g)] (.own 1 (z.map eB)):=by
 exact fO 75 (Jd6 g) Try.func39<|sr<|ck 2<|en<|sr<|ck 1<|bx H λ a ab H=>ca false (Jy ab)<|ck 5<|en<|sr<|ck 1<|sp (AT AU a.1)<|bx H λ l6 ac H=>sp (Jb0 eB 1 ac)<|ck 1<|en<|sr<|ck 1<|en<|sq<|sr<|ck 1<|sp (AT AU a.1)<|ck 1<|en<|bk 0<|bx H λ ay af H=>lX Nm af (tr (As.nilo 6 1 (by kernel_rfl))<|sg [1,4,5,6,20,21,22]) rfl λ s Q=>qH<|qs (Q)<|sq<|bk 2<|bx H λ az ag H=>lX No ag (sg [4,5,6]) rfl λ s R=>qH<|qs (R)<|sr<|ck 2<|en<|re (by cases H;exact pr<|rO (v:=.osl 0 1 0<|z.length) [0]<|ao vo)
end
section
variable (a:(List Af)) (b:Af) (c:Int)
def Jef:St:=⟨(0,.d<|.sl<|a.map Aw)::(1,.agg [.d<|.int .u8 b.Cell,.d<|.str b.Print,.d<|.int .i64 b.To])::[],[]⟩
def Jeg:St:=⟨(0,.d<|.sl<|a.map Aw)::(3,.ptr 0 0)::(7,.d<|.int .i64 ((a.length:Nat):Int))::(8,.d<|.int .i64 c)::[],[some<|.box<|SV b]⟩
def Jeh:St:=⟨[],[]⟩
def Pw:(Unit⊕Int)->Ex->St->Prop:=xS (xX 0 0<|λ (_:Unit)=>Jeh)<|xR ty Try.f80<|λ (y:Int)=>.d<|.int .i64 y
def KR:Int->St:=(λ (x:Int)=>Jeg a b x)
variable {a b c}
theorem JD (x:Int) (z:(Int⊕(Unit⊕Int))) (H:FP n a b x=some z):WP (cxk 19 0) (A1 Try.f80) [1,0,1,0,0] (AX 0 (KR a b) (Pw) z) (KR a b x):=by
 revert H;generalize x=c;intro H;refine sr<|ck 1<|en<|sq<|cn H (λ H=>?_)<|λ H=>?_
 ·refine sk<|qz<|sq<|bk 1<|sr<|ck 2<|en<|sr<|ck 3<|bx H λ j h H=>sp (AM Aw h)<|ck 2<|en<|cn H (λ H=>?_)<|λ H=>?_
  ·exact sr<|ck 2<|en<|re<|qR<|qr (by cases H;exact ro rfl rd)
  ·exact sk<|qN<|qz<|rz<|ck 2<|ae (by cases H;exact og<|sg [0,3,7,8])
 ·exact ex 0<|qx (by cases H;exact xo rfl<|sg [])
theorem SX {z} (H:OL n a b=some z):A0 Try.prog 80 [.d (.sl (a.map Aw)),.agg (SV b)] (.d (.int .i64 z)):=by
 refine fO 19 (Jef a b) Try.func80<|sr<|ck 2<|en<|sq<|sr<|ck 1<|sp (AT Aw a)<|ck 1<|en<|bk 0<|bx H λ i e H=>?_;rcases i with k|l
 ·exact lX JD e (sg [0,3,7,8]) rfl λ s f=>qH<|qs (f)<|sr<|ck 1<|en<|re (by cases H;exact pr rd)
 ·exact lR JD e (sg [0,3,7,8]) rfl λ s g=>qR<|qr (by cases H;exact pr g)
end
section
variable (b:(List Af)) (a:Af)
def Jei:St:=⟨(0,.d<|.sl<|b.map Aw)::(1,.agg [.d<|.int .u8 a.Cell,.d<|.str a.Print,.d<|.int .i64 a.To])::[],[]⟩
variable {b a}
theorem Rk {z} (H:Kj n b a=some z):A0 Try.prog 77 [.d (.sl (b.map Aw)),.agg (SV a)] (.d (.bool z)):=by
 exact fO 9 (Jei b a) Try.func77<|sr<|ck 2<|en<|sr<|ck 2<|bx H λ e c H=>ca false (SX c)<|ck 2<|en<|re (by cases H;exact pr rd)
end
section
variable (b:BR) (c:(List UInt8)) (e:(List UInt8)) (g:(List UInt8)) (h:(List UInt8)) (f:(List UInt8)) (i:(List UInt8)) (j:(List UInt8)) (k:(List UInt8))
def Jej:St:=⟨(0,.agg [.d<|.int .i64 b.Side,.d<|.str b.Text])::(1,.d<|.str c)::(2,.d<|.str e)::[],[]⟩
def Jek:St:=⟨(1,.d<|.str g)::(2,.d<|.str h)::(6,.ptr 0 0)::[],[some<|.box [.d<|.int .i64 0,.d<|.str []]]⟩
def Jel:St:=⟨(1,.d<|.str f)::(2,.d<|.str i)::(6,.ptr 0 0)::[],[some<|.box [.d<|.int .i64 0,.d<|.str []]]⟩
def Jem:St:=⟨(1,.d<|.str j)::(2,.d<|.str k)::(6,.ptr 0 0)::[],[some<|.box [.d<|.int .i64 0,.d<|.str []]]⟩
def Kz:(((List UInt8)×(List UInt8))⊕BR)->Ex->St->Prop:=xS (xX 0 1<|λ (y:((List UInt8)×(List UInt8)))=>Jem y.1 y.2)<|xR ty Try.f63<|λ (y:BR)=>.agg [.d<|.int .i64 y.Side,.d<|.str y.Text]
def Ge:((List UInt8)×(List UInt8))->St:=(λ (x:((List UInt8)×(List UInt8)))=>Jel x.1 x.2)
variable {b c e g h f i j k}
theorem FQ (x:((List UInt8)×(List UInt8))) (z:(((List UInt8)×(List UInt8))⊕(((List UInt8)×(List UInt8))⊕BR))) (H:DH n x.1 x.2=some z):WP (cxk 51 0) (A1 Try.f63) [1,1,0,0,0] (AX 0 (Ge) (Kz) z) (Ge x):=by
 obtain⟨f,i⟩:=x;refine sq<|sr<|ck 4<|gc 1 (!(f==[]))<|pA<|en<|cn H (λ H=>?_)<|λ H=>?_
 ·refine sk<|qz<|bk 2<|sq<|sr<|ck 1<|bx H λ G p H=>sp (Gn p)<|ck 1<|bx H λ I q H=>sp (Gn q)<|ck 1<|en<|cn H (λ H=>?_)<|λ H=>?_
  ·exact sr<|ck 2<|en<|re<|qr<|qR (by cases H;exact ro rfl rd)
  ·exact sk<|qz<|rz<|ck 1<|bx H λ J r H=>sp (LM r)<|ck 1<|bx H λ K t H=>sp (LM t)<|ck 2<|ae<|qN (by cases H;exact og<|sg [1,2,6])
 ·exact ex 1<|qx (by cases H;exact xo rfl<|sg [1,2,6])
theorem LV {z} (H:E3 n b c e=some z):A0 Try.prog 63 [.agg [.d (.int .i64 b.Side),.d (.str b.Text)],.d (.str c),.d (.str e)] (.agg [.d (.int .i64 z.Side),.d (.str z.Text)]):=by
 refine fO 51 (Jej b c e) Try.func63<|sr<|ck 2<|en<|sj (λ (x:((List UInt8)×(List UInt8)))=>Jek x.1 x.2) (λ (x:((List UInt8)×(List UInt8)))=>Cj n x.1 x.2) z ?_ (λ a=>?_)
 ·rintro⟨g,h⟩ H;refine sq<|bk 1<|bx H λ u l H=>?_;rcases u with A|B
  ·refine lX FQ l (sg [1,2,6]) rfl λ s m=>qH<|qs (m)<|sq<|bk 3<|sr<|ck 3<|en<|cn H (λ H=>?_)<|λ H=>?_
   ·exact sr<|ck 3<|en<|re<|qR<|qr (by cases H;exact pr rd)
   ·refine sr<|ck 3<|en<|cn H (λ H=>?_)<|λ H=>?_
    ·exact sr<|ck 3<|en<|re<|qR<|qr (by cases H;exact pr rd)
    ·exact sk<|qN<|qz<|sr<|ck 2<|en<|re (by cases H;exact pr rd)
  ·exact lR FQ l (sg [1,2,6]) rfl λ s o=>qR<|qr (by cases H;exact pr o)
 refine sr<|ck 2<|en<|bk 0<|sr<|ck 2<|en<|cn H (λ H=>?_)<|λ H=>?_
 ·exact rz<|ck 3<|bx H λ C v H=>sp (Ub v)<|ck 1<|ae<|qN<|qs (sg [1,2,6])<|a (C,e) H
 ·refine sr<|ck 2<|en<|cn H (λ H=>?_)<|λ H=>?_
  ·exact rz<|ck 3<|bx H λ E w H=>sp (Ub w)<|ck 1<|ae<|qN<|qs (sg [1,2,6])<|a (c,E) H
  ·refine sr<|ck 2<|en<|cn H (λ H=>?_)<|λ H=>?_
   ·exact sr<|ck 2<|en<|re<|qR<|qr (by cases H;exact pr rd)
   ·exact sk<|qN<|qs (sg [1,2,6])<|a (c,e) H
end
section
variable (e:Ah) (h:Ah)
def Jen:St:=⟨(0,.agg [.d<|.int .i64 e.Pair.A,.d<|.int .i64 e.Pair.B,.d<|.int .i64 e.Lead.Side,.d<|.str e.Lead.Text])::[],[]⟩
def Jeo:St:=⟨(1,.ptr 0 0)::(2,.ptr 1 0)::[],[some<|.box<|II h,some<|.box [.d<|.int .i64 0,.d<|.int .i64 0,.d<|.int .i64 0,.d<|.str []]]⟩
variable {e h}
theorem KA {z} (H:D4 n e=some z):A0 Try.prog 64 [.agg (II e)] (.agg [.d (.int .i64 z.Pair.A),.d (.int .i64 z.Pair.B),.d (.int .i64 z.Lead.Side),.d (.str z.Lead.Text)]):=by
 refine fO 48 (Jen e) Try.func64<|sr<|ck 2<|en<|sq<|sr<|ck 9<|gc 2 (!(decide<|e.Pair.A<e.Pair.B))<|ck 1<|gc 4 (!(decide<|e.Pair.A<e.Pair.B))<|ck 1<|gc 3 ((!(decide<|e.Pair.A<e.Pair.B))&&(e.Pair.A==e.Pair.B))<|pG (g:=(!(decide<|e.Pair.A<e.Pair.B))) (v:=.d<|.bool<|(e.Pair.A==e.Pair.B)&&(e.Lead.Side != 2)) (λ hg=>Mp (c:=.gv (!(decide<|e.Pair.A<e.Pair.B))<|.d<|.bool<|e.Pair.A==e.Pair.B) (a:=.gv ((!(decide<|e.Pair.A<e.Pair.B))&&(e.Pair.A==e.Pair.B))<|.d<|.bool<|e.Lead.Side != 2) (b:=.d<|.bool false) rfl rfl rfl ((λ hh=>hh) hg) (λ ht=>by rw[(λ hh=>hh) hg,ht];rfl) trivial)<|pO<|en<|cn H (λ H=>?_)<|λ H=>?_
 ·exact sr<|ck 2<|en<|re<|qr (by cases H;exact pr rd)
 ·refine sk<|qz<|sr<|ck 12<|en<|sj (λ (x:Ah)=>Jeo x) (λ (x:Ah)=>Cq n x) z ?_ (λ f=>?_)
  ·intro h H;exact sr<|ck 2<|en<|re (by cases H;exact pr rd)
  refine sr<|ck 3<|en<|bk 0<|sr<|ck 2<|en<|cn H (λ H=>?_)<|λ H=>?_
  ·exact rz<|ck 3<|ae<|qN<|qs (sg [1,2])<|f ({ Pair:=({ A:=e.Pair.B,B:=e.Pair.A }:Am),Lead:=({ Side:=2,Text:=e.Lead.Text }:BR) }:Ah) H
  ·refine sr<|ck 2<|en<|cn H (λ H=>?_)<|λ H=>?_
   ·exact rz<|ck 3<|ae<|qN<|qs (sg [1,2])<|f ({ Pair:=({ A:=e.Pair.B,B:=e.Pair.A }:Am),Lead:=({ Side:=1,Text:=e.Lead.Text }:BR) }:Ah) H
   ·exact sk<|qN<|qs (sg [1,2])<|f ({ Pair:=({ A:=e.Pair.B,B:=e.Pair.A }:Am),Lead:=e.Lead }:Ah) H
end
section
variable (a:(List Int)) (f:(List Int)) (e:(List Int)) (h:Int) (i:Int) (g:(List Int))
def YS:St:=⟨(0,.osl 0 1 0<|a.length)::[],[some<|.arr 1<|a.map eU8]⟩
def YT:St:=⟨[],[some<|.arr 1<|f.map eU8]⟩
def YU:St:=⟨(0,.osl 0 1 0<|e.length)::(2,.d<|.int .i64 h)::(3,.d<|.int .i64 i)::[],[some<|.arr 1<|e.map eU8]⟩
def YV:St:=⟨[],[some<|.arr 1<|g.map eU8]⟩
def Np:(List Int)->Ex->St->Prop:=xX 1 0<|λ (y:(List Int))=>YV y
def IN:((List Int)×Int×Int)->St:=(λ (x:((List Int)×Int×Int))=>YU x.1 x.2.1 x.2.2)
variable {a f e h i g}
theorem Mx (x:((List Int)×Int×Int)) (z:(((List Int)×Int×Int)⊕(List Int))) (H:Em n x.1 x.2.1 x.2.2=some z):WP (cxk 28 1) (A1 Try.f65) [1,0,0] (AX 1 (IN) (Np) z) (IN x):=by
 obtain⟨e,h,i⟩:=x;refine sq<|sr<|ck 3<|en<|cn H (λ H=>?_)<|λ H=>?_
 ·exact sk<|qz<|sq<|bk 1<|rz<|ck 6<|bx H λ q j H=>sp (Bo 0 1 j)<|sp (Ej eU8 0 0 (ty 52) j)<|ck 2<|bx H λ r k H=>sp (Bo 0 1 k)<|sp (Ej eU8 0 0 (ty 52) k)<|bx H λ t l H=>sp (Bo 0 1 l)<|bx H λ u b H=>stA eU8 0 0 (ty 52) l b<|bx H λ v m H=>sp (Jbe 0 1 ((BT b)) m)<|bx H λ w c H=>stA eU8 0 0 (ty 52) m c<|ae<|qN<|qz<|rg (tr (tr (tr (tr (sn 0 0 1<|Eq.trans (BT b)<|BT c)<|sn 14 0 1<|Eq.trans (BT b)<|BT c)<|sn 16 0 1<|Eq.trans (BT b)<|BT c)<|sn 18 0 1<|Eq.trans (BT b)<|BT c)<|sn 22 0 1<|Eq.trans (BT b)<|BT c)<|ck 6<|ae (by cases H;exact og<|sg [0,2,3])
 ·exact ex 0<|qx (by cases H;exact xo rfl<|sg [])
theorem Px {z} (H:Il n a=some z):CG Try.prog 65 [.osl 0 1 0 (a.length)] [some (.arr 1 (a.map eU8))] 1 (.tup []) [some (.arr 1 (z.map eU8))]:=by
 exact fL 28 1 (YS a) Try.func65<|sr<|ck 5<|en<|bk 0<|bx H λ A p H=>lX Mx p (sg [0,2,3]) rfl λ s o=>qH (by cases H;exact pL'<|rl (s':=YT z)<|tr (o)<|sg [])
end
section
variable (a:Bf) (b:(List Int)) (c:(List ((List Ah)×Int))) (f:(List Int))
def Jep:St:=⟨(0,.dptr (Hg a) 0)::[],[]⟩
def Jeq:St:=⟨(0,.d<|dPG Aq c)::(3,.osl 0 1 0<|b.length)::[],[some<|.arr 1<|b.map eU8]⟩
def Jer:St:=⟨(3,.osl 0 1 0<|f.length)::[],[some<|.arr 1<|f.map eU8]⟩
def JE:(List Int)->Ex->St->Prop:=xX 0 0<|λ (y:(List Int))=>Jer y
def FR:((List Int)×(List<|(List Ah)×Int))->St:=(λ (x:((List Int)×(List<|(List Ah)×Int)))=>Jeq x.1 x.2)
variable {a b c f}
theorem I0 (x:((List Int)×(List ((List Ah)×Int)))) (z:(((List Int)×(List ((List Ah)×Int)))⊕(List Int))) (H:Db n x.1 x.2=some z):WP (cxk 23 0) (A1 Try.f46) [1,1,0,0,0] (AX 0 (FR) (JE) z) (FR x):=by
 obtain⟨b,c⟩:=x;refine sq<|sq<|bx H λ g1 i H=>rg (Jb4 (e:=Aq) 0 (OM i) (by kernel_rfl))<|ck 4<|xpn (xok _ _) Aq (t:=117) (tt:=120) (r:=g1.From) (by kernel_rfl)<|en<|cn H (λ H=>?_)<|λ H=>?_
 ·exact sk<|qz<|sq<|bk 1<|rz<|ck 6<|bx H λ m j H=>sp (BC eU8 0 1 j)<|ck 1<|ae<|qN<|qz<|rz<|ck 5<|ae (by cases H;exact og<|sg [0,3])
 ·exact ex 0<|qx (by cases H;exact xo rfl<|sg [3])
theorem Lc {z} (H:Ez n a=some z):A0 Try.prog 46 [.dptr (Hg a) 0] (.own 1 (z.map eU8)):=by
 exact fO 23 (Jep a) Try.func46<|sr<|ck 1<|en<|sr<|ck 1<|en<|sq<|bk 0<|bx H λ o k H=>lX I0 k (tr (tr (Qa (e:=Hg a) 0 (by kernel_rfl))<|As.nilo 3 1 (by kernel_rfl))<|sg [0,3]) rfl λ s g=>qH<|qs (g)<|sr<|ck 1<|bx H λ p l H=>lt [0] (Px l)<|bx H λ _ h H=>en<|sq<|rg (tr (sn 3 0 1<|P9 h)<|sn 20 0 1<|P9 h)<|ck 2<|en<|re (by cases H;exact pr<|rO (v:=.osl 0 1 0<|z.length) [0]<|ao vo)
end
section
variable (b:(List Int)) (a:(List Int)) (c:Int)
def Jes:St:=⟨(0,.d<|.sl<|b.map eU8)::(1,.d<|.sl<|a.map eU8)::[],[]⟩
def Jet:St:=⟨(0,.d<|.sl<|b.map eU8)::(12,.d<|.sl<|a.map eU8)::(13,.d<|.int .i64 ((a.length:Nat):Int))::(14,.d<|.int .i64 c)::[],[]⟩
def Jeu:St:=⟨[],[]⟩
def Nq:(Unit⊕Bool)->Ex->St->Prop:=xS (xX 0 0<|λ (_:Unit)=>Jeu)<|xR ty Try.f47<|λ (y:Bool)=>.d<|.bool y
def IP:Int->St:=(λ (x:Int)=>Jet b a x)
variable {b a c}
theorem HP (x:Int) (z:(Int⊕(Unit⊕Bool))) (H:Eo n b a x=some z):WP (cxk 26 0) (A1 Try.f47) [1,1,0,1,0,0] (AX 0 (IP b a) (Nq) z) (IP b a x):=by
 revert H;generalize x=c;intro H;refine sr<|ck 1<|en<|sq<|cn H (λ H=>?_)<|λ H=>?_
 ·refine sk<|qz<|sq<|bk 1<|sr<|ck 1<|bx H λ k h H=>sp (AM eU8 h)<|ck 3<|en<|sr<|ck 2<|bx H λ l i H=>sp (AM eU8 i)<|ck 3<|en<|cn H (λ H=>?_)<|λ H=>?_
  ·exact sr<|ck 1<|en<|re<|qR<|qr (by cases H;exact ro rfl rd)
  ·exact sk<|qN<|qz<|rz<|ck 2<|ae (by cases H;exact og<|sg [0,12,13,14])
 ·exact ex 0<|qx (by cases H;exact xo rfl<|sg [])
theorem KS {z} (H:GM n b a=some z):A0 Try.prog 47 [.d (.sl (b.map eU8)),.d (.sl (a.map eU8))] (.d (.bool z)):=by
 refine fO 26 (Jes b a) Try.func47<|sr<|ck 1<|en<|sq<|sr<|ck 1<|sp (AT eU8 b)<|ck 1<|sp (AT eU8 a)<|ck 1<|en<|cn H (λ H=>?_)<|λ H=>?_
 ·exact sr<|ck 1<|en<|re<|qr (by cases H;exact pr rd)
 ·refine sk<|qz<|sq<|sr<|ck 1<|sp (AT eU8 a)<|ck 1<|en<|bk 0<|bx H λ j e H=>?_;rcases j with m|o
  ·exact lX HP e (sg [0,12,13,14]) rfl λ s f=>qH<|qs (f)<|sr<|ck 1<|en<|re (by cases H;exact pr rd)
  ·exact lR HP e (sg [0,12,13,14]) rfl λ s g=>qR<|qr (by cases H;exact pr g)
end
section
variable (a:(List (List UInt8))) (b:(List UInt8))
def Jev:St:=⟨(0,.d<|.sl<|a.map eS)::(1,.d<|.str b)::[],[]⟩
variable {a b}
theorem Py {z} (H:CV n a b=some z):A0 Try.prog 48 [.d (.sl (a.map eS)),.d (.str b)] (.d (.sl (z.map eS))):=by
 refine fO 46 (Jev a b) Try.func48<|sr<|ck 1<|en<|sq<|bk 0<|sr<|ck 1<|sp (AT eS a)<|ck 2<|en<|cn H (λ H=>?_)<|λ H=>?_
 ·exact sr<|ck 3<|ae<|qs (fz (enc:=eS) (xs:=[b]) 4 0 1)<|re<|qR<|qr (by cases H;exact pr rd)
 ·refine sr<|ck 2<|bx H λ k c H=>sp (AM eS c)<|ck 3<|en<|cn H (λ H=>?_)<|λ H=>?_
  ·exact sr<|ck 2<|bx H λ e f H=>sp (AM eS f)<|ck 3<|ae<|qs (fz (enc:=eS) (xs:=[b,e]) 4 0 1)<|re<|qR<|qr (by cases H;exact pr rd)
  ·refine sr<|ck 2<|bx H λ l g H=>sp (AM eS g)<|ck 3<|en<|cn H (λ H=>?_)<|λ H=>?_
   ·exact sr<|ck 2<|en<|re<|qR<|qr (by cases H;exact pr rd)
   ·refine sr<|ck 1<|sp (AT eS a)<|ck 4<|bx H λ m h H=>sE (λ hg=>AM eS<|DA h hg)<|gc 2 (!(((a.length:Nat):Int)==1))<|pO<|ck 1<|en<|cn H (λ H=>?_)<|λ H=>?_
    ·exact sr<|ck 1<|bx H λ i j H=>sp (AM eS j)<|ck 4<|ae<|qs (fz (enc:=eS) (xs:=[i,b]) 4 0 1)<|re<|qR<|qr (by cases H;exact pr rd)
    ·exact sk<|qN<|qz<|sr<|ck 2<|en<|re (by cases H;exact pr rd)
end
section
variable (f:Ap) (g:(List Int)) (i:(List (List (List (List UInt8))))) (w:Int) (A:(List (List (List (List UInt8))))) (b:(List (List (List (List UInt8))))) (c:Int) (B:(List (List (List (List UInt8))))) (l:(List (List (List UInt8)))) (a:(List (List (List UInt8)))) (h:Int) (C:(List (List (List (List UInt8))))) (E:(List (List UInt8))) (q:(List EO)) (G:(List (List UInt8))) (r:Int) (Q:(List (List UInt8))) (L:(List (List UInt8))) (u:EO) (I:(List (List UInt8))) (M:(List (List UInt8))) (R:Int) (S:(List (List UInt8)))
def Jew:St:=⟨(0,.dptr (Av f) 0)::(1,.d<|.sl<|g.map eU8)::[],[]⟩
def Jex:St:=⟨(0,.dptr (Av f) 0)::(1,.d<|.sl<|g.map eU8)::(5,.eptr 0 1 0 0)::(15,.d<|.int .i64 w)::[],[some<|.narr 1<|List.map (nL 1<|eL eS) i]⟩
def Jey:St:=⟨(0,.dptr (Av f) 0)::(1,.d<|.sl<|g.map eU8)::(5,.eptr 0 1 0 0)::[],[some<|.narr 1<|List.map (nL 1<|eL eS) A]⟩
def JF:(List<|List<|List<|List UInt8)->Ex->St->Prop:=xX 0 0<|λ (y:(List<|List<|List<|List UInt8))=>Jey f g y
def FS:((List<|List<|List<|List UInt8)×Int)->St:=(λ (x:((List<|List<|List<|List UInt8)×Int))=>Jex f g x.1 x.2)
def Jez:St:=⟨(0,.dptr (Av f) 0)::(1,.d<|.sl<|g.map eU8)::(5,.eptr 0 1 0 0)::(7,.d<|.int .i64 c)::[],[some<|.narr 1<|List.map (nL 1<|eL eS) b]⟩
def JeA:St:=⟨(5,.eptr 0 1 0 0)::[],[some<|.narr 1<|List.map (nL 1<|eL eS) B]⟩
def JeB:St:=⟨(0,.dptr (Av f) 0)::(1,.d<|.sl<|g.map eU8)::(5,.eptr 0 1 0 0)::(7,.d<|.int .i64 c)::(8,.osl 1 1 0<|a.length)::(38,.d<|.int .i64 ((l.length:Nat):Int))::(39,.d<|.int .i64 h)::[],[some<|.narr 1<|List.set (List.map (nL 1<|eL eS) b) (Int.toNat<|Bh c 5) [.osl 1 1 0<|a.length],some<|.arr 1<|a.map<|eL eS]⟩
def JeC:St:=⟨(0,.dptr (Av f) 0)::(1,.d<|.sl<|g.map eU8)::(5,.eptr 0 1 0 0)::(7,.d<|.int .i64 c)::[],[some<|.narr 1<|List.map (nL 1<|eL eS) C]⟩
def JeD:St:=⟨(0,.dptr (Av f) 0)::(1,.d<|.sl<|g.map eU8)::(5,.eptr 0 1 0 0)::(7,.d<|.int .i64 c)::(8,.osl 1 1 0<|a.length)::(9,.d<|.int .i64 h)::(10,.osl 2 1 0<|E.length)::(38,.d<|.int .i64 ((l.length:Nat):Int))::(39,.d<|.int .i64 h)::[],[some<|.narr 1<|List.set (List.map (nL 1<|eL eS) b) (Int.toNat<|Bh c 5) [.osl 1 1 0<|a.length],some<|.arr 1<|a.map<|eL eS,some<|.arr 1<|E.map eS]⟩
def JeE:St:=⟨(0,.dptr (Av f) 0)::(1,.d<|.sl<|g.map eU8)::(5,.eptr 0 1 0 0)::(7,.d<|.int .i64 c)::(8,.osl 1 1 0<|a.length)::(9,.d<|.int .i64 h)::(10,.d<|.sl<|G.map eS)::(38,.d<|.int .i64 ((l.length:Nat):Int))::(39,.d<|.int .i64 h)::(62,.d<|.sl<|q.map Bb)::(63,.d<|.int .i64 ((q.length:Nat):Int))::(64,.d<|.int .i64 r)::[],[some<|.narr 1<|List.set (List.map (nL 1<|eL eS) b) (Int.toNat<|Bh c 5) [.osl 1 1 0<|a.length],some<|.arr 1<|a.map<|eL eS]⟩
def JbA:St:=⟨(0,.dptr (Av f) 0)::(1,.d<|.sl<|g.map eU8)::(5,.eptr 0 1 0 0)::(7,.d<|.int .i64 c)::(8,.osl 1 1 0<|a.length)::(9,.d<|.int .i64 h)::(10,.d<|.sl<|Q.map eS)::(38,.d<|.int .i64 ((l.length:Nat):Int))::(39,.d<|.int .i64 h)::[],[some<|.narr 1<|List.set (List.map (nL 1<|eL eS) b) (Int.toNat<|Bh c 5) [.osl 1 1 0<|a.length],some<|.arr 1<|a.map<|eL eS]⟩
def JbB:St:=⟨(0,.dptr (Av f) 0)::(1,.d<|.sl<|g.map eU8)::(5,.eptr 0 1 0 0)::(7,.d<|.int .i64 c)::(8,.osl 1 1 0<|a.length)::(9,.d<|.int .i64 h)::(10,.d<|.sl<|L.map eS)::(38,.d<|.int .i64 ((l.length:Nat):Int))::(39,.d<|.int .i64 h)::(62,.d<|.sl<|q.map Bb)::(63,.d<|.int .i64 ((q.length:Nat):Int))::(64,.d<|.int .i64 r)::[],[some<|.narr 1<|List.set (List.map (nL 1<|eL eS) b) (Int.toNat<|Bh c 5) [.osl 1 1 0<|a.length],some<|.arr 1<|a.map<|eL eS]⟩
def JbC:St:=⟨(0,.dptr (Av f) 0)::(1,.d<|.sl<|g.map eU8)::(5,.eptr 0 1 0 0)::(7,.d<|.int .i64 c)::(8,.osl 1 1 0<|a.length)::(9,.d<|.int .i64 h)::(10,.d<|.sl<|M.map eS)::(12,.ptr 2 0)::(38,.d<|.int .i64 ((l.length:Nat):Int))::(39,.d<|.int .i64 h)::(62,.d<|.sl<|q.map Bb)::(63,.d<|.int .i64 ((q.length:Nat):Int))::(64,.d<|.int .i64 r)::(86,.d<|.sl<|I.map eS)::(87,.d<|.int .i64 ((I.length:Nat):Int))::(88,.d<|.int .i64 R)::[],[some<|.narr 1<|List.set (List.map (nL 1<|eL eS) b) (Int.toNat<|Bh c 5) [.osl 1 1 0<|a.length],some<|.arr 1<|a.map<|eL eS,some<|.box<|Jdt u]⟩
def JbD:St:=⟨(0,.dptr (Av f) 0)::(1,.d<|.sl<|g.map eU8)::(5,.eptr 0 1 0 0)::(7,.d<|.int .i64 c)::(8,.osl 1 1 0<|a.length)::(9,.d<|.int .i64 h)::(10,.d<|.sl<|S.map eS)::(38,.d<|.int .i64 ((l.length:Nat):Int))::(39,.d<|.int .i64 h)::(62,.d<|.sl<|q.map Bb)::(63,.d<|.int .i64 ((q.length:Nat):Int))::(64,.d<|.int .i64 r)::[],[some<|.narr 1<|List.set (List.map (nL 1<|eL eS) b) (Int.toNat<|Bh c 5) [.osl 1 1 0<|a.length],some<|.arr 1<|a.map<|eL eS]⟩
def JG:(List<|List UInt8)->Ex->St->Prop:=xX 0 8<|λ (y:(List<|List UInt8))=>JbD f g b c l a h q r y
def FT:((List<|List UInt8)×Int)->St:=(λ (x:((List<|List UInt8)×Int))=>JbC f g b c l a h q r u I x.1 x.2)
def JH:(List<|List UInt8)->Ex->St->Prop:=xX 0 6<|λ (y:(List<|List UInt8))=>JbA f g b c l a h y
def FU:((List<|List UInt8)×Int)->St:=(λ (x:((List<|List UInt8)×Int))=>JeE f g b c l a h q x.1 x.2)
def JI:(List<|List<|List<|List UInt8)->Ex->St->Prop:=xX 0 4<|λ (y:(List<|List<|List<|List UInt8))=>JeC f g c y
def FV:((List<|List<|List UInt8)×Int)->St:=(λ (x:((List<|List<|List UInt8)×Int))=>JeB f g b c l x.1 x.2)
def JJ:(List<|List<|List<|List UInt8)->Ex->St->Prop:=xX 0 2<|λ (y:(List<|List<|List<|List UInt8))=>JeA y
def FW:((List<|List<|List<|List UInt8)×Int)->St:=(λ (x:((List<|List<|List<|List UInt8)×Int))=>Jez f g x.1 x.2)
variable {f g i w A b c B l a h C E q G r Q L u I M R S}
theorem I1 (x:((List (List (List (List UInt8))))×Int)) (z:(((List (List (List (List UInt8))))×Int)⊕(List (List (List (List UInt8)))))) (H:CC n f g x.1 x.2=some z):WP (cxk 109 0) (A1 Try.f26) [1,1,0,1,0,0] (AX 0 (FS f g) (JF f g) z) (FS f g x):=by
 obtain⟨i,w⟩:=x;refine sr<|ck 1<|en<|sq<|cn H (λ H=>?_)<|λ H=>?_
 ·exact sk<|qz<|sq<|bk 1<|sr<|ck 2<|en<|bx H λ a9 ab H=>rg (so1 (encN:=(nL 1<|eL eS)) 0 1 ab)<|ck 5<|sp (AT (eL Bb) f.Arcs)<|bx H λ T W H=>sp (Yd 1 (ez:=[.nil]) W)<|bx H λ bd ac H=>sp (NC 0 1 0 5 (j:=0) ac)<|sp (Ud (encN:=(nL 1<|eL eS)) (row:=[.own 1<|a9.map<|eL eS]) (row':=[.osl 1 1 0<|Int.toNat ((f.Arcs.length:Nat):Int)]) (k:=0) (sz:=1) (off:=0) (t:=ty 125) (v:=.osl 1 1 0<|Int.toNat ((f.Arcs.length:Nat):Int)) ab)<|ae<|qN<|qz<|rg (tr (tr (tr (tr (Jdg (e:=(eL eS)) (n:=((f.Arcs.length:Nat):Int)) 1 (Q4 W) (by kernel_rfl) rfl)<|sn 24 1 1<|NB W)<|snr (encN:=(nL 1<|eL eS)) (xs:=i) (n:=w) [.osl 1 1 0<|Int.toNat ((f.Arcs.length:Nat):Int)] 1 0 0 1 1<|NB W)<|sni (encN:=(nL 1<|eL eS)) (xs:=i) (n:=w) (enc:=(eL eS)) [.osl 1 1 0<|T.length] T 1 0 0 1 1)<|scl (encN:=(nL 1<|eL eS)) (xss:=i) w [.own 1<|T.map<|eL eS] 1 0 T)<|ck 2<|ae (by cases H;exact og<|gP [0,1,5,15] [0]<|pn1 (nL 1<|eL eS) (List.set i w.toNat T)<|Pl.z)
 ·exact ex 0<|qx (by cases H;exact xo rfl<|gP [0,1,5] [0]<|pn1 (nL 1<|eL eS) i<|Pl.z)
theorem I2 (x:((List (List UInt8))×Int)) (z:(((List (List UInt8))×Int)⊕(List (List UInt8)))) (H:BZ n f g b c l a h q r u I x.1 x.2=some z):WP (cxk 109 0) (A1 Try.f26) [1,1,1,0,1,0,0,1,0,0,1,1,0,0,1,1,0,0,1,1,1,0,1,0,0,1,1,0,0,1,1,1,0,0] (AX 0 (FT f g b c l a h q r u I) (JG f g b c l a h q r) z) (FT f g b c l a h q r u I x):=by
 obtain⟨M,R⟩:=x;refine sr<|ck 1<|en<|sq<|cn H (λ H=>?_)<|λ H=>?_
 ·exact sk<|qz<|sq<|bk 9<|sr<|bx H λ be af H=>sp (AM eS af)<|ck 2<|en<|rz<|ck 4<|bx H λ s5 ag H=>sp (Ub ag)<|bx H λ bf ah H=>ca false (Py ah)<|ck 1<|ae<|qN<|qz<|rz<|ck 2<|ae (by cases H;exact og<|gP [0,1,5,7,8,9,10,12,38,39,62,63,64,86,87,88] [0,1,2]<|Pl.n _ (nrH (n:=Int.toNat<|Bh c 5) (row:=[.osl 1 1 0<|a.length]) (row':=[.osl 1 1 0<|a.length]) (nrM (encN:=(nL 1<|eL eS)) (xss:=b) λ _=>rfl) rfl)<|po1<|po1<|Pl.z)
 ·exact ex 8<|qx (by cases H;exact xo rfl<|gP [0,1,5,7,8,9,10,38,39,62,63,64] [0,1]<|Pl.n _ (nrH (n:=Int.toNat<|Bh c 5) (row:=[.osl 1 1 0<|a.length]) (row':=[.osl 1 1 0<|a.length]) (nrM (encN:=(nL 1<|eL eS)) (xss:=b) λ _=>rfl) rfl)<|po1<|Pl.z)
theorem I3 (x:((List (List UInt8))×Int)) (z:(((List (List UInt8))×Int)⊕(List (List UInt8)))) (H:B0 n f g b c l a h q x.1 x.2=some z):WP (cxk 109 0) (A1 Try.f26) [1,1,1,0,1,0,0,1,0,0,1,1,0,0,1,1,0,0,1,1,1,0,1,0,0] (AX 0 (FU f g b c l a h q) (JH f g b c l a h) z) (FU f g b c l a h q x):=by
 obtain⟨G,r⟩:=x;refine sr<|ck 1<|en<|sq<|cn H (λ H=>?_)<|λ H=>?_
 ·refine sk<|qz<|sj (λ (x:(List<|List UInt8))=>JbB f g b c l a h q r x) (λ (x:(List<|List UInt8))=>Dc n r x) z ?_ (λ o=>?_)
  ·intro L H;exact rz<|ck 2<|ae (by cases H;exact og<|gP [0,1,5,7,8,9,10,38,39,62,63,64] [0,1]<|Pl.n _ (nrH (n:=Int.toNat<|Bh c 5) (row:=[.osl 1 1 0<|a.length]) (row':=[.osl 1 1 0<|a.length]) (nrM (encN:=(nL 1<|eL eS)) (xss:=b) λ _=>rfl) rfl)<|po1<|Pl.z)
  refine bk 7<|sr<|bx H λ u ai H=>sp (AM Bb ai)<|ck 3<|en<|sq<|sr<|ck 2<|bx H λ bg aj H=>sp (Q5 eU8 1 aj)<|ck 2<|bx H λ bh ak H=>ca false (KS ak)<|ck 1<|en<|cn H (λ H=>?_)<|λ H=>?_
  ·exact ex 7<|qx<|qH<|qs (gP [0,1,5,7,8,9,10,38,39,62,63,64] [0,1]<|Pl.n _ (nrH (n:=Int.toNat<|Bh c 5) (row:=[.osl 1 1 0<|a.length]) (row':=[.osl 1 1 0<|a.length]) (nrM (encN:=(nL 1<|eL eS)) (xss:=b) λ _=>rfl) rfl)<|po1<|Pl.z)<|o G H
  ·exact sk<|qz<|sq<|bx H λ _ X H=>bx H λ J O H=>rg (tr (Jdh (encN:=(nL 1<|eL eS)) (xss:=b) (m:=(Bh c 5)) (n:=(Bh (Ba .i64 c ((u.Cells.length:Nat):Int)) 5)) (row:=[.osl 1 1 0<|a.length]) (sz:=1) 0 (by kernel_rfl) O<|M6 X)<|U5 (enc:=(eL eS)) (es:=List.set (List.map (nL 1<|eL eS) b) (Int.toNat<|Bh c 5) [.osl 1 1 0<|a.length]) (n:=Int.toNat<|Bh (Ba .i64 c ((u.Cells.length:Nat):Int)) 5) (row:=[.own 1<|J.map<|eL eS]) (sz:=1) (ys:=J) 0 0 1 [.osl 3 1 0<|J.length] (Jf8 O) (by kernel_rfl) rfl (by kernel_rfl))<|ck 3<|sp (AT eU8 u.Cells)<|ck 2<|bx H λ bi al H=>sp (NC 0 1 0 5 (j:=0) al)<|sp (Jdj (encN:=(nL 1<|eL eS)) (xss:=b) (m:=(Bh c 5)) (row:=[.osl 1 1 0<|a.length]) (row2:=[.osl 3 1 0<|J.length]) (k:=0) (sz:=1) (off:=0) (t:=ty 125) (v:=.osl 3 1 0<|J.length) O)<|ck 2<|bx H λ I Y H=>sp (Bo 3 1 Y)<|sp (Ej (eL eS) 3 0 (ty 59) Y)<|sp (AT eS I)<|ck 1<|en<|bk 8<|bx H λ ba am H=>lX I2 am (tr (tr (U6 (enc:=(eL eS)) (zs:=J) (es:=List.set (List.map (nL 1<|eL eS) b) (Int.toNat<|Bh c 5) [.osl 1 1 0<|a.length]) (n:=Int.toNat<|Bh (Ba .i64 c ((u.Cells.length:Nat):Int)) 5) (row:=[.osl 3 1 0<|J.length]) (sz:=1) 0 0 3 1 [.own 1<|J.map<|eL eS] (by kernel_rfl) rfl rfl)<|Jdi (encN:=(nL 1<|eL eS)) (xss:=b) (x:=J) (m:=(Bh c 5)) (n:=(Bh (Ba .i64 c ((u.Cells.length:Nat):Int)) 5)) (row:=[.osl 1 1 0<|a.length]) (sz:=1) 0 (by kernel_rfl) O<|M6 X)<|gP [0,1,5,7,8,9,10,12,38,39,62,63,64,86,87,88] [0,1,2]<|Pl.n _ (nrH (n:=Int.toNat<|Bh c 5) (row:=[.osl 1 1 0<|a.length]) (row':=[.osl 1 1 0<|a.length]) (nrM (encN:=(nL 1<|eL eS)) (xss:=b) λ _=>rfl) rfl)<|po1<|po1<|Pl.z) rfl λ s ap=>qH<|qN<|qs (tr (ap)<|gP [0,1,5,7,8,9,10,38,39,62,63,64] [0,1]<|Pl.n _ (nrH (n:=Int.toNat<|Bh c 5) (row:=[.osl 1 1 0<|a.length]) (row':=[.osl 1 1 0<|a.length]) (nrM (encN:=(nL 1<|eL eS)) (xss:=b) λ _=>rfl) rfl)<|po1<|Pl.z)<|o ba H
 ·exact ex 6<|qx (by cases H;exact xo rfl<|gP [0,1,5,7,8,9,10,38,39] [0,1]<|Pl.n _ (nrH (n:=Int.toNat<|Bh c 5) (row:=[.osl 1 1 0<|a.length]) (row':=[.osl 1 1 0<|a.length]) (nrM (encN:=(nL 1<|eL eS)) (xss:=b) λ _=>rfl) rfl)<|po1<|Pl.z)
theorem I4 (x:((List (List (List UInt8)))×Int)) (z:(((List (List (List UInt8)))×Int)⊕(List (List (List (List UInt8)))))) (H:B1 n f g b c l x.1 x.2=some z):WP (cxk 109 0) (A1 Try.f26) [1,1,1,0,1,0,0,1,0,0,1,1,0,0] (AX 0 (FV f g b c l) (JI f g c) z) (FV f g b c l x):=by
 obtain⟨a,h⟩:=x;refine sr<|ck 1<|en<|sq<|cn H (λ H=>?_)<|λ H=>?_
 ·refine sk<|qz<|sq<|bk 5<|sr<|ck 2<|en<|sr<|ck 1<|en<|sj (λ (x:(List<|List UInt8))=>JeD f g b c l a h x) (λ (x:(List<|List UInt8))=>CD n f g b c l a h x) z ?_ (λ p=>?_)
  ·intro E H;exact sq<|sr<|ck 5<|bx H λ q ar H=>sp (AM (eL Bb) ar)<|ck 1<|sp (AT Bb q)<|ck 1<|en<|bk 6<|bx H λ bj au H=>lX I3 au (tr (fz (enc:=eS) (xs:=E) 10 2 1)<|gP [0,1,5,7,8,9,10,38,39,62,63,64] [0,1]<|Pl.n _ (nrH (n:=Int.toNat<|Bh c 5) (row:=[.osl 1 1 0<|a.length]) (row':=[.osl 1 1 0<|a.length]) (nrM (encN:=(nL 1<|eL eS)) (xss:=b) λ _=>rfl) rfl)<|po1<|Pl.z) rfl λ s av=>qH<|qs (av)<|rz<|ck 3<|bx H λ bl Z H=>sp (Bo 1 1 Z)<|bx H λ aw P H=>stA (eL eS) 1 0 (ty 59) Z P<|ae<|qN<|qz<|rg (tr (tr (sn 8 1 1<|BT P)<|sn 100 1 1<|BT P)<|snr (encN:=(nL 1<|eL eS)) (xs:=b) (n:=Bh c 5) [.osl 1 1 0<|a.length] 1 0 0 1 1<|BT P)<|ck 2<|ae (by cases H;exact og<|gP [0,1,5,7,8,38,39] [0,1]<|Pl.n _ (nrH (n:=Int.toNat<|Bh c 5) (row:=[.osl 1 1 0<|aw.length]) (row':=[.osl 1 1 0<|aw.length]) (nrM (encN:=(nL 1<|eL eS)) (xss:=b) λ _=>rfl) rfl)<|po1<|Pl.z)
  refine sr<|ck 2<|sp (AT eU8 g)<|ck 3<|gc 3 (c==((g.length:Nat):Int))<|ck 1<|bx H λ bm ay H=>sE (λ hg=>AM eB<|DA ay hg)<|gc 1 (c==((g.length:Nat):Int))<|pA<|en<|cn H (λ H=>?_)<|λ H=>?_
  ·exact rz<|ck 2<|ae<|qs (gP [0,1,5,7,8,9,10,38,39] [0,1,2]<|Pl.n _ (nrH (n:=Int.toNat<|Bh c 5) (row:=[.osl 1 1 0<|a.length]) (row':=[.osl 1 1 0<|a.length]) (nrM (encN:=(nL 1<|eL eS)) (xss:=b) λ _=>rfl) rfl)<|po1<|po1<|Pl.z)<|p ([[]]) H
  ·exact sk<|qs (tr (As.nilo 10 1 (by kernel_rfl))<|gP [0,1,5,7,8,9,10,38,39] [0,1,2]<|Pl.n _ (nrH (n:=Int.toNat<|Bh c 5) (row:=[.osl 1 1 0<|a.length]) (row':=[.osl 1 1 0<|a.length]) (nrM (encN:=(nL 1<|eL eS)) (xss:=b) λ _=>rfl) rfl)<|po1<|po1<|Pl.z)<|p ([]:List (List UInt8)) H
 ·exact ex 4<|qx (by cases H;exact xo rfl<|tr (tr (sni (encN:=(nL 1<|eL eS)) (xs:=b) (n:=Bh c 5) (enc:=(eL eS)) [.osl 1 1 0<|a.length] a 1 0 0 1 1)<|scl (encN:=(nL 1<|eL eS)) (xss:=b) (Bh c 5) [.own 1<|a.map<|eL eS] 1 0 a)<|gP [0,1,5,7] [0]<|pn1 (nL 1<|eL eS) (List.set b (Int.toNat<|Bh c 5) a)<|Pl.z)
theorem I5 (x:((List (List (List (List UInt8))))×Int)) (z:(((List (List (List (List UInt8))))×Int)⊕(List (List (List (List UInt8)))))) (H:Dd n f g x.1 x.2=some z):WP (cxk 109 0) (A1 Try.f26) [1,1,1,0,1,0,0] (AX 0 (FW f g) (JJ) z) (FW f g x):=by
 obtain⟨b,c⟩:=x;refine sq<|sr<|ck 2<|en<|cn H (λ H=>?_)<|λ H=>?_
 ·exact sk<|qz<|sq<|bk 3<|sq<|bx H λ l U H=>rg (tr (so1 (encN:=(nL 1<|eL eS)) 0 1 U)<|sno (encN:=(nL 1<|eL eS)) (enc:=(eL eS)) U [.own 1<|l.map<|eL eS] l 1 0 0 1)<|ck 2<|bx H λ bn az H=>sp (NC 0 1 0 5 (j:=0) az)<|sp (Q3 (encN:=(nL 1<|eL eS)) (row:=[.osl 1 1 0<|l.length]) (k:=0) (sz:=1) (off:=0) (t:=ty 125) (v:=.osl 1 1 0<|l.length) U)<|ck 1<|en<|sr<|ck 3<|en<|bk 4<|bx H λ bb a0 H=>lX I4 a0 (gP [0,1,5,7,8,38,39] [0,1]<|Pl.n _ (nrH (n:=Int.toNat<|Bh c 5) (row:=[.osl 1 1 0<|l.length]) (row':=[.osl 1 1 0<|l.length]) (nrM (encN:=(nL 1<|eL eS)) (xss:=b) λ _=>rfl) rfl)<|po1<|Pl.z) rfl λ s a2=>qH<|qN<|qs (a2)<|rz<|ck 3<|ae (by cases H;exact og<|gP [0,1,5,7] [0]<|pn1 (nL 1<|eL eS) bb<|Pl.z)
 ·exact ex 2<|qx (by cases H;exact xo rfl<|gP [5] [0]<|pn1 (nL 1<|eL eS) b<|Pl.z)
theorem Ld {z} (H:EA n f g=some z):A0 Try.prog 26 [.dptr (Av f) 0,.d (.sl (g.map eU8))] (.d (.sl (z.map eS))):=by
 exact fO 109 (Jew f g) Try.func26<|sr<|ck 1<|en<|sr<|ck 1<|en<|sq<|sq<|rg (tr (tr (Ja8 0 [.nil,.nil,.nil,.nil,.nil] (by kernel_rfl))<|X6 (sz:=1) (es:=[[.nil],[.nil],[.nil],[.nil],[.nil]]) 0 (List.map (nL 1<|eL eS) ([[],[],[],[],[]]:List (List<|List<|List UInt8))) (by kernel_rfl) (by kernel_rfl))<|JfV 5 0 1 (by kernel_rfl))<|ck 1<|en<|bk 0<|bx H λ bc a3 H=>lX I1 a3 (gP [0,1,5,15] [0]<|pn1 (nL 1<|eL eS) ([[],[],[],[],[]]:List (List<|List<|List UInt8))<|Pl.z) rfl λ s a4=>qH<|qs (a4)<|sq<|sr<|ck 1<|sp (AT eU8 g)<|ck 1<|en<|bk 2<|bx H λ a5 a6 H=>lX I5 a6 (gP [0,1,5,7] [0]<|pn1 (nL 1<|eL eS) bc<|Pl.z) rfl λ s a7=>qH<|qs (a7)<|sq<|bx H λ K V H=>rg (tr (so1 (encN:=(nL 1<|eL eS)) 0 1 V)<|sno (encN:=(nL 1<|eL eS)) (enc:=(eL eS)) V [.own 1<|K.map<|eL eS] K 1 0 0 1)<|bx H λ bp a8 H=>sp (NC 0 1 0 5 (j:=0) a8)<|sp (Q3 (encN:=(nL 1<|eL eS)) (row:=[.osl 1 1 0<|K.length]) (k:=0) (sz:=1) (off:=0) (t:=ty 125) (v:=.osl 1 1 0<|K.length) V)<|bx H λ bq aa H=>sp (Bo 1 1 aa)<|sp (Ej (eL eS) 1 0 (ty 59) aa)<|ck 1<|ae<|qs (tr (sni (encN:=(nL 1<|eL eS)) (xs:=a5) (n:=0) (enc:=(eL eS)) [.osl 1 1 0<|K.length] K 1 0 0 1 1)<|scl (encN:=(nL 1<|eL eS)) (xss:=a5) 0 [.own 1<|K.map<|eL eS] 1 0 K)<|re (by cases H;exact pr rd)
end
end Go.AI
end
section
namespace Go.AI
open Go.Proofs
set_option maxRecDepth 10000
variable {n:Nat}
section
variable (b:Ab) (q:Ap) (a:(List Ad)) (e:(List Bool)) (j:(List (Ad×Int))) (C:Int) (r:(List (Ad×Int))) (h:(List (Ad×Int))) (A:Ap) (c:Int) (I:Ap) (B:Ad) (i:Ap) (u:Int) (J:Ap) (E:Ap)
def YW:St:=⟨(0,.agg [.d<|.int .i64 b.Modes,.d<|.int .u8 b.Accept,.d<|.sl<|b.Rules.map AH])::[],[]⟩
def YX:St:=⟨(2,.ptr 0 0)::[],[some<|.box<|Di q (.osl 1 1 0<|q.Arcs.length)<|.osl 2 1 0<|q.Accepts.length,some<|.narr 1<|q.Arcs.map<|nL 3 Bb,some<|.arr 1<|q.Accepts.map eB]⟩
def YY:St:=⟨(1,.ptr 0 0)::(3,.d<|.sl<|a.map AU)::(4,.d<|.sl<|e.map eB)::(5,.mp 1)::(22,.d<|.sl<|a.map AU)::(23,.d<|.int .i64 ((a.length:Nat):Int))::(24,.d<|.int .i64 C)::[],[some<|.box<|Bt b,some<|.map true false<|AA AU AN j]⟩
def YZ:St:=⟨(1,.ptr 0 0)::(3,.d<|.sl<|a.map AU)::(4,.d<|.sl<|e.map eB)::(5,.mp 1)::[],[some<|.box<|Bt b,some<|.map true false<|AA AU AN r]⟩
def LW:(List<|Ad×Int)->Ex->St->Prop:=xX 0 0<|λ (y:(List<|Ad×Int))=>YZ b a e y
def Hi:((List<|Ad×Int)×Int)->St:=(λ (x:((List<|Ad×Int)×Int))=>YY b a e x.1 x.2)
def Y0:St:=⟨(1,.ptr 0 0)::(4,.d<|.sl<|e.map eB)::(5,.mp 1)::(8,.ptr 2 0)::(44,.d<|.sl<|a.map AU)::(45,.d<|.int .i64 ((a.length:Nat):Int))::(46,.d<|.int .i64 c)::[],[some<|.box<|Bt b,some<|.map true false<|AA AU AN h,some<|.box<|Di A (.osl 3 1 0<|A.Arcs.length)<|.osl 4 1 0<|A.Accepts.length,some<|.narr 1<|A.Arcs.map<|nL 3 Bb,some<|.arr 1<|A.Accepts.map eB]⟩
def Y1:St:=⟨(8,.ptr 0 0)::[],[some<|.box<|Di I (.osl 1 1 0<|I.Arcs.length)<|.osl 2 1 0<|I.Accepts.length,some<|.narr 1<|I.Arcs.map<|nL 3 Bb,some<|.arr 1<|I.Accepts.map eB]⟩
def Y2:St:=⟨(1,.ptr 0 0)::(4,.d<|.sl<|e.map eB)::(5,.mp 1)::(8,.ptr 2 0)::(9,.d<|.int .i64 c)::(10,.ptr 3 0)::(44,.d<|.sl<|a.map AU)::(45,.d<|.int .i64 ((a.length:Nat):Int))::(46,.d<|.int .i64 c)::(61,.d<|.sl<|b.Rules.map AH)::(62,.d<|.int .i64 ((b.Rules.length:Nat):Int))::(63,.d<|.int .i64 u)::[],[some<|.box<|Bt b,some<|.map true false<|AA AU AN h,some<|.box<|Di i (.osl 4 1 0<|i.Arcs.length)<|.osl 5 1 0<|i.Accepts.length,some<|.box<|Ra B,some<|.narr 1<|i.Arcs.map<|nL 3 Bb,some<|.arr 1<|i.Accepts.map eB]⟩
def Y3:St:=⟨(1,.ptr 0 0)::(4,.d<|.sl<|e.map eB)::(5,.mp 1)::(8,.ptr 2 0)::(44,.d<|.sl<|a.map AU)::(45,.d<|.int .i64 ((a.length:Nat):Int))::(46,.d<|.int .i64 c)::[],[some<|.box<|Bt b,some<|.map true false<|AA AU AN h,some<|.box<|Di J (.osl 3 1 0<|J.Arcs.length)<|.osl 4 1 0<|J.Accepts.length,some<|.narr 1<|J.Arcs.map<|nL 3 Bb,some<|.arr 1<|J.Accepts.map eB]⟩
def Y4:St:=⟨(1,.ptr 0 0)::(4,.d<|.sl<|e.map eB)::(5,.mp 1)::(8,.ptr 2 0)::(9,.d<|.int .i64 c)::(10,.ptr 3 0)::(44,.d<|.sl<|a.map AU)::(45,.d<|.int .i64 ((a.length:Nat):Int))::(46,.d<|.int .i64 c)::(61,.d<|.sl<|b.Rules.map AH)::(62,.d<|.int .i64 ((b.Rules.length:Nat):Int))::(63,.d<|.int .i64 u)::[],[some<|.box<|Bt b,some<|.map true false<|AA AU AN h,some<|.box<|Di E (.osl 4 1 0<|E.Arcs.length)<|.osl 5 1 0<|E.Accepts.length,some<|.box<|Ra B,some<|.narr 1<|E.Arcs.map<|nL 3 Bb,some<|.arr 1<|E.Accepts.map eB]⟩
def LX:Ap->Ex->St->Prop:=xX 0 4<|λ (y:Ap)=>Y3 b a e h c y
def Hj:(Ap×Int)->St:=(λ (x:(Ap×Int))=>Y2 b a e h c B x.1 x.2)
def LY:Ap->Ex->St->Prop:=xX 0 2<|λ (y:Ap)=>Y1 y
def Hk:(Ap×Int)->St:=(λ (x:(Ap×Int))=>Y0 b a e h x.1 x.2)
variable {b q a e j C r h A c I B i u J E}
theorem Lf (x:((List (Ad×Int))×Int)) (z:(((List (Ad×Int))×Int)⊕(List (Ad×Int)))) (H:Dr n b a e x.1 x.2=some z):WP (cxk 110 0) (A1 Try.f23) [1,1,1,0,1,0,0] (AX 0 (Hi b a e) (LW b a e) z) (Hi b a e x):=by
 obtain⟨j,C⟩:=x;refine sr<|ck 1<|en<|sq<|cn H (λ H=>?_)<|λ H=>?_
 ·exact sk<|qz<|sq<|bk 1<|sr<|ck 1<|bx H λ M P H=>sp (AM AU P)<|ck 4<|en<|rz<|ck 3<|sp (Kc (enc:=AN) (encK:=AU) (k:=1) (e1:=λ x=>.int .i64 x) (m:=j) (l:=[.d<|.int .i64 M.Mode,.d<|.int .i64 M.Last,.d<|.int .u8 M.Need]) (key:=M) (y:=C) (v:=.d<|.int .i64 C) (vz:=[.int .i64 0]) Qb)<|ae<|qN<|qz<|rz<|ck 2<|ae (by cases H;exact og<|sg [1,3,4,5,22,23,24])
 ·exact ex 0<|qx (by cases H;exact xo rfl<|sg [1,3,4,5])
theorem Lg (x:(Ap×Int)) (z:((Ap×Int)⊕Ap)) (H:CI n b a e h c B x.1 x.2=some z):WP (cxk 110 0) (A1 Try.f23) [1,1,1,1,1,0,1,0,0,1,1,0,0,1,1,1,0,0] (AX 0 (Hj b a e h c B) (LX b a e h c) z) (Hj b a e h c B x):=by
 obtain⟨i,u⟩:=x;refine sr<|ck 1<|en<|sq<|cn H (λ H=>?_)<|λ H=>?_
 ·refine sk<|qz<|sj (λ (x:Ap)=>Y4 b a e h c B u x) (λ (x:Ap)=>EB n u x) z ?_ (λ f=>?_)
  ·intro E H;exact rz<|ck 2<|ae (by cases H;exact og<|gP [1,4,5,8,9,10,44,45,46,61,62,63] [0,1,2,3,4,5]<|po1<|po1<|po1<|po1<|pn1 (nL 3 Bb) E.Arcs<|po1<|Pl.z)
  refine bk 5<|sr<|ck 1<|bx H λ ak Q H=>sp (AM AH Q)<|ck 4<|en<|sr<|ck 3<|bx H λ p R H=>ca false (M9 R)<|ck 6<|en<|sr<|ck 5<|sE (g:=p.2) (λ hg=>Jr (enc:=AN) (encK:=AU) (k:=1) (e1:=λ x=>.int .i64 x) (m:=h) (l:=[.d<|.int .i64 p.1.Mode,.d<|.int .i64 p.1.Last,.d<|.int .u8 p.1.Need]) (key:=p.1) (z:=0) (vz:=[.int .i64 0]) Qb false)<|bx H λ al S H=>sE (λ hg=>AM eB<|DA S hg)<|gc 1 p.2<|pA<|en<|cn H (λ H=>?_)<|λ H=>?_
  ·exact bx H λ K w H=>rg (tr (so1 (encN:=(nL 3 Bb)) 4 1 w)<|sno (encN:=(nL 3 Bb)) (enc:=Bb) w [.own 3<|K.map Bb] K 1 4 0 3)<|ck 10<|sp (Bo 4 1 w)<|sp (Q3 (encN:=(nL 3 Bb)) (row:=[.osl 8 3 0<|K.length]) (k:=4) (sz:=1) (off:=0) (t:=ty 98) (v:=.osl 8 3 0<|K.length) w)<|ck 6<|sp (Jr (enc:=AN) (encK:=AU) (k:=1) (e1:=λ x=>.int .i64 x) (m:=h) (l:=[.d<|.int .i64 p.1.Mode,.d<|.int .i64 p.1.Last,.d<|.int .u8 p.1.Need]) (key:=p.1) (z:=0) (vz:=[.int .i64 0]) Qb false)<|ck 2<|bx H λ o T H=>sp (BC Bb 8 3 T)<|sp (Bo 4 1 w)<|sp (Ud (encN:=(nL 3 Bb)) (row:=[.osl 8 3 0<|K.length]) (row':=[.osl 10 3 0<|o.length]) (k:=4) (sz:=1) (off:=0) (t:=ty 98) (v:=.osl 10 3 0<|o.length) w)<|ae<|qN<|qs (tr (tr (tr (tr (tr (sni (encN:=(nL 3 Bb)) (xs:=i.Arcs) (n:=c) (enc:=Bb) [.osl 10 3 0<|o.length] o 1 4 0 10 3)<|scl (encN:=(nL 3 Bb)) (xss:=i.Arcs) c [.own 3<|o.map Bb] 1 4 o)<|sn 87 4 1<|lsS i.Arcs c.toNat o)<|sn 92 4 1<|lsS i.Arcs c.toNat o)<|snc 2 0 4 1<|lsS i.Arcs c.toNat o)<|gP [1,4,5,8,9,10,44,45,46,61,62,63] [0,1,2,3,4,5]<|po1<|po1<|po1<|po1<|pn1 (nL 3 Bb) (List.set i.Arcs c.toNat o)<|po1<|Pl.z)<|f ({ Arcs:=List.set i.Arcs c.toNat o,Accepts:=i.Accepts,Alive:=i.Alive }:Ap) H
  ·exact sk<|qN<|qs (gP [1,4,5,8,9,10,44,45,46,61,62,63] [0,1,2,3,4,5]<|po1<|po1<|po1<|po1<|pn1 (nL 3 Bb) i.Arcs<|po1<|Pl.z)<|f i H
 ·exact ex 4<|qx (by cases H;exact xo rfl<|gP [1,4,5,8,44,45,46] [0,1,2,4,5]<|po1<|po1<|po1<|pn1 (nL 3 Bb) i.Arcs<|po1<|Pl.z)
theorem Lh (x:(Ap×Int)) (z:((Ap×Int)⊕Ap)) (H:Ds n b a e h x.1 x.2=some z):WP (cxk 110 0) (A1 Try.f23) [1,1,1,1,1,0,1,0,0] (AX 0 (Hk b a e h) (LY) z) (Hk b a e h x):=by
 obtain⟨A,c⟩:=x;refine sr<|ck 1<|en<|sq<|cn H (λ H=>?_)<|λ H=>?_
 ·exact sk<|qz<|sq<|bk 3<|sr<|ck 1<|bx H λ B U H=>sp (AM AU U)<|ck 4<|en<|sr<|ck 7<|bx H λ am V H=>ca false (Jz V)<|bx H λ ap O H=>sp (Bo 4 1 O)<|bx H λ ar L H=>stA eB 4 0 (ty 4) O L<|en<|sq<|rg (tr (sn 54 4 1<|BT L)<|snc 2 1 4 1<|BT L)<|ck 2<|sp (AT AH b.Rules)<|ck 1<|en<|bk 4<|bx H λ ai W H=>lX Lg W (gP [1,4,5,8,9,10,44,45,46,61,62,63] [0,1,2,5,3,4]<|po1<|po1<|po1<|po1<|pn1 (nL 3 Bb) A.Arcs<|po1<|Pl.z) rfl λ s X=>qH<|qN<|qs (X)<|rz<|ck 2<|ae (by cases H;exact og<|gP [1,4,5,8,44,45,46] [0,1,2,3,4]<|po1<|po1<|po1<|pn1 (nL 3 Bb) ai.Arcs<|po1<|Pl.z)
 ·exact ex 2<|qx (by cases H;exact xo rfl<|gP [8] [2,3,4]<|po1<|pn1 (nL 3 Bb) A.Arcs<|po1<|Pl.z)
theorem IQ {z} (H:E4 n b=some z):CG Try.prog 23 [.agg (Bt b)] [] 0 (.ptr 0 0) [some (.box (Di z (.osl 1 1 0 (z.Arcs.length)) (.osl 2 1 0 (z.Accepts.length)))),some (.narr 1 (z.Arcs.map (nL 3 Bb))),some (.arr 1 (z.Accepts.map eB))]:=by
 exact fL 110 0 (YW b) Try.func23<|sr<|ck 2<|en<|sr<|ck 1<|bx H λ a Y H=>ca false (Pv Y)<|ck 1<|bx H λ e Z H=>ca false (Rj Z)<|ck 2<|en<|sr<|ck 1<|sp (AT AU a)<|ck 2<|en<|sq<|sr<|ck 1<|sp (AT AU a)<|ck 1<|en<|bk 0<|bx H λ h aa H=>lX Lf aa (sg [1,3,4,5,22,23,24]) rfl λ s ab=>qH<|qs (ab)<|sr<|ck 1<|sp (AT AU a)<|bx H λ aj G H=>sp (Yd 1 (ez:=[.nil]) G)<|ck 1<|sp (AT AU a)<|bx H λ au ac H=>sp (Jb0 eB 1 ac)<|ck 1<|bx H λ av af H=>sp (AM eB af)<|ck 4<|en<|sq<|sq<|rg (tr (tr (Jc3 (encN:=(nL 3 Bb)) (sz:=1) (z:=[.nil]) (n:=((a.length:Nat):Int)) 2 (Q4 G) (by kernel_rfl) (by kernel_rfl))<|sn 35 2 1<|NB G)<|snc 4 0 2 1<|NB G)<|ck 1<|sp (AT AU a)<|ck 1<|en<|bk 2<|bx H λ aw ag H=>lX Lh ag (gP [1,4,5,8,44,45,46] [0,1,4,2,3]<|po1<|po1<|po1<|pn1 (nL 3 Bb) aj<|po1<|Pl.z) rfl λ s ah=>qH<|qs (ah)<|sr<|ck 2<|en<|re (by cases H;exact pL<|rl (s':=YX z)<|gP [2] [0,1,2]<|po1<|pn1 (nL 3 Bb) z.Arcs<|po1<|Pl.z)
end
section
variable (a:Ap)
def Y5:St:=⟨(0,.dptr (Av a) 0)::[],[]⟩
def Y6:St:=⟨(2,.ptr 0 0)::[],[some<|.box [.dptr (Av a) 0,.osl 1 2 0<|List.length ([]:List Aa),.mp 2,.osl 3 1 0<|List.length ([]:List (Option<|List Af)),.mp 4],some<|.arr 2<|List.map Al ([]:List Aa),some<|.map true false<|AA Al AN [],some<|.arr 1<|List.map (eOp Aw) ([]:List (Option<|List Af)),some<|.map true true<|AA AQ AY []]⟩
variable {a}
theorem My {z} (H:KM n a=some z):CG Try.prog 24 [.dptr (Av a) 0] [] 0 (.ptr 0 0) [some (.box [.dptr (Av a) 0,.osl 1 2 0 (List.length ([]:List Aa)),.mp 2,.osl 3 1 0 (List.length ([]:List (Option (List Af)))),.mp 4]),some (.arr 2 (List.map Al ([]:List Aa))),some (.map true false (AA Al AN [])),some (.arr 1 (List.map (eOp Aw) ([]:List (Option (List Af))))),some (.map true true (AA AQ AY []))]:=by
 exact fL 8 0 (Y5 a) Try.func24<|sr<|ck 1<|en<|sr<|ck 6<|en<|re (by cases H;exact pL<|rl (s':=Y6 a)<|tr (tr (D1 2 1 2 (by kernel_rfl))<|D1 2 3 1 (by kernel_rfl))<|sg [2])
end
section
variable (c:Aa) (b:Ap) (e:(List Aa)) (f:(List (Aa×Int))) (g:(List (Option (List Af)))) (h:(List (Am×An))) (s:(List (Aa×Int))) (p:(List Aa)) (q:(List (Option (List Af)))) (t:Int) (o:(List (Aa×Int))) (i:(List Aa)) (j:(List (Option (List Af)))) (r:Int)
def Y7:St:=⟨(0,.ptr 0 0)::(1,.agg [.d<|.int .i64 c.State,.d<|.str c.Rest])::[],[some<|.box [.dptr (Av b) 0,.osl 1 2 0<|e.length,.mp 2,.osl 3 1 0<|g.length,.mp 4],some<|.arr 2<|e.map Al,some<|.map true false<|AA Al AN f,some<|.arr 1<|g.map<|eOp Aw,some<|.map true true<|AA AQ AY h]⟩
def Y8:St:=⟨(4,.d<|.int .i64 t)::[],[some<|.box [.dptr (Av b) 0,.osl 5 2 0<|p.length,.mp 2,.osl 6 1 0<|q.length,.mp 4],none,some<|.map true false<|AA Al AN s,none,some<|.map true true<|AA AQ AY h,some<|.arr 2<|p.map Al,some<|.arr 1<|q.map<|eOp Aw]⟩
def Y9:St:=⟨(5,.d<|.int .i64 r)::[],[some<|.box [.dptr (Av b) 0,.osl 5 2 0<|i.length,.mp 2,.osl 6 1 0<|j.length,.mp 4],none,some<|.map true false<|AA Al AN o,none,some<|.map true true<|AA AQ AY h,some<|.arr 2<|i.map Al,some<|.arr 1<|j.map<|eOp Aw]⟩
variable {c b e f g h s p q t o i j r}
theorem DN {z} (H:Cc n c b e f g h=some z):CG Try.prog 42 [.ptr 0 0,.agg [.d (.int .i64 c.State),.d (.str c.Rest)]] [some (.box [.dptr (Av b) 0,.osl 1 2 0 (e.length),.mp 2,.osl 3 1 0 (g.length),.mp 4]),some (.arr 2 (e.map Al)),some (.map true false (AA Al AN f)),some (.arr 1 (g.map (eOp Aw))),some (.map true true (AA AQ AY h))] 5 (.d (.int .i64 z.2.2.2)) [some (.box [.dptr (Av b) 0,.osl 5 2 0 (z.2.1.length),.mp 2,.osl 6 1 0 (z.2.2.1.length),.mp 4]),none,some (.map true false (AA Al AN z.1)),none,some (.map true true (AA AQ AY h)),some (.arr 2 (z.2.1.map Al)),some (.arr 1 (z.2.2.1.map (eOp Aw)))]:=by
 refine fL 49 5 (Y7 c b e f g h) Try.func42<|sr<|ck 2<|en<|sr<|ck 5<|sp (Jr (enc:=AN) (encK:=Al) (k:=2) (e1:=λ x=>.int .i64 x) (m:=f) (l:=[.d<|.int .i64 c.State,.d<|.str c.Rest]) (key:=c) (z:=0) (vz:=[.int .i64 0]) YQ true)<|ck 5<|en<|sj (λ (x:((List<|Aa×Int)×(List Aa)×(List<|Option<|List Af)×Int))=>Y9 b h x.1 x.2.1 x.2.2.1 x.2.2.2) (λ (x:((List<|Aa×Int)×(List Aa)×(List<|Option<|List Af)×Int))=>DK n x.1 x.2.1 x.2.2.1 x.2.2.2) z ?_ (λ a=>?_)
 ·rintro⟨o,i,j,r⟩ H;exact sr<|ck 2<|en<|re (by cases H;exact pL<|rl (s':=Y8 b h o i j r)<|sg [4])
 refine sr<|ck 2<|en<|cn H (λ H=>?_)<|λ H=>?_
 ·exact sr<|ck 6<|en<|sr<|ck 6<|sp (Kc (enc:=AN) (encK:=Al) (k:=2) (e1:=λ x=>.int .i64 x) (m:=f) (l:=[.d<|.int .i64 c.State,.d<|.str c.Rest]) (key:=c) (y:=((e.length:Nat):Int)) (v:=.d<|.int .i64 ((e.length:Nat):Int)) (vz:=[.int .i64 0]) YQ)<|en<|rz<|ck 8<|bx H λ A u H=>sp (BC Al 1 2 u)<|ck 5<|bx H λ B w H=>sp (BC (eOp Aw) 3 1 w)<|ck 6<|ae<|qs (sg [5])<|a ((DV c ((e.length:Nat):Int) f),A,B,((e.length:Nat):Int)) H
 ·exact sk<|qs (tr (tr (Hb (k:=1) (sz:=2) 0 1 (e.map Al) (e.length) (by kernel_rfl) C1 leM rfl)<|Hb (k:=3) (sz:=1) 0 3 (g.map<|eOp Aw) (g.length) (by kernel_rfl) C1 leM rfl)<|sg [5])<|a (f,e,g,(Option.getD (BJ c f) 0)) H
end
section
variable (c:Ah) (b:Ap) (e:(List Aa)) (g:(List (Aa×Int))) (f:(List (Option (List Af)))) (h:(List (Am×An))) (o:(List (Am×An))) (p:Bool) (i:An) (l:Int)
def Za:St:=⟨(0,.ptr 0 0)::(1,.agg [.d<|.int .i64 c.Pair.A,.d<|.int .i64 c.Pair.B,.d<|.int .i64 c.Lead.Side,.d<|.str c.Lead.Text])::[],[some<|.box [.dptr (Av b) 0,.osl 1 2 0<|e.length,.mp 2,.osl 3 1 0<|f.length,.mp 4],some<|.arr 2<|e.map Al,some<|.map true false<|AA Al AN g,some<|.arr 1<|f.map<|eOp Aw,some<|.map true true<|AA AQ AY h]⟩
def OX:St:=⟨(4,.d<|.bool p)::[],[some<|.box [.dptr (Av b) 0,.osl 1 2 0<|e.length,.mp 2,.osl 3 1 0<|f.length,.mp 4],some<|.arr 2<|e.map Al,some<|.map true false<|AA Al AN g,some<|.arr 1<|f.map<|eOp Aw,some<|.map true true<|AA AQ AY o]⟩
def Zb:St:=⟨(0,.ptr 0 0)::(3,.ptr 5 0)::(5,.ptr 6 0)::(18,.bsl 6 1 2 i.N.toNat)::(19,.d<|.int .i64 ((Int.toNat i.N:Nat):Int))::(20,.d<|.int .i64 l)::[],[some<|.box [.dptr (Av b) 0,.osl 1 2 0<|e.length,.mp 2,.osl 3 1 0<|f.length,.mp 4],some<|.arr 2<|e.map Al,some<|.map true false<|AA Al AN g,some<|.arr 1<|f.map<|eOp Aw,some<|.map true true<|AA AQ AY h,some<|.box<|II c,some<|.box<|Jcm i]⟩
def Zc:St:=⟨(0,.ptr 0 0)::(3,.ptr 5 0)::(5,.ptr 6 0)::[],[some<|.box [.dptr (Av b) 0,.osl 1 2 0<|e.length,.mp 2,.osl 3 1 0<|f.length,.mp 4],some<|.arr 2<|e.map Al,some<|.map true false<|AA Al AN g,some<|.arr 1<|f.map<|eOp Aw,some<|.map true true<|AA AQ AY h,some<|.box<|II c,some<|.box<|Jcm i]⟩
def Ir:(Unit⊕((List<|Am×An)×Bool))->Ex->St->Prop:=xS (xX 5 0<|λ (_:Unit)=>Zc c b e g f h i)<|xL 5 ty Try.f43 (λ (y:((List<|Am×An)×Bool))=>.d<|.bool y.2)<|λ (y:((List<|Am×An)×Bool))=>[some<|.box [.dptr (Av b) 0,.osl 1 2 0<|e.length,.mp 2,.osl 3 1 0<|f.length,.mp 4],some<|.arr 2<|e.map Al,some<|.map true false<|AA Al AN g,some<|.arr 1<|f.map<|eOp Aw,some<|.map true true<|AA AQ AY y.1]
def E8:Int->St:=(λ (x:Int)=>Zb c b e g f h i x)
variable {c b e g f h o p i l}
theorem EM (x:Int) (z:(Int⊕(Unit⊕((List (Am×An))×Bool)))) (H:Cd n c b e g f h i x=some z):WP (cxk 54 5) (A1 Try.f43) [1,1,0,1,0,0] (AX 5 (E8 c b e g f h i) (Ir c b e g f h i) z) (E8 c b e g f h i x):=by
 revert H;generalize x=l;intro H;refine sr<|ck 1<|en<|sq<|cn H (λ H=>?_)<|λ H=>?_
 ·refine sk<|qz<|sq<|bk 1<|sr<|bx H λ t q H=>sp (Jbs 6 1 2 q)<|sp (Jbq (enc:=YO) 6 1 2 2 (ty 113) (λ _=>rfl)<|Yq q)<|ck 2<|en<|sr<|ck 6<|gc 2 (!((t.Side==c.Lead.Side)&&((t.Text==c.Lead.Text)&&true)))<|pO<|en<|cn H (λ H=>?_)<|λ H=>?_
  ·exact sr<|ck 1<|en<|re<|qR<|qr (by cases H;exact lo rfl<|rl (s':=OX b e g f h false)<|sg [4])
  ·exact sk<|qN<|qz<|rz<|ck 2<|ae (by cases H;exact og<|sg [0,3,5,18,19,20])
 ·exact ex 0<|qx (by cases H;exact xo rfl<|sg [0,3,5])
theorem FX {z} (H:CN n c b e g f h=some z):CG Try.prog 43 [.ptr 0 0,.agg (II c)] [some (.box [.dptr (Av b) 0,.osl 1 2 0 (e.length),.mp 2,.osl 3 1 0 (f.length),.mp 4]),some (.arr 2 (e.map Al)),some (.map true false (AA Al AN g)),some (.arr 1 (f.map (eOp Aw))),some (.map true true (AA AQ AY h))] 5 (.d (.bool z.2)) [some (.box [.dptr (Av b) 0,.osl 1 2 0 (e.length),.mp 2,.osl 3 1 0 (f.length),.mp 4]),some (.arr 2 (e.map Al)),some (.map true false (AA Al AN g)),some (.arr 1 (f.map (eOp Aw))),some (.map true true (AA AQ AY z.1))]:=by
 refine fL 54 5 (Za c b e g f h) Try.func43<|sr<|ck 2<|en<|sr<|ck 6<|bx H λ i u H=>sp (Wo (enc:=AY) (encK:=AQ) (ka:=true) (va:=true) (k:=4) (m:=h) (a:=.agg [.d<|.int .i64 c.Pair.A,.d<|.int .i64 c.Pair.B]) (key:=c.Pair) (z:=(⟨0,⟨⟨0,[]⟩,⟨0,[]⟩⟩⟩:An)) (vz:=[.int .i64 0,.int .i64 0,.str [],.int .i64 0,.str []]) YR u)<|ck 2<|en<|sq<|sr<|ck 3<|bx H λ K w H=>sp (Jdf 6 1 2 2 w)<|ck 2<|en<|bk 0<|bx H λ J r H=>?_;rcases J with L|M
 ·refine lX EM r (sg [0,3,5,18,19,20]) rfl λ s C=>qH<|qs (C)<|sq<|sr<|ck 3<|en<|cn H (λ H=>?_)<|λ H=>?_
  ·exact sr<|ck 1<|en<|re<|qr (by cases H;exact pL<|rl (s':=OX b e g f h false)<|sg [4])
  ·exact sk<|qz<|sr<|ck 5<|bx H λ O E H=>sp (Yn 6 1 2 2 E)<|bx H λ j G H=>sp (Jbr (enc:=YO) (v:=.agg [.d<|.int .i64 c.Lead.Side,.d<|.str c.Lead.Text]) 6 1 2 2 (ty 113) ⟨0,[]⟩ (λ _=>rfl) G)<|en<|sr<|ck 5<|en<|sr<|ck 7<|sp (Jbo (enc:=AY) (encK:=AQ) (ka:=true) (va:=true) (k:=4) (m:=h) (a:=.agg [.d<|.int .i64 c.Pair.A,.d<|.int .i64 c.Pair.B]) (key:=c.Pair) (y:=({ N:=Ba .i64 i.N 1,Leads:=({ a0:=(List.getD j 0 (⟨0,[]⟩:BR)),a1:=(List.getD j 1 (⟨0,[]⟩:BR)) }:(Ek BR)) }:An)) (v:=.agg [.d<|.int .i64<|Ba .i64 i.N 1,.d<|.int .i64<|(List.getD j 0 (⟨0,[]⟩:BR)).Side,.d<|.str<|(List.getD j 0 (⟨0,[]⟩:BR)).Text,.d<|.int .i64<|(List.getD j 1 (⟨0,[]⟩:BR)).Side,.d<|.str<|(List.getD j 1 (⟨0,[]⟩:BR)).Text]) (vz:=[.int .i64 0,.int .i64 0,.str [],.int .i64 0,.str []]) YR)<|en<|sr<|ck 1<|en<|re (by cases H;exact pL<|rl (s':=OX b e g f (DV c.Pair ({ N:=Ba .i64 i.N 1,Leads:=({ a0:=(List.getD j 0 (⟨0,[]⟩:BR)),a1:=(List.getD j 1 (⟨0,[]⟩:BR)) }:(Ek BR)) }:An) h) true)<|sg [4])
 ·exact lL EM r (sg [0,3,5,18,19,20]) rfl λ s I=>qR<|qr (by cases H;exact pL I)
end
section
variable (e:Int) (a:Ap) (u:(List Aa)) (G:(List (Aa×Int))) (v:(List (Option (List Af)))) (c:(List (Am×An))) (U:(List (Aa×Int))) (J:(List Aa)) (K:(List (Option (List Af)))) (V:(List Af)) (R:(List (Aa×Int))) (l:(List Af)) (L:(List Aa)) (S:(List (Option (List Af)))) (i:(List EO)) (w:(List (Aa×Int))) (b:(List Af)) (m:(List Aa)) (o:(List (Option (List Af)))) (j:Int) (ac:(List (Aa×Int))) (A:(List Af)) (aa:(List Aa)) (M:(List (Option (List Af)))) (O:(List (Aa×Int))) (p:(List Af)) (C:(List Aa)) (E:(List (Option (List Af)))) (t:EO) (q:(List Int)) (P:Int) (B:(List Int))
def Zd:St:=⟨(0,.ptr 0 0)::(1,.d<|.int .i64 e)::[],[some<|.box [.dptr (Av a) 0,.osl 1 2 0<|u.length,.mp 2,.osl 3 1 0<|v.length,.mp 4],some<|.arr 2<|u.map Al,some<|.map true false<|AA Al AN G,some<|.arr 1<|v.map<|eOp Aw,some<|.map true true<|AA AQ AY c]⟩
def SY:St:=⟨(4,.d<|.sl<|V.map Aw)::[],[some<|.box [.dptr (Av a) 0,.osl 5 2 0<|J.length,.mp 2,.osl 6 1 0<|K.length,.mp 4],none,some<|.map true false<|AA Al AN U,none,some<|.map true true<|AA AQ AY c,some<|.arr 2<|J.map Al,some<|.arr 1<|K.map<|eOp Aw]⟩
def Ze:St:=⟨(0,.ptr 0 0)::(1,.d<|.int .i64 e)::(5,.osl 5 3 0<|l.length)::[],[some<|.box [.dptr (Av a) 0,.osl 6 2 0<|L.length,.mp 2,.osl 7 1 0<|S.length,.mp 4],none,some<|.map true false<|AA Al AN R,none,some<|.map true true<|AA AQ AY c,some<|.arr 3<|l.map Aw,some<|.arr 2<|L.map Al,some<|.arr 1<|S.map<|eOp Aw]⟩
def Zf:St:=⟨(0,.ptr 0 0)::(1,.d<|.int .i64 e)::(5,.osl 5 3 0<|b.length)::(64,.d<|.sl<|i.map Bb)::(65,.d<|.int .i64 ((i.length:Nat):Int))::(66,.d<|.int .i64 j)::[],[some<|.box [.dptr (Av a) 0,.osl 6 2 0<|m.length,.mp 2,.osl 7 1 0<|o.length,.mp 4],none,some<|.map true false<|AA Al AN w,none,some<|.map true true<|AA AQ AY c,some<|.arr 3<|b.map Aw,some<|.arr 2<|m.map Al,some<|.arr 1<|o.map<|eOp Aw]⟩
def Zg:St:=⟨(0,.ptr 0 0)::(1,.d<|.int .i64 e)::(5,.osl 5 3 0<|A.length)::[],[some<|.box [.dptr (Av a) 0,.osl 6 2 0<|aa.length,.mp 2,.osl 7 1 0<|M.length,.mp 4],none,some<|.map true false<|AA Al AN ac,none,some<|.map true true<|AA AQ AY c,some<|.arr 3<|A.map Aw,some<|.arr 2<|aa.map Al,some<|.arr 1<|M.map<|eOp Aw]⟩
def Zh:St:=⟨(0,.ptr 0 0)::(1,.d<|.int .i64 e)::(5,.osl 5 3 0<|p.length)::(64,.d<|.sl<|i.map Bb)::(65,.d<|.int .i64 ((i.length:Nat):Int))::(66,.d<|.int .i64 j)::[],[some<|.box [.dptr (Av a) 0,.osl 6 2 0<|C.length,.mp 2,.osl 7 1 0<|E.length,.mp 4],none,some<|.map true false<|AA Al AN O,none,some<|.map true true<|AA AQ AY c,some<|.arr 3<|p.map Aw,some<|.arr 2<|C.map Al,some<|.arr 1<|E.map<|eOp Aw]⟩
def Zi:St:=⟨(0,.ptr 0 0)::(1,.d<|.int .i64 e)::(5,.osl 5 3 0<|b.length)::(8,.ptr 6 0)::(9,.osl 7 1 0<|q.length)::(64,.d<|.sl<|i.map Bb)::(65,.d<|.int .i64 ((i.length:Nat):Int))::(66,.d<|.int .i64 j)::(71,.d<|.sl<|t.Cells.map eU8)::(72,.d<|.int .i64 ((t.Cells.length:Nat):Int))::(73,.d<|.int .i64 P)::[],[some<|.box [.dptr (Av a) 0,.osl 8 2 0<|m.length,.mp 2,.osl 9 1 0<|o.length,.mp 4],none,some<|.map true false<|AA Al AN w,none,some<|.map true true<|AA AQ AY c,some<|.arr 3<|b.map Aw,some<|.box<|Jdt t,some<|.arr 1<|q.map eU8,some<|.arr 2<|m.map Al,some<|.arr 1<|o.map<|eOp Aw]⟩
def Zj:St:=⟨(0,.ptr 0 0)::(1,.d<|.int .i64 e)::(5,.osl 5 3 0<|b.length)::(8,.ptr 6 0)::(9,.osl 7 1 0<|B.length)::(64,.d<|.sl<|i.map Bb)::(65,.d<|.int .i64 ((i.length:Nat):Int))::(66,.d<|.int .i64 j)::[],[some<|.box [.dptr (Av a) 0,.osl 8 2 0<|m.length,.mp 2,.osl 9 1 0<|o.length,.mp 4],none,some<|.map true false<|AA Al AN w,none,some<|.map true true<|AA AQ AY c,some<|.arr 3<|b.map Aw,some<|.box<|Jdt t,some<|.arr 1<|B.map eU8,some<|.arr 2<|m.map Al,some<|.arr 1<|o.map<|eOp Aw]⟩
def JK:(List Int)->Ex->St->Prop:=xX 5 2<|λ (y:(List Int))=>Zj e a c i w b m o j t y
def FY:((List Int)×Int)->St:=(λ (x:((List Int)×Int))=>Zi e a c i w b m o j t x.1 x.2)
def JL:((List<|Aa×Int)×(List Af)×(List Aa)×(List<|Option<|List Af))->Ex->St->Prop:=xX 5 0<|λ (y:((List<|Aa×Int)×(List Af)×(List Aa)×(List<|Option<|List Af)))=>Zg e a c y.1 y.2.1 y.2.2.1 y.2.2.2
def FZ:((List<|Aa×Int)×(List Af)×(List Aa)×(List<|Option<|List Af)×Int)->St:=(λ (x:((List<|Aa×Int)×(List Af)×(List Aa)×(List<|Option<|List Af)×Int))=>Zf e a c i x.1 x.2.1 x.2.2.1 x.2.2.2.1 x.2.2.2.2)
variable {e a u G v c U J K V R l L S i w b m o j ac A aa M O p C E t q P B}
theorem I6 (x:((List Int)×Int)) (z:(((List Int)×Int)⊕(List Int))) (H:B3 n e a c i w b m o j t x.1 x.2=some z):WP (cxk 113 5) (A1 Try.f62) [1,1,1,1,0,1,1,1,0,0,1,1,0,0,1,1,0,1,0,0] (AX 5 (FY e a c i w b m o j t) (JK e a c i w b m o j t) z) (FY e a c i w b m o j t x):=by
 obtain⟨q,P⟩:=x;refine sr<|ck 1<|en<|sq<|cn H (λ H=>?_)<|λ H=>?_
 ·exact sk<|qz<|sq<|bk 3<|sr<|bx H λ bb af H=>sp (AM eU8 af)<|ck 2<|en<|rz<|ck 3<|bx H λ bc ag H=>sp (BC eU8 7 1 ag)<|ck 1<|ae<|qN<|qz<|rz<|ck 2<|ae (by cases H;exact og<|sg [0,1,5,8,9,64,65,66,71,72,73])
 ·exact ex 2<|qx (by cases H;exact xo rfl<|sg [0,1,5,8,9,64,65,66])
theorem I7 (x:((List (Aa×Int))×(List Af)×(List Aa)×(List (Option (List Af)))×Int)) (z:(((List (Aa×Int))×(List Af)×(List Aa)×(List (Option (List Af)))×Int)⊕((List (Aa×Int))×(List Af)×(List Aa)×(List (Option (List Af)))))) (H:Bi n e a c i x.1 x.2.1 x.2.2.1 x.2.2.2.1 x.2.2.2.2=some z):WP (cxk 113 5) (A1 Try.f62) [1,1,1,1,0,1,1,1,0,0] (AX 5 (FZ e a c i) (JL e a c) z) (FZ e a c i x):=by
 obtain⟨w,b,m,o,j⟩:=x;refine sr<|ck 1<|en<|sq<|cn H (λ H=>?_)<|λ H=>?_
 ·refine sk<|qz<|sj (λ (x:((List<|Aa×Int)×(List Af)×(List Aa)×(List<|Option<|List Af)))=>Zh e a c i j x.1 x.2.1 x.2.2.1 x.2.2.2) (λ (x:((List<|Aa×Int)×(List Af)×(List Aa)×(List<|Option<|List Af)))=>De n j x.1 x.2.1 x.2.2.1 x.2.2.2) z ?_ (λ f=>?_)
  ·rintro⟨O,p,C,E⟩ H;exact rz<|ck 2<|ae (by cases H;exact og<|sg [0,1,5,64,65,66])
  refine bk 1<|sr<|bx H λ t ah H=>sp (AM Bb ah)<|ck 3<|en<|sr<|ck 1<|en<|sq<|sr<|ck 2<|sp (AT eU8 t.Cells)<|ck 1<|en<|bk 2<|bx H λ a6 ai H=>lX I6 ai (tr (As.nilo 9 1 (by kernel_rfl))<|sg [0,1,5,8,9,64,65,66,71,72,73]) rfl λ s aj=>qH<|qs (aj)<|sq<|rx 12 15 (fz (enc:=eU8) (xs:=a6) 9 7 1)<|ck 1<|bx H λ bd ak H=>sp (AM eU8 ak)<|ck 7<|bx H λ be al H=>sp (Q5 eU8 1 al)<|bx H λ s7 am H=>sp (Jbf am)<|ck 1<|bx H λ I ap H=>xs (xok _ _) (g:=true) rfl (EW) [0,8,2,9,4] (DN ap) rfl<|ck 2<|mx<|ck 1<|nz<|qz<|sr<|ck 2<|bx H λ bf ar H=>cb (ks:=[5]) (obl:=[(0+List.length b,List.length<|b.map Aw)]) false (leK leM<|leZ) (Jp X0<|Jp rfl rfl) (Rk ar) (Or.inr trivial) rfl<|ck 1<|en<|cn H (λ H=>?_)<|λ H=>?_
  ·exact rz<|ck 3<|bx H λ a7 au H=>sp (BC Aw 5 3 au)<|ck 1<|ae<|qN<|qs (sg [0,1,5,64,65,66])<|f (I.1,a7,I.2.1,I.2.2.1) H
  ·exact sk<|qN<|qs (sg [0,1,5,64,65,66])<|f (I.1,b,I.2.1,I.2.2.1) H
 ·exact ex 0<|qx (by cases H;exact xo rfl<|sg [0,1,5])
theorem GP {z} (H:Dt n e a u G v c=some z):CG Try.prog 62 [.ptr 0 0,.d (.int .i64 e)] [some (.box [.dptr (Av a) 0,.osl 1 2 0 (u.length),.mp 2,.osl 3 1 0 (v.length),.mp 4]),some (.arr 2 (u.map Al)),some (.map true false (AA Al AN G)),some (.arr 1 (v.map (eOp Aw))),some (.map true true (AA AQ AY c))] 5 (.d (.sl (z.2.2.2.map Aw))) [some (.box [.dptr (Av a) 0,.osl 5 2 0 (z.2.1.length),.mp 2,.osl 6 1 0 (z.2.2.1.length),.mp 4]),none,some (.map true false (AA Al AN z.1)),none,some (.map true true (AA AQ AY c)),some (.arr 2 (z.2.1.map Al)),some (.arr 1 (z.2.2.1.map (eOp Aw)))]:=by
 refine fL 113 5 (Zd e a u G v c) Try.func62<|sr<|ck 1<|en<|sq<|sq<|rn 7 (.refl _)<|ck 5<|bx H λ a8 W H=>sp (Bo 3 1 W)<|sp (Ej (eOp Aw) 3 0 (ty 150) W) ?_;have hD:=Yi H;refine nd0<|nlo (yok _ _) (xok _ _) (r:=a8) (enc:=Aw)<|λ b7 av=>?_;have H:=hD b7 av;refine en<|cn H (λ H=>?_)<|λ H=>?_
 ·exact sr<|ck 5<|bx H λ aw X H=>sp (Bo 3 1 X)<|sp (Ej (eOp Aw) 3 0 (ty 150) X)<|ck 1<|en<|re<|qr (by cases H;exact pL<|rl (s':=SY a c G u v<|Option.getD aw [])<|tr (tr (tr (Jf7 (enc:=Aw) (r:=aw) 4)<|Hb (k:=1) (sz:=2) 0 1 (u.map Al) (u.length) (by kernel_rfl) C1 leM rfl)<|Hb (k:=3) (sz:=1) 0 3 (v.map<|eOp Aw) (v.length) (by kernel_rfl) C1 leM rfl)<|sg [4])
 ·refine sk<|qz<|sr<|ck 2<|en<|sr<|ck 5<|bx H λ bh Y H=>sp (Bo 1 2 Y)<|sp (Ej Al 1 0 (ty 109) Y)<|ck 2<|en<|sj (λ (x:((List<|Aa×Int)×(List Af)×(List Aa)×(List<|Option<|List Af)))=>Ze e a c x.1 x.2.1 x.2.2.1 x.2.2.2) (λ (x:((List<|Aa×Int)×(List Af)×(List Aa)×(List<|Option<|List Af)))=>Bm n e x.1 x.2.1 x.2.2.1 x.2.2.2) z ?_ (λ h=>?_)
  ·rintro⟨R,l,L,S⟩ H;exact sq<|rg (fz (enc:=Aw) (xs:=l) 5 5 3)<|ck 6<|bx H λ bi Z H=>sp (Bo 7 1 Z)<|bx H λ a9 Q H=>stA (eOp Aw) 7 0 (ty 150) Z Q<|en<|sq<|rg (tr (sn 108 7 1<|BT Q)<|snc 0 3 7 1<|BT Q)<|ck 2<|en<|re (by cases H;exact pL<|rl (s':=SY a c R L a9 l)<|sg [4])
  refine sr<|ck 3<|en<|cn H (λ H=>?_)<|λ H=>?_
  ·exact rlz 11 13 (.refl _)<|ck 2<|bx H λ b8 ay H=>sp (Gn ay)<|ck 5<|bx H λ s6 az H=>sp (LM az)<|ck 1<|bx H λ ab a0 H=>xs (xok _ _) (g:=true) rfl (EW) [0,1,2,3,4] (DN a0) rfl<|ck 1<|mx<|ck 1<|nx 16 14<|mx<|bx H λ ba a2 H=>sp (BC Aw 5 3 a2)<|nx 16 15<|mx<|ck 1<|nz<|qs (sg [0,1,5])<|h (ab.1,ba,ab.2.1,ab.2.2.1) H
  ·exact sr<|ck 9<|bx H λ i a3 H=>sp (AM (eL Bb) a3)<|ck 1<|sp (AT Bb i)<|ck 1<|en<|bk 0<|bx H λ T a4 H=>lX I7 a4 (tr (tr (Hb (k:=1) (sz:=2) 0 1 (u.map Al) (u.length) (by kernel_rfl) C1 leM rfl)<|Hb (k:=3) (sz:=1) 0 3 (v.map<|eOp Aw) (v.length) (by kernel_rfl) C1 leM rfl)<|sg [0,1,5,64,65,66]) rfl λ s a5=>qH<|qs (tr (a5)<|sg [0,1,5])<|h (T.1,T.2.1,T.2.2.1,T.2.2.2) H
end
section
variable (h:Ah) (b:Ap) (C:(List (Int×(List Ah)))) (t:(List Aa)) (E:(List (Aa×Int))) (u:(List (Option (List Af)))) (g:(List (Am×An))) (P:(List (Int×(List Ah)))) (Q:(List (Aa×Int))) (G:(List Aa)) (I:(List (Option (List Af)))) (i:((List (Aa×Int))×(List Aa)×(List (Option (List Af)))×(List Af))) (j:(List (Int×(List Ah)))) (J:(List (Aa×Int))) (v:(List Aa)) (w:(List (Option (List Af)))) (l:Int) (R:(List (Int×(List Ah)))) (S:(List (Aa×Int))) (K:(List Aa)) (L:(List (Option (List Af)))) (o:Af) (e:((List (Aa×Int))×(List Aa)×(List (Option (List Af)))×(List Af))) (c:(List (Int×(List Ah)))) (q:Int) (r:(List (Int×(List Ah)))) (p:(List (Int×(List Ah))))
def Zk:St:=⟨(0,.ptr 0 0)::(1,.agg [.d<|.int .i64 h.Pair.A,.d<|.int .i64 h.Pair.B,.d<|.int .i64 h.Lead.Side,.d<|.str h.Lead.Text])::(2,.mp 1)::[],[some<|.box [.dptr (Av b) 0,.osl 2 2 0<|t.length,.mp 3,.osl 4 1 0<|u.length,.mp 5],some<|.nmp false (.d<|.sl [])<|DY eU8 4 Aq C,some<|.arr 2<|t.map Al,some<|.map true false<|AA Al AN E,some<|.arr 1<|u.map<|eOp Aw,some<|.map true true<|AA AQ AY g]⟩
def Zl:St:=⟨[],[some<|.box [.dptr (Av b) 0,.osl 6 2 0<|G.length,.mp 3,.osl 7 1 0<|I.length,.mp 5],some<|.nmp false (.d<|.sl [])<|DY eU8 4 Aq P,none,some<|.map true false<|AA Al AN Q,none,some<|.map true true<|AA AQ AY g,some<|.arr 2<|G.map Al,some<|.arr 1<|I.map<|eOp Aw]⟩
def Zm:St:=⟨(0,.ptr 0 0)::(2,.mp 1)::(4,.ptr 6 0)::(15,.d<|.sl<|i.2.2.2.map Aw)::(16,.d<|.int .i64 ((i.2.2.2.length:Nat):Int))::(17,.d<|.int .i64 l)::[],[some<|.box [.dptr (Av b) 0,.osl 7 2 0<|v.length,.mp 3,.osl 8 1 0<|w.length,.mp 5],some<|.nmp false (.d<|.sl [])<|DY eU8 4 Aq j,none,some<|.map true false<|AA Al AN J,none,some<|.map true true<|AA AQ AY g,some<|.box<|II h,some<|.arr 2<|v.map Al,some<|.arr 1<|w.map<|eOp Aw]⟩
def Zn:St:=⟨[],[some<|.box [.dptr (Av b) 0,.osl 6 2 0<|K.length,.mp 3,.osl 7 1 0<|L.length,.mp 5],some<|.nmp false (.d<|.sl [])<|DY eU8 4 Aq R,none,some<|.map true false<|AA Al AN S,none,some<|.map true true<|AA AQ AY g,some<|.arr 2<|K.map Al,some<|.arr 1<|L.map<|eOp Aw]⟩
def Zo:St:=⟨(0,.ptr 0 0)::(2,.mp 1)::(4,.ptr 6 0)::(7,.ptr 7 0)::(15,.d<|.sl<|i.2.2.2.map Aw)::(16,.d<|.int .i64 ((i.2.2.2.length:Nat):Int))::(17,.d<|.int .i64 l)::(25,.d<|.sl<|e.2.2.2.map Aw)::(26,.d<|.int .i64 ((e.2.2.2.length:Nat):Int))::(27,.d<|.int .i64 q)::[],[some<|.box [.dptr (Av b) 0,.osl 8 2 0<|e.2.1.length,.mp 3,.osl 9 1 0<|e.2.2.1.length,.mp 5],some<|.nmp false (.d<|.sl [])<|DY eU8 4 Aq c,none,some<|.map true false<|AA Al AN e.1,none,some<|.map true true<|AA AQ AY g,some<|.box<|II h,some<|.box<|SV o,some<|.arr 2<|e.2.1.map Al,some<|.arr 1<|e.2.2.1.map<|eOp Aw]⟩
def Zp:St:=⟨(0,.ptr 0 0)::(2,.mp 1)::(4,.ptr 6 0)::(15,.d<|.sl<|i.2.2.2.map Aw)::(16,.d<|.int .i64 ((i.2.2.2.length:Nat):Int))::(17,.d<|.int .i64 l)::[],[some<|.box [.dptr (Av b) 0,.osl 7 2 0<|e.2.1.length,.mp 3,.osl 8 1 0<|e.2.2.1.length,.mp 5],some<|.nmp false (.d<|.sl [])<|DY eU8 4 Aq r,none,some<|.map true false<|AA Al AN e.1,none,some<|.map true true<|AA AQ AY g,some<|.box<|II h,some<|.arr 2<|e.2.1.map Al,some<|.arr 1<|e.2.2.1.map<|eOp Aw]⟩
def Zq:St:=⟨(0,.ptr 0 0)::(2,.mp 1)::(4,.ptr 6 0)::(7,.ptr 7 0)::(15,.d<|.sl<|i.2.2.2.map Aw)::(16,.d<|.int .i64 ((i.2.2.2.length:Nat):Int))::(17,.d<|.int .i64 l)::(25,.d<|.sl<|e.2.2.2.map Aw)::(26,.d<|.int .i64 ((e.2.2.2.length:Nat):Int))::(27,.d<|.int .i64 q)::[],[some<|.box [.dptr (Av b) 0,.osl 8 2 0<|e.2.1.length,.mp 3,.osl 9 1 0<|e.2.2.1.length,.mp 5],some<|.nmp false (.d<|.sl [])<|DY eU8 4 Aq p,none,some<|.map true false<|AA Al AN e.1,none,some<|.map true true<|AA AQ AY g,some<|.box<|II h,some<|.box<|SV o,some<|.arr 2<|e.2.1.map Al,some<|.arr 1<|e.2.2.1.map<|eOp Aw]⟩
def Is:(List<|Int×(List Ah))->Ex->St->Prop:=xX 6 2<|λ (y:(List<|Int×(List Ah)))=>Zp h b g i l e y
def E9:((List<|Int×(List Ah))×Int)->St:=(λ (x:((List<|Int×(List Ah))×Int))=>Zo h b g i l o e x.1 x.2)
def Iu:((List<|Int×(List Ah))×(List<|Aa×Int)×(List Aa)×(List<|Option<|List Af))->Ex->St->Prop:=xX 6 0<|λ (y:((List<|Int×(List Ah))×(List<|Aa×Int)×(List Aa)×(List<|Option<|List Af)))=>Zn b g y.1 y.2.1 y.2.2.1 y.2.2.2
def Fa:((List<|Int×(List Ah))×(List<|Aa×Int)×(List Aa)×(List<|Option<|List Af)×Int)->St:=(λ (x:((List<|Int×(List Ah))×(List<|Aa×Int)×(List Aa)×(List<|Option<|List Af)×Int))=>Zm h b g i x.1 x.2.1 x.2.2.1 x.2.2.2.1 x.2.2.2.2)
variable {h b C t E u g P Q G I i j J v w l R S K L o e c q r p}
theorem HQ (x:((List (Int×(List Ah)))×Int)) (z:(((List (Int×(List Ah)))×Int)⊕(List (Int×(List Ah))))) (H:BK n h b g i l o e x.1 x.2=some z):WP (cxk 62 6) (A1 Try.f44) [1,1,0,0,1,1,0,0,1,1,0,0] (AX 6 (E9 h b g i l o e) (Is h b g i l e) z) (E9 h b g i l o e x):=by
 obtain⟨c,q⟩:=x;refine sr<|ck 1<|en<|sq<|cn H (λ H=>?_)<|λ H=>?_
 ·refine sk<|qz<|sj (λ (x:(List<|Int×(List Ah)))=>Zq h b g i l o e q x) (λ (x:(List<|Int×(List Ah)))=>Ce n q x) z ?_ (λ f=>?_)
  ·intro p H;exact rz<|ck 2<|ae (by cases H;exact og<|gP [0,2,4,7,15,16,17,25,26,27] [0,1,2,3,4,5,6,7,8,9]<|po1<|Pl.m false (.d<|.sl []) (nmM (encK:=eU8) (isz:=4) (enc:=Aq) (m:=p) λ _ _=>rfl)<|po1<|po1<|po1<|po1<|po1<|po1<|po1<|po1<|Pl.z)
  refine bk 3<|sr<|bx H λ ah T H=>sp (AM Aw T)<|ck 3<|en<|sq<|sr<|ck 5<|en<|cn H (λ H=>?_)<|λ H=>?_
  ·exact ex 3<|qx<|qH<|qs (gP [0,2,4,7,15,16,17,25,26,27] [0,1,2,3,4,5,6,7,8,9]<|po1<|Pl.m false (.d<|.sl []) (nmM (encK:=eU8) (isz:=4) (enc:=Aq) (m:=c) λ _ _=>rfl)<|po1<|po1<|po1<|po1<|po1<|po1<|po1<|po1<|Pl.z)<|f c H
  ·exact sk<|qz<|sr<|ck 11<|bx H λ ai U H=>ca false (LV U)<|ck 3<|en<|rg (Jf4 (ka:=false) (dv:=.d<|.sl []) (encK:=eU8) (isz:=4) (enc:=Aq) 1 12 o.Cell c)<|ck 6<|sp (Yl (isz:=4) (n:=12) (encK:=eU8) (enc:=Aq) (k:=1) (m:=c) (key:=o.Cell) (x:=.int .u8 o.Cell) Jdu)<|ck 1<|bx H λ aj V H=>ca false (KA V)<|ck 1<|bx H λ O W H=>sp (BC Aq 12 4 W)<|sp (Jbn (isz:=4) (n:=12) (n':=14) (l':=(O.length)) (a:=.osl 12 4 0<|List.length<|Ca o.Cell c) (encK:=eU8) (enc:=Aq) (k:=1) (m:=c) (key:=o.Cell) (x:=.int .u8 o.Cell) Jdu)<|ae<|qN<|qs (tr (Jf5 (ka:=false) (encK:=eU8) (isz:=4) (enc:=Aq) (dv:=.osl 12 4 0 0) 1 14 o.Cell O c)<|gP [0,2,4,7,15,16,17,25,26,27] [0,1,2,3,4,5,6,7,8,9]<|po1<|Pl.m false (.d<|.sl []) (nmM (encK:=eU8) (isz:=4) (enc:=Aq) (m:=(DV o.Cell O c)) λ _ _=>rfl)<|po1<|po1<|po1<|po1<|po1<|po1<|po1<|po1<|Pl.z)<|f (DV o.Cell O c) H
 ·exact ex 2<|qx (by cases H;exact xo rfl<|gP [0,2,4,15,16,17] [0,1,2,3,4,5,6,8,9]<|po1<|Pl.m false (.d<|.sl []) (nmM (encK:=eU8) (isz:=4) (enc:=Aq) (m:=c) λ _ _=>rfl)<|po1<|po1<|po1<|po1<|po1<|po1<|po1<|Pl.z)
theorem HR (x:((List (Int×(List Ah)))×(List (Aa×Int))×(List Aa)×(List (Option (List Af)))×Int)) (z:(((List (Int×(List Ah)))×(List (Aa×Int))×(List Aa)×(List (Option (List Af)))×Int)⊕((List (Int×(List Ah)))×(List (Aa×Int))×(List Aa)×(List (Option (List Af)))))) (H:Cf n h b g i x.1 x.2.1 x.2.2.1 x.2.2.2.1 x.2.2.2.2=some z):WP (cxk 62 6) (A1 Try.f44) [1,1,0,0] (AX 6 (Fa h b g i) (Iu b g) z) (Fa h b g i x):=by
 obtain⟨j,J,v,w,l⟩:=x;refine sr<|ck 1<|en<|sq<|cn H (λ H=>?_)<|λ H=>?_
 ·exact sk<|qz<|sq<|bk 1<|sr<|bx H λ o X H=>sp (AM Aw X)<|ck 3<|en<|sr<|ck 4<|bx H λ e Y H=>lt [0,7,3,8,5] (GP Y)<|sp (AT Aw e.2.2.2)<|ck 1<|en<|bk 2<|bx H λ ag Z H=>lX HQ Z (gP [0,2,4,7,15,16,17,25,26,27] [0,1,2,3,4,5,6,9,10,11]<|po1<|Pl.m false (.d<|.sl []) (nmM (encK:=eU8) (isz:=4) (enc:=Aq) (m:=j) λ _ _=>rfl)<|po1<|po1<|po1<|po1<|po1<|po1<|po1<|po1<|Pl.z) rfl λ s aa=>qH<|qN<|qs (aa)<|rz<|ck 2<|ae (by cases H;exact og<|gP [0,2,4,15,16,17] [0,1,2,3,4,5,6,7,8]<|po1<|Pl.m false (.d<|.sl []) (nmM (encK:=eU8) (isz:=4) (enc:=Aq) (m:=ag) λ _ _=>rfl)<|po1<|po1<|po1<|po1<|po1<|po1<|po1<|Pl.z)
 ·exact ex 0<|qx (by cases H;exact xo rfl<|gP [] [0,1,2,3,4,5,7,8]<|po1<|Pl.m false (.d<|.sl []) (nmM (encK:=eU8) (isz:=4) (enc:=Aq) (m:=j) λ _ _=>rfl)<|po1<|po1<|po1<|po1<|po1<|po1<|Pl.z)
theorem JM {z} (H:DL n h b C t E u g=some z):CG Try.prog 44 [.ptr 0 0,.agg (II h),.mp 1] [some (.box [.dptr (Av b) 0,.osl 2 2 0 (t.length),.mp 3,.osl 4 1 0 (u.length),.mp 5]),some (.nmp false (.d (.sl [])) (DY eU8 4 Aq C)),some (.arr 2 (t.map Al)),some (.map true false (AA Al AN E)),some (.arr 1 (u.map (eOp Aw))),some (.map true true (AA AQ AY g))] 6 (.tup []) [some (.box [.dptr (Av b) 0,.osl 6 2 0 (z.2.2.1.length),.mp 3,.osl 7 1 0 (z.2.2.2.length),.mp 5]),some (.nmp false (.d (.sl [])) (DY eU8 4 Aq z.1)),none,some (.map true false (AA Al AN z.2.1)),none,some (.map true true (AA AQ AY g)),some (.arr 2 (z.2.2.1.map Al)),some (.arr 1 (z.2.2.2.map (eOp Aw)))]:=by
 exact fL 62 6 (Zk h b C t E u g) Try.func44<|sr<|ck 1<|en<|sr<|ck 4<|bx H λ i ab H=>lt [0,2,3,4,5] (GP ab)<|sp (AT Aw i.2.2.2)<|ck 1<|en<|bk 0<|bx H λ M ac H=>lX HR ac (gP [0,2,4,15,16,17] [0,1,2,3,4,5,6,7,8]<|po1<|Pl.m false (.d<|.sl []) (nmM (encK:=eU8) (isz:=4) (enc:=Aq) (m:=C) λ _ _=>rfl)<|po1<|po1<|po1<|po1<|po1<|po1<|po1<|Pl.z) rfl λ s af=>qH (by cases H;exact pL'<|rl (s':=Zl b g M.1 M.2.1 M.2.2.1 M.2.2.2)<|tr (af)<|gP [] [0,1,2,3,4,5,6,7]<|po1<|Pl.m false (.d<|.sl []) (nmM (encK:=eU8) (isz:=4) (enc:=Aq) (m:=M.1) λ _ _=>rfl)<|po1<|po1<|po1<|po1<|po1<|po1<|Pl.z)
end
section
variable (a:Ah) (b:Ap) (c:(List Aa)) (f:(List (Aa×Int))) (e:(List (Option (List Af)))) (g:(List (Am×An))) (k:Bool)
def Zr:St:=⟨(0,.ptr 0 0)::(1,.agg [.d<|.int .i64 a.Pair.A,.d<|.int .i64 a.Pair.B,.d<|.int .i64 a.Lead.Side,.d<|.str a.Lead.Text])::[],[some<|.box [.dptr (Av b) 0,.osl 1 2 0<|c.length,.mp 2,.osl 3 1 0<|e.length,.mp 4],some<|.arr 2<|c.map Al,some<|.map true false<|AA Al AN f,some<|.arr 1<|e.map<|eOp Aw,some<|.map true true<|AA AQ AY g]⟩
def Zs:St:=⟨(4,.d<|.bool k)::[],[some<|.box [.dptr (Av b) 0,.osl 1 2 0<|c.length,.mp 2,.osl 3 1 0<|e.length,.mp 4],some<|.arr 2<|c.map Al,some<|.map true false<|AA Al AN f,some<|.arr 1<|e.map<|eOp Aw,some<|.map true true<|AA AQ AY g]⟩
variable {a b c f e g k}
theorem I8 {z} (H:Df n a b c f e g=some z):CG Try.prog 45 [.ptr 0 0,.agg (II a)] [some (.box [.dptr (Av b) 0,.osl 1 2 0 (c.length),.mp 2,.osl 3 1 0 (e.length),.mp 4]),some (.arr 2 (c.map Al)),some (.map true false (AA Al AN f)),some (.arr 1 (e.map (eOp Aw))),some (.map true true (AA AQ AY g))] 5 (.d (.bool z)) [some (.box [.dptr (Av b) 0,.osl 1 2 0 (c.length),.mp 2,.osl 3 1 0 (e.length),.mp 4]),some (.arr 2 (c.map Al)),some (.map true false (AA Al AN f)),some (.arr 1 (e.map (eOp Aw))),some (.map true true (AA AQ AY g))]:=by
 exact fL 65 5 (Zr a b c f e g) Try.func45<|sr<|ck 2<|en<|sr<|ck 7<|bx H λ h l H=>sp (Bo 1 2 l)<|sp (Ej Al 1 0 (ty 109) l)<|ck 7<|bx H λ i m H=>sp (Bo 1 2 m)<|sp (Ej Al 1 0 (ty 109) m)<|ck 4<|en<|sr<|ck 6<|gc 2 (a.Lead.Side != 0)<|pA<|ck 2<|gc 2 ((a.Lead.Side != 0)&&(h.Rest==[]))<|pA<|ck 2<|gc 6 (((a.Lead.Side != 0)&&(h.Rest==[]))&&(i.Rest==[]))<|ck 1<|gc 1 (((a.Lead.Side != 0)&&(h.Rest==[]))&&(i.Rest==[]))<|bx H λ j o H=>sE (λ hg=>AM eB<|DA o hg)<|gc 1 (((a.Lead.Side != 0)&&(h.Rest==[]))&&(i.Rest==[]))<|pA<|ck 2<|gc 6 ((((a.Lead.Side != 0)&&(h.Rest==[]))&&(i.Rest==[]))&&j)<|ck 1<|gc 1 ((((a.Lead.Side != 0)&&(h.Rest==[]))&&(i.Rest==[]))&&j)<|bx H λ q p H=>sE (λ hg=>AM eB<|DA p hg)<|gc 1 ((((a.Lead.Side != 0)&&(h.Rest==[]))&&(i.Rest==[]))&&j)<|pA<|ck 1<|en<|re (by cases H;exact pL<|rl (s':=Zs b c f e g<|((((a.Lead.Side != 0)&&(h.Rest==[]))&&(i.Rest==[]))&&j)&&q)<|sg [4])
end
section
variable (b:Ap) (B:(List Aa)) (U:(List (Aa×Int))) (C:(List (Option (List Af)))) (V:(List (Am×An))) (aw:(List (Aa×Int))) (ay:(List (Am×An))) (W:(List Int)) (X:(List Aa)) (Y:(List (Option (List Af)))) (az:Bool) (Z:(List (Aa×Int))) (aa:(List (Am×An))) (a:(List (List ((List Ah)×Int)))) (r:(List (Int×(List Ah)))) (O:(List Aa)) (P:(List (Option (List Af)))) (a0:(List (Aa×Int))) (a2:(List (Am×An))) (ab:(List Aa)) (ac:(List (Option (List Af)))) (af:(List (Aa×Int))) (v:(List (Am×An))) (w:(List (Int×(List Ah)))) (i:(List (List ((List Ah)×Int)))) (Q:(List Aa)) (R:(List (Option (List Af)))) (g:Int) (a3:(List (Aa×Int))) (a4:(List (Am×An))) (E:(List (Int×(List Ah)))) (J:(List (List ((List Ah)×Int)))) (ag:(List Aa)) (ah:(List (Option (List Af)))) (g2:Bf) (ai:(List (Aa×Int))) (t:(List (Int×(List Ah)))) (S:(List Aa)) (T:(List (Option (List Af)))) (aj:Int) (a5:(List (Aa×Int))) (G:(List (Int×(List Ah)))) (ak:(List Aa)) (al:(List (Option (List Af)))) (c:((List (Aa×Int))×(List (Int×(List Ah)))×(List Aa)×(List (Option (List Af))))) (am:(List (Am×An))) (h:(List (List ((List Ah)×Int)))) (l:Int) (a6:(List (Am×An))) (K:(List (List ((List Ah)×Int)))) (ap:(List (Am×An))) (A:(List (List ((List Ah)×Int)))) (j:Bf) (ar:(List (Am×An))) (I:Int) (u:Bf) (a7:(List (Am×An))) (q:Bf) (au:(List (Am×An)))
def Zt:St:=⟨(0,.ptr 0 0)::[],[some<|.box [.dptr (Av b) 0,.osl 1 2 0<|B.length,.mp 2,.osl 3 1 0<|C.length,.mp 4],some<|.arr 2<|B.map Al,some<|.map true false<|AA Al AN U,some<|.arr 1<|C.map<|eOp Aw,some<|.map true true<|AA AQ AY V]⟩
def OY:St:=⟨(2,.osl 5 1 0<|W.length)::(3,.d<|.bool az)::[],[some<|.box [.dptr (Av b) 0,.osl 6 2 0<|X.length,.mp 2,.osl 7 1 0<|Y.length,.mp 4],none,some<|.map true false<|AA Al AN aw,none,some<|.map true true<|AA AQ AY ay,some<|.arr 1<|W.map eU8,some<|.arr 2<|X.map Al,some<|.arr 1<|Y.map<|eOp Aw]⟩
def Zu:St:=⟨(0,.ptr 0 0)::(5,.osl 5 1 0<|a.length)::(6,.mp 6)::[],[some<|.box [.dptr (Av b) 0,.osl 7 2 0<|O.length,.mp 2,.osl 8 1 0<|P.length,.mp 4],none,some<|.map true false<|AA Al AN Z,none,some<|.map true true<|AA AQ AY aa,some<|.arr 1<|a.map<|ePG Aq,some<|.nmp false (.d<|.sl [])<|Ea eU8 Aq r,some<|.arr 2<|O.map Al,some<|.arr 1<|P.map<|eOp Aw]⟩
def Zv:St:=⟨[],[some<|.box [.dptr (Av b) 0,.osl 5 2 0<|ab.length,.mp 2,.osl 6 1 0<|ac.length,.mp 4],none,some<|.map true false<|AA Al AN a0,none,some<|.map true true<|AA AQ AY a2,some<|.arr 2<|ab.map Al,some<|.arr 1<|ac.map<|eOp Aw]⟩
def Zw:St:=⟨(0,.ptr 0 0)::(6,.mp 5)::(7,.osl 6 1 0<|i.length)::(44,.osl 7 1 0<|a.length)::(45,.d<|.int .i64 ((a.length:Nat):Int))::(46,.d<|.int .i64 g)::[],[some<|.box [.dptr (Av b) 0,.osl 8 2 0<|Q.length,.mp 2,.osl 9 1 0<|R.length,.mp 4],none,some<|.map true false<|AA Al AN af,none,some<|.map true true<|AA AQ AY v,some<|.nmp false (.d<|.sl [])<|Ea eU8 Aq w,some<|.arr 1<|i.map<|ePG Aq,some<|.arr 1<|a.map<|ePG Aq,some<|.arr 2<|Q.map Al,some<|.arr 1<|R.map<|eOp Aw]⟩
def Zx:St:=⟨(0,.ptr 0 0)::(6,.mp 5)::(7,.osl 6 1 0<|J.length)::[],[some<|.box [.dptr (Av b) 0,.osl 7 2 0<|ag.length,.mp 2,.osl 8 1 0<|ah.length,.mp 4],none,some<|.map true false<|AA Al AN a3,none,some<|.map true true<|AA AQ AY a4,some<|.nmp false (.d<|.sl [])<|Ea eU8 Aq E,some<|.arr 1<|J.map<|ePG Aq,some<|.arr 2<|ag.map Al,some<|.arr 1<|ah.map<|eOp Aw]⟩
def Zy:St:=⟨(0,.ptr 0 0)::(6,.mp 5)::(7,.osl 6 1 0<|i.length)::(9,.d<|dPG Aq ((g2.Nodes,g2.Cell)::g2.From))::(44,.osl 7 1 0<|a.length)::(45,.d<|.int .i64 ((a.length:Nat):Int))::(46,.d<|.int .i64 g)::(54,.d<|.sl<|g2.Nodes.map Aq)::(55,.d<|.int .i64 ((g2.Nodes.length:Nat):Int))::(56,.d<|.int .i64 aj)::[],[some<|.box [.dptr (Av b) 0,.osl 8 2 0<|S.length,.mp 2,.osl 9 1 0<|T.length,.mp 4],none,some<|.map true false<|AA Al AN ai,none,some<|.map true true<|AA AQ AY v,some<|.nmp false (.d<|.sl [])<|DY eU8 4 Aq t,some<|.arr 1<|i.map<|ePG Aq,some<|.arr 1<|a.map<|ePG Aq,some<|.arr 2<|S.map Al,some<|.arr 1<|T.map<|eOp Aw]⟩
def Zz:St:=⟨(0,.ptr 0 0)::(6,.mp 5)::(7,.osl 6 1 0<|i.length)::(9,.d<|dPG Aq ((g2.Nodes,g2.Cell)::g2.From))::(44,.osl 7 1 0<|a.length)::(45,.d<|.int .i64 ((a.length:Nat):Int))::(46,.d<|.int .i64 g)::[],[some<|.box [.dptr (Av b) 0,.osl 8 2 0<|ak.length,.mp 2,.osl 9 1 0<|al.length,.mp 4],none,some<|.map true false<|AA Al AN a5,none,some<|.map true true<|AA AQ AY v,some<|.nmp false (.d<|.sl [])<|DY eU8 4 Aq G,some<|.arr 1<|i.map<|ePG Aq,some<|.arr 1<|a.map<|ePG Aq,some<|.arr 2<|ak.map Al,some<|.arr 1<|al.map<|eOp Aw]⟩
def Hp:((List<|Aa×Int)×(List<|Int×(List Ah))×(List Aa)×(List<|Option<|List Af))->Ex->St->Prop:=xX 5 4<|λ (y:((List<|Aa×Int)×(List<|Int×(List Ah))×(List Aa)×(List<|Option<|List Af)))=>Zz b a v i g g2 y.1 y.2.1 y.2.2.1 y.2.2.2
def Ep:((List<|Aa×Int)×(List<|Int×(List Ah))×(List Aa)×(List<|Option<|List Af)×Int)->St:=(λ (x:((List<|Aa×Int)×(List<|Int×(List Ah))×(List Aa)×(List<|Option<|List Af)×Int))=>Zy b a v i g g2 x.1 x.2.1 x.2.2.1 x.2.2.2.1 x.2.2.2.2)
def ZA:St:=⟨(0,.ptr 0 0)::(6,.mp 5)::(7,.osl 6 1 0<|h.length)::(9,.d<|dPG Aq ((g2.Nodes,g2.Cell)::g2.From))::(44,.osl 7 1 0<|a.length)::(45,.d<|.int .i64 ((a.length:Nat):Int))::(46,.d<|.int .i64 g)::(65,.d<|.int .u8 l)::[],[some<|.box [.dptr (Av b) 0,.osl 8 2 0<|c.2.2.1.length,.mp 2,.osl 9 1 0<|c.2.2.2.length,.mp 4],none,some<|.map true false<|AA Al AN c.1,none,some<|.map true true<|AA AQ AY am,some<|.nmp false (.d<|.sl [])<|Ea eU8 Aq c.2.1,some<|.arr 1<|h.map<|ePG Aq,some<|.arr 1<|a.map<|ePG Aq,some<|.arr 2<|c.2.2.1.map Al,some<|.arr 1<|c.2.2.2.map<|eOp Aw]⟩
def Wt:St:=⟨(0,.ptr 0 0)::(6,.mp 5)::(7,.osl 6 1 0<|K.length)::(44,.osl 7 1 0<|a.length)::(45,.d<|.int .i64 ((a.length:Nat):Int))::(46,.d<|.int .i64 g)::[],[some<|.box [.dptr (Av b) 0,.osl 8 2 0<|c.2.2.1.length,.mp 2,.osl 9 1 0<|c.2.2.2.length,.mp 4],none,some<|.map true false<|AA Al AN c.1,none,some<|.map true true<|AA AQ AY a6,some<|.nmp false (.d<|.sl [])<|Ea eU8 Aq c.2.1,some<|.arr 1<|K.map<|ePG Aq,some<|.arr 1<|a.map<|ePG Aq,some<|.arr 2<|c.2.2.1.map Al,some<|.arr 1<|c.2.2.2.map<|eOp Aw]⟩
def Wu:St:=⟨(0,.ptr 0 0)::(6,.mp 5)::(7,.osl 6 1 0<|A.length)::(9,.d<|dPG Aq ((g2.Nodes,g2.Cell)::g2.From))::(44,.osl 7 1 0<|a.length)::(45,.d<|.int .i64 ((a.length:Nat):Int))::(46,.d<|.int .i64 g)::(65,.d<|.int .u8 l)::[],[some<|.box [.dptr (Av b) 0,.osl 8 2 0<|c.2.2.1.length,.mp 2,.osl 9 1 0<|c.2.2.2.length,.mp 4],none,some<|.map true false<|AA Al AN c.1,none,some<|.map true true<|AA AQ AY ap,some<|.nmp false (.d<|.sl [])<|Ea eU8 Aq c.2.1,some<|.arr 1<|A.map<|ePG Aq,some<|.arr 1<|a.map<|ePG Aq,some<|.arr 2<|c.2.2.1.map Al,some<|.arr 1<|c.2.2.2.map<|eOp Aw]⟩
def Wv:St:=⟨(0,.ptr 0 0)::(6,.mp 5)::(7,.osl 6 1 0<|h.length)::(9,.d<|dPG Aq ((g2.Nodes,g2.Cell)::g2.From))::(13,.ptr 7 0)::(44,.osl 8 1 0<|a.length)::(45,.d<|.int .i64 ((a.length:Nat):Int))::(46,.d<|.int .i64 g)::(65,.d<|.int .u8 l)::(74,.d<|.sl<|List.map Aq<|Ca l c.2.1)::(75,.d<|.int .i64 ((List.length (Ca l c.2.1):Nat):Int))::(76,.d<|.int .i64 I)::[],[some<|.box [.dptr (Av b) 0,.osl 9 2 0<|c.2.2.1.length,.mp 2,.osl 10 1 0<|c.2.2.2.length,.mp 4],none,some<|.map true false<|AA Al AN c.1,none,some<|.map true true<|AA AQ AY ar,some<|.nmp false (.d<|.sl [])<|Ea eU8 Aq c.2.1,some<|.arr 1<|h.map<|ePG Aq,some<|.box<|K9 j (.osl 11 4 0<|j.Nodes.length)<|.d<|dPG Aq j.From,some<|.arr 1<|a.map<|ePG Aq,some<|.arr 2<|c.2.2.1.map Al,some<|.arr 1<|c.2.2.2.map<|eOp Aw,some<|.arr 4<|j.Nodes.map Aq]⟩
def Ww:St:=⟨(0,.ptr 0 0)::(6,.mp 5)::(7,.osl 6 1 0<|h.length)::(9,.d<|dPG Aq ((g2.Nodes,g2.Cell)::g2.From))::(13,.ptr 7 0)::(44,.osl 8 1 0<|a.length)::(45,.d<|.int .i64 ((a.length:Nat):Int))::(46,.d<|.int .i64 g)::(65,.d<|.int .u8 l)::[],[some<|.box [.dptr (Av b) 0,.osl 9 2 0<|c.2.2.1.length,.mp 2,.osl 10 1 0<|c.2.2.2.length,.mp 4],none,some<|.map true false<|AA Al AN c.1,none,some<|.map true true<|AA AQ AY a7,some<|.nmp false (.d<|.sl [])<|Ea eU8 Aq c.2.1,some<|.arr 1<|h.map<|ePG Aq,some<|.box<|K9 u (.osl 11 4 0<|u.Nodes.length)<|.d<|dPG Aq u.From,some<|.arr 1<|a.map<|ePG Aq,some<|.arr 2<|c.2.2.1.map Al,some<|.arr 1<|c.2.2.2.map<|eOp Aw,some<|.arr 4<|u.Nodes.map Aq]⟩
def Wx:St:=⟨(0,.ptr 0 0)::(6,.mp 5)::(7,.osl 6 1 0<|h.length)::(9,.d<|dPG Aq ((g2.Nodes,g2.Cell)::g2.From))::(13,.ptr 7 0)::(44,.osl 8 1 0<|a.length)::(45,.d<|.int .i64 ((a.length:Nat):Int))::(46,.d<|.int .i64 g)::(65,.d<|.int .u8 l)::(74,.d<|.sl<|List.map Aq<|Ca l c.2.1)::(75,.d<|.int .i64 ((List.length (Ca l c.2.1):Nat):Int))::(76,.d<|.int .i64 I)::[],[some<|.box [.dptr (Av b) 0,.osl 9 2 0<|c.2.2.1.length,.mp 2,.osl 10 1 0<|c.2.2.2.length,.mp 4],none,some<|.map true false<|AA Al AN c.1,none,some<|.map true true<|AA AQ AY au,some<|.nmp false (.d<|.sl [])<|Ea eU8 Aq c.2.1,some<|.arr 1<|h.map<|ePG Aq,some<|.box<|K9 q (.osl 11 4 0<|q.Nodes.length)<|.d<|dPG Aq q.From,some<|.arr 1<|a.map<|ePG Aq,some<|.arr 2<|c.2.2.1.map Al,some<|.arr 1<|c.2.2.2.map<|eOp Aw,some<|.arr 4<|q.Nodes.map Aq]⟩
def Hq:((Bf×(List<|Am×An))⊕((List<|Aa×Int)×(List<|Am×An)×(List Int)×(List Aa)×(List<|Option<|List Af)×Bool))->Ex->St->Prop:=xS (xX 5 8<|λ (y:(Bf×(List<|Am×An)))=>Ww b a g g2 c h l y.1 y.2)<|xL 5 ty Try.f25 (λ (y:((List<|Aa×Int)×(List<|Am×An)×(List Int)×(List Aa)×(List<|Option<|List Af)×Bool))=>.tup [.osl 5 1 0<|y.2.2.1.length,.d<|.bool y.2.2.2.2.2])<|λ (y:((List<|Aa×Int)×(List<|Am×An)×(List Int)×(List Aa)×(List<|Option<|List Af)×Bool))=>[some<|.box [.dptr (Av b) 0,.osl 6 2 0<|y.2.2.2.1.length,.mp 2,.osl 7 1 0<|y.2.2.2.2.1.length,.mp 4],none,some<|.map true false<|AA Al AN y.1,none,some<|.map true true<|AA AQ AY y.2.1,some<|.arr 1<|y.2.2.1.map eU8,some<|.arr 2<|y.2.2.2.1.map Al,some<|.arr 1<|y.2.2.2.2.1.map<|eOp Aw]
def Er:(Bf×(List<|Am×An)×Int)->St:=(λ (x:(Bf×(List<|Am×An)×Int))=>Wv b a g g2 c h l x.1 x.2.1 x.2.2)
def Hr:(((List<|Am×An)×(List<|List<|(List Ah)×Int))⊕((List<|Aa×Int)×(List<|Am×An)×(List Int)×(List Aa)×(List<|Option<|List Af)×Bool))->Ex->St->Prop:=xS (xX 5 6<|λ (y:((List<|Am×An)×(List<|List<|(List Ah)×Int)))=>Wt b a g c y.1 y.2)<|xL 5 ty Try.f25 (λ (y:((List<|Aa×Int)×(List<|Am×An)×(List Int)×(List Aa)×(List<|Option<|List Af)×Bool))=>.tup [.osl 5 1 0<|y.2.2.1.length,.d<|.bool y.2.2.2.2.2])<|λ (y:((List<|Aa×Int)×(List<|Am×An)×(List Int)×(List Aa)×(List<|Option<|List Af)×Bool))=>[some<|.box [.dptr (Av b) 0,.osl 6 2 0<|y.2.2.2.1.length,.mp 2,.osl 7 1 0<|y.2.2.2.2.1.length,.mp 4],none,some<|.map true false<|AA Al AN y.1,none,some<|.map true true<|AA AQ AY y.2.1,some<|.arr 1<|y.2.2.1.map eU8,some<|.arr 2<|y.2.2.2.1.map Al,some<|.arr 1<|y.2.2.2.2.1.map<|eOp Aw]
def Es:((List<|Am×An)×(List<|List<|(List Ah)×Int)×Int)->St:=(λ (x:((List<|Am×An)×(List<|List<|(List Ah)×Int)×Int))=>ZA b a g g2 c x.1 x.2.1 x.2.2)
def Hs:(((List<|Aa×Int)×(List<|Am×An)×(List<|Int×(List Ah))×(List<|List<|(List Ah)×Int)×(List Aa)×(List<|Option<|List Af))⊕((List<|Aa×Int)×(List<|Am×An)×(List Int)×(List Aa)×(List<|Option<|List Af)×Bool))->Ex->St->Prop:=xS (xX 5 2<|λ (y:((List<|Aa×Int)×(List<|Am×An)×(List<|Int×(List Ah))×(List<|List<|(List Ah)×Int)×(List Aa)×(List<|Option<|List Af)))=>Zx b y.1 y.2.1 y.2.2.1 y.2.2.2.1 y.2.2.2.2.1 y.2.2.2.2.2)<|xL 5 ty Try.f25 (λ (y:((List<|Aa×Int)×(List<|Am×An)×(List Int)×(List Aa)×(List<|Option<|List Af)×Bool))=>.tup [.osl 5 1 0<|y.2.2.1.length,.d<|.bool y.2.2.2.2.2])<|λ (y:((List<|Aa×Int)×(List<|Am×An)×(List Int)×(List Aa)×(List<|Option<|List Af)×Bool))=>[some<|.box [.dptr (Av b) 0,.osl 6 2 0<|y.2.2.2.1.length,.mp 2,.osl 7 1 0<|y.2.2.2.2.1.length,.mp 4],none,some<|.map true false<|AA Al AN y.1,none,some<|.map true true<|AA AQ AY y.2.1,some<|.arr 1<|y.2.2.1.map eU8,some<|.arr 2<|y.2.2.2.1.map Al,some<|.arr 1<|y.2.2.2.2.1.map<|eOp Aw]
def Et:((List<|Aa×Int)×(List<|Am×An)×(List<|Int×(List Ah))×(List<|List<|(List Ah)×Int)×(List Aa)×(List<|Option<|List Af)×Int)->St:=(λ (x:((List<|Aa×Int)×(List<|Am×An)×(List<|Int×(List Ah))×(List<|List<|(List Ah)×Int)×(List Aa)×(List<|Option<|List Af)×Int))=>Zw b a x.1 x.2.1 x.2.2.1 x.2.2.2.1 x.2.2.2.2.1 x.2.2.2.2.2.1 x.2.2.2.2.2.2)
def Ht:(((List<|Aa×Int)×(List<|Am×An)×(List Aa)×(List<|Option<|List Af))⊕((List<|Aa×Int)×(List<|Am×An)×(List Int)×(List Aa)×(List<|Option<|List Af)×Bool))->Ex->St->Prop:=xS (xX 5 0<|λ (y:((List<|Aa×Int)×(List<|Am×An)×(List Aa)×(List<|Option<|List Af)))=>Zv b y.1 y.2.1 y.2.2.1 y.2.2.2)<|xL 5 ty Try.f25 (λ (y:((List<|Aa×Int)×(List<|Am×An)×(List Int)×(List Aa)×(List<|Option<|List Af)×Bool))=>.tup [.osl 5 1 0<|y.2.2.1.length,.d<|.bool y.2.2.2.2.2])<|λ (y:((List<|Aa×Int)×(List<|Am×An)×(List Int)×(List Aa)×(List<|Option<|List Af)×Bool))=>[some<|.box [.dptr (Av b) 0,.osl 6 2 0<|y.2.2.2.1.length,.mp 2,.osl 7 1 0<|y.2.2.2.2.1.length,.mp 4],none,some<|.map true false<|AA Al AN y.1,none,some<|.map true true<|AA AQ AY y.2.1,some<|.arr 1<|y.2.2.1.map eU8,some<|.arr 2<|y.2.2.2.1.map Al,some<|.arr 1<|y.2.2.2.2.1.map<|eOp Aw]
def Eu:((List<|Aa×Int)×(List<|Am×An)×(List<|List<|(List Ah)×Int)×(List<|Int×(List Ah))×(List Aa)×(List<|Option<|List Af))->St:=(λ (x:((List<|Aa×Int)×(List<|Am×An)×(List<|List<|(List Ah)×Int)×(List<|Int×(List Ah))×(List Aa)×(List<|Option<|List Af)))=>Zu b x.1 x.2.1 x.2.2.1 x.2.2.2.1 x.2.2.2.2.1 x.2.2.2.2.2)
variable {b B U C V aw ay W X Y az Z aa a r O P a0 a2 ab ac af v w i Q R g a3 a4 E J ag ah g2 ai t S T aj a5 G ak al c am h l a6 K ap A j ar I u a7 q au}
theorem G3 (x:((List (Aa×Int))×(List (Int×(List Ah)))×(List Aa)×(List (Option (List Af)))×Int)) (z:(((List (Aa×Int))×(List (Int×(List Ah)))×(List Aa)×(List (Option (List Af)))×Int)⊕((List (Aa×Int))×(List (Int×(List Ah)))×(List Aa)×(List (Option (List Af)))))) (H:Bp n b a v i g g2 x.1 x.2.1 x.2.2.1 x.2.2.2.1 x.2.2.2.2=some z):WP (cxk 113 5) (A1 Try.f25) [1,1,1,1,1,1,0,0,0,1,0,1,0,1,0,0,1,1,0,0,1,1,0,1,0,0] (AX 5 (Ep b a v i g g2) (Hp b a v i g g2) z) (Ep b a v i g g2 x):=by
 obtain⟨ai,t,S,T,aj⟩:=x;refine sr<|ck 1<|en<|sq<|cn H (λ H=>?_)<|λ H=>?_
 ·exact sk<|qz<|sq<|bk 5<|sr<|bx H λ b6 be H=>sp (AM Aq be)<|ck 3<|en<|rz<|ck 3<|bx H λ L bf H=>ltP [0,5,8,2,9,4] (JM bf) (po1<|Pl.m false (.d<|.sl []) (nmM (encK:=eU8) (isz:=4) (enc:=Aq) (m:=t) λ _ _=>rfl)<|po1<|po1<|po1<|po1<|Pl.z)<|tb (f:=Ga<|DE [0,5,8,2,9,4] 11 6) [some<|.box [.dptr (Av b) 0,.osl 11 2 0<|L.2.2.1.length,.mp 2,.osl 12 1 0<|L.2.2.2.length,.mp 4],none,some<|.map true false<|AA Al AN L.2.1,none,some<|.map true true<|AA AQ AY v,some<|.nmp false (.d<|.sl [])<|DY eU8 4 Aq L.1,some<|.arr 1<|i.map<|ePG Aq,some<|.arr 1<|a.map<|ePG Aq,none,none,some<|.box<|II b6,some<|.arr 2<|L.2.2.1.map Al,some<|.arr 1<|L.2.2.2.map<|eOp Aw] (po1<|po1<|po1<|po1<|po1<|Pl.m false (.d<|.sl []) (nmM (encK:=eU8) (isz:=4) (enc:=Aq) (m:=L.1) λ _ _=>rfl)<|po1<|po1<|po1<|po1<|po1<|po1<|po1<|Pl.z)<|ae<|qN<|qz<|rz<|ck 2<|ae (by cases H;exact og<|gP [0,6,7,9,44,45,46,54,55,56] [0,1,2,3,4,5,6,7,11,12]<|po1<|po1<|po1<|po1<|po1<|Pl.m false (.d<|.sl []) (nmM (encK:=eU8) (isz:=4) (enc:=Aq) (m:=L.1) λ _ _=>rfl)<|po1<|po1<|po1<|po1<|Pl.z)
 ·exact ex 4<|qx (by cases H;exact xo rfl<|gP [0,6,7,9,44,45,46] [0,1,2,3,4,5,6,7,8,9]<|po1<|po1<|po1<|po1<|po1<|Pl.m false (.d<|.sl []) (nmM (encK:=eU8) (isz:=4) (enc:=Aq) (m:=t) λ _ _=>rfl)<|po1<|po1<|po1<|po1<|Pl.z)
theorem Eb (x:(Bf×(List (Am×An))×Int)) (z:((Bf×(List (Am×An))×Int)⊕((Bf×(List (Am×An)))⊕((List (Aa×Int))×(List (Am×An))×(List Int)×(List Aa)×(List (Option (List Af)))×Bool)))) (H:Bq n b a g g2 c h l x.1 x.2.1 x.2.2=some z):WP (cxk 113 5) (A1 Try.f25) [1,1,1,1,1,1,0,0,0,1,0,1,0,1,0,0,1,1,0,0,1,1,1,1,0,0,1,1,0,0,1,1,0,1,0,0] (AX 5 (Er b a g g2 c h l) (Hq b a g g2 c h l) z) (Er b a g g2 c h l x):=by
 obtain⟨j,ar,I⟩:=x;refine sr<|ck 1<|en<|sq<|cn H (λ H=>?_)<|λ H=>?_
 ·refine sk<|qz<|sj (λ (x:(Bf×(List<|Am×An)))=>Wx b a g g2 c h l I x.1 x.2) (λ (x:(Bf×(List<|Am×An)))=>Cr n I x.1 x.2) z ?_ (λ o=>?_)
  ·rintro⟨q,au⟩ H;exact rz<|ck 2<|ae (by cases H;exact og<|gP [0,6,7,9,13,44,45,46,65,74,75,76] [0,1,2,3,4,5,6,7,8,9,10,11]<|po1<|po1<|po1<|po1<|po1<|Pl.m false (.d<|.sl []) (Ij (encK:=eU8) (enc:=Aq) (m:=c.2.1) λ _=>rfl)<|po1<|po1<|po1<|po1<|po1<|po1<|Pl.z)
  refine bk 9<|sr<|bx H λ cg bg H=>sp (AM Aq bg)<|ck 3<|en<|sq<|sr<|ck 2<|bx H λ bd bh H=>lt [0,9,2,10,4] (FX bh)<|ck 1<|en<|cn H (λ H=>?_)<|λ H=>?_
  ·exact ex 9<|qx<|qH<|qs (gP [0,6,7,9,13,44,45,46,65,74,75,76] [0,1,2,3,4,5,6,7,8,9,10,11]<|po1<|po1<|po1<|po1<|po1<|Pl.m false (.d<|.sl []) (Ij (encK:=eU8) (enc:=Aq) (m:=c.2.1) λ _=>rfl)<|po1<|po1<|po1<|po1<|po1<|po1<|Pl.z)<|o (j,bd.1) H
  ·refine sk<|qz<|sq<|sr<|ck 2<|bx H λ ch bi H=>lt [0,9,2,10,4] (I8 bi)<|en<|cn H (λ H=>?_)<|λ H=>?_
   ·exact sq<|rg (tr (fzc (enc:=Aq) (xs:=j.Nodes) 7 0 11 4)<|NE [13] 7 (by kernel_rfl))<|ck 1<|bx H λ bj bl H=>cl [List.length bj] (Lc bl)<|ck 2<|en<|re<|qr<|qR<|qr (by cases H;exact lo rfl<|rl (s':=OY b c.1 bd.1 bj c.2.2.1 c.2.2.2 true)<|sg [2,3])
   ·exact sk<|qz<|rz<|ck 7<|bx H λ b7 bm H=>sp (BC Aq 11 4 bm)<|ck 3<|ae<|qN<|qs (gP [0,6,7,9,13,44,45,46,65,74,75,76] [0,1,2,3,4,5,6,7,8,9,10,14]<|po1<|po1<|po1<|po1<|po1<|Pl.m false (.d<|.sl []) (Ij (encK:=eU8) (enc:=Aq) (m:=c.2.1) λ _=>rfl)<|po1<|po1<|po1<|po1<|po1<|po1<|Pl.z)<|o (({ Nodes:=b7,From:=j.From,Cell:=j.Cell }:Bf),bd.1) H
 ·exact ex 8<|qx (by cases H;exact xo rfl<|gP [0,6,7,9,13,44,45,46,65] [0,1,2,3,4,5,6,7,8,9,10,11]<|po1<|po1<|po1<|po1<|po1<|Pl.m false (.d<|.sl []) (Ij (encK:=eU8) (enc:=Aq) (m:=c.2.1) λ _=>rfl)<|po1<|po1<|po1<|po1<|po1<|po1<|Pl.z)
theorem Ec (x:((List (Am×An))×(List (List ((List Ah)×Int)))×Int)) (z:(((List (Am×An))×(List (List ((List Ah)×Int)))×Int)⊕(((List (Am×An))×(List (List ((List Ah)×Int))))⊕((List (Aa×Int))×(List (Am×An))×(List Int)×(List Aa)×(List (Option (List Af)))×Bool)))) (H:Br n b a g g2 c x.1 x.2.1 x.2.2=some z):WP (cxk 113 5) (A1 Try.f25) [1,1,1,1,1,1,0,0,0,1,0,1,0,1,0,0,1,1,0,0,1,1,1,1,0,0] (AX 5 (Es b a g g2 c) (Hr b a g c) z) (Es b a g g2 c x):=by
 obtain⟨am,h,l⟩:=x;refine sr<|ck 1<|en<|sq<|cn H (λ H=>?_)<|λ H=>?_
 ·refine sk<|qz<|sj (λ (x:((List<|Am×An)×(List<|List<|(List Ah)×Int)))=>Wu b a g g2 c l x.1 x.2) (λ (x:((List<|Am×An)×(List<|List<|(List Ah)×Int)))=>Dg n l x.1 x.2) z ?_ (λ p=>?_)
  ·rintro⟨ap,A⟩ H;exact rz<|ck 2<|ae (by cases H;exact og<|gP [0,6,7,9,44,45,46,65] [0,1,2,3,4,5,6,7,8,9]<|po1<|po1<|po1<|po1<|po1<|Pl.m false (.d<|.sl []) (Ij (encK:=eU8) (enc:=Aq) (m:=c.2.1) λ _=>rfl)<|po1<|po1<|po1<|po1<|Pl.z)
  refine bk 7<|sr<|ck 2<|en<|sr<|ck 5<|en<|sq<|sr<|ck 2<|sp (Wn (encK:=eU8) (enc:=Aq) (k:=5) (m:=c.2.1) (key:=l) (x:=.int .u8 l) Jdu)<|sp (AT Aq<|Ca l c.2.1)<|ck 1<|en<|bk 8<|bx H λ b8 a8 H=>?_;rcases b8 with M|ci
  ·refine lX Eb a8 (tr (D1 10 0 4 (by kernel_rfl))<|gP [0,6,7,9,13,44,45,46,65,74,75,76] [0,1,2,3,4,5,6,10,7,8,9,11]<|po1<|po1<|po1<|po1<|po1<|Pl.m false (.d<|.sl []) (Ij (encK:=eU8) (enc:=Aq) (m:=c.2.1) λ _=>rfl)<|po1<|po1<|po1<|po1<|po1<|po1<|Pl.z) rfl λ s bn=>qH<|qs (bn)<|sr<|ck 6<|en<|cn H (λ H=>?_)<|λ H=>?_
   ·exact rg (tr (tr (tr (tr (tr (fzc (enc:=Aq) (xs:=M.1.Nodes) 7 0 11 4)<|NE [13,100,101,102] 7 (by kernel_rfl))<|Qa (e:=Hg M.1) 13 (by kernel_rfl))<|Qa (e:=Hg M.1) 100 (by kernel_rfl))<|Qa (e:=Hg M.1) 101 (by kernel_rfl))<|Qa (e:=Hg M.1) 102 (by kernel_rfl))<|ck 3<|bx H λ b9 bp H=>sp (BC (ePG Aq) 6 1 bp)<|ck 1<|ae<|qN<|qs (gP [0,6,7,9,44,45,46,65] [0,1,2,3,4,5,13,8,9,10]<|po1<|po1<|po1<|po1<|po1<|Pl.m false (.d<|.sl []) (Ij (encK:=eU8) (enc:=Aq) (m:=c.2.1) λ _=>rfl)<|po1<|po1<|po1<|po1<|Pl.z)<|p (M.2,b9) H
   ·exact sk<|qN<|qs (gP [0,6,7,9,44,45,46,65] [0,1,2,3,4,5,6,8,9,10]<|po1<|po1<|po1<|po1<|po1<|Pl.m false (.d<|.sl []) (Ij (encK:=eU8) (enc:=Aq) (m:=c.2.1) λ _=>rfl)<|po1<|po1<|po1<|po1<|Pl.z)<|p (M.2,h) H
  ·exact lL Eb a8 (tr (D1 10 0 4 (by kernel_rfl))<|gP [0,6,7,9,13,44,45,46,65,74,75,76] [0,1,2,3,4,5,6,10,7,8,9,11]<|po1<|po1<|po1<|po1<|po1<|Pl.m false (.d<|.sl []) (Ij (encK:=eU8) (enc:=Aq) (m:=c.2.1) λ _=>rfl)<|po1<|po1<|po1<|po1<|po1<|po1<|Pl.z) rfl λ s bq=>qR<|qr<|qR<|qr (by cases H;exact lo rfl bq)
 ·exact ex 6<|qx (by cases H;exact xo rfl<|gP [0,6,7,44,45,46] [0,1,2,3,4,5,6,7,8,9]<|po1<|po1<|po1<|po1<|po1<|Pl.m false (.d<|.sl []) (Ij (encK:=eU8) (enc:=Aq) (m:=c.2.1) λ _=>rfl)<|po1<|po1<|po1<|po1<|Pl.z)
theorem Ed (x:((List (Aa×Int))×(List (Am×An))×(List (Int×(List Ah)))×(List (List ((List Ah)×Int)))×(List Aa)×(List (Option (List Af)))×Int)) (z:(((List (Aa×Int))×(List (Am×An))×(List (Int×(List Ah)))×(List (List ((List Ah)×Int)))×(List Aa)×(List (Option (List Af)))×Int)⊕(((List (Aa×Int))×(List (Am×An))×(List (Int×(List Ah)))×(List (List ((List Ah)×Int)))×(List Aa)×(List (Option (List Af))))⊕((List (Aa×Int))×(List (Am×An))×(List Int)×(List Aa)×(List (Option (List Af)))×Bool)))) (H:Bs n b a x.1 x.2.1 x.2.2.1 x.2.2.2.1 x.2.2.2.2.1 x.2.2.2.2.2.1 x.2.2.2.2.2.2=some z):WP (cxk 113 5) (A1 Try.f25) [1,1,1,1,1,1,0,0,0,1,0,1,0,1,0,0] (AX 5 (Et b a) (Hs b) z) (Et b a x):=by
 obtain⟨af,v,w,i,Q,R,g⟩:=x;refine sr<|ck 1<|en<|sq<|cn H (λ H=>?_)<|λ H=>?_
 ·refine sk<|qz<|sq<|bk 3<|sr<|bx H λ cj a9 H=>sp (Bo 7 1 a9)<|sp (Ej (ePG Aq) 7 0 (ty 117) a9)<|ck 1<|en<|sr<|ck 1<|xzm (xok _ _) 5<|en<|sq<|sq<|bx H λ g2 br H=>rg (Jb4 (e:=Aq) 9 (OM br) (by kernel_rfl))<|ck 4<|sp (AT Aq g2.Nodes)<|ck 1<|en<|bk 4<|bx H λ c bt H=>lX G3 bt (tr (Qa (e:=Hg g2) 9 (by kernel_rfl))<|gP [0,6,7,9,44,45,46,54,55,56] [0,1,2,3,4,5,6,7,8,9]<|po1<|po1<|po1<|po1<|po1<|Pl.m false (.d<|.sl []) (nmM (encK:=eU8) (isz:=4) (enc:=Aq) (m:=([]:(List<|Int×(List Ah)))) λ _ _=>rfl)<|po1<|po1<|po1<|po1<|Pl.z) rfl λ s bu=>qH<|qs (bu)<|sr<|ck 1<|en<|bk 6<|bx H λ cc ba H=>?_;rcases cc with cm|co
  ·exact lX Ec ba (tr (Vb (ka:=false) (dv:=.d<|.sl []) (encK:=eU8) (isz:=4) (enc:=Aq) 5 c.2.1)<|gP [0,6,7,9,44,45,46,65] [0,1,2,3,4,5,6,7,8,9]<|po1<|po1<|po1<|po1<|po1<|Pl.m false (.d<|.sl []) (Ij (encK:=eU8) (enc:=Aq) (m:=c.2.1) λ _=>rfl)<|po1<|po1<|po1<|po1<|Pl.z) rfl λ s bv=>qH<|qN<|qs (bv)<|rz<|ck 2<|ae (by cases H;exact og<|gP [0,6,7,44,45,46] [0,1,2,3,4,5,6,7,8,9]<|po1<|po1<|po1<|po1<|po1<|Pl.m false (.d<|.sl []) (Ij (encK:=eU8) (enc:=Aq) (m:=c.2.1) λ _=>rfl)<|po1<|po1<|po1<|po1<|Pl.z)
  ·exact lL Ec ba (tr (Vb (ka:=false) (dv:=.d<|.sl []) (encK:=eU8) (isz:=4) (enc:=Aq) 5 c.2.1)<|gP [0,6,7,9,44,45,46,65] [0,1,2,3,4,5,6,7,8,9]<|po1<|po1<|po1<|po1<|po1<|Pl.m false (.d<|.sl []) (Ij (encK:=eU8) (enc:=Aq) (m:=c.2.1) λ _=>rfl)<|po1<|po1<|po1<|po1<|Pl.z) rfl λ s bw=>qR<|qR<|qr (by cases H;exact lo rfl bw)
 ·exact ex 2<|qx (by cases H;exact xo rfl<|gP [0,6,7] [0,1,2,3,4,5,6,8,9]<|po1<|po1<|po1<|po1<|po1<|Pl.m false (.d<|.sl []) (Ij (encK:=eU8) (enc:=Aq) (m:=w) λ _=>rfl)<|po1<|po1<|po1<|Pl.z)
theorem Ee (x:((List (Aa×Int))×(List (Am×An))×(List (List ((List Ah)×Int)))×(List (Int×(List Ah)))×(List Aa)×(List (Option (List Af))))) (z:(((List (Aa×Int))×(List (Am×An))×(List (List ((List Ah)×Int)))×(List (Int×(List Ah)))×(List Aa)×(List (Option (List Af))))⊕(((List (Aa×Int))×(List (Am×An))×(List Aa)×(List (Option (List Af))))⊕((List (Aa×Int))×(List (Am×An))×(List Int)×(List Aa)×(List (Option (List Af)))×Bool)))) (H:BV n b x.1 x.2.1 x.2.2.1 x.2.2.2.1 x.2.2.2.2.1 x.2.2.2.2.2=some z):WP (cxk 113 5) (A1 Try.f25) [1,1,1,1,1,1,0,0,0] (AX 5 (Eu b) (Ht b) z) (Eu b x):=by
 obtain⟨Z,aa,a,r,O,P⟩:=x;refine sq<|sr<|ck 3<|en<|cn H (λ H=>?_)<|λ H=>?_
 ·refine sk<|qz<|bk 1<|sr<|ck 1<|en<|sq<|sr<|ck 3<|en<|bk 2<|bx H λ cd bb H=>?_;rcases cd with ce|cp
  ·exact lX Ed bb (tr (As.nilo 7 1 (by kernel_rfl))<|gP [0,6,7,44,45,46] [0,1,2,3,4,6,9,5,7,8]<|po1<|po1<|po1<|po1<|po1<|Pl.m false (.d<|.sl []) (Ij (encK:=eU8) (enc:=Aq) (m:=r) λ _=>rfl)<|po1<|po1<|po1<|po1<|Pl.z) rfl λ s bz=>qH<|qs (bz)<|rz<|ck 2<|ae<|qN (by cases H;exact og<|gP [0,5,6] [0,1,2,3,4,6,5,7,8]<|po1<|po1<|po1<|po1<|po1<|po1<|Pl.m false (.d<|.sl []) (Ij (encK:=eU8) (enc:=Aq) (m:=ce.2.2.1) λ _=>rfl)<|po1<|po1<|Pl.z)
  ·exact lL Ed bb (tr (As.nilo 7 1 (by kernel_rfl))<|gP [0,6,7,44,45,46] [0,1,2,3,4,6,9,5,7,8]<|po1<|po1<|po1<|po1<|po1<|Pl.m false (.d<|.sl []) (Ij (encK:=eU8) (enc:=Aq) (m:=r) λ _=>rfl)<|po1<|po1<|po1<|po1<|Pl.z) rfl λ s b0=>qR<|qr<|qR (by cases H;exact lo rfl b0)
 ·exact ex 0<|qx (by cases H;exact xo rfl<|sg [])
theorem Iv {z} (H:CY n b B U C V=some z):CG Try.prog 25 [.ptr 0 0] [some (.box [.dptr (Av b) 0,.osl 1 2 0 (B.length),.mp 2,.osl 3 1 0 (C.length),.mp 4]),some (.arr 2 (B.map Al)),some (.map true false (AA Al AN U)),some (.arr 1 (C.map (eOp Aw))),some (.map true true (AA AQ AY V))] 5 (.tup [.osl 5 1 0 (z.2.2.1.length),.d (.bool z.2.2.2.2.2)]) [some (.box [.dptr (Av b) 0,.osl 6 2 0 (z.2.2.2.1.length),.mp 2,.osl 7 1 0 (z.2.2.2.2.1.length),.mp 4]),none,some (.map true false (AA Al AN z.1)),none,some (.map true true (AA AQ AY z.2.1)),some (.arr 1 (z.2.2.1.map eU8)),some (.arr 2 (z.2.2.2.1.map Al)),some (.arr 1 (z.2.2.2.2.1.map (eOp Aw)))]:=by
 refine fL 113 5 (Zt b B U C V) Try.func25<|sr<|ck 2<|en<|sq<|sr<|ck 8<|en<|cn H (λ H=>?_)<|λ H=>?_
 ·exact sr<|ck 2<|en<|re<|qr (by cases H;exact pL<|rl (s':=OY b U V ([]:List Int) B C false)<|tr (tr (tr (As.nilo 2 1 (by kernel_rfl))<|Hb (k:=1) (sz:=2) 0 1 (B.map Al) (B.length) (by kernel_rfl) C1 leM rfl)<|Hb (k:=3) (sz:=1) 0 3 (C.map<|eOp Aw) (C.length) (by kernel_rfl) C1 leM rfl)<|sg [2,3])
 ·refine sk<|qz<|sr<|ck 2<|bx H λ cq b1 H=>lt [0,1,2,3,4] (DN b1)<|ck 2<|bx H λ cr b2 H=>lt [0,5,2,6,4] (DN b2)<|ck 4<|en<|sr<|ck 2<|bx H λ cs b3 H=>lt [0,7,2,8,4] (FX b3)<|en<|sr<|ck 1<|sF<|ck 1<|xbd (xok _ _)<|ck 2<|en<|sr<|ck 2<|en<|sq<|bk 0<|bx H λ cf bc H=>?_;rcases cf with av|ct
  ·exact lX Ee bc (tr (tr (Jb3 (ka:=false) (va:=false) 11)<|Vb (ka:=false) (dv:=.d<|.sl []) (encK:=eU8) (isz:=4) (enc:=Aq) 11 ([]:(List<|Int×(List Ah))))<|gP [0,5,6] [0,1,2,3,4,10,11,7,8]<|po1<|po1<|po1<|po1<|po1<|po1<|Pl.m false (.d<|.sl []) (Ij (encK:=eU8) (enc:=Aq) (m:=([]:(List<|Int×(List Ah)))) λ _=>rfl)<|po1<|po1<|Pl.z) rfl λ s b4=>qH<|qs (b4)<|sr<|ck 2<|en<|re (by cases H;exact pL<|rl (s':=OY b av.1 av.2.1 ([]:List Int) av.2.2.1 av.2.2.2 false)<|tr (As.nilo 2 1 (by kernel_rfl))<|sg [2,3])
  ·exact lL Ee bc (tr (tr (Jb3 (ka:=false) (va:=false) 11)<|Vb (ka:=false) (dv:=.d<|.sl []) (encK:=eU8) (isz:=4) (enc:=Aq) 11 ([]:(List<|Int×(List Ah))))<|gP [0,5,6] [0,1,2,3,4,10,11,7,8]<|po1<|po1<|po1<|po1<|po1<|po1<|Pl.m false (.d<|.sl []) (Ij (encK:=eU8) (enc:=Aq) (m:=([]:(List<|Int×(List Ah)))) λ _=>rfl)<|po1<|po1<|Pl.z) rfl λ s b5=>qR<|qr (by cases H;exact pL b5)
end
section
variable (a:Ab)
def JeF:St:=⟨(0,.agg [.d<|.int .i64 a.Modes,.d<|.int .u8 a.Accept,.d<|.sl<|a.Rules.map AH])::[],[]⟩
variable {a}
theorem CQ {z} (H:Bg n a=some z):A0 Try.prog 10 [.agg (Bt a)] (.tup [.agg [.d (.sl (z.1.Cells.map eU8)),.d (.str z.1.A),.d (.str z.1.B)],.d (.int .i64 z.2)]):=by
 refine fO 38 (JeF a) Try.func10<|sr<|ck 3<|en<|sq<|sr<|ck 1<|bx H λ o c H=>ca false (LS c)<|ck 1<|en<|cn H (λ H=>?_)<|λ H=>?_
 ·exact sr<|ck 3<|en<|re<|qr (by cases H;exact pr<|rT (vs:=[.agg [.d<|.nil,.d<|.str [],.d<|.str []],.d<|.int .i64 20]) []<|t1 (a1<|c1 vn<|c1 vd<|c1 vd<|c0)<|t1 (ad vd)<|t0)
 ·refine sk<|qz<|sr<|ck 1<|bx H λ b e H=>lt [] (IQ e)<|tb (f:=Ga<|DE [] 2 0) [some<|.box<|Bt a,some<|.box [.d<|.nil,.d<|.str [],.d<|.str []],some<|.box<|Di b (.osl 3 1 0<|b.Arcs.length)<|.osl 4 1 0<|b.Accepts.length,some<|.narr 1<|b.Arcs.map<|nL 3 Bb,some<|.arr 1<|b.Accepts.map eB] (po1<|po1<|po1<|pn1 (nL 3 Bb) b.Arcs<|po1<|Pl.z)<|ck 1<|en<|sq<|rg (tr (tr (SO (encN:=(nL 3 Bb)) (encD:=(eL Bb)) (xss:=b.Arcs) (sz:=1) 2 0 3 (by kernel_rfl) (by kernel_rfl) (λ _=>rfl)<|λ _=>rfl)<|fzc (enc:=eB) (xs:=b.Accepts) 2 1 4 1)<|NE [4] 2 (by kernel_rfl))<|ck 1<|bx H λ p g H=>lt [] (My g)<|bx H λ l h H=>lt [5,6,7,8,9] (Iv h)<|ck 5<|en<|sq<|sr<|ck 2<|en<|cn H (λ H=>?_)<|λ H=>?_
  ·exact sr<|ck 3<|en<|re<|qr (by cases H;exact pr<|rT (vs:=[.agg [.d<|.nil,.d<|.str [],.d<|.str []],.d<|.int .i64 0]) []<|t1 (a1<|c1 vn<|c1 vd<|c1 vd<|c0)<|t1 (ad vd)<|t0)
  ·refine sk<|qz<|sq<|rg (fz (enc:=eU8) (xs:=l.2.2.1) 5 10 1)<|ck 2<|bx H λ m i H=>ca false (Ld i)<|ck 1<|en<|sq<|sr<|ck 1<|sp (AT eS m)<|ck 1<|en<|cn H (λ H=>?_)<|λ H=>?_
   ·exact sr<|ck 3<|en<|re<|qr (by cases H;exact pr<|rT (vs:=[.agg [.d<|.nil,.d<|.str [],.d<|.str []],.d<|.int .i64 0]) []<|t1 (a1<|c1 vn<|c1 vd<|c1 vd<|c0)<|t1 (ad vd)<|t0)
   ·exact sk<|qz<|sr<|ck 2<|bx H λ q j H=>sp (AM eS j)<|ck 2<|bx H λ r k H=>sp (AM eS k)<|ck 4<|en<|re (by cases H;exact pr rdT)
end
section
variable (a:(List Int)) (b:(List Int)) (e:Int)
def JeG:St:=⟨(0,.d<|.sl<|a.map eU8)::(1,.d<|.sl<|b.map eU8)::[],[]⟩
def JeH:St:=⟨(0,.d<|.sl<|a.map eU8)::(1,.d<|.sl<|b.map eU8)::(5,.d<|.int .i64 e)::[],[]⟩
def JeI:St:=⟨[],[]⟩
def Li:(Unit⊕Bool)->Ex->St->Prop:=xS (xX 0 0<|λ (_:Unit)=>JeI)<|xR ty Try.f17<|λ (y:Bool)=>.d<|.bool y
def GQ:Int->St:=(λ (x:Int)=>JeH a b x)
variable {a b e}
theorem Gf (x:Int) (z:(Int⊕(Unit⊕Bool))) (H:D5 n a b x=some z):WP (cxk 26 0) (A1 Try.f17) [1,1,0,1,0,0] (AX 0 (GQ a b) (Li) z) (GQ a b x):=by
 revert H;generalize x=e;intro H;refine sq<|sr<|ck 2<|sp (AT eU8 a)<|ck 1<|en<|cn H (λ H=>?_)<|λ H=>?_
 ·refine sk<|qz<|sq<|bk 1<|sr<|ck 2<|bx H λ k f H=>sp (AM eU8 f)<|ck 3<|bx H λ l g H=>sp (AM eU8 g)<|ck 2<|en<|cn H (λ H=>?_)<|λ H=>?_
  ·exact sr<|ck 1<|en<|re<|qR<|qr (by cases H;exact ro rfl rd)
  ·exact sk<|qN<|qz<|rz<|ck 3<|ae (by cases H;exact og<|sg [0,1,5])
 ·exact ex 0<|qx (by cases H;exact xo rfl<|sg [])
theorem D7 {z} (H:CW n a b=some z):A0 Try.prog 17 [.d (.sl (a.map eU8)),.d (.sl (b.map eU8))] (.d (.bool z)):=by
 refine fO 26 (JeG a b) Try.func17<|sr<|ck 1<|en<|sq<|sr<|ck 1<|sp (AT eU8 a)<|ck 1<|sp (AT eU8 b)<|ck 1<|en<|cn H (λ H=>?_)<|λ H=>?_
 ·exact sr<|ck 1<|en<|re<|qr (by cases H;exact pr rd)
 ·refine sk<|qz<|sq<|sr<|ck 1<|en<|bk 0<|bx H λ j c H=>?_;rcases j with m|o
  ·exact lX Gf c (sg [0,1,5]) rfl λ s h=>qH<|qs (h)<|sr<|ck 1<|en<|re (by cases H;exact pr rd)
  ·exact lR Gf c (sg [0,1,5]) rfl λ s i=>qR<|qr (by cases H;exact pr i)
end
section
variable (a:Cb) (b:Cb)
def JeJ:St:=⟨(0,.agg [.d<|.sl<|a.Cells.map eU8,.d<|.str a.A,.d<|.str a.B])::(1,.agg [.d<|.sl<|b.Cells.map eU8,.d<|.str b.A,.d<|.str b.B])::[],[]⟩
variable {a b}
theorem JN {z} (H:HJ n a b=some z):A0 Try.prog 12 [.agg (Rb a),.agg (Rb b)] (.d (.bool z)):=by
 exact fO 24 (JeJ a b) Try.func12<|sr<|ck 3<|en<|sr<|ck 7<|gc 1 (a.A==b.A)<|ck 1<|gc 2 (a.A==b.A)<|pA<|ck 2<|gc 1 ((a.A==b.A)&&(a.B==b.B))<|ck 1<|gc 1 ((a.A==b.A)&&(a.B==b.B))<|bx H λ e c H=>cG false (leZ) rfl (λ hg=>D7<|DA c hg) (Or.inl rfl) (C0 (λ hh=>hh)<|C0 (λ hh=>hh)<|EW) rfl<|pA<|ck 1<|en<|re (by cases H;exact pr rd)
end
section
variable (a:(List UInt8)) (b:(List UInt8))
def JeK:St:=⟨(0,.d<|.str a)::(1,.d<|.str b)::[],[]⟩
variable {a b}
theorem Mz {z} (H:KN n a b=some z):A0 Try.prog 71 [.d (.str a),.d (.str b)] (.d (.bool z)):=by
 exact fO 18 (JeK a b) Try.func71<|sr<|ck 1<|en<|sr<|ck 8<|gc 1 (decide<|((a.length:Nat):Int)>=((b.length:Nat):Int))<|bx H λ e c H=>sE (λ hg=>LM<|DA c hg)<|ck 1<|gc 1 (decide<|((a.length:Nat):Int)>=((b.length:Nat):Int))<|pA<|ck 1<|en<|re (by cases H;exact pr rd)
end
section
variable (a:(List UInt8)) (b:(List UInt8))
def JeL:St:=⟨(0,.d<|.str a)::(1,.d<|.str b)::[],[]⟩
variable {a b}
theorem MA {z} (H:KO n a b=some z):A0 Try.prog 56 [.d (.str a),.d (.str b)] (.d (.bool z)):=by
 exact fO 8 (JeL a b) Try.func56<|sr<|ck 1<|en<|sr<|ck 2<|bx H λ e c H=>ca true (Mz c)<|ck 1<|en<|re (by cases H;exact pr rd)
end
end Go.AI
end
section
namespace Go.AI
open Go.Proofs
set_option maxRecDepth 10000
variable {n:Nat}
section
variable (g:Ap) (c:(List Int)) (f:(List UInt8)) (q:(List (AL×Bool))) (p:(List AL)) (b:AL) (o:(List EO)) (e:(List (AL×Bool))) (h:(List AL)) (u:Int) (w:(List (AL×Bool))) (r:(List AL)) (t:(List (AL×Bool))) (j:(List AL))
def JeM:St:=⟨(0,.dptr (Av g) 0)::(1,.d<|.sl<|c.map eU8)::(2,.d<|.str f)::[],[]⟩
def JeN:St:=⟨(0,.dptr (Av g) 0)::(1,.d<|.sl<|c.map eU8)::(2,.d<|.str f)::(7,.mp 0)::(8,.osl 1 3 0<|p.length)::[],[some<|.map true false<|AA CE eB q,some<|.arr 3<|p.map CE]⟩
def JeO:St:=⟨[],[]⟩
def JeP:St:=⟨(0,.dptr (Av g) 0)::(1,.d<|.sl<|c.map eU8)::(2,.d<|.str f)::(7,.mp 0)::(8,.osl 1 3 0<|h.length)::(9,.ptr 2 0)::(61,.d<|.sl<|o.map Bb)::(62,.d<|.int .i64 ((o.length:Nat):Int))::(63,.d<|.int .i64 u)::[],[some<|.map true false<|AA CE eB e,some<|.arr 3<|h.map CE,some<|.box<|YP b]⟩
def JeQ:St:=⟨(0,.dptr (Av g) 0)::(1,.d<|.sl<|c.map eU8)::(2,.d<|.str f)::(7,.mp 0)::(8,.osl 1 3 0<|r.length)::[],[some<|.map true false<|AA CE eB w,some<|.arr 3<|r.map CE]⟩
def JeR:St:=⟨(0,.dptr (Av g) 0)::(1,.d<|.sl<|c.map eU8)::(2,.d<|.str f)::(7,.mp 0)::(8,.osl 1 3 0<|j.length)::(9,.ptr 2 0)::(61,.d<|.sl<|o.map Bb)::(62,.d<|.int .i64 ((o.length:Nat):Int))::(63,.d<|.int .i64 u)::[],[some<|.map true false<|AA CE eB t,some<|.arr 3<|j.map CE,some<|.box<|YP b]⟩
def I9:((List<|AL×Bool)×(List AL))->Ex->St->Prop:=xX 0 2<|λ (y:((List<|AL×Bool)×(List AL)))=>JeQ g c f y.1 y.2
def Fe:((List<|AL×Bool)×(List AL)×Int)->St:=(λ (x:((List<|AL×Bool)×(List AL)×Int))=>JeP g c f b o x.1 x.2.1 x.2.2)
def Ja:(Unit⊕Bool)->Ex->St->Prop:=xS (xX 0 0<|λ (_:Unit)=>JeO)<|xR ty Try.f33<|λ (y:Bool)=>.d<|.bool y
def Ff:((List<|AL×Bool)×(List AL))->St:=(λ (x:((List<|AL×Bool)×(List AL)))=>JeN g c f x.1 x.2)
variable {g c f q p b o e h u w r t j}
theorem Iw (x:((List (AL×Bool))×(List AL)×Int)) (z:(((List (AL×Bool))×(List AL)×Int)⊕((List (AL×Bool))×(List AL)))) (H:Gb n g c f b o x.1 x.2.1 x.2.2=some z):WP (cxk 111 0) (A1 Try.f33) [1,1,1,0,0,0,1,0,1,1,1,1,0,0] (AX 0 (Fe g c f b o) (I9 g c f) z) (Fe g c f b o x):=by
 obtain⟨e,h,u⟩:=x;refine sr<|ck 1<|en<|sq<|cn H (λ H=>?_)<|λ H=>?_
 ·refine sk<|qz<|sj (λ (x:((List<|AL×Bool)×(List AL)))=>JeR g c f b o u x.1 x.2) (λ (x:((List<|AL×Bool)×(List AL)))=>CZ n u x.1 x.2) z ?_ (λ a=>?_)
  ·rintro⟨t,j⟩ H;exact rz<|ck 2<|ae (by cases H;exact og<|sg [0,1,2,7,8,9,61,62,63])
  refine bk 3<|sr<|bx H λ i G H=>sp (AM Bb G)<|ck 3<|en<|sq<|sr<|ck 3<|bx H λ X I H=>sp (Q5 eU8 1 I)<|ck 2<|bx H λ E J H=>ca false (KS J)<|ck 4<|gc 1 (!(!E))<|bx H λ s9 K H=>sE (λ hg=>LM<|DA K hg)<|ck 1<|gc 1 (!(!E))<|bx H λ Y L H=>cG false (leZ) rfl (λ hg=>MA<|DA L hg) (Or.inl rfl) (C0 (λ hh=>hh)<|C0 (λ hh=>hh)<|EW) rfl<|gc 1 (!(!E))<|pO<|en<|cn H (λ H=>?_)<|λ H=>?_
  ·exact ex 3<|qx<|qH<|qs (sg [0,1,2,7,8,9,61,62,63])<|a (e,h) H
  ·refine sk<|qz<|sr<|ck 4<|sp (AT eU8 i.Cells)<|ck 12<|en<|sr<|ck 2<|sp (Jr (enc:=eB) (encK:=CE) (k:=0) (e1:=λ x=>.bool x) (m:=e) (l:=[.d<|.int .i64<|Ba .i64 b.Cell ((i.Cells.length:Nat):Int),.d<|.int .i64<|Ba .i64 b.Byte ((i.Print.length:Nat):Int),.d<|.int .i64 i.To]) (key:=({ Cell:=Ba .i64 b.Cell ((i.Cells.length:Nat):Int),Byte:=Ba .i64 b.Byte ((i.Print.length:Nat):Int),State:=i.To }:AL)) (z:=false) (vz:=[.bool false]) Ul false)<|ck 1<|en<|cn H (λ H=>?_)<|λ H=>?_
   ·exact sr<|ck 2<|sp (Kc (enc:=eB) (encK:=CE) (k:=0) (e1:=λ x=>.bool x) (m:=e) (l:=[.d<|.int .i64<|Ba .i64 b.Cell ((i.Cells.length:Nat):Int),.d<|.int .i64<|Ba .i64 b.Byte ((i.Print.length:Nat):Int),.d<|.int .i64 i.To]) (key:=({ Cell:=Ba .i64 b.Cell ((i.Cells.length:Nat):Int),Byte:=Ba .i64 b.Byte ((i.Print.length:Nat):Int),State:=i.To }:AL)) (y:=true) (v:=.d<|.bool true) (vz:=[.bool false]) Ul)<|en<|rz<|ck 3<|bx H λ V M H=>sp (BC CE 1 3 M)<|ck 1<|ae<|qN<|qs (sg [0,1,2,7,8,9,61,62,63])<|a ((DV ({ Cell:=Ba .i64 b.Cell ((i.Cells.length:Nat):Int),Byte:=Ba .i64 b.Byte ((i.Print.length:Nat):Int),State:=i.To }:AL) true e),V) H
   ·exact sk<|qN<|qs (sg [0,1,2,7,8,9,61,62,63])<|a (e,h) H
 ·exact ex 2<|qx (by cases H;exact xo rfl<|sg [0,1,2,7,8])
theorem Fb (x:((List (AL×Bool))×(List AL))) (z:(((List (AL×Bool))×(List AL))⊕(Unit⊕Bool))) (H:Gc n g c f x.1 x.2=some z):WP (cxk 111 0) (A1 Try.f33) [1,1,1,0,0,0] (AX 0 (Ff g c f) (Ja) z) (Ff g c f x):=by
 obtain⟨q,p⟩:=x;refine sq<|sr<|ck 3<|en<|cn H (λ H=>?_)<|λ H=>?_
 ·refine sk<|qz<|bk 1<|sr<|ck 4<|bx H λ b B H=>sp (Bo 1 3 B)<|sp (Ej CE 1 0 (ty 138) B)<|ck 2<|en<|sr<|ck 4<|bx H λ O A H=>sp (Ya 1 3 A)<|ck 1<|en<|sq<|sq<|rg (XZ (k:=1) (sz:=3) 8 (O.map CE) (O.length) (by kernel_rfl) (U1 A) (X2 (enc:=CE) A)<|U2 A)<|ck 3<|sp (AT eU8 c)<|ck 3<|gc 1 (b.Cell==((c.length:Nat):Int))<|ck 1<|gc 2 (b.Cell==((c.length:Nat):Int))<|pA<|ck 2<|gc 3 ((b.Cell==((c.length:Nat):Int))&&(b.Byte==((f.length:Nat):Int)))<|ck 1<|gc 1 ((b.Cell==((c.length:Nat):Int))&&(b.Byte==((f.length:Nat):Int)))<|bx H λ Z P H=>sE (λ hg=>AM eB<|DA P hg)<|gc 1 ((b.Cell==((c.length:Nat):Int))&&(b.Byte==((f.length:Nat):Int)))<|pA<|en<|cn H (λ H=>?_)<|λ H=>?_
  ·exact sr<|ck 1<|en<|re<|qr<|qR (by cases H;exact ro rfl rd)
  ·exact sk<|qz<|sr<|ck 6<|bx H λ o Q H=>sp (AM (eL Bb) Q)<|ck 1<|sp (AT Bb o)<|ck 1<|en<|bk 2<|bx H λ aa R H=>lX Iw R (sg [0,1,2,7,8,9,61,62,63]) rfl λ s S=>qH<|qN (by cases H;exact og<|tr (S)<|sg [0,1,2,7,8])
 ·exact ex 0<|qx (by cases H;exact xo rfl<|sg [])
theorem Gg {z} (H:Fs n g c f=some z):A0 Try.prog 33 [.dptr (Av g) 0,.d (.sl (c.map eU8)),.d (.str f)] (.d (.bool z)):=by
 refine fO 111 (JeM g c f) Try.func33<|sr<|ck 1<|en<|sr<|ck 2<|sp (Kc (enc:=eB) (encK:=CE) (k:=0) (e1:=λ x=>.bool x) (m:=[]) (l:=[.d<|.int .i64 0,.d<|.int .i64 0,.d<|.int .i64 0]) (key:=({ Cell:=0,Byte:=0,State:=0 }:AL)) (y:=true) (v:=.d<|.bool true) (vz:=[.bool false]) Ul)<|ck 2<|en<|sr<|ck 3<|en<|sq<|bk 0<|bx H λ W C H=>?_;rcases W with ab|ac
 ·exact lX Fb C (sg [0,1,2,7,8]) rfl λ s T=>qH<|qs (T)<|sr<|ck 1<|en<|re (by cases H;exact pr rd)
 ·exact lR Fb C (sg [0,1,2,7,8]) rfl λ s U=>qR<|qr (by cases H;exact pr U)
end
section
variable (a:Ab) (b:Cb)
def JeS:St:=⟨(0,.agg [.d<|.int .i64 a.Modes,.d<|.int .u8 a.Accept,.d<|.sl<|a.Rules.map AH])::(1,.agg [.d<|.sl<|b.Cells.map eU8,.d<|.str b.A,.d<|.str b.B])::[],[]⟩
variable {a b}
theorem Hu {z} (H:Ft n a b=some z):A0 Try.prog 20 [.agg (Bt a),.agg (Rb b)] (.d (.bool z)):=by
 refine fO 32 (JeS a b) Try.func20<|sr<|ck 3<|en<|sq<|sr<|ck 1<|bx H λ e g H=>ca false (LS g)<|ck 3<|gc 1 (!(!e))<|ck 1<|gc 2 (!(!e))<|pO<|en<|cn H (λ H=>?_)<|λ H=>?_
 ·exact sr<|ck 1<|en<|re<|qr (by cases H;exact pr rd)
 ·exact sk<|qz<|sr<|ck 1<|bx H λ c h H=>lt [] (IQ h)<|tb (f:=Ga<|DE [] 2 0) [some<|.box<|Bt a,some<|.box<|Rb b,some<|.box<|Di c (.osl 3 1 0<|c.Arcs.length)<|.osl 4 1 0<|c.Accepts.length,some<|.narr 1<|c.Arcs.map<|nL 3 Bb,some<|.arr 1<|c.Accepts.map eB] (po1<|po1<|po1<|pn1 (nL 3 Bb) c.Arcs<|po1<|Pl.z)<|ck 1<|en<|sq<|rg (tr (tr (SO (encN:=(nL 3 Bb)) (encD:=(eL Bb)) (xss:=c.Arcs) (sz:=1) 2 0 3 (by kernel_rfl) (by kernel_rfl) (λ _=>rfl)<|λ _=>rfl)<|fzc (enc:=eB) (xs:=c.Accepts) 2 1 4 1)<|NE [5] 2 (by kernel_rfl))<|ck 5<|bx H λ i j H=>ca false (Gg j)<|ck 3<|gc 1 i<|ck 1<|gc 1 i<|bx H λ l k H=>cG false (leZ) rfl (λ hg=>Gg<|DA k hg) (Or.inl rfl) (C0 (λ hh=>hh)<|C0 (λ hh=>hh)<|C0 (λ hh=>hh)<|EW) rfl<|pA<|ck 1<|en<|re (by cases H;exact pr rd)
end
section
variable (b:(List UInt8)) (c:(List Int)) (a:(Ek Int))
def JeT:St:=⟨(0,.d<|.str b)::(1,.d<|.sl<|c.map eU8)::(2,.agg [.d<|.int .i64 a.a0,.d<|.int .i64 a.a1])::[],[]⟩
variable {b c a}
theorem AR {z} (H:A6 n b c a=some z):A0 Try.prog 36 [.d (.str b),.d (.sl (c.map eU8)),.agg [.d (.int .i64 a.a0),.d (.int .i64 a.a1)]] (.agg [.d (.str z.Print),.d (.sl (z.Cells.map eU8)),.d (.int .u8 z.Left),.d (.int .u8 z.Right),.d (.int .i64 z.From),.d (.int .i64 z.To)]):=by
 exact fO 14 (JeT b c a) Try.func36<|sr<|ck 2<|en<|sr<|ck 8<|en<|re (by cases H;exact pr rd)
end
def JeU:St:=⟨[],[]⟩
theorem OZ {z} (H:M8 n=some z):A0 Try.prog 34 [] (.own 6 (z.map AH)):=by
 exact fO 16 JeU Try.func34<|sr<|ck 1<|en<|sr<|ck 3<|en<|sr<|sF<|ck 1<|bx H λ e a H=>ca false (AR a)<|sF<|ck 1<|bx H λ f b H=>ca false (AR b)<|sF<|ck 1<|bx H λ g c H=>ca false (AR c)<|sF<|ck 1<|bx H λ h d H=>ca false (AR d)<|ck 2<|en<|re (by cases H;exact pr<|rO (v:=.osl 1 6 0<|List.length [e,f,g,h]) [1]<|ao vo)
section
variable (b:Int) (c:Int) (a:(Ek Int))
def JeV:St:=⟨(0,.d<|.int .u8 b)::(1,.d<|.int .i64 c)::(2,.agg [.d<|.int .i64 a.a0,.d<|.int .i64 a.a1])::[],[]⟩
variable {b c a}
theorem Fu {z} (H:FC n b c a=some z):A0 Try.prog 35 [.d (.int .u8 b),.d (.int .i64 c),.agg [.d (.int .i64 a.a0),.d (.int .i64 a.a1)]] (.agg [.d (.str z.Print),.d (.sl (z.Cells.map eU8)),.d (.int .u8 z.Left),.d (.int .u8 z.Right),.d (.int .i64 z.From),.d (.int .i64 z.To)]):=by
 exact fO 16 (JeV b c a) Try.func35<|sr<|ck 2<|en<|sr<|ck 1<|sF<|ck 1<|bx H λ g e H=>ca false (AR e)<|ck 2<|en<|sr<|ck 1<|bx H λ h f H=>so (LK f)<|ck 2<|en<|sr<|ck 2<|en<|re (by cases H;exact pr rd)
end
section
variable (b:Int) (c:(List AF))
def JeW:St:=⟨(0,.d<|.int .u8 b)::[],[]⟩
def JeX:St:=⟨(2,.ptr 0 0)::(3,.osl 1 6 0<|c.length)::[],[some<|.box [.d<|.int .i64 0,.d<|.int .u8 0,.osl 2 6 0<|List.length ([]:List AF)],some<|.arr 6<|c.map AH,some<|.arr 6<|List.map AH ([]:List AF)]⟩
variable {b c}
theorem Na {z} (H:HK n b=some z):A0 Try.prog 21 [.d (.int .u8 b)] (.agg [.d (.int .i64 z.Modes),.d (.int .u8 z.Accept),.own 6 (z.Rules.map AH)]):=by
 refine fO 121 (JeW b) Try.func21<|sr<|ck 1<|en<|sr<|bx H λ e f H=>cl [List.length e] (OZ f)<|ck 13<|en<|sj (λ (x:(List AF))=>JeX x) (λ (x:(List AF))=>EK n x) z ?_ (λ a=>?_)
 ·intro c H;exact sr<|ck 3<|en<|re (by cases H;exact pr<|rO (v:=.agg [.d<|.int .i64 1,.d<|.int .u8 1,.osl 1 6 0<|c.length]) [1]<|a1<|c1 vd<|c1 vd<|c1 vo<|c0)
 refine sr<|ck 2<|en<|bk 0<|sr<|ck 2<|en<|cn H (λ H=>?_)<|λ H=>?_
 ·exact sr<|ck 2<|bx H λ W g H=>ca false (Fu g)<|sF<|ck 1<|bx H λ X h H=>ca false (AR h)<|sF<|ck 1<|bx H λ Y i H=>ca false (AR i)<|sF<|ck 1<|bx H λ Z j H=>ca false (AR j)<|ck 1<|bx H λ P k H=>sp (BC AH 1 6 k)<|ck 1<|en<|sr<|ck 3<|en<|re<|qR<|qr (by cases H;exact pr<|rO (v:=.agg [.d<|.int .i64 2,.d<|.int .u8 3,.osl 7 6 0<|P.length]) [7]<|a1<|c1 vd<|c1 vd<|c1 vo<|c0)
 ·refine sr<|ck 2<|en<|cn H (λ H=>?_)<|λ H=>?_
  ·exact sr<|ck 2<|bx H λ aa l H=>ca false (Fu l)<|sF<|ck 1<|bx H λ ab m H=>ca false (AR m)<|sF<|ck 1<|bx H λ ac o H=>ca false (AR o)<|ck 1<|bx H λ Q p H=>sp (BC AH 1 6 p)<|ck 1<|en<|sr<|ck 3<|en<|re<|qR<|qr (by cases H;exact pr<|rO (v:=.agg [.d<|.int .i64 2,.d<|.int .u8 1,.osl 7 6 0<|Q.length]) [7]<|a1<|c1 vd<|c1 vd<|c1 vo<|c0)
  ·refine sr<|ck 2<|en<|cn H (λ H=>?_)<|λ H=>?_
   ·exact rz<|ck 1<|sF<|ck 1<|bx H λ af q H=>ca false (AR q)<|sF<|ck 1<|bx H λ ag r H=>ca false (AR r)<|sF<|ck 1<|bx H λ ah s H=>ca false (AR s)<|ck 1<|bx H λ R t H=>sp (BC AH 1 6 t)<|ck 1<|ae<|qN<|qs (tr (D1 0 2 6 (by kernel_rfl))<|sg [2,3])<|a R H
   ·refine sr<|ck 2<|en<|cn H (λ H=>?_)<|λ H=>?_
    ·exact rz<|ck 1<|sF<|ck 1<|bx H λ ai u H=>ca false (AR u)<|ck 1<|bx H λ S w H=>sp (BC AH 1 6 w)<|ck 1<|ae<|qN<|qs (tr (D1 0 2 6 (by kernel_rfl))<|sg [2,3])<|a S H
    ·refine sr<|ck 2<|en<|cn H (λ H=>?_)<|λ H=>?_
     ·exact sr<|sF<|ck 1<|bx H λ aj y H=>ca false (AR y)<|sF<|ck 1<|bx H λ ak A H=>ca false (AR A)<|ck 4<|en<|sr<|ck 4<|en<|rz<|ck 3<|sF<|ck 1<|bx H λ al B H=>ca false (AR B)<|ck 1<|bx H λ T C H=>sp (BC AH 1 6 C)<|ck 1<|ae<|qN<|qs (tr (D1 0 2 6 (by kernel_rfl))<|sg [2,3])<|a T H
     ·refine sr<|ck 2<|en<|cn H (λ H=>?_)<|λ H=>?_
      ·exact sr<|ck 2<|bx H λ am E H=>ca false (Fu E)<|sF<|ck 1<|bx H λ ap G H=>ca false (AR G)<|sF<|ck 1<|bx H λ ar I H=>ca false (AR I)<|ck 1<|bx H λ U J H=>sp (BC AH 1 6 J)<|ck 1<|en<|sr<|ck 3<|en<|re<|qR<|qr (by cases H;exact pr<|rO (v:=.agg [.d<|.int .i64 2,.d<|.int .u8 1,.osl 7 6 0<|U.length]) [7]<|a1<|c1 vd<|c1 vd<|c1 vo<|c0)
      ·refine sr<|ck 2<|en<|cn H (λ H=>?_)<|λ H=>?_
       ·exact rz<|ck 1<|sF<|ck 1<|bx H λ au K H=>ca false (AR K)<|sF<|ck 1<|bx H λ av L H=>ca false (AR L)<|sF<|ck 1<|bx H λ aw M H=>ca false (AR M)<|ck 1<|bx H λ V O H=>sp (BC AH 1 6 O)<|ck 1<|ae<|qN<|qs (tr (D1 0 2 6 (by kernel_rfl))<|sg [2,3])<|a V H
       ·exact sk<|qN<|qs (tr (D1 0 2 6 (by kernel_rfl))<|sg [2,3])<|a e H
end
section
variable (a:Ab)
def JeY:St:=⟨(0,.agg [.d<|.int .i64 a.Modes,.d<|.int .u8 a.Accept,.d<|.sl<|a.Rules.map AH])::[],[]⟩
variable {a}
theorem IR {z} (H:Im n a=some z):A0 Try.prog 13 [.agg (Bt a)] (.d (.bool z)):=by
 exact fO 12 (JeY a) Try.func13<|sr<|ck 2<|en<|sr<|ck 1<|bx H λ c b H=>ca false (CQ b)<|ck 6<|en<|sr<|ck 3<|en<|re (by cases H;exact pr rd)
end
def JgM:St:=⟨[],[]⟩
theorem Pz {z} (H:GN n=some z):A0 Try.prog 8 [] (.d (.bool z)):=by
 exact fO 152 JgM Try.func8<|sr<|ck 1<|en<|sr<|ck 4<|en<|sr<|ck 2<|en<|sq<|rg (tr (fz (enc:=eU8) (xs:=[1]) 1 0 1)<|fz (enc:=eU8) (xs:=[3]) 2 1 1)<|sF<|ck 2<|sF<|bx H λ T m H=>ca false (EL m)<|bx H λ a o H=>ca false (CQ o)<|ck 6<|en<|sq<|rg (fz (enc:=eU8) (xs:=[1,3]) 3 2 1)<|sF<|ck 3<|sF<|bx H λ U p H=>ca false (EL p)<|bx H λ b q H=>ca false (CQ q)<|ck 6<|en<|sr<|sF<|ck 2<|sF<|bx H λ V r H=>ca false (EL r)<|bx H λ g s H=>ca false (CQ s)<|ck 6<|en<|sr<|sF<|ck 3<|sF<|bx H λ W t H=>ca false (EL t)<|bx H λ c u H=>ca false (CQ u)<|ck 6<|en<|sr<|sF<|ck 2<|sF<|ck 1<|sF<|bx H λ X v H=>ca false (EL v)<|bx H λ e w H=>ca false (CQ w)<|ck 6<|en<|sr<|ck 1<|bx H λ i x H=>ca false (CQ x)<|ck 6<|en<|sr<|ck 4<|gc 1 (a.2==0)<|pA<|ck 3<|gc 1 ((a.2==0)&&(b.2==50))<|bx H λ f y H=>cG false (leZ) rfl (λ hg=>JN<|DA y hg) (Or.inl rfl) (C0 (λ hh=>hh)<|C0 (λ hh=>hh)<|EW) rfl<|pA<|ck 2<|gc 1 (((a.2==0)&&(b.2==50))&&f)<|pA<|ck 3<|gc 1 ((((a.2==0)&&(b.2==50))&&f)&&(g.2==50))<|bx H λ j A H=>cG false (leZ) rfl (λ hg=>JN<|DA A hg) (Or.inl rfl) (C0 (λ hh=>hh)<|C0 (λ hh=>hh)<|EW) rfl<|pA<|ck 1<|en<|sr<|ck 4<|gc 1 (c.2==0)<|pA<|ck 3<|gc 1 ((c.2==0)&&(e.2==50))<|bx H λ h B H=>cG false (leZ) rfl (λ hg=>JN<|DA B hg) (Or.inl rfl) (C0 (λ hh=>hh)<|C0 (λ hh=>hh)<|EW) rfl<|pA<|ck 2<|gc 1 (((c.2==0)&&(e.2==50))&&h)<|pA<|ck 1<|en<|sr<|sF<|ck 2<|sF<|bx H λ Y C H=>ca false (EL C)<|ck 2<|en<|sr<|ck 3<|pA<|ck 3<|gc 1 ((((((a.2==0)&&(b.2==50))&&f)&&(g.2==50))&&j)&&((((c.2==0)&&(e.2==50))&&h)&&(i.2==20)))<|bx H λ k E H=>cG (ks:=[10]) (obl:=[(0+List.length [1,1],List.length<|List.map eU8 [1,1])]) false (leK leM<|leZ) (Jp rfl<|Jp (JfQ<|Jp X0<|Jp rfl<|Jp rfl rfl) rfl) (λ hg=>Hu<|DA E hg) (Or.inr trivial) (C0 (λ hh=>hh)<|C0 (λ hh=>hh)<|EW) rfl<|pA<|ck 3<|gc 1 (((((((a.2==0)&&(b.2==50))&&f)&&(g.2==50))&&j)&&((((c.2==0)&&(e.2==50))&&h)&&(i.2==20)))&&k)<|bx H λ l G H=>cG false (leZ) rfl (λ hg=>Hu<|DA G hg) (Or.inl rfl) (C0 (λ hh=>hh)<|C0 (λ hh=>hh)<|EW) rfl<|gc 1 (((((((a.2==0)&&(b.2==50))&&f)&&(g.2==50))&&j)&&((((c.2==0)&&(e.2==50))&&h)&&(i.2==20)))&&k)<|pA<|ck 3<|gc 1 ((((((((a.2==0)&&(b.2==50))&&f)&&(g.2==50))&&j)&&((((c.2==0)&&(e.2==50))&&h)&&(i.2==20)))&&k)&&(!l))<|bx H λ I J H=>cG false (leZ) rfl (λ hg=>Hu<|DA J hg) (Or.inl rfl) (C0 (λ hh=>hh)<|C0 (λ hh=>hh)<|EW) rfl<|gc 1 ((((((((a.2==0)&&(b.2==50))&&f)&&(g.2==50))&&j)&&((((c.2==0)&&(e.2==50))&&h)&&(i.2==20)))&&k)&&(!l))<|pA<|ck 1<|bx H λ Q K H=>cG false (leZ) rfl (λ hg=>Na<|DA K hg) (Or.inl rfl) (EW) rfl<|bx H λ L M H=>cG false (leZ) rfl (λ hg=>IR<|DA M hg) (Or.inl rfl) (C0 (λ hh=>hh)<|EW) rfl<|pA<|ck 1<|bx H λ R O H=>cG false (leZ) rfl (λ hg=>Na<|DA O hg) (Or.inl rfl) (EW) rfl<|bx H λ S P H=>cG false (leZ) rfl (λ hg=>IR<|DA P hg) (Or.inl rfl) (C0 (λ hh=>hh)<|EW) rfl<|gc 1 ((((((((((a.2==0)&&(b.2==50))&&f)&&(g.2==50))&&j)&&((((c.2==0)&&(e.2==50))&&h)&&(i.2==20)))&&k)&&(!l))&&(!I))&&L)<|pA<|ck 1<|en<|re (by cases H;exact pr rd)
section
variable (a:Int)
def JeZ:St:=⟨(0,.d<|.int .u8 a)::[],[]⟩
variable {a}
theorem MB {z} (H:Ho n a=some z):A0 Try.prog 81 [.d (.int .u8 a)] (.d (.bool z)):=by
 exact fO 11 (JeZ a) Try.func81<|sr<|ck 1<|en<|sr<|ck 5<|gc 2 (decide<|Dp .u8 a 127>=32)<|pA<|ck 1<|en<|re (by cases H;exact pr rd)
end
section
variable (a:(List UInt8)) (c:Int)
def Je0:St:=⟨(0,.d<|.str a)::[],[]⟩
def Je1:St:=⟨(0,.d<|.str a)::(4,.d<|.int .i64 c)::[],[]⟩
def Je2:St:=⟨(0,.d<|.str a)::[],[]⟩
def PA:(Unit⊕(Int×Int))->Ex->St->Prop:=xS (xX 0 0<|λ (_:Unit)=>Je2 a)<|xR ty Try.f78<|λ (y:(Int×Int))=>.tup [.d<|.int .i64 y.1,.d<|.int .i64 y.2]
def KT:Int->St:=(λ (x:Int)=>Je1 a x)
variable {a c}
theorem JO (x:Int) (z:(Int⊕(Unit⊕(Int×Int)))) (H:He n a x=some z):WP (cxk 19 0) (A1 Try.f78) [1,0,1,0,0] (AX 0 (KT a) (PA a) z) (KT a x):=by
 revert H;generalize x=c;intro H;refine sq<|sr<|ck 4<|en<|cn H (λ H=>?_)<|λ H=>?_
 ·refine sk<|qz<|sq<|bk 1<|sr<|ck 2<|bx H λ m e H=>sp (Gn e)<|bx H λ j f H=>ca false (MB f)<|ck 1<|en<|cn H (λ H=>?_)<|λ H=>?_
  ·exact sr<|ck 3<|en<|re<|qR<|qr (by cases H;exact ro rfl rdT)
  ·exact sk<|qN<|qz<|rz<|ck 3<|ae (by cases H;exact og<|sg [0,4])
 ·exact ex 0<|qx (by cases H;exact xo rfl<|sg [0])
theorem SZ {z} (H:LQ n a=some z):A0 Try.prog 78 [.d (.str a)] (.tup [.d (.int .i64 z.1),.d (.int .i64 z.2)]):=by
 refine fO 19 (Je0 a) Try.func78<|sr<|ck 2<|en<|sq<|sr<|ck 1<|en<|bk 0<|bx H λ i b H=>?_;rcases i with k|l
 ·exact lX JO b (sg [0,4]) rfl λ s g=>qH<|qs (g)<|sr<|ck 4<|en<|re (by cases H;exact pr rdT)
 ·exact lR JO b (sg [0,4]) rfl λ s h=>qR<|qr (by cases H;exact pr h)
end
section
variable (a:(List UInt8))
def Je3:St:=⟨(0,.d<|.str a)::[],[]⟩
variable {a}
theorem PB {z} (H:In n a=some z):A0 Try.prog 69 [.d (.str a)] (.d (.bool z)):=by
 exact fO 12 (Je3 a) Try.func69<|sr<|ck 1<|en<|sr<|ck 1<|bx H λ c b H=>ca false (SZ b)<|ck 5<|en<|sr<|ck 3<|en<|re (by cases H;exact pr rd)
end
section
variable (a:Int)
def Je4:St:=⟨(0,.d<|.int .u8 a)::[],[]⟩
variable {a}
theorem Rl {z} (H:Ms n a=some z):A0 Try.prog 70 [.d (.int .u8 a)] (.d (.bool z)):=by
 exact fO 6 (Je4 a) Try.func70<|sr<|ck 1<|en<|sr<|ck 4<|en<|re (by cases H;exact pr rd)
end
section
variable (a:AF) (h:Int) (c:Bool) (l:Int) (i:Bool) (f:Bool) (b:Bool) (m:Int) (j:Bool)
def Je5:St:=⟨(0,.agg [.d<|.str a.Print,.d<|.sl<|a.Cells.map eU8,.d<|.int .u8 a.Left,.d<|.int .u8 a.Right,.d<|.int .i64 a.From,.d<|.int .i64 a.To])::(1,.d<|.int .i64 h)::[],[]⟩
def Je6:St:=⟨(2,.ptr 0 0)::(5,.d<|.bool c)::(6,.d<|.bool false)::(7,.d<|.int .i64 l)::[],[some<|.box<|HM a]⟩
def Je7:St:=⟨(2,.ptr 0 0)::(5,.d<|.bool i)::(6,.d<|.bool false)::[],[some<|.box<|HM a]⟩
def O2:Bool->Ex->St->Prop:=xX 0 0<|λ (y:Bool)=>Je7 a y
def JP:(Bool×Int)->St:=(λ (x:(Bool×Int))=>Je6 a x.1 x.2)
def Je8:St:=⟨(2,.ptr 0 0)::(5,.d<|.bool f)::(6,.d<|.bool b)::(8,.d<|.int .i64 m)::[],[some<|.box<|HM a]⟩
def Je9:St:=⟨(2,.ptr 0 0)::(5,.d<|.bool f)::(6,.d<|.bool j)::[],[some<|.box<|HM a]⟩
def O3:(Bool⊕Bool)->Ex->St->Prop:=xS (xX 0 2<|λ (y:Bool)=>Je9 a f y)<|xR ty Try.f52<|λ (y:Bool)=>.d<|.bool y
def JR:(Bool×Int)->St:=(λ (x:(Bool×Int))=>Je8 a f x.1 x.2)
variable {a h c l i f b m j}
theorem Nr (x:(Bool×Int)) (z:((Bool×Int)⊕Bool)) (H:D6 n a x.1 x.2=some z):WP (cxk 125 0) (A1 Try.f52) [1,1,1,1,0,1,0,0] (AX 0 (JP a) (O2 a) z) (JP a x):=by
 obtain⟨c,l⟩:=x;refine sq<|sr<|ck 5<|en<|cn H (λ H=>?_)<|λ H=>?_
 ·exact sk<|qz<|sq<|bk 1<|rz<|ck 3<|gc 1 (!c)<|ck 1<|bx H λ E o H=>sE (λ hg=>Gn<|DA o hg)<|bx H λ C p H=>cG false (leZ) rfl (λ hg=>Rl<|DA p hg) (Or.inl rfl) (C0 (λ hh=>hh)<|EW) rfl<|pO<|ck 1<|ae<|qN<|qz<|rz<|ck 3<|ae (by cases H;exact og<|sg [2,5,6,7])
 ·exact ex 0<|qx (by cases H;exact xo rfl<|sg [2,5,6])
theorem IS (x:(Bool×Int)) (z:((Bool×Int)⊕(Bool⊕Bool))) (H:Dh n a f x.1 x.2=some z):WP (cxk 125 0) (A1 Try.f52) [1,1,1,1,1,0,1,0,0] (AX 0 (JR a f) (O3 a f) z) (JR a f x):=by
 obtain⟨b,m⟩:=x;refine sq<|sr<|ck 3<|sp (AT eU8 a.Cells)<|ck 1<|en<|cn H (λ H=>?_)<|λ H=>?_
 ·refine sk<|qz<|sq<|bk 3<|sq<|sr<|ck 3<|bx H λ G q H=>sp (AM eU8 q)<|ck 2<|en<|cn H (λ H=>?_)<|λ H=>?_
  ·exact sr<|ck 1<|en<|re<|qr<|qR<|qr (by cases H;exact ro rfl rd)
  ·exact sk<|qz<|rz<|ck 3<|gc 1 (!b)<|ck 1<|bx H λ I r H=>sE (λ hg=>AM eU8<|DA r hg)<|gc 2 (!b)<|pO<|ck 1<|ae<|qN<|qz<|rz<|ck 3<|ae (by cases H;exact og<|sg [2,5,6,8])
 ·exact ex 2<|qx (by cases H;exact xo rfl<|sg [2,5,6])
theorem Rm {z} (H:Kk n a h=some z):A0 Try.prog 52 [.agg (HM a),.d (.int .i64 h)] (.d (.bool z)):=by
 refine fO 125 (Je5 a h) Try.func52<|sr<|ck 2<|en<|sq<|sr<|ck 2<|bx H λ e t H=>ca false (PB t)<|ck 3<|gc 3 (!(!e))<|pO<|ck 2<|gc 1 (!((!e)||(decide<|((a.Print.length:Nat):Int)>4)))<|sE (g:=(!((!e)||(decide<|((a.Print.length:Nat):Int)>4)))) (λ hg=>AT eU8 a.Cells)<|gc 1 (!((!e)||(decide<|((a.Print.length:Nat):Int)>4)))<|pO<|ck 2<|gc 1 (!(((!e)||(decide<|((a.Print.length:Nat):Int)>4))||(decide<|((a.Cells.length:Nat):Int)<1)))<|sE (g:=(!(((!e)||(decide<|((a.Print.length:Nat):Int)>4))||(decide<|((a.Cells.length:Nat):Int)<1)))) (λ hg=>AT eU8 a.Cells)<|gc 1 (!(((!e)||(decide<|((a.Print.length:Nat):Int)>4))||(decide<|((a.Cells.length:Nat):Int)<1)))<|pO<|en<|cn H (λ H=>?_)<|λ H=>?_
 ·exact sr<|ck 1<|en<|re<|qr (by cases H;exact pr rd)
 ·refine sk<|qz<|sq<|sr<|ck 5<|gc 2 (!(decide<|a.Left<1))<|pO<|ck 2<|gc 2 (!((decide<|a.Left<1)||(decide<|a.Left>63)))<|pO<|ck 2<|gc 2 (!(((decide<|a.Left<1)||(decide<|a.Left>63))||(decide<|a.Right<1)))<|pO<|ck 2<|gc 2 (!((((decide<|a.Left<1)||(decide<|a.Left>63))||(decide<|a.Right<1))||(decide<|a.Right>63)))<|pO<|ck 2<|gc 1 (!(((((decide<|a.Left<1)||(decide<|a.Left>63))||(decide<|a.Right<1))||(decide<|a.Right>63))||(decide<|a.From<0)))<|ck 1<|gc 1 (!(((((decide<|a.Left<1)||(decide<|a.Left>63))||(decide<|a.Right<1))||(decide<|a.Right>63))||(decide<|a.From<0)))<|pO<|ck 2<|gc 2 (!((((((decide<|a.Left<1)||(decide<|a.Left>63))||(decide<|a.Right<1))||(decide<|a.Right>63))||(decide<|a.From<0))||(decide<|a.From>=h)))<|pO<|ck 2<|gc 1 (!(((((((decide<|a.Left<1)||(decide<|a.Left>63))||(decide<|a.Right<1))||(decide<|a.Right>63))||(decide<|a.From<0))||(decide<|a.From>=h))||(decide<|a.To<0)))<|ck 1<|gc 1 (!(((((((decide<|a.Left<1)||(decide<|a.Left>63))||(decide<|a.Right<1))||(decide<|a.Right>63))||(decide<|a.From<0))||(decide<|a.From>=h))||(decide<|a.To<0)))<|pO<|en<|cn H (λ H=>?_)<|λ H=>?_
  ·exact sr<|ck 1<|en<|re<|qr (by cases H;exact pr rd)
  ·refine sk<|qz<|sr<|ck 2<|en<|sq<|sr<|ck 1<|en<|bk 0<|bx H λ f u H=>lX Nr u (sg [2,5,6,7]) rfl λ s v=>qH<|qs (v)<|sq<|sr<|ck 1<|en<|bk 2<|bx H λ B k H=>?_;rcases B with J|K
   ·refine lX IS k (sg [2,5,6,8]) rfl λ s w=>qH<|qs (w)<|sq<|sr<|ck 2<|en<|cn H (λ H=>?_)<|λ H=>?_
    ·exact sr<|ck 3<|en<|re<|qr (by cases H;exact pr rd)
    ·exact sk<|qz<|sr<|ck 6<|gc 1 (((a.Print.length:Nat):Int)==1)<|sE (g:=(((a.Print.length:Nat):Int)==1)) (λ hg=>AT eU8 a.Cells)<|gc 1 (((a.Print.length:Nat):Int)==1)<|pA<|ck 2<|pA<|ck 1<|en<|re (by cases H;exact pr rd)
   ·exact lR IS k (sg [2,5,6,8]) rfl λ s A=>qR<|qr (by cases H;exact pr A)
end
section
variable (a:AF) (b:AF)
def Jfa:St:=⟨(0,.agg [.d<|.str a.Print,.d<|.sl<|a.Cells.map eU8,.d<|.int .u8 a.Left,.d<|.int .u8 a.Right,.d<|.int .i64 a.From,.d<|.int .i64 a.To])::(1,.agg [.d<|.str b.Print,.d<|.sl<|b.Cells.map eU8,.d<|.int .u8 b.Left,.d<|.int .u8 b.Right,.d<|.int .i64 b.From,.d<|.int .i64 b.To])::[],[]⟩
variable {a b}
theorem Ns {z} (H:Gu n a b=some z):A0 Try.prog 53 [.agg (HM a),.agg (HM b)] (.d (.bool z)):=by
 exact fO 45 (Jfa a b) Try.func53<|sr<|ck 3<|en<|sr<|ck 7<|gc 1 (a.Print==b.Print)<|ck 1<|gc 1 (a.Print==b.Print)<|bx H λ c e H=>cG false (leZ) rfl (λ hg=>D7<|DA e hg) (Or.inl rfl) (C0 (λ hh=>hh)<|C0 (λ hh=>hh)<|EW) rfl<|pA<|ck 2<|gc 1 ((a.Print==b.Print)&&c)<|ck 1<|gc 2 ((a.Print==b.Print)&&c)<|pA<|ck 2<|gc 1 (((a.Print==b.Print)&&c)&&(a.Left==b.Left))<|ck 1<|gc 2 (((a.Print==b.Print)&&c)&&(a.Left==b.Left))<|pA<|ck 2<|gc 1 ((((a.Print==b.Print)&&c)&&(a.Left==b.Left))&&(a.Right==b.Right))<|ck 1<|gc 2 ((((a.Print==b.Print)&&c)&&(a.Left==b.Left))&&(a.Right==b.Right))<|pA<|ck 2<|gc 1 (((((a.Print==b.Print)&&c)&&(a.Left==b.Left))&&(a.Right==b.Right))&&(a.From==b.From))<|ck 1<|gc 2 (((((a.Print==b.Print)&&c)&&(a.Left==b.Left))&&(a.Right==b.Right))&&(a.From==b.From))<|pA<|ck 1<|en<|re (by cases H;exact pr rd)
end
section
variable (a:Ab) (b:Int) (f:Int)
def Jfb:St:=⟨(0,.agg [.d<|.int .i64 a.Modes,.d<|.int .u8 a.Accept,.d<|.sl<|a.Rules.map AH])::[],[]⟩
def Jfc:St:=⟨(1,.ptr 0 0)::(4,.d<|.int .i64 b)::[],[some<|.box<|Bt a]⟩
def Jfd:St:=⟨[],[]⟩
def Jfe:St:=⟨(1,.ptr 0 0)::(4,.d<|.int .i64 b)::(5,.d<|.int .i64 f)::[],[some<|.box<|Bt a]⟩
def Jff:St:=⟨(1,.ptr 0 0)::(4,.d<|.int .i64 b)::[],[some<|.box<|Bt a]⟩
def O4:(Unit⊕(Int×Int))->Ex->St->Prop:=xS (xX 0 2<|λ (_:Unit)=>Jff a b)<|xR ty Try.f29<|λ (y:(Int×Int))=>.tup [.d<|.int .i64 y.1,.d<|.int .i64 y.2]
def JS:Int->St:=(λ (x:Int)=>Jfe a b x)
def O5:(Unit⊕(Int×Int))->Ex->St->Prop:=xS (xX 0 0<|λ (_:Unit)=>Jfd)<|xR ty Try.f29<|λ (y:(Int×Int))=>.tup [.d<|.int .i64 y.1,.d<|.int .i64 y.2]
def JT:Int->St:=(λ (x:Int)=>Jfc a x)
variable {a b f}
theorem IT (x:Int) (z:(Int⊕(Unit⊕(Int×Int)))) (H:E5 n a b x=some z):WP (cxk 74 0) (A1 Try.f29) [1,1,0,1,0,0,1,0,0,1,1,0,0] (AX 0 (JS a b) (O4 a b) z) (JS a b x):=by
 revert H;generalize x=f;intro H;refine sq<|sr<|ck 3<|en<|cn H (λ H=>?_)<|λ H=>?_
 ·refine sk<|qz<|sq<|bk 3<|sr<|ck 3<|bx H λ B h H=>sp (AM AH h)<|ck 4<|bx H λ C i H=>sp (AM AH i)<|ck 1<|bx H λ v j H=>ca false (Ns j)<|en<|cn H (λ H=>?_)<|λ H=>?_
  ·exact sr<|ck 3<|en<|re<|qR<|qr (by cases H;exact ro rfl rdT)
  ·exact sk<|qN<|qz<|rz<|ck 3<|ae (by cases H;exact og<|sg [1,4,5])
 ·exact ex 2<|qx (by cases H;exact xo rfl<|sg [1,4])
theorem IU (x:Int) (z:(Int⊕(Unit⊕(Int×Int)))) (H:E6 n a x=some z):WP (cxk 74 0) (A1 Try.f29) [1,1,0,1,0,0] (AX 0 (JT a) (O5) z) (JT a x):=by
 revert H;generalize x=b;intro H;refine sq<|sr<|ck 3<|sp (AT AH a.Rules)<|ck 1<|en<|cn H (λ H=>?_)<|λ H=>?_
 ·refine sk<|qz<|sq<|bk 1<|sq<|sr<|ck 3<|bx H λ E k H=>sp (AM AH k)<|ck 3<|bx H λ w l H=>ca false (Rm l)<|ck 1<|en<|cn H (λ H=>?_)<|λ H=>?_
  ·exact sr<|ck 3<|en<|re<|qr<|qR<|qr (by cases H;exact ro rfl rdT)
  ·refine sk<|qz<|sr<|ck 1<|en<|bk 2<|bx H λ t c H=>?_;rcases t with G|I
   ·exact lX IT c (sg [1,4,5]) rfl λ s m=>qH<|qN<|qs (m)<|rz<|ck 3<|ae (by cases H;exact og<|sg [1,4])
   ·exact lR IT c (sg [1,4,5]) rfl λ s o=>qR<|qR<|qr (by cases H;exact ro rfl o)
 ·exact ex 0<|qx (by cases H;exact xo rfl<|sg [])
theorem Ro {z} (H:Kl n a=some z):A0 Try.prog 29 [.agg (Bt a)] (.tup [.d (.int .i64 z.1),.d (.int .i64 z.2)]):=by
 refine fO 74 (Jfb a) Try.func29<|sr<|ck 3<|en<|sq<|sr<|ck 5<|gc 2 (!(decide<|a.Modes<1))<|pO<|ck 2<|gc 2 (!((decide<|a.Modes<1)||(decide<|a.Modes>8)))<|pO<|ck 2<|gc 2 (!(((decide<|a.Modes<1)||(decide<|a.Modes>8))||(a.Accept==0)))<|ck 1<|gc 1 (!(((decide<|a.Modes<1)||(decide<|a.Modes>8))||(a.Accept==0)))<|bx H λ A p H=>soG (λ hg=>LK<|DA p hg) (C0 (λ hh=>hh)<|EW)<|gc 1 (!(((decide<|a.Modes<1)||(decide<|a.Modes>8))||(a.Accept==0)))<|pO<|ck 2<|gc 1 (!((((decide<|a.Modes<1)||(decide<|a.Modes>8))||(a.Accept==0))||(decide<|IntKind.i64.wrap a.Accept>=Oo .i64 1 a.Modes)))<|sE (g:=(!((((decide<|a.Modes<1)||(decide<|a.Modes>8))||(a.Accept==0))||(decide<|IntKind.i64.wrap a.Accept>=Oo .i64 1 a.Modes)))) (λ hg=>AT AH a.Rules)<|gc 1 (!((((decide<|a.Modes<1)||(decide<|a.Modes>8))||(a.Accept==0))||(decide<|IntKind.i64.wrap a.Accept>=Oo .i64 1 a.Modes)))<|pO<|ck 2<|gc 1 (!(((((decide<|a.Modes<1)||(decide<|a.Modes>8))||(a.Accept==0))||(decide<|IntKind.i64.wrap a.Accept>=Oo .i64 1 a.Modes))||(decide<|((a.Rules.length:Nat):Int)<1)))<|sE (g:=(!(((((decide<|a.Modes<1)||(decide<|a.Modes>8))||(a.Accept==0))||(decide<|IntKind.i64.wrap a.Accept>=Oo .i64 1 a.Modes))||(decide<|((a.Rules.length:Nat):Int)<1)))) (λ hg=>AT AH a.Rules)<|gc 1 (!(((((decide<|a.Modes<1)||(decide<|a.Modes>8))||(a.Accept==0))||(decide<|IntKind.i64.wrap a.Accept>=Oo .i64 1 a.Modes))||(decide<|((a.Rules.length:Nat):Int)<1)))<|pO<|en<|cn H (λ H=>?_)<|λ H=>?_
 ·exact sr<|ck 2<|en<|re<|qr (by cases H;exact pr rdT)
 ·refine sk<|qz<|sq<|sr<|ck 1<|en<|bk 0<|bx H λ u e H=>?_;rcases u with J|K
  ·exact lX IU e (sg [1,4]) rfl λ s q=>qH<|qs (q)<|sr<|ck 2<|en<|re (by cases H;exact pr rdT)
  ·exact lR IU e (sg [1,4]) rfl λ s r=>qR<|qr (by cases H;exact pr r)
end
section
variable (a:Ab)
def Jfg:St:=⟨(0,.agg [.d<|.int .i64 a.Modes,.d<|.int .u8 a.Accept,.d<|.sl<|a.Rules.map AH])::[],[]⟩
variable {a}
theorem Rp {z} (H:Mt n a=some z):A0 Try.prog 15 [.agg (Bt a)] (.d (.bool z)):=by
 exact fO 12 (Jfg a) Try.func15<|sr<|ck 2<|en<|sr<|ck 1<|bx H λ c b H=>ca false (Ro b)<|ck 5<|en<|sr<|ck 3<|en<|re (by cases H;exact pr rd)
end
section
variable (b:(List Int)) (a:(List Int))
def Jfh:St:=⟨(0,.d<|.sl<|b.map eU8)::(1,.d<|.sl<|a.map eU8)::[],[]⟩
variable {b a}
theorem PC {z} (H:Io n b a=some z):A0 Try.prog 16 [.d (.sl (b.map eU8)),.d (.sl (a.map eU8))] (.d (.bool z)):=by
 exact fO 18 (Jfh b a) Try.func16<|sr<|ck 1<|en<|sr<|ck 1<|sp (AT eU8 b)<|ck 1<|sp (AT eU8 a)<|ck 4<|sE (g:=decide<|((b.length:Nat):Int)>=((a.length:Nat):Int)) (λ hg=>AT eU8 a)<|bx H λ h c H=>sE (λ hg=>Uc eU8 1<|DA c hg)<|ck 1<|bx H λ f e H=>cG false (leZ) rfl (λ hg=>D7<|DA e hg) (Or.inl rfl) (C0 (λ hh=>hh)<|C0 (λ hh=>hh)<|EW) rfl<|pA<|ck 1<|en<|re (by cases H;exact pr rd)
end
section
variable (q:(List (Ps Int))) (r:(List Int)) (e:Bool) (j:Ab) (p:Int) (J:Ab) (P:AF) (V:Int) (Q:AF) (f:Ab) (C:Bool) (E:Int) (k:Int) (K:Bool) (L:Int) (w:Bool) (o:Int) (A:Int) (M:Bool) (O:Int) (G:Bool) (I:Int) (t:AF) (B:AF) (u:Bool)
def JgN:St:=⟨(0,.d<|.sl<|q.map<|HL eU8)::(1,.d<|.sl<|r.map eU8)::[],[]⟩
def JgO:St:=⟨(0,.d<|.sl<|q.map<|HL eU8)::(1,.d<|.sl<|r.map eU8)::(5,.d<|.bool e)::(6,.ptr 0 0)::(7,.d<|.int .i64 p)::[],[some<|.box<|Du j<|.osl 1 6 0<|j.Rules.length,some<|.arr 6<|j.Rules.map AH]⟩
def JgP:St:=⟨(5,.d<|.bool e)::(6,.ptr 0 0)::[],[some<|.box<|Du J<|.osl 1 6 0<|J.Rules.length,some<|.arr 6<|J.Rules.map AH]⟩
def JgQ:St:=⟨(0,.d<|.sl<|q.map<|HL eU8)::(1,.d<|.sl<|r.map eU8)::(5,.d<|.bool e)::(6,.ptr 0 0)::(7,.d<|.int .i64 p)::(8,.ptr 1 0)::(9,.d<|.int .i64 V)::[],[some<|.box<|Du j<|.osl 2 6 0<|j.Rules.length,some<|.box<|Vf P<|.osl 3 1 0<|P.Cells.length,some<|.arr 6<|j.Rules.map AH,some<|.arr 1<|P.Cells.map eU8]⟩
def JgR:St:=⟨(0,.d<|.sl<|q.map<|HL eU8)::(1,.d<|.sl<|r.map eU8)::(5,.d<|.bool e)::(6,.ptr 0 0)::(7,.d<|.int .i64 p)::(8,.ptr 1 0)::[],[some<|.box<|Du j<|.osl 2 6 0<|j.Rules.length,some<|.box<|Vf Q<|.osl 3 1 0<|Q.Cells.length,some<|.arr 6<|j.Rules.map AH,some<|.arr 1<|Q.Cells.map eU8]⟩
def KB:AF->Ex->St->Prop:=xX 0 2<|λ (y:AF)=>JgR q r e j p y
def Gh:(AF×Int)->St:=(λ (x:(AF×Int))=>JgQ q r e j p x.1 x.2)
def KC:Ab->Ex->St->Prop:=xX 0 0<|λ (y:Ab)=>JgP e y
def Gi:(Ab×Int)->St:=(λ (x:(Ab×Int))=>JgO q r e x.1 x.2)
def JgS:St:=⟨(5,.d<|.bool e)::(6,.ptr 0 0)::(10,.d<|.bool C)::(11,.d<|.int .i64 E)::(12,.d<|.int .i64 k)::[],[some<|.box<|Du f<|.osl 1 6 0<|f.Rules.length,some<|.arr 6<|f.Rules.map AH]⟩
def JgT:St:=⟨(5,.d<|.bool e)::(6,.ptr 0 0)::(10,.d<|.bool K)::(11,.d<|.int .i64 L)::[],[some<|.box<|Du f<|.osl 1 6 0<|f.Rules.length,some<|.arr 6<|f.Rules.map AH]⟩
def JgU:St:=⟨(5,.d<|.bool e)::(6,.ptr 0 0)::(10,.d<|.bool w)::(11,.d<|.int .i64 o)::(12,.d<|.int .i64 k)::(13,.d<|.int .i64 A)::[],[some<|.box<|Du f<|.osl 1 6 0<|f.Rules.length,some<|.arr 6<|f.Rules.map AH]⟩
def JgV:St:=⟨(5,.d<|.bool e)::(6,.ptr 0 0)::(10,.d<|.bool M)::(11,.d<|.int .i64 O)::(12,.d<|.int .i64 k)::[],[some<|.box<|Du f<|.osl 1 6 0<|f.Rules.length,some<|.arr 6<|f.Rules.map AH]⟩
def Jfi:St:=⟨(5,.d<|.bool e)::(6,.ptr 0 0)::(10,.d<|.bool G)::(11,.d<|.int .i64 I)::(12,.d<|.int .i64 k)::(13,.d<|.int .i64 A)::[],[some<|.box<|Du f<|.osl 1 6 0<|f.Rules.length,some<|.arr 6<|f.Rules.map AH]⟩
def Jfj:St:=⟨(5,.d<|.bool e)::(6,.ptr 0 0)::(10,.d<|.bool u)::(11,.d<|.int .i64 o)::(12,.d<|.int .i64 k)::(13,.d<|.int .i64 A)::(14,.ptr 1 0)::(15,.ptr 2 0)::[],[some<|.box<|Du f<|.osl 3 6 0<|f.Rules.length,some<|.box<|HM t,some<|.box<|HM B,some<|.arr 6<|f.Rules.map AH]⟩
def KD:(Bool×Int)->Ex->St->Prop:=xX 0 6<|λ (y:(Bool×Int))=>JgV e f k y.1 y.2
def Gj:(Bool×Int×Int)->St:=(λ (x:(Bool×Int×Int))=>JgU e f k x.1 x.2.1 x.2.2)
def KE:(Bool×Int)->Ex->St->Prop:=xX 0 4<|λ (y:(Bool×Int))=>JgT e f y.1 y.2
def Gk:(Bool×Int×Int)->St:=(λ (x:(Bool×Int×Int))=>JgS e f x.1 x.2.1 x.2.2)
variable {q r e j p J P V Q f C E k K L w o A M O G I t B u}
theorem JU (x:(AF×Int)) (z:((AF×Int)⊕AF)) (H:Ck n q r e j p x.1 x.2=some z):WP (cxk 165 0) (A1 Try.f6) [1,1,1,0,1,0,0,1,0,0,1,0,1,0,0] (AX 0 (Gh q r e j p) (KB q r e j p) z) (Gh q r e j p x):=by
 obtain⟨P,V⟩:=x;refine sq<|sr<|ck 3<|bx H λ ay W H=>sp (AM (HL eU8) W)<|ck 6<|en<|cn H (λ H=>?_)<|λ H=>?_
 ·exact sk<|qz<|sq<|bk 3<|rz<|ck 5<|bx H λ R X H=>sp (AM (HL eU8) X)<|bx H λ az S H=>sp (Yu ((HL eU8) R) 0 3 1 S)<|sp (Jby (e1:=λ x=>.int .u8 x) ((HL eU8) R) 0 3 (ty 5) S)<|ck 3<|bx H λ a6 Y H=>sp (BC eU8 3 1 Y)<|ck 2<|ae<|qN<|qz<|rz<|ck 3<|ae (by cases H;exact og<|sg [0,1,5,6,7,8,9])
 ·exact ex 2<|qx (by cases H;exact xo rfl<|sg [0,1,5,6,7,8])
theorem JV (x:(Ab×Int)) (z:((Ab×Int)⊕Ab)) (H:CO n q r e x.1 x.2=some z):WP (cxk 165 0) (A1 Try.f6) [1,1,1,0,1,0,0] (AX 0 (Gi q r e) (KC e) z) (Gi q r e x):=by
 obtain⟨j,p⟩:=x;refine sq<|sr<|ck 2<|sp (AT (HL eU8) q)<|ck 4<|sE (g:=decide<|p<((q.length:Nat):Int)) (λ hg=>AT eU8 r)<|gc 1 (decide<|p<((q.length:Nat):Int))<|pA<|ck 2<|gc 1 ((decide<|p<((q.length:Nat):Int))&&(decide<|p<((r.length:Nat):Int)))<|pA<|en<|cn H (λ H=>?_)<|λ H=>?_
 ·exact sk<|qz<|sq<|bk 1<|sr<|ck 2<|bx H λ a0 Z H=>sp (AM eU8 Z)<|ck 4<|bx H λ a7 aa H=>xv (xok _ _) (g:=true) rfl (EW) 2 aa<|ck 3<|en<|sq<|sr<|ck 1<|en<|bk 2<|bx H λ ab ac H=>lX JU ac (tr (D1 3 1 1 (by kernel_rfl))<|sg [0,1,5,6,7,8,9]) rfl λ s af=>qH<|qs (af)<|rg (fzc (enc:=eU8) (xs:=ab.Cells) 1 1 3 1)<|ck 4<|bx H λ a8 ag H=>sp (BC AH 2 6 ag)<|ck 2<|ae<|qN<|qz<|rz<|ck 3<|ae (by cases H;exact og<|sg [0,1,5,6,7])
 ·exact ex 0<|qx (by cases H;exact xo rfl<|sg [5,6])
theorem JW (x:(Bool×Int×Int)) (z:((Bool×Int×Int)⊕(Bool×Int))) (H:Cl n e f k x.1 x.2.1 x.2.2=some z):WP (cxk 165 0) (A1 Try.f6) [1,1,1,1,1,1,0,1,0,0,1,0,0,1,0,0] (AX 0 (Gj e f k) (KD e f k) z) (Gj e f k x):=by
 obtain⟨w,o,A⟩:=x;refine sq<|sr<|ck 5<|en<|cn H (λ H=>?_)<|λ H=>?_
 ·refine sk<|qz<|sj (λ (x:(Bool×Int))=>Jfi e f k A x.1 x.2) (λ (x:(Bool×Int))=>DM n A x.1 x.2) z ?_ (λ l=>?_)
  ·rintro⟨G,I⟩ H;exact rz<|ck 3<|ae (by cases H;exact og<|sg [5,6,10,11,12,13])
  refine bk 7<|sr<|ck 3<|bx H λ t T H=>sp (Bo 1 6 T)<|sp (Ej AH 1 0 (ty 42) T)<|ck 3<|bx H λ B U H=>sp (Bo 1 6 U)<|sp (Ej AH 1 0 (ty 42) U)<|ck 4<|en<|sj (λ (x:Bool)=>Jfj e f k o A t B x) (λ (x:Bool)=>CP n o A t B x) z ?_ (λ m=>?_)
  ·intro u H;refine sr<|ck 7<|gc 1 (!(t.Print==B.Print))<|ck 1<|gc 1 (!(t.Print==B.Print))<|bx H λ a2 ah H=>cG false (leZ) rfl (λ hg=>D7<|DA ah hg) (Or.inl rfl) (C0 (λ hh=>hh)<|C0 (λ hh=>hh)<|EW) rfl<|pA<|en<|cn H (λ H=>?_)<|λ H=>?_
   ·exact rz<|ck 3<|sp (AT eU8 t.Cells)<|ck 2<|ae<|qN<|qs (sg [5,6,10,11,12,13])<|l (u,(if((t.Cells.length:Nat):Int)<o then((t.Cells.length:Nat):Int)else o)) H
   ·exact sk<|qN<|qs (sg [5,6,10,11,12,13])<|l (u,o) H
  refine sr<|ck 5<|gc 1 (k != A)<|ck 1<|gc 1 (k != A)<|bx H λ a3 ai H=>cG false (leZ) rfl (λ hg=>PC<|DA ai hg) (Or.inl rfl) (C0 (λ hh=>hh)<|C0 (λ hh=>hh)<|EW) rfl<|pA<|en<|cn H (λ H=>?_)<|λ H=>?_
  ·exact rz<|ck 1<|ae<|qs (sg [5,6,10,11,12,13,14,15])<|m false H
  ·exact sk<|qs (sg [5,6,10,11,12,13,14,15])<|m w H
 ·exact ex 6<|qx (by cases H;exact xo rfl<|sg [5,6,10,11,12])
theorem JX (x:(Bool×Int×Int)) (z:((Bool×Int×Int)⊕(Bool×Int))) (H:Cm n e f x.1 x.2.1 x.2.2=some z):WP (cxk 165 0) (A1 Try.f6) [1,1,1,1,1,1,0,1,0,0] (AX 0 (Gk e f) (KE e f) z) (Gk e f x):=by
 obtain⟨C,E,k⟩:=x;refine sq<|sr<|ck 5<|en<|cn H (λ H=>?_)<|λ H=>?_
 ·exact sk<|qz<|sq<|bk 5<|sr<|ck 1<|en<|bk 6<|bx H λ a4 aj H=>lX JW aj (sg [5,6,10,11,12,13]) rfl λ s ak=>qH<|qN<|qs (ak)<|rz<|ck 3<|ae (by cases H;exact og<|sg [5,6,10,11,12])
 ·exact ex 4<|qx (by cases H;exact xo rfl<|sg [5,6,10,11])
theorem LZ {z} (H:E7 n q r=some z):A0 Try.prog 6 [.d (.sl (q.map (HL eU8))),.d (.sl (r.map eU8))] (.d (.bool z)):=by
 refine fO 165 (JgN q r) Try.func6<|sr<|ck 1<|en<|sr<|bx H λ e al H=>ca true (Pz al)<|ck 1<|en<|sr<|ck 3<|en<|sq<|sr<|ck 1<|en<|bk 0<|bx H λ f am H=>lX JV am (tr (D1 0 2 6 (by kernel_rfl))<|sg [0,1,5,6,7]) rfl λ s ap=>qH<|qs (ap)<|sq<|sr<|ck 1<|bx H λ a5 ar H=>cb (ks:=[1]) (obl:=[(0+List.length f.Rules,List.length<|f.Rules.map AH)]) false (leK leM<|leZ) (Jp (JfQ<|Jp rfl<|Jp rfl<|Jp X0 rfl) rfl) (Rp ar) (Or.inr trivial) rfl<|ck 1<|en<|cn H (λ H=>?_)<|λ H=>?_
 ·exact sr<|ck 2<|en<|re<|qr (by cases H;exact pr rd)
 ·refine sk<|qz<|sr<|ck 2<|en<|sq<|sr<|ck 1<|en<|bk 4<|bx H λ h au H=>lX JX au (sg [5,6,10,11,12]) rfl λ s av=>qH<|qs (av)<|sq<|rg (fzc (enc:=AH) (xs:=f.Rules) 0 2 1 6)<|ck 1<|bx H λ i aw H=>ca false (CQ aw)<|ck 6<|en<|sq<|sr<|ck 3<|gc 1 h.1<|pA<|ck 2<|gc 2 (!(h.1&&(i.2 != 0)))<|ck 1<|gc 2 ((!(h.1&&(i.2 != 0)))&&(decide<|h.2<99))<|ck 1<|gc 1 (((!(h.1&&(i.2 != 0)))&&(decide<|h.2<99))&&!(i.2 != 50))<|sE (g:=(((!(h.1&&(i.2 != 0)))&&(decide<|h.2<99))&&!(i.2 != 50))) (λ hg=>AT eU8 i.1.Cells)<|ck 1<|gc 1 (((!(h.1&&(i.2 != 0)))&&(decide<|h.2<99))&&!(i.2 != 50))<|pG (g:=((!(h.1&&(i.2 != 0)))&&(decide<|h.2<99))) (v:=.d<|.bool<|(i.2 != 50)||(decide<|((i.1.Cells.length:Nat):Int)>h.2)) (λ hg=>Mp (c:=.gv ((!(h.1&&(i.2 != 0)))&&(decide<|h.2<99))<|.d<|.bool<|i.2 != 50) (a:=.d<|.bool true) (b:=.gv (((!(h.1&&(i.2 != 0)))&&(decide<|h.2<99))&&!(i.2 != 50))<|.d<|.bool<|decide<|((i.1.Cells.length:Nat):Int)>h.2) rfl rfl rfl ((λ hh=>hh) hg) trivial (λ ht=>by rw[(λ hh=>hh) hg,ht];rfl))<|pG (g:=(!(h.1&&(i.2 != 0)))) (v:=.d<|.bool<|(decide<|h.2<99)&&((i.2 != 50)||(decide<|((i.1.Cells.length:Nat):Int)>h.2))) (λ hg=>Mp (c:=.gv (!(h.1&&(i.2 != 0)))<|.d<|.bool<|decide<|h.2<99) (a:=.gv ((!(h.1&&(i.2 != 0)))&&(decide<|h.2<99))<|.d<|.bool<|(i.2 != 50)||(decide<|((i.1.Cells.length:Nat):Int)>h.2)) (b:=.d<|.bool false) rfl rfl rfl ((λ hh=>hh) hg) (λ ht=>by rw[(λ hh=>hh) hg,ht];rfl) trivial)<|pO<|en<|cn H (λ H=>?_)<|λ H=>?_
  ·exact sr<|ck 1<|en<|re<|qr (by cases H;exact pr rd)
  ·exact sk<|qz<|sr<|ck 4<|gc 1 (!(i.2==0))<|pO<|ck 2<|pA<|ck 1<|en<|re (by cases H;exact pr rd)
end
end Go.AI
end
section
namespace Go.AI
def CRd (F:Nat->Option Obj) (l:List D) (cs:List Value):Prop:=l.length=cs.length/\∀ (i:Nat) (y:D) (v:Value),l[i]?=some y->cs[i]?=some v->A8 F y v
def JY {α:Type} (P:Program) (t:TypeId) (enc:α->List D) (ok:α->Prop):Prop:=
 ∀ (H:Type) (e:TypeId×Value->H) (w:World) (base:Nat) (spare:Nat->Bool) (held:Bool) (fuel:Nat) (cs:List Value) (x:DataW H×List MemPlace),DataW.trod e P w base spare held fuel t cs=some x->∃ a:α,ok a/\CRd (λ b=>w.heap[b]?) (enc a) cs
theorem Rq {F:Nat->Option Obj} {y:D} {v:Value} (h:A8 F y v):CRd F [y] [v]:=by
 refine⟨rfl,λ i a b ha hb=>?_⟩;cases i with
 | zero=>simp at ha hb;subst ha;subst hb;exact h
 | succ i=>simp at ha
theorem Wy {P:Program} {t:TypeId} {k:IntKind} (ht:P.underlying t=some (.int k)):JY P t (λ n=>[.int k n]) (λ n=>(Lit.int k n).wf=true):=by
 intro H e w base spare held fuel cs x h;obtain⟨n,rfl,_,hw⟩:=DataW.trod_int ht h;exact⟨n,hw,Rq (.int k n)⟩
theorem S0 {α:Type} {Q:Nat->α->Prop}:∀ n,(∀ i,i<n->∃ a,Q i a)->∃ l:List α,l.length=n/\∀ i a,l[i]?=some a->Q i a:=by
 intro n;induction n with
 | zero=>intro _;exact⟨[],rfl,λ i a h=>by simp at h⟩
 | succ n ih=>
  intro h;obtain⟨l,hl,hq⟩:=ih λ i hi=>h i (by omega);obtain⟨a,ha⟩:=h n (by omega);refine⟨l++[a],by simp[hl],λ i b hb=>?_⟩;rcases Jil i l.length with hlt|hge
  ·rw[JiC hlt]at hb;exact hq i b hb
  ·rw[JiM hge]at hb;have:i-l.length=0:=by have:=Ae hb;simp at this;omega
   rw[this]at hb;simp at hb;subst hb;have:i=n:=by omega
   subst this;exact ha
theorem S1 {α β:Type} {f:α->Option β}:∀ {l:List α} {r:List β},l.mapM f=some r->r.length=l.length/\∀ (i:Nat) (a:α),l[i]?=some a->r[i]?=f a:=by
 intro l;induction l with
 | nil=>intro r h;simp at h;subst h;exact⟨rfl,λ i a h=>by simp at h⟩
 | cons a l ih=>
  intro r h;rw[List.mapM_cons]at h;simp only[Option.bind_eq_bind,Option.bind_eq_some_iff,Option.pure_def,JiE]at h;obtain⟨b,hb,r',hr',rfl⟩:=h;obtain⟨h1,h2⟩:=ih hr';refine⟨by simp[h1],λ i x hx=>?_⟩;cases i with
  | zero=>simp at hx;subst hx;simp[hb]
  | succ i=>simpa using h2 i x (by simpa using hx)
theorem Rr {α:Type} {P:Program} {t e:TypeId} {enc:α->List D} {ok:α->Prop} {sz:Nat} (ht:P.underlying t=some (.slice e)) (hsz:P.cellsOf e=sz) (h1:Nat.ble 1 sz=true) (hl:∀ a,(enc a).length=sz) (he:JY P e enc ok):JY P t (eL enc) (λ l=>l.length<=9223372036854775807/\∀ a∈l,ok a):=by
 intro H en w base spare held fuel cs x h;have h1:=JiJ h1;rcases DataW.trod_slice ht h with⟨rfl,_⟩|⟨a,len,cap,elems,rest,n,_,rfl,_,_,hcap,hmx,hel,hget,_,_⟩
 ·exact⟨[],⟨by simp,λ a h=>by simp at h⟩,Rq (.sl0 _ _)⟩
 ·rw[hsz]at hget;have hex:∀ i,i<len->∃ y:α,ok y/\∃ ci,w.cells? base (a.add (i*sz)) sz=some ci/\CRd (λ b=>w.heap[b]?) (enc y) ci:=λ i hi=>by
   have hg:=hget i hi;rw[Jiu (show i<elems.length by omega)]at hg;simp only[Option.bind_eq_some_iff]at hg;obtain⟨ci,hc,htr⟩:=hg;obtain⟨y,hy,hcr⟩:=he H en w base spare held n ci _ htr;exact⟨y,hy,ci,hc,hcr⟩
  obtain⟨l,hll,hq⟩:=S0 len hex;refine⟨l,⟨by unfold maxLen at hmx;omega,λ y hy=>?_⟩,Rq ?_⟩
  ·obtain⟨i,hi⟩:=List.mem_iff_getElem?.1 hy;exact(hq i y hi).1
  ·rcases Nat.eq_zero_or_pos len with h0|hpos
   ·have:l=[]:=List.length_eq_zero_iff.1 (by omega);subst this;subst h0;exact .sl0 _ _
   ·
    have hcell:∀ i y,l[i]?=some y->∀ j,j<sz->∃ v,w.cell? ((a.add (i*sz)).add j)=some v/\∀ d,(enc y)[j]?=some d->A8 (λ b=>w.heap[b]?) d v:=λ i y hy j hj=>by
     obtain⟨_,ci,hc,hcr⟩:=hq i y hy;unfold World.cells? at hc;split at hc
     ·obtain⟨g1,g2⟩:=S1 hc;have:=g2 j j (by simp[hj]);have hjc:j<ci.length:=by rw[g1];simpa using hj
      rw[Jiu hjc]at this;exact⟨ci[j],this.symm,λ d hd=>hcr.2 j d _ hd (Jiu hjc)⟩
     ·cases hc
    have h0:l[0]?=some l[0]:=Jiu (by omega);obtain⟨v0,hv0,_⟩:=hcell 0 _ h0 0 (by omega);have ha0:(a.add (0*sz)).add 0=a:=by simp[Addr.add]
    rw[ha0]at hv0;obtain⟨b,off,spot⟩:=a;unfold World.cell? at hv0;simp only at hv0;split at hv0
    ·rename_i c ty fr hblk;cases spot with
     | some s=>simp at hv0
     | none=>
      have hcell':∀ i y,l[i]?=some y->∀ j d,(enc y)[j]?=some d->∃ v,c[off+i*sz+j]?=some v/\A8 (λ b=>w.heap[b]?) d v:=λ i y hy j d hd=>by
       have hj:j<sz:=by rw[← hl y];exact Ae hd
       obtain⟨v,hv,hr⟩:=hcell i y hy j hj;rw[BG,BG,Jd hblk]at hv;exact⟨v,hv,hr d hd⟩
      have hlen:(l.map enc).length=len:=by simp[hll]
      have:=A8.sl (F:=λ b=>w.heap[b]?) (l.map enc) b off cap sz c ty fr (λ i j=>(c[off+i*sz+j]?).getD undef) hblk (λ e he=>by
        simp only[Jin]at he;obtain⟨y,_,rfl⟩:=he;exact hl y) (by omega) (λ i e hi j d hd=>by
        simp only[Jiy,Jix]at hi;obtain⟨y,hy,rfl⟩:=hi;obtain⟨v,hv,_⟩:=hcell' i y hy j d hd;simp only[hv,Jig]) (λ i e hi j d hd=>by
        simp only[Jiy,Jix]at hi;obtain⟨y,hy,rfl⟩:=hi;obtain⟨v,hv,hr⟩:=hcell' i y hy j d hd;simp only[hv,Jig];exact hr)
      rw[hlen]at this;exact this
    ·cases hv0
theorem Nb {α:Type} {P:Program} {t e:TypeId} {enc:α->List D} {ok:α->Prop} {sz:Nat} (ht:P.underlying t=some (.slice e)) (hsz:P.cellsOf e=sz) (h1:Nat.ble 1 sz=true) (hl:∀ a,(enc a).length=sz) (he:JY P e enc ok):JY P t (eL enc) (λ l=>∀ a∈l,ok a):=by
 intro H en w base spare held fuel cs x h;obtain⟨l,h1,h2⟩:=Rr ht hsz h1 hl he H en w base spare held fuel cs x h;exact⟨l,h1.2,h2⟩
theorem O6 {F:Nat->Option Obj} {l m:List D} {cs:List Value} {o n:Nat} (h:CRd F l ((cs.drop o).take n)) (hn:Nat.beq l.length n=true) (h':CRd F m (cs.drop (o+n))):CRd F (l++m) (cs.drop o):=by
 have hn:=JiB hn;have e:cs.drop o=(cs.drop o).take n++cs.drop (o+n):=by rw[← List.drop_drop,List.take_append_drop]
 rw[e];refine⟨by simp only[List.length_append,h.1,h'.1],λ i y v hy hv=>?_⟩;rcases Jil i l.length with hlt|hge
 ·rw[JiC hlt]at hy;rw[JiC (by rw[← h.1];exact hlt)]at hv;exact h.2 i y v hy hv
 ·rw[JiM hge]at hy;rw[JiM (by rw[← h.1];exact hge),← h.1]at hv;exact h'.2 _ y v hy hv
theorem JbE {F:Nat->Option Obj} {cs:List Value} {o:Nat} (h:cs.length<=o):CRd F [] (cs.drop o):=by
 rw[List.drop_eq_nil_of_le h];exact⟨rfl,λ i y v hy=>by simp at hy⟩
theorem Um {H:Type} {enc:TypeId×Value->H} {P:Program} {w:World} {base:Nat} {spare:Nat->Bool} {held:Bool} {fuel:Nat} {t e:TypeId} {n:Nat} {cs:List Value} {x:DataW H×List MemPlace} (ht:P.underlying t=some (.array n e)) (h:DataW.trod enc P w base spare held fuel t cs=some x) :
  ∃ m,cs.length=P.cellsOf t/\∀ i,i<n->∃ y,DataW.trod enc P w base spare held m e ((cs.drop (i*P.cellsOf e)).take (P.cellsOf e))=some y:=by
 cases fuel with
 | zero=>simp[DataW.trod]at h
 | succ m=>
  unfold DataW.trod at h;rw[ht]at h;split at h<;>simp_all;obtain⟨xs,hp,_⟩:=h.2;refine⟨m,λ i hi=>?_⟩;obtain⟨g1,g2⟩:=S1 hp;have:=g2 i i (by simp[hi]);have hlt:i<xs.length:=by rw[g1];simpa using hi
  rw[Jiu hlt]at this;exact⟨_,_,this.symm⟩
end Go.AI
end
section
namespace Go.AI
open Go.ChangeShapes Go.WideShapes Go.ChangeAt Go.RowKit
variable {P:Program} {H:Type} {en:TypeId×Value->H} {W W':World} {base:Nat} {spare:Nat->Bool} {held:Bool} {t e:TypeId} {v:Value} {d:DataW H} {ps:List MemPlace} {α:Type} {enc:α->List D} {ok:α->Prop}
theorem Vg {y:α->D} (hc:v.cells=#[v]) (hd:DataW.Trod en P W base spare held t v d ps) (hr:JY P t enc ok) (he:∀ a,enc a=[y a]):∃ a,ok a/\Ai (λ b=>W.heap[b]?) noR (.d (y a)) v:=by
 obtain⟨fuel,hf⟩:=hd;obtain⟨a,h1,h2,h3⟩:=hr H en W base spare held fuel _ _ hf;refine⟨a,h1,.d _ _ (h3 0 (y a) v (by rw[he];rfl) (by rw[hc];rfl))⟩
theorem Jfk {F:Nat->Option Obj} {ρ:Nat->Option Loc}:CR F ρ [] []:=⟨rfl,λ i a v h=>by simp at h⟩
theorem Vh {F:Nat->Option Obj} {ρ:Nat->Option Loc} {a:AV} {v:Value} {l:List AV} {vs:List Value} (h:Ai F ρ a v) (h':CR F ρ l vs):CR F ρ (a::l) (v::vs):=by
 refine⟨by simp[h'.1],λ i x u hx hu=>?_⟩;cases i with
 | zero=>simp at hx hu;subst hx;subst hu;exact h
 | succ i=>exact h'.2 i x u (by simpa using hx) (by simpa using hu)
theorem Jfl {w:World} {fuel:Nat} {cs:List Value} {m:Nat} (hg:∀ i,i<m->∃ y,DataW.trod en P w base spare held fuel e ((cs.drop (i*P.cellsOf e)).take (P.cellsOf e))=some y) (i:Nat) (hi:Nat.ble (i+1) m=true) (o n:Nat) (hn:P.cellsOf e=n) (ho:i*n=o) (hr:JY P e enc ok) :
  ∃ a,ok a/\CRd (λ b=>w.heap[b]?) (enc a) ((cs.drop o).take n):=by
 obtain⟨y,hy⟩:=hg i (JiJ hi);rw[hn,ho]at hy;exact hr H en w base spare held fuel _ _ hy
theorem ZB {f:FuncId} {args:List AV} {vs:Array Value} (hc:A0 P f args (.d (.bool true))) (hcr:CR (λ b=>W.heap[b]?) noR args vs.toList):Calls P f vs W λ e W'=>e=.returned (.bool true)/\(∀ before:List MemPlace,W.keptBut W' (·∈before))/\∀ b,b<W.heap.size->W'.heap[b]?=W.heap[b]? := by
 refine(hc.2 (λ b=>W.heap[b]?) W vs hcr λ b o h=>h).mono λ e W' h=>?_;obtain⟨v,F',ρ,rfl,hS,hr,hmu⟩:=h;have hv:v=.bool true:=by
  have:(BO true 0 (.d (.bool true))).1=.d (.bool true):=rfl;rw[this]at hr;exact hr.bool
 subst hv;have hold:∀ b,b<W.heap.size->W'.heap[b]?=W.heap[b]? := λ b hb=>hS.old b (by omega);refine⟨rfl,λ before=>World.keptBut_mono (λ p hp=>hp.elim) (?_:W.keptBut W' λ _=>False),hold⟩;refine⟨hmu.os,hmu.out,λ i hi=>?_⟩;rw[hold i hi];cases hh:W.heap[i]? with
 | none=>rfl
 | some o=>cases o<;>first|exact⟨rfl,rfl,rfl,λ _ _=>rfl⟩|exact .inr ⟨rfl,rfl⟩|rfl
theorem Wz {f:Func} {s:ChangeSpec} {apart fresh handsOn again:Bool} {args:Array Value} {ds gs:List (DataW H)} {before pa pv:List MemPlace}
  (hW:DataW.Whole en P f.params.toList s.vars apart W args.toList ds gs before)
  (hres:∀ (b:Nat) (sp:Nat->Bool) (hd:Bool),DataW.TrodAll en P W' b sp hd f.resultTypes.toList (v.resultList f.resultTypes.size) (s.fn H (ds++gs)).results [])
  (hargs:∀ sp:Nat->Bool,(∀ p∈before,sp p.block=true)->DataW.TrodAll en P W' 0 sp true f.params.toList args.toList (s.fn H (ds++gs)).args pa)
  (hvars:∀ sp:Nat->Bool,(∀ p∈before,sp p.block=true)->DataW.TrodVars en P W' sp s.vars (s.fn H (ds++gs)).vars pv)
  (hps:before=pa++pv) (hk:W.keptBut W' (·∈before)) (hold:∀ b,b<W.heap.size->W'.heap[b]?=W.heap[b]?)
  (hok:∀ (j:Nat) (t:TypeId) (r:Value),f.resultTypes[j]?=some t->(v.resultList f.resultTypes.size)[j]?=some r->Value.okWide P W' .any 0 t r) :
  s.post en P f apart fresh handsOn again W args v W':=by
 have hin:∀ p∈before,(λ b=>decide (b<W.heap.size)) p.block=true:=λ p hp=>by simpa using hW.lt p hp
 have hlt:=hW.lt;refine⟨ds,gs,before,[],pa,pv,hW,hres _ _ _,hargs _ hin,hvars _ hin,World.keptBut_mono (λ p hp=>⟨hp,?_⟩) hk,λ _=>?_⟩
 ·rw[hps,List.mem_append]at hp;exact Or.inr hp
 ·obtain⟨_,_,_,_,_,hz,hn⟩:=hW;refine⟨hok,_,_,([]++pa)++pv,⟨[]++pa,pv,trodAll_append (hargs _ (λ _ _=>rfl)) (hres _ _ _),hvars _ (λ _ _=>rfl),rfl,?_,?_⟩,?_⟩
  ·intro b off hp;have hp:MemPlace.cell b off∈before:=by rw[hps];simpa using hp
   have:=hz b off hp;simp only[World.frozen?,hold b (hlt _ hp)]at this⊢;exact this
  ·intro ha;have:=hn ha;rw[hps]at this;simpa using this
  ·intro p hp _;rw[hps];simpa using hp
theorem Jcn (hl:laidOutB P=true) (hr:P.readableRec t=true) (hrow:t<P.types.size) (h:DataW.Trod en P W 0 (λ _=>true) true t v d ps) (hb:∀ p∈ps,p.block<W.heap.size) {sp:Nat->Bool} (hs:∀ p∈ps,sp p.block=true) (hold:∀ b,b<W.heap.size->W'.heap[b]?=W.heap[b]?):DataW.Trod en P W' 0 sp true t v d ps:=by
 refine WideElems.Trod_stays hl hr hrow h (λ p hp=>?_) hs;have:=hb p hp;cases p with
 | cell b o=>exact World.cell?_of_block (w:=W) (hold b this)
 | map b=>exact hold b this
end Go.AI
end
section
namespace Go.AI
open Go.Proofs Go.ChangeShapes Go.WideShapes Go.ChangeAt Go.RowKit
def okI (k:IntKind) (n:Int):Prop:=(Lit.int k n).wf=true
theorem rd5:JY Try.prog 5 eU8 (okI .u8):=Wy Try.underlying5
theorem JhQ:JY Try.prog 44 (eL eU8) (λ l=>∀ a∈l,okI .u8 a):=Nb (sz:=1) Try.underlying44 (by kernel_rfl) rfl (λ _=>rfl) rd5
theorem JhR:JY Try.prog 51 (HL eU8) (λ x=>okI .u8 x.a0/\okI .u8 x.a1/\okI .u8 x.a2):=by
 intro H e w base spare held fuel cs x h;obtain⟨m,hcl,hg⟩:=Um Try.underlying51 h;have hcl:cs.length=3:=hcl.trans (by kernel_rfl);obtain⟨a0,k0,c0⟩:=Jfl hg 0 rfl 0 1 (by kernel_rfl) rfl rd5;obtain⟨a1,k1,c1⟩:=Jfl hg 1 rfl 1 1 (by kernel_rfl) rfl rd5;obtain⟨a2,k2,c2⟩:=Jfl hg 2 rfl 2 1 (by kernel_rfl) rfl rd5;refine⟨⟨a0,a1,a2⟩,⟨k0,k1,k2⟩,?_⟩;have:=O6 c0 rfl (O6 c1 rfl (O6 c2 rfl (JbE (Nat.le_of_eq hcl))));exact this
theorem JhS:JY Try.prog 50 (eL (HL eU8)) (λ l=>∀ a∈l,(okI .u8 a.a0/\okI .u8 a.a1/\okI .u8 a.a2)):=Nb (sz:=3) Try.underlying50 (by kernel_rfl) rfl (λ _=>rfl) JhR
end Go.AI
end
section
namespace Go.AI
def Le {α:Type} (a b:Option α):Prop:=∀ z,a=some z->b=some z
theorem Le.refl {α:Type} (a:Option α):Le a a:=λ _ h=>h
theorem Le.bind {α β:Type} {a a':Option α} {f f':α->Option β} (h:Le a a') (hf:∀ x,Le (f x) (f' x)):Le (a.bind f) (a'.bind f'):=by
 intro z hz;obtain⟨x,h1,h2⟩:=bind_some hz;rw[h x h1];exact hf x z h2
theorem Le.ite {α:Type} {c:Prop} [Decidable c] {a a' b b':Option α} (h:Le a a') (h':Le b b'):Le (if c then a else b) (if c then a' else b'):=by
 split
 ·exact h
 ·exact h'
theorem Le.whl {σ ρ:Type} {body body':σ->Option (σ⊕ρ)} (hb:∀ x,Le (body x) (body' x)):∀ {n m:Nat},n<=m->∀ x,Le (whl body n x) (whl body' m x):=by
 intro n;induction n with
 | zero=>intro m _ x z hz;cases hz
 | succ n ih=>
  intro m hm x z hz;cases m with
  | zero=>omega
  | succ m=>
   simp only[Go.AI.whl]at hz⊢;cases hx:body x with
   | none=>rw[hx]at hz;cases hz
   | some y=>
    rw[hb x y hx];rw[hx]at hz;cases y with
    | inl y=>exact ih (by omega) y z hz
    | inr r=>exact hz
def Ev {α:Type} (f:Nat->Option α) (z:α):Prop:=∃ n,∀ m,n<=m->f m=some z
theorem Ev.const {α:Type} {z:α}:Ev (λ _=>some z) z:=⟨0,λ _ _=>rfl⟩
theorem Ev.of {α:Type} {f:Nat->Option α} {z:α} (hm:∀ n m,n<=m->Le (f n) (f m)) {n:Nat} (h:f n=some z):Ev f z:=⟨n,λ m hnm=>hm n m hnm z h⟩
theorem Ev.all {α:Type} {f:Nat->Option α} {z:α} (h:∀ n,f n=some z):Ev f z:=⟨0,λ m _=>h m⟩
theorem Ev.bind {α β:Type} {f:Nat->Option α} {g:Nat->α->Option β} {x:α} {z:β} (h:Ev f x) (hg:Ev (λ n=>g n x) z):Ev (λ n=>(f n).bind (g n)) z:=by
 obtain⟨n,hn⟩:=h;obtain⟨m,hm⟩:=hg;refine⟨max n m,λ k hk=>?_⟩;show(f k).bind (g k)=_;rw[hn k (by omega)];exact hm k (by omega)
theorem Ev.out {α:Type} {f:Nat->Option α} {z:α} (h:Ev f z):∃ n,f n=some z:=by
 obtain⟨n,hn⟩:=h;exact⟨n,hn n (Jik n)⟩
theorem Ev.congr {α:Type} {f g:Nat->Option α} {z:α} (h:Ev f z) (e:∀ n,g n=f n):Ev g z:=by
 obtain⟨n,hn⟩:=h;exact⟨n,λ m hm=>by rw[e m];exact hn m hm⟩
theorem Ev.whl {σ ρ:Type} {body:Nat->σ->Option (σ⊕ρ)} {r:ρ} (I:Nat->σ->Prop) (h:∀ k x,I k x->(∃ y j,j<k/\I j y/\Ev (λ n=>body n x) (.inl y))\/Ev (λ n=>body n x) (.inr r)):∀ (k:Nat) (x:σ),I k x->Ev (λ n=>Go.AI.whl (body n) n x) r:=by
 have key:∀ (k:Nat) (x:σ),I k x->∃ N c,∀ n fuel,N<=n->c<=fuel->Go.AI.whl (body n) fuel x=some r:=by
  intro k;induction k using Nat.strongRecOn with
  | _ k ih=>
   intro x hx;rcases h k x hx with⟨y,j,hj,hy,N1,h1⟩|⟨N1,h1⟩
   ·obtain⟨N2,c,h2⟩:=ih j hj y hy;refine⟨max N1 N2,c+1,λ n fuel hn hf=>?_⟩;cases fuel with
    | zero=>omega
    | succ fuel=>
     have e:=h1 n (by omega);simp only at e;simp only[Go.AI.whl,e];exact h2 n fuel (by omega) (by omega)
   ·refine⟨N1,1,λ n fuel hn hf=>?_⟩;cases fuel with
    | zero=>omega
    | succ fuel=>
     have e:=h1 n hn;simp only at e;simp only[Go.AI.whl,e]
 intro k x hx;obtain⟨N,c,hh⟩:=key k x hx;exact⟨max N c,λ m hm=>hh m m (by omega) (by omega)⟩
end Go.AI
end
section
namespace Go.AI
variable {α ε σ ρ ζ β:Type}
theorem Le.dem {S:α->Prop} {k k':α->Option ζ} (h:∀ a,Le (k a) (k' a)):Le (dem S k) (dem S k'):=by
 intro z hz;have h1:=Yi hz;have h0:∃ a,S a:=by
  unfold Go.AI.dem at hz;split at hz
  ·rename_i hx;exact hx.choose_spec.1
  ·cases hz
 exact Yj h0 λ a ha=>h a _ (h1 a ha)
end Go.AI
end
section
namespace Go.AI
theorem Un (a:Int):IntKind.i64.wrap a=if decide (a % 18446744073709551616>=9223372036854775808)=true then a % 18446744073709551616-18446744073709551616 else a % 18446744073709551616:=rfl
theorem WA (a:Int):IntKind.u8.wrap a=a % 256:=rfl
theorem ZC {a:Int} (h:-9223372036854775808<=a) (h':a<9223372036854775808):IntKind.i64.wrap a=a:=by
 rw[Un];split
 ·rename_i hc;simp at hc;omega
 ·rename_i hc;simp at hc;omega
theorem O7 {a b:Int} (h:-9223372036854775808<=a+b) (h':a+b<9223372036854775808):Ba .i64 a b=a+b:=ZC h h'
theorem ZD {a b:Int} (h:-9223372036854775808<=a-b) (h':a-b<9223372036854775808):K5 .i64 a b=a-b:=ZC h h'
theorem JgW {a:Int} (h:0<=a) (h':a<256):IntKind.u8.wrap a=a:=by
 rw[WA];omega
def Nt (m k:Int):Bool:=decide (0<=k)&&decide (k<8)&&(Dp .u8 (JfJ .u8 m k) 1==1)
theorem ZE (n:Nat) (m k:Int):Ik n m k=some (Nt m k):=by
 unfold Ik Nt;by_cases h:0<=k
 ·by_cases h':k<8<;>simp[h,h',CT]
 ·simp[h]
def F7 (b:Int):Int:=
 if(decide (97<=Dp .u8 b 127)&&decide (Dp .u8 b 127<=122))=true then 1
 else if(decide (65<=Dp .u8 b 127)&&decide (Dp .u8 b 127<=90))=true then 2
 else if(decide (48<=Dp .u8 b 127)&&decide (Dp .u8 b 127<=57))=true then 3
 else if(Dp .u8 b 127==32)=true then 4 else 5
theorem S2 (n:Nat) (b:Int):Gw n b=some (F7 b):=by
 unfold Gw F7;split
 ·rfl
 ·split
  ·rfl
  ·split
   ·rfl
   ·split<;>rfl
theorem Nc (b:Int):1<=F7 b/\F7 b<=5:=by
 unfold F7;split
 ·omega
 ·split
  ·omega
  ·split
   ·omega
   ·split<;>omega
def Nd (s:List UInt8) (i:Nat):Int:=(s[i]?.getD 0).toNat
theorem Rs {s:List UInt8} {i:Nat} (h:i<s.length):IY s (i:Int)=some (Nd s i):=by
 unfold IY Nd;rw[if_pos (by omega)];simp
def Vi:Ad:=⟨0,0,0⟩
def L3 (r:AF) (s:Ad):Ad×Bool:=
 if((r.From != s.Mode)||!Nt r.Left s.Last)=true then(Vi,false)
 else if(r.Print==[])=true then
  (if(Dp .u8 s.Need r.Right==0)=true then(Vi,false)else(⟨r.To,s.Last,Dp .u8 s.Need r.Right⟩,true))
 else if(!Nt s.Need (F7 (Nd r.Print 0)))=true then(Vi,false)
 else(⟨r.To,F7 (Nd r.Print (r.Print.length-1)),r.Right⟩,true)
def BA (t:Ab) (s:Ad) (k:Int):Ad×Bool:=
 if(decide (k<0)||decide (k>=(t.Rules.length:Int)))=true then(Vi,false)else L3 (t.Rules[k.toNat]?.getD default) s
def Jco (t:Ab):Prop:=∀ r∈t.Rules,r.Print.length<9223372036854775808
theorem S3 {α:Type} [Inhabited α] {l:List α} {k:Int} (h:0<=k) (h':k<l.length):idx l k=some (l[k.toNat]?.getD default):=by
 unfold idx;rw[if_pos h];have:k.toNat<l.length:=by omega
 simp[this]
theorem NF {t:Ab} (ht:Jco t) (n:Nat) (s:Ad) (k:Int):Js n t s k=some (BA t s k):=by
 unfold Js BA;by_cases hk:(decide (k<0)||decide (k>=(t.Rules.length:Int)))=true
 ·rw[if_pos hk,if_pos hk];rfl
 ·rw[if_neg hk,if_neg hk];simp only[JiN,decide_eq_true_eq,not_or,Int.not_lt,ge_iff_le,Int.not_le]at hk;rw[S3 hk.1 hk.2];have hmem:(t.Rules[k.toNat]?.getD default)∈t.Rules:=by
   have:k.toNat<t.Rules.length:=by omega
   simp[this]
  have hlen:=ht _ hmem;generalize t.Rules[k.toNat]?.getD default=r at hlen⊢;simp only[Jib,ZE,S2];unfold L3;by_cases h1:r.From=s.Mode
  ·simp only[h1,bne_self_eq_false,Bool.not_false,if_true,Jib,Bool.false_or];by_cases h2:Nt r.Left s.Last=true
   ·simp only[h2,Jii,JiG,if_false];by_cases h3:r.Print=[]
    ·simp only[h3,beq_self_eq_true,if_true];split<;>rfl
    ·have h3':(r.Print==[])=false:=by simpa using h3
     have hpos:0<r.Print.length:=List.length_pos_iff.2 h3;simp only[h3',JiG,if_false];have e0:=Rs (s:=r.Print) (i:=0) hpos;simp only[Int.natCast_zero]at e0;rw[e0];have e1:K5 .i64 ((r.Print.length:Nat):Int) 1=((r.Print.length-1:Nat):Int):=by rw[ZD (by omega) (by omega)];omega
     rw[e1,Rs (by omega)];simp only[Jib];split<;>rfl
   ·have h2:Nt r.Left s.Last=false:=by simpa using h2
    simp only[h2,Bool.not_false,if_true];rfl
  ·have h1':(r.From != s.Mode)=true:=by simpa using h1
   simp only[h1',Jii,JiG,if_false,Jib,Bool.true_or,if_true];rfl
end Go.AI
end
section
namespace Go.AI
theorem Ak {α:Type} {l:List α} {i:Nat} {x:α} (h:l[i]?=some x):i<l.length:=(List.getElem?_eq_some_iff.1 h).1
def Bv (t:Ab) (s:Ad):Bool:=decide (s.Mode<t.Modes)&&Nt t.Accept s.Mode&&Nt s.Need 0
theorem O8 (n:Nat) (t:Ab) (s:Ad):FO n t s=some (Bv t s):=by
 unfold FO Bv;simp only[ZE];by_cases h1:s.Mode<t.Modes
 ·cases h2:Nt t.Accept s.Mode<;>simp[h1]
 ·simp[h1]
end Go.AI
end
section
namespace Go.AI
theorem Uo (a b:Int) (h:0<=b) (h':b<256):0<=Dp .u8 a b/\Dp .u8 a b<=b:=by
 unfold Dp;have hb:(BitVec.ofInt 8 b).toNat=b.toNat:=by
  rw[BitVec.toNat_ofInt];omega
 have hle:(BitVec.ofInt 8 a &&& BitVec.ofInt 8 b).toNat<=b.toNat:=by
  rw[BitVec.toNat_and,hb];exact Nat.and_le_right
 have e:(BitVec.ofInt IntKind.u8.bits a &&& BitVec.ofInt IntKind.u8.bits b).toNat=(BitVec.ofInt 8 a &&& BitVec.ofInt 8 b).toNat:=rfl;rw[e,JgW (by omega) (by omega)];omega
def Up (r:AF):Prop:=0<=r.To/\r.To<2/\0<=r.Right/\r.Right<=63/\r.Print.length<=3
def Gl (t:Ab):Prop:=t.Rules.length<=11/\∀ r∈t.Rules,Up r
theorem Gl.short {t:Ab} (h:Gl t):Jco t:=λ r hr=>by have:=(h.2 r hr).2.2.2.2;omega
def InU (s:Ad):Prop:=0<=s.Mode/\s.Mode<2/\0<=s.Last/\s.Last<=5/\0<=s.Need/\s.Need<=63
def Jfm:List Ad:=(List.range 768).map λ i=>⟨(i / 384:Nat),(i / 64 % 6:Nat),(i % 64:Nat)⟩
theorem ZF {s:Ad} (h:InU s):s∈Jfm:=by
 obtain⟨h1,h2,h3,h4,h5,h6⟩:=h;obtain⟨m,l,d⟩:=s;simp only at h1 h2 h3 h4 h5 h6;simp only[Jfm,Jin,List.mem_range];refine⟨m.toNat*384+l.toNat*64+d.toNat,by omega,?_⟩;have e1:(m.toNat*384+l.toNat*64+d.toNat) / 384=m.toNat:=by omega
 have e2:(m.toNat*384+l.toNat*64+d.toNat) / 64 % 6=l.toNat:=by omega
 have e3:(m.toNat*384+l.toNat*64+d.toNat) % 64=d.toNat:=by omega
 rw[e1,e2,e3];congr 1<;>omega
theorem ZG {l m:List Ad} (h:l.Nodup) (hs:∀ x∈l,x∈m):l.length<=m.length:=by
 induction l generalizing m with
 | nil=>simp
 | cons a l ih=>
  rw[List.nodup_cons]at h;have ha:=hs a (by simp);have hlen:(m.erase a).length=m.length-1:=List.length_erase_of_mem ha;have hpos:0<m.length:=List.length_pos_of_mem ha;have:=ih (m:=m.erase a) h.2 λ x hx=>by
   have hne:x≠a:=λ e=>h.1 (e▸hx);exact(List.mem_erase_of_ne hne).2 (hs x (by simp[hx]))
  simp;omega
theorem ZH {l:List Ad} (h:l.Nodup) (hs:∀ x∈l,InU x):l.length<=768:=by
 have:=ZG h λ x hx=>ZF (hs x hx);simpa [Jfm]using this
theorem ZI {t:Ab} (ht:Gl t) {s:Ad} (hs:InU s) {k:Int} (h:(BA t s k).2=true):InU (BA t s k).1:=by
 unfold BA at h⊢;split at h
 ·cases h
 ·rename_i hk;rw[if_neg hk];simp only[JiN,decide_eq_true_eq,not_or,Int.not_lt,ge_iff_le,Int.not_le]at hk;have hmem:(t.Rules[k.toNat]?.getD default)∈t.Rules:=by
   have:k.toNat<t.Rules.length:=by omega
   simp[this]
  have hr:=ht.2 _ hmem;generalize t.Rules[k.toNat]?.getD default=r at hr h⊢;obtain⟨a1,a2,a3,a4,a5⟩:=hr;obtain⟨b1,b2,b3,b4,b5,b6⟩:=hs;unfold L3 at h⊢;split at h
  ·cases h
  ·rename_i h1;rw[if_neg h1];split at h
   ·rename_i h2;rw[if_pos h2];split at h
    ·cases h
    ·rename_i h3;rw[if_neg h3];have:=Uo s.Need r.Right a3 (by omega);exact⟨a1,a2,b3,b4,this.1,by show Dp .u8 s.Need r.Right<=63;omega⟩
   ·rename_i h2;rw[if_neg h2];split at h
    ·cases h
    ·rename_i h3;rw[if_neg h3];have:=Nc (Nd r.Print (r.Print.length-1));exact⟨a1,a2,by show 0<=F7 _;omega,by show F7 _<=5;omega,a3,a4⟩
def Fv:Ad:=⟨0,0,63⟩
def KF (t:Ab) (s:Ad) (st:List Ad) (k:Nat):List Ad:=if(BA t s k).2=true/\(BA t s k).1 ∉ st then st++[(BA t s k).1]else st
def Nu (t:Ab) (s:Ad) (m:Nat) (st:List Ad):List Ad:=(List.range m).foldl (KF t s) st
theorem Km (t:Ab) (s:Ad) (m:Nat) (st:List Ad):Nu t s (m+1) st=KF t s (Nu t s m st) m:=by
 simp[Nu,List.range_succ]
def S4 (t:Ab):Nat->Nat->List Ad->List Ad
 | 0,_,st=>st
 | f+1,i,st=>match st[i]? with
  | some s=>S4 t f (i+1) (Nu t s t.Rules.length st)
  | none=>st
def AP (t:Ab):List Ad:=S4 t 800 0 [Fv]
structure Fg (t:Ab) (st:List Ad):Prop where
 nodup:st.Nodup
 inU:∀ s∈st,InU s
 first:st[0]?=some Fv
 origin:∀ (j:Nat) (s:Ad),st[j]?=some s->0<j->∃ (i:Nat) (s':Ad) (k:Nat),i<j/\st[i]?=some s'/\k<t.Rules.length/\BA t s' k=(s,true)
theorem Fg.len {t:Ab} {st:List Ad} (h:Fg t st):st.length<=768:=ZH h.nodup h.inU
theorem Fg.add {t:Ab} (ht:Gl t) {st:List Ad} (h:Fg t st) {i:Nat} {s:Ad} (hi:st[i]?=some s) {k:Nat} (hk:k<t.Rules.length):Fg t (KF t s st k):=by
 unfold KF;split
 ·rename_i hc;have hil:=Ak hi;refine⟨?_,λ x hx=>?_,?_,λ j x hj h0=>?_⟩
  ·rw[List.nodup_append];refine⟨h.nodup,by simp,λ a ha b hb=>?_⟩;simp at hb;subst hb;exact λ e=>hc.2 (e▸ha)
  ·simp only[List.mem_append,List.mem_singleton]at hx;rcases hx with hx|rfl
   ·exact h.inU x hx
   ·exact ZI ht (h.inU s (Jiw hi)) hc.1
  ·rw[JiC (by omega)];exact h.first
  ·rcases Jil j st.length with hlt|hge
   ·rw[JiC hlt]at hj;obtain⟨i',s',k',a1,a2,a3,a4⟩:=h.origin j x hj h0;exact⟨i',s',k',a1,by rw[JiC (by omega)];exact a2,a3,a4⟩
   ·rw[JiM hge]at hj;have:j-st.length=0:=by have:=Ak hj;simp at this;omega
    rw[this]at hj;simp at hj;subst hj;refine⟨i,s,k,by omega,by rw[JiC hil];exact hi,hk,?_⟩;exact Prod.ext rfl hc.1
 ·exact h
theorem S5 (t:Ab) (s:Ad) (st:List Ad) (k:Nat):st <+: KF t s st k:=by
 unfold KF;split
 ·exact List.prefix_append _ _
 ·exact List.prefix_refl _
theorem HS (t:Ab) (s:Ad) (st:List Ad):∀ m,st <+: Nu t s m st:=by
 intro m;induction m with
 | zero=>exact List.prefix_refl _
 | succ m ih=>rw[Km];exact ih.trans (S5 _ _ _ _)
theorem CF {α:Type} {l m:List α} (h:l <+: m) {i:Nat} {x:α} (hi:l[i]?=some x):m[i]?=some x:=by
 obtain⟨r,rfl⟩:=h;rw[JiC (Ak hi)];exact hi
theorem Fg.exp {t:Ab} (ht:Gl t) {st:List Ad} (h:Fg t st) {i:Nat} {s:Ad} (hi:st[i]?=some s):∀ m,m<=t.Rules.length->Fg t (Nu t s m st):=by
 intro m;induction m with
 | zero=>intro _;exact h
 | succ m ih=>
  intro hm;rw[Km];exact(ih (by omega)).add ht (CF (HS t s st m) hi) (by omega)
theorem ZJ (t:Ab) (s:Ad) (st:List Ad):∀ m k:Nat,k<m->(BA t s k).2=true->(BA t s k).1∈Nu t s m st:=by
 intro m;induction m with
 | zero=>intro k hk;omega
 | succ m ih=>
  intro k hk h;rw[Km];by_cases e:k=m
  ·subst e;unfold KF;by_cases hc:(BA t s k).1∈Nu t s k st
   ·rw[if_neg (λ hh=>hh.2 hc)];exact hc
   ·rw[if_pos ⟨h,hc⟩];simp
  ·exact(S5 t s _ m).subset (ih k (by omega) h)
def ZK (t:Ab) (i:Nat) (st:List Ad):Prop:=∀ (j:Nat) (s:Ad),j<i->st[j]?=some s->∀ k:Nat,k<t.Rules.length->(BA t s k).2=true->(BA t s k).1∈st
theorem Jfn {t:Ab} (ht:Gl t):∀ (f i:Nat) (st:List Ad),Fg t st->ZK t i st->768<f+i->Fg t (S4 t f i st)/\∀ i',ZK t i' (S4 t f i st):=by
 intro f;induction f with
 | zero=>
  intro i st h hd hf;have:=h.len;refine⟨h,λ i' j s hj hs=>?_⟩;have hs:st[j]?=some s:=hs;exact hd j s (by have:=Ak hs;omega) hs
 | succ f ih=>
  intro i st h hd hf;simp only[S4];cases hi:st[i]? with
  | none=>
   refine⟨h,λ i' j s hj hs=>?_⟩;have hs:st[j]?=some s:=hs;exact hd j s (by have:=Ak hs;rw[List.getElem?_eq_none_iff]at hi;omega) hs
  | some s=>
   refine ih (i+1) _ (h.exp ht hi _ (Jik _)) (λ j x hj hx k hk hk2=>?_) (by omega);by_cases e:j=i
   ·subst e;have:=CF (HS t s st t.Rules.length) hi;rw[this]at hx;cases hx;exact ZJ t s st _ k hk hk2
   ·have hjl:j<st.length:=by have:=Ak hi;omega
    have hxx:st[j]?=some st[j]:=Jiu hjl;have:=CF (HS t s st t.Rules.length) hxx;rw[this]at hx;cases hx;exact(HS t s st t.Rules.length).subset (hd j _ (by omega) hxx k hk hk2)
theorem D8 {t:Ab} (ht:Gl t):Fg t (AP t)/\∀ i,ZK t i (AP t):=by
 refine Jfn ht 800 0 [Fv] ⟨by simp,λ s hs=>?_,rfl,λ j s hj h0=>?_⟩ (λ j s hj=>by omega) (by omega)
 ·simp at hs;subst hs;exact⟨by decide,by decide,by decide,by decide,by decide,by decide⟩
 ·cases j with
  | zero=>omega
  | succ j=>simp at hj
end Go.AI
end
section
namespace Go.AI
theorem Jh0 {σ ρ:Type} {body:Nat->σ->Option (σ⊕ρ)} {R:ρ->Prop} (I:Nat->σ->Prop) (h:∀ k x,I k x->(∃ y j,j<k/\I j y/\Ev (λ n=>body n x) (.inl y))\/∃ r,R r/\Ev (λ n=>body n x) (.inr r)):∀ (k:Nat) (x:σ),I k x->∃ r,R r/\Ev (λ n=>Go.AI.whl (body n) n x) r:=by
 have key:∀ (k:Nat) (x:σ),I k x->∃ r,R r/\∃ N c,∀ n fuel,N<=n->c<=fuel->Go.AI.whl (body n) fuel x=some r:=by
  intro k;induction k using Nat.strongRecOn with
  | _ k ih=>
   intro x hx;rcases h k x hx with⟨y,j,hj,hy,N1,h1⟩|⟨r,hr,N1,h1⟩
   ·obtain⟨r,hr,N2,c,h2⟩:=ih j hj y hy;refine⟨r,hr,max N1 N2,c+1,λ n fuel hn hf=>?_⟩;cases fuel with
    | zero=>omega
    | succ fuel=>
     have e:=h1 n (by omega);simp only at e;simp only[Go.AI.whl,e];exact h2 n fuel (by omega) (by omega)
   ·refine⟨r,hr,N1,1,λ n fuel hn hf=>?_⟩;cases fuel with
    | zero=>omega
    | succ fuel=>
     have e:=h1 n hn;simp only at e;simp only[Go.AI.whl,e]
 intro k x hx;obtain⟨r,hr,N,c,hh⟩:=key k x hx;exact⟨r,hr,max N c,λ m hm=>hh m m (by omega) (by omega)⟩
def IV (st:List Ad) (nb:List (Ad×Int)):Prop:=∀ s,BJ s nb=(st.findIdx? λ x=>decide (x=s)).map λ i=>(i:Int)
theorem Dj {st:List Ad} {s:Ad} {i:Nat} (hn:st.Nodup) (h:st[i]?=some s):(st.findIdx? λ x=>decide (x=s))=some i:=by
 have hi:=Ak h;rw[List.findIdx?_eq_some_iff_getElem];have he:st[i]=s:=by rw[Jiu hi]at h;exact Option.some.inj h
 refine⟨hi,by simpa using he,λ j hj=>?_⟩;simp only[Jij,decide_eq_false_iff_not];intro e;have:=(List.getElem_inj (i:=j) (j:=i) (h₀:=by omega) (h₁:=hi) hn).1 (by rw[e,he]);omega
theorem Ix {st:List Ad} {s:Ad} (h:s ∉ st):(st.findIdx? λ x=>decide (x=s))=none:=by
 rw[List.findIdx?_eq_none_iff];intro y hy;simp only[decide_eq_false_iff_not];exact λ e=>h (e▸hy)
theorem HT {κ α:Type} [DecidableEq κ] (k k':κ) (v:α) (m:List (κ×α)):BJ k' (DV k v m)=if k'=k then some v else BJ k' m:=by
 induction m with
 | nil=>simp[DV,BJ]
 | cons p m ih=>
  simp only[DV];by_cases h:k=p.1
  ·rw[if_pos h];simp only[BJ];by_cases h':k'=k
   ·simp[h']
   ·have:k'≠p.1:=λ e=>h' (e.trans h.symm);simp[h',this]
  ·rw[if_neg h];simp only[BJ];by_cases h':k'=p.1
   ·have:k'≠k:=λ e=>h (e▸h');rw[if_pos h',if_neg this,if_pos h']
   ·rw[if_neg h',if_neg h',ih]
theorem IV.snoc {st:List Ad} {nb:List (Ad×Int)} (h:IV st nb) (hn:st.Nodup) {p:Ad} (hp:p ∉ st):IV (st++[p]) (DV p (st.length:Nat) nb):=by
 intro s;rw[HT];have hnd:(st++[p]).Nodup:=by
  rw[List.nodup_append];exact⟨hn,by simp,λ a ha b hb=>by simp at hb;subst hb;exact λ e=>hp (e▸ha)⟩
 by_cases e:s=p
 ·subst e;rw[if_pos rfl,Dj hnd (i:=st.length) (by simp)];rfl
 ·rw[if_neg e,h s];by_cases hs:s∈st
  ·obtain⟨i,hi⟩:=List.mem_iff_getElem?.1 hs;rw[Dj hn hi,Dj hnd (i:=i) (by rw[JiC (Ak hi)];exact hi)]
  ·rw[Ix hs,Ix (by simp[hs,e])]
def GS (i m j k:Nat):Prop:=j<i\/(j=i/\k<m)
structure CX (t:Ab) (st:List Ad) (fr:List (List Int)) (i m:Nat):Prop where
 len:fr.length=st.length
 cov:∀ j s k,GS i m j k->st[j]?=some s->k<t.Rules.length->(BA t s (k:Nat)).2=true->(BA t s (k:Nat)).1∈st
 sound:∀ (n:Nat) l,fr[n]?=some l->∀ x∈l,∃ (j:Nat) (s:Ad) (k:Nat) (s':Ad),x=(j:Int)/\st[j]?=some s/\k<t.Rules.length/\st[n]?=some s'/\BA t s (k:Nat)=(s',true)
 compl:∀ (n:Nat) l,fr[n]?=some l->∀ (j:Nat) (s:Ad) (k:Nat) (s':Ad),GS i m j k->st[j]?=some s->k<t.Rules.length->st[n]?=some s'->BA t s (k:Nat)=(s',true)->(j:Int)∈l
 small:∀ (n:Nat) l,fr[n]?=some l->l.length<=i*11+m
theorem CX.snoc {t:Ab} {st:List Ad} {fr:List (List Int)} {i m:Nat} (h:CX t st fr i m) {p:Ad} (hp:p ∉ st) (hi:i<st.length):CX t (st++[p]) (fr++[[]]) i m:=by
 have hget:∀ (j:Nat) s,GS i m j 0\/j<=i->(st++[p])[j]?=some s->st[j]?=some s:=λ j s hj hs=>by
  rcases Jil j st.length with hlt|hge
  ·rwa[JiC hlt]at hs
  ·rcases hj with (h1|⟨h1,_⟩)|h1<;>omega
 have hle:∀ {j k},GS i m j k->j<=i:=λ h=>by rcases h with h|⟨h,_⟩<;>omega
 refine⟨by simp[h.len],λ j s k ht hs hk h2=>?_,λ n l hl x hx=>?_,λ n l hl j s k s' ht hs hk hs' he=>?_,λ n l hl=>?_⟩
 ·exact List.mem_append_left _ (h.cov j s k ht (hget j s (.inr (hle ht)) hs) hk h2)
 ·rcases Jil n fr.length with hlt|hge
  ·rw[JiC hlt]at hl;obtain⟨j,s,k,s',a1,a2,a3,a4,a5⟩:=h.sound n l hl x hx;exact⟨j,s,k,s',a1,by rw[JiC (Ak a2)];exact a2,a3,by rw[JiC (Ak a4)];exact a4,a5⟩
  ·rw[JiM hge]at hl;have:n-fr.length=0:=by have:=Ak hl;simp at this;omega
   rw[this]at hl;simp at hl;subst hl;simp at hx
 ·have hs0:=hget j s (.inr (hle ht)) hs;have hmem:s'∈st:=by have:=h.cov j s k ht hs0 hk (by rw[he]);rwa[he]at this
  rcases Jil n fr.length with hlt|hge
  ·rw[JiC hlt]at hl;rw[JiC (by rw[← h.len];exact hlt)]at hs';exact h.compl n l hl j s k s' ht hs0 hk hs' he
  ·have hn:n=st.length:=by have:=Ak hs';simp at this;rw[h.len]at hge;omega
   subst hn;simp at hs';subst hs';exact absurd hmem hp
 ·rcases Jil n fr.length with hlt|hge
  ·rw[JiC hlt]at hl;exact h.small n l hl
  ·rw[JiM hge]at hl;have:n-fr.length=0:=by have:=Ak hl;simp at this;omega
   rw[this]at hl;simp at hl;subst hl;simp
theorem CX.put {t:Ab} {st:List Ad} {fr:List (List Int)} {i m:Nat} (h:CX t st fr i m) (hnd:st.Nodup) {s p:Ad} {q:Nat} {l:List Int} (hs:st[i]?=some s) (hm:m<t.Rules.length) (hst:BA t s (m:Nat)=(p,true)) (hq:st[q]?=some p) (hl:fr[q]?=some l):CX t st (fr.set q (l++[(i:Int)])) i (m+1):=by
 have htk:∀ {j k},GS i (m+1) j k->GS i m j k\/(j=i/\k=m):=λ {j k} h=>by
  unfold GS at *;omega
 have hql:=Ak hl;refine⟨by simp[h.len],λ j x k ht hx hk h2=>?_,λ n l' hl' x hx=>?_,λ n l' hl' j x k x' ht hx hk hx' he=>?_,λ n l' hl'=>?_⟩
 ·rcases htk ht with ht|⟨rfl,rfl⟩
  ·exact h.cov j x k ht hx hk h2
  ·rw[hs]at hx;cases hx;rw[hst];exact Jiw hq
 ·by_cases e:n=q
  ·subst e;rw[JiF hql]at hl';cases hl';simp only[List.mem_append,List.mem_singleton]at hx;rcases hx with hx|rfl
   ·exact h.sound n l hl x hx
   ·exact⟨i,s,m,p,rfl,hs,hm,hq,hst⟩
  ·rw[JiK (Ne.symm e)]at hl';exact h.sound n l' hl' x hx
 ·rcases htk ht with ht|⟨rfl,rfl⟩
  ·by_cases e:n=q
   ·subst e;rw[JiF hql]at hl';cases hl';exact List.mem_append_left _ (h.compl n l hl j x k x' ht hx hk hx' he)
   ·rw[JiK (Ne.symm e)]at hl';exact h.compl n l' hl' j x k x' ht hx hk hx' he
  ·rw[hs]at hx;cases hx;rw[hst]at he;cases he;have e:n=q:=by
    have h1:=Ak hx';have h2:=Ak hq;rw[Jiu h1]at hx';rw[Jiu h2]at hq;exact(List.getElem_inj (h₀:=h1) (h₁:=h2) hnd).1 ((Option.some.inj hx').trans (Option.some.inj hq).symm)
   subst e;rw[JiF hql]at hl';cases hl';simp
 ·by_cases e:n=q
  ·subst e;rw[JiF hql]at hl';cases hl';have:=h.small n l hl;simp;omega
  ·rw[JiK (Ne.symm e)]at hl';have:=h.small n l' hl';omega
theorem CX.skip {t:Ab} {st:List Ad} {fr:List (List Int)} {i m:Nat} (h:CX t st fr i m) {s:Ad} (hs:st[i]?=some s) (hst:(BA t s (m:Nat)).2=false):CX t st fr i (m+1):=by
 have htk:∀ {j k},GS i (m+1) j k->GS i m j k\/(j=i/\k=m):=λ {j k} h=>by
  unfold GS at *;omega
 refine⟨h.len,λ j x k ht hx hk h2=>?_,h.sound,λ n l hl j x k x' ht hx hk hx' he=>?_,λ n l hl=>by have:=h.small n l hl;omega⟩
 ·rcases htk ht with ht|⟨rfl,rfl⟩
  ·exact h.cov j x k ht hx hk h2
  ·rw[hs]at hx;cases hx;rw[hst]at h2;cases h2
 ·rcases htk ht with ht|⟨rfl,rfl⟩
  ·exact h.compl n l hl j x k x' ht hx hk hx' he
  ·rw[hs]at hx;cases hx;rw[he]at hst;cases hst
end Go.AI
end
section
namespace Go.AI
theorem Iy {α:Type} {l:List α} {i:Nat} {x:α} (h:l[i]?=some x):idx l (i:Int)=some x:=by
 unfold idx;rw[if_pos (by omega)];simpa using h
theorem El {α:Type} {eb:Nat} {xs ys:List α} (h:(xs.length+ys.length)*eb<=70368744177664):app eb xs ys=some (xs++ys):=by
 unfold app;rw[if_pos h]
theorem S6 {t:Ab} (ht:Gl t) {i m:Nat} {s:Ad} {st:List Ad} {fr:List (List Int)} {nb:List (Ad×Int)} (hF:Fg t st) (hi:st[i]?=some s) (hN:IV st nb) (hR:CX t st fr i m) (hm:m<t.Rules.length) :
  ∃ fr' nb',IV (KF t s st m) nb'/\CX t (KF t s st m) fr' i (m+1)/\∀ n,BU n t (i:Int) st fr nb (m:Int)=some (.inl (KF t s st m,fr',nb',((m+1:Nat):Int))):=by
 have hil:=Ak hi;have hlen:=hF.len;have hrl:=ht.1;have hinc:Ba .i64 (m:Int) 1=((m+1:Nat):Int):=by rw[O7 (by omega) (by omega)];rfl
 have hcond:decide ((m:Int)<((t.Rules.length:Nat):Int))=true:=by simpa using hm
 cases hp:(BA t s (m:Nat)).2 with
 | false=>
  have ha:KF t s st m=st:=by unfold KF;rw[if_neg (by rw[hp];simp)]
  refine⟨fr,nb,by rw[ha];exact hN,by rw[ha];exact hR.skip hi hp,λ n=>?_⟩;unfold BU;rw[if_pos hcond,Iy hi];simp only[Jib,NF ht.short,hp,Bool.not_false,if_true,C2,hinc,ha]
 | true=>
  have hpe:BA t s (m:Nat)=((BA t s (m:Nat)).1,true):=Prod.ext rfl hp;generalize hpp:(BA t s (m:Nat)).1=p at hpe;by_cases hmem:p∈st
  ·have ha:KF t s st m=st:=by unfold KF;rw[if_neg (by rw[hpp];exact λ hh=>hh.2 hmem)]
   obtain⟨q,hq⟩:=List.mem_iff_getElem?.1 hmem;have hql:=Ak hq;obtain⟨lq,hfq⟩:∃ lq,fr[q]?=some lq:=⟨_,Jiu (by rw[hR.len];exact hql)⟩;have hsm:=hR.small q _ hfq;have hget:BJ p nb=some (q:Int):=by rw[hN p,Dj hF.nodup hq];rfl
   have hiv:i<768:=by omega
   refine⟨fr.set q (lq++[(i:Int)]),nb,by rw[ha];exact hN,by rw[ha];exact hR.put hF.nodup hi hm hpe hq hfq,λ n=>?_⟩;unfold BU;rw[if_pos hcond,Iy hi];simp only[Jib,NF ht.short,hpe,hget,Option.isSome_some,Jii,JiG,if_false,Jig,DZ];rw[Iy hfq];simp only[Jib];rw[El (by simp;omega)];simp only[Jib,C2,hinc,ha,JiD]
  ·have ha:KF t s st m=st++[p]:=by unfold KF;rw[if_pos ⟨hp,by rw[hpp];exact hmem⟩,hpp]
   have hnd:(st++[p]).Nodup:=by have:=(hF.add ht hi hm).nodup;rwa[ha]at this
   have hget:BJ p nb=none:=by rw[hN p,Ix hmem];rfl
   have hR':=hR.snoc hmem hil;have hfq:(fr++[[]])[st.length]?=some ([]:List Int):=by rw[← hR.len];simp
   refine⟨(fr++[[]]).set st.length ([]++[(i:Int)]),DV p (st.length:Nat) nb,by rw[ha];exact hN.snoc hF.nodup hmem,by rw[ha];exact hR'.put hnd (by rw[JiC hil];exact hi) hm hpe (by simp) hfq,λ n=>?_⟩;unfold BU;rw[if_pos hcond,Iy hi];simp only[Jib,NF ht.short,hpe,hget,Option.isSome_none,Bool.not_false,Jii,JiG,if_true,if_false];rw[El (by simp;omega),Jib,El (by simp[hR.len];omega),Jib];simp only[DZ];rw[Iy hfq];simp only[Jib];rw[El (by simp)];simp only[Jib,C2,hinc,ha,JiD]
theorem CX.next {t:Ab} {st:List Ad} {fr:List (List Int)} {i:Nat} (h:CX t st fr i t.Rules.length) (hr:t.Rules.length<=11):CX t st fr (i+1) 0:=by
 have htk:∀ {j k},k<t.Rules.length->GS (i+1) 0 j k->GS i t.Rules.length j k:=λ {j k} hk h=>by
  unfold GS at *;omega
 exact⟨h.len,λ j s k ht hs hk=>h.cov j s k (htk hk ht) hs hk,h.sound,λ n l hl j s k s' ht hs hk=>h.compl n l hl j s k s' (htk hk ht) hs hk,λ n l hl=>by have:=h.small n l hl;omega⟩
theorem ZL {t:Ab} (ht:Gl t) {i:Nat} {s:Ad} {st:List Ad} {fr:List (List Int)} {nb:List (Ad×Int)} (hF:Fg t st) (hi:st[i]?=some s) (hN:IV st nb) (hR:CX t st fr i 0) :
  ∃ r:List Ad×List (List Int)×List (Ad×Int),(r.1=Nu t s t.Rules.length st/\IV r.1 r.2.2/\CX t r.1 r.2.1 (i+1) 0) /\
   Ev (λ n=>whl (λ (x:((List Ad)×(List (List Int))×(List (Ad×Int))×Int))=>BU n t (i:Int) x.1 x.2.1 x.2.2.1 x.2.2.2) n (st,fr,nb,0)) r:=by
 refine Jh0 (body:=λ n x=>BU n t (i:Int) x.1 x.2.1 x.2.2.1 x.2.2.2) (λ k x=>∃ m:Nat,m<=t.Rules.length/\k=t.Rules.length-m/\x.1=Nu t s m st/\x.2.2.2=(m:Int)/\IV x.1 x.2.2.1/\CX t x.1 x.2.1 i m) ?_ t.Rules.length (st,fr,nb,0) ⟨0,by omega,by omega,rfl,rfl,hN,hR⟩;rintro k ⟨st',fr',nb',m'⟩ ⟨m,hm,rfl,h1,h2,h3,h4⟩;simp only at h1 h2 h3 h4;subst h1;subst h2;rcases Jil m t.Rules.length with hlt|hge
 ·left;have hi':(Nu t s m st)[i]?=some s:=CF (HS t s st m) hi;obtain⟨fr2,nb2,g1,g2,g3⟩:=S6 ht (hF.exp ht hi m hm) hi' h3 h4 hlt;exact⟨_,t.Rules.length-(m+1),by omega,⟨m+1,hlt,rfl,(Km t s m st).symm,rfl,g1,g2⟩,Ev.all g3⟩
 ·right;have e:m=t.Rules.length:=by omega
  subst e;refine⟨(Nu t s t.Rules.length st,fr',nb'),⟨rfl,h3,h4.next ht.1⟩,Ev.all λ n=>?_⟩;unfold BU;rw[if_neg (by simp)]
theorem O9 {t:Ab} (ht:Gl t):∃ fr,CX t (AP t) fr (AP t).length 0/\Ev (λ n=>FN n t) (AP t,fr):=by
 have h0:Fg t [Fv]:=⟨by simp,λ s hs=>by simp at hs;subst hs;exact⟨by decide,by decide,by decide,by decide,by decide,by decide⟩,rfl,λ j s hj h0=>by cases j with|zero=>omega|succ j=>simp at hj⟩;have loop:∃ r:List Ad×List (List Int),(r.1=AP t/\CX t r.1 r.2 r.1.length 0) /\
   Ev (λ n=>whl (λ (x:((List Ad)×(List (List Int))×(List (Ad×Int))×Int))=>C3 n t x.1 x.2.1 x.2.2.1 x.2.2.2) n ([Fv],([[]]:List (List Int)),(DV Fv 0 []),0)) r:=by
  refine Jh0 (body:=λ n x=>C3 n t x.1 x.2.1 x.2.2.1 x.2.2.2) (λ k x=>∃ i:Nat,i<=x.1.length/\k=800-i/\S4 t (800-i) i x.1=AP t/\x.2.2.2=(i:Int)/\Fg t x.1/\IV x.1 x.2.2.1/\CX t x.1 x.2.1 i 0) ?_ 800 _ ⟨0,by simp,by omega,rfl,rfl,h0,?_,?_⟩
  ·rintro k ⟨st,fr,nb,i'⟩ ⟨i,hil,rfl,hb,hi',hF,hN,hR⟩;simp only at hil hb hi' hF hN hR;subst hi';have hlen:=hF.len;rcases Jil i st.length with hlt|hge
   ·left;have hi:st[i]?=some st[i]:=Jiu hlt;obtain⟨r,⟨g1,g2,g3⟩,g4⟩:=ZL ht hF hi hN hR;have hexp:=hF.exp ht hi _ (Jik _);refine⟨(r.1,r.2.1,r.2.2,((i+1:Nat):Int)),800-(i+1),by omega,⟨i+1,?_,rfl,?_,rfl,by rw[g1];exact hexp,g2,g3⟩,?_⟩
    ·simp only[g1];have:=(HS t st[i] st t.Rules.length).length_le;omega
    ·simp only[g1];rw[← hb];have e:800-i=(800-(i+1))+1:=by omega
     rw[e];simp only[S4,hi]
    ·refine(Ev.bind g4 (g:=λ _ y2=>some (.inl (y2.1,y2.2.1,y2.2.2,((i+1:Nat):Int)))) Ev.const).congr λ n=>?_;unfold C3;rw[if_pos (by simpa using hlt)];have hinc:Ba .i64 (i:Int) 1=((i+1:Nat):Int):=by rw[O7 (by omega) (by omega)];rfl
     rw[hinc]
   ·right;have e:i=st.length:=by omega
    subst e;have hst:st=AP t:=by
     rw[← hb];have e:800-st.length=(800-(st.length+1))+1:=by omega
     rw[e];simp[S4]
    refine⟨(st,fr),⟨hst,hR⟩,Ev.all λ n=>?_⟩;unfold C3;rw[if_neg (by simp)]
  ·intro s;simp only[DV,BJ];by_cases e:s=Fv
   ·subst e;simp
   ·have:¬ Fv=s:=λ h=>e h.symm;simp[e,this]
  ·refine⟨rfl,λ j s k ht=>?_,λ n l hl x hx=>?_,λ n l hl j s k s' ht=>?_,λ n l hl=>?_⟩
   ·unfold GS at ht;omega
   ·cases n with
    | zero=>simp at hl;subst hl;simp at hx
    | succ n=>simp at hl
   ·unfold GS at ht;omega
   ·cases n with
    | zero=>simp at hl;subst hl;simp
    | succ n=>simp at hl
 obtain⟨⟨st,fr⟩,⟨g1,g2⟩,g3⟩:=loop;simp only at g1 g2;subst g1;refine⟨fr,g2,?_⟩;have hs:∀ n,Mr n=some Fv:=λ n=>rfl;refine(Ev.bind g3 (g:=λ _ y3=>some (y3.1,y3.2)) Ev.const).congr λ n=>?_;unfold FN;rw[hs,Jib]
theorem Uq {t:Ab} (ht:Gl t):Ev (λ n=>K8 n t) (AP t):=by
 obtain⟨fr,_,h⟩:=O9 ht;exact(Ev.bind h (g:=λ _ r=>some r.1) Ev.const).congr λ n=>rfl
end Go.AI
end
section
namespace Go.AI
def Tot {α:Type} (f:Nat->Option α) (P:α->Prop):Prop:=∃ z,P z/\Ev f z
def Rd2 {σ ρ:Type} (I:σ->Prop) (P:ρ->Prop):σ⊕ρ->Prop
 | .inl y=>I y
 | .inr r=>P r
variable {α β σ ρ:Type} {P R:α->Prop}
theorem Tot.ev {f:Nat->Option α} {z:α} (h:Tot f (λ x=>x=z)):Ev f z:=by obtain⟨_,rfl,h⟩:=h;exact h
theorem Ev.tot {f:Nat->Option α} {z:α} (h:Ev f z) (hp:P z):Tot f P:=⟨z,hp,h⟩
theorem Jh1 {z:α} (h:P z):Tot (λ _=>some z) P:=⟨z,h,Ev.const⟩
theorem Tot.all {f:Nat->Option α} {z:α} (h:∀ n,f n=some z) (hp:P z):Tot f P:=⟨z,hp,Ev.all h⟩
theorem Tot.mono {f:Nat->Option α} (h:Tot f R) (hp:∀ x,R x->P x):Tot f P:=by obtain⟨z,hz,h⟩:=h;exact⟨z,hp z hz,h⟩
theorem Tot.bind {f:Nat->Option β} {g:Nat->β->Option α} {R:β->Prop} (h:Tot f R) (k:∀ x,R x->Tot (λ n=>g n x) P):Tot (λ n=>(f n).bind (g n)) P:=by
 obtain⟨x,hx,h⟩:=h;obtain⟨z,hz,h'⟩:=k x hx;exact⟨z,hz,Ev.bind h h'⟩
theorem Jh2 {f:Nat->Option β} {g:Nat->β->Option α} {x:β} (h:Ev f x) (k:Tot (λ n=>g n x) P):Tot (λ n=>(f n).bind (g n)) P:=by
 obtain⟨z,hz,h'⟩:=k;exact⟨z,hz,Ev.bind h h'⟩
theorem Tot.bindC {x:Option β} {y:β} {g:Nat->β->Option α} (h:x=some y) (k:Tot (λ n=>g n y) P):Tot (λ n=>x.bind (g n)) P:=by subst h;exact k
theorem Jh3 {f:Nat->Option β} {y:β} {g:Nat->β->Option α} (h:∀ n,f n=some y) (k:Tot (λ n=>g n y) P):Tot (λ n=>(f n).bind (g n)) P:=Jh2 (Ev.all h) k
theorem Tot.ite {c:Bool} {a b:Nat->Option α} (h1:c=true->Tot a P) (h2:c=false->Tot b P):Tot (λ n=>if c=true then a n else b n) P:=by
 cases c with
 | true=>exact h1 rfl
 | false=>exact h2 rfl
theorem Tot.iteT {c:Bool} {a b:Nat->Option α} (h:c=true) (k:Tot a P):Tot (λ n=>if c=true then a n else b n) P:=by subst h;exact k
theorem Tot.iteF {c:Bool} {a b:Nat->Option α} (h:c=false) (k:Tot b P):Tot (λ n=>if c=true then a n else b n) P:=by subst h;exact k
theorem Tot.guard {c:Bool} {f:Nat->Option β} {d:β} {g:Nat->β->Option α} {R:β->Prop} (h:c=true->Tot f R) (k:∀ x,(c=true->R x)->Tot (λ n=>g n x) P):Tot (λ n=>(if c=true then f n else some d).bind (g n)) P:=by
 cases c with
 | true=>exact Tot.bind (h rfl) λ x hx=>k x λ _=>hx
 | false=>exact k d λ h=>by cases h
theorem Tot.congr {f g:Nat->Option α} (h:Tot f P) (e:∀ n,g n=f n):Tot g P:=by obtain⟨z,hz,h⟩:=h;exact⟨z,hz,h.congr e⟩
theorem Tot.whl {body:Nat->σ->Option (σ⊕ρ)} {P:ρ->Prop} (I:Nat->σ->Prop) (h:∀ k x,I k x->Tot (λ n=>body n x) (Rd2 (λ y=>∃ j,j<k/\I j y) P)):∀ (k:Nat) (x:σ),I k x->Tot (λ n=>Go.AI.whl (body n) n x) P:=by
 have key:∀ (k:Nat) (x:σ),I k x->∃ r,P r/\∃ N c,∀ n fuel,N<=n->c<=fuel->Go.AI.whl (body n) fuel x=some r:=by
  intro k;induction k using Nat.strongRecOn with
  | _ k ih=>
   intro x hx;obtain⟨z,hz,N1,h1⟩:=h k x hx;cases z with
   | inl y=>
    obtain⟨j,hj,hy⟩:=hz;obtain⟨r,hr,N2,c,h2⟩:=ih j hj y hy;refine⟨r,hr,max N1 N2,c+1,λ n fuel hn hf=>?_⟩;cases fuel with
    | zero=>omega
    | succ fuel=>
     have e:=h1 n (by omega);simp only at e;simp only[Go.AI.whl,e];exact h2 n fuel (by omega) (by omega)
   | inr r=>
    refine⟨r,hz,N1,1,λ n fuel hn hf=>?_⟩;cases fuel with
    | zero=>omega
    | succ fuel=>
     have e:=h1 n hn;simp only at e;simp only[Go.AI.whl,e]
 intro k x hx;obtain⟨r,hr,N,c,hh⟩:=key k x hx;exact⟨r,hr,max N c,λ m hm=>hh m m (by omega) (by omega)⟩
theorem Tot.upto {body:Nat->σ->Option (σ⊕ρ)} {P:ρ->Prop} (N:Nat) (I:Nat->σ->Prop)
  (step:∀ i x,i<N->I i x->Tot (λ n=>body n x) (Rd2 (I (i+1)) P))
  (last:∀ x,I N x->Tot (λ n=>body n x) (Rd2 (λ _=>False) P)) (x:σ) (h0:I 0 x):Tot (λ n=>Go.AI.whl (body n) n x) P:=by
 refine Tot.whl (body:=body) (λ k x=>∃ i,i<=N/\k=N-i/\I i x) ?_ N x ⟨0,by omega,by omega,h0⟩;rintro k x ⟨i,hi,rfl,hx⟩;rcases Jil i N with hlt|hge
 ·refine(step i x hlt hx).mono λ z hz=>?_;cases z with
  | inl y=>exact⟨N-(i+1),by omega,i+1,by omega,rfl,hz⟩
  | inr r=>exact hz
 ·have:i=N:=by omega
  subst this;refine(last x hx).mono λ z hz=>?_;cases z with
  | inl y=>exact hz.elim
  | inr r=>exact hz
theorem CH {l:List α} {i:Nat} {x:α} (h:l[i]?=some x):idx l (i:Int)=some x:=by
 unfold idx;rw[if_pos (by omega)];simpa using h
theorem Bj {l:List α} {i:Nat} (h:i<l.length):idx l (i:Int)=some l[i]:=CH (Jiu h)
theorem ZM {eb:Nat} {xs ys:List α} (h:(xs.length+ys.length)*eb<=70368744177664):app eb xs ys=some (xs++ys):=by
 unfold app;rw[if_pos h]
theorem Iz {l:List α} {i:Nat} {y:α} (h:i<l.length):put l (i:Int) y=some (l.set i y):=by
 unfold put;rw[if_pos (by omega),JiD]
theorem Ur {x y:List UInt8} (h:x.length+y.length<=9223372036854775807):cat x y=some (x++y):=by
 unfold cat;rw[if_pos h]
end Go.AI
end
section
namespace Go.AI
theorem JbF (a:Int):IntKind.i64.wrap a=if decide (a % 18446744073709551616>=9223372036854775808)=true then a % 18446744073709551616-18446744073709551616 else a % 18446744073709551616:=rfl
theorem w64 {a:Int} (h:-9223372036854775808<=a) (h':a<9223372036854775808):IntKind.i64.wrap a=a:=by
 rw[JbF];simp only[decide_eq_true_eq];split<;>omega
theorem ZN {a b:Int} (h:-9223372036854775808<=a+b) (h':a+b<9223372036854775808):Ba .i64 a b=a+b:=w64 h h'
theorem ZO {a b:Int} (h:-9223372036854775808<=a-b) (h':a-b<9223372036854775808):K5 .i64 a b=a-b:=w64 h h'
theorem Bx {i:Nat} (h:i<9223372036854775807):Ba .i64 (i:Int) 1=((i+1:Nat):Int):=by rw[ZN]<;>omega
theorem Jfo (a:Int):IntKind.u8.wrap a=a % 256:=rfl
theorem w8 {a:Int} (h:0<=a) (h':a<256):IntKind.u8.wrap a=a:=by rw[Jfo];omega
theorem Kn {a m:Int} (h:0<=a) (hm:0<m):Bh a m=a % m/\0<=Bh a m/\Bh a m<m:=by
 have e:Bh a m=a % m:=by unfold Bh;rw[Int.tmod_eq_emod_of_nonneg h]
 rw[e];exact⟨rfl,Int.emod_nonneg _ (by omega),Int.emod_lt_of_pos _ hm⟩
variable {α β σ ρ:Type}
theorem JgX [Inhabited α] {l:List α} {i:Int} (h:0<=i) (h':i<l.length):idx l i=some (l.getD i.toNat default):=by
 unfold idx;rw[if_pos h,List.getD_eq_getElem?_getD,Jiu (by omega)];rfl
theorem Hv [Inhabited α] {l:List α} {i:Nat} (h:i<l.length):idx l (i:Int)=some (l.getD i default):=by
 rw[JgX (by omega) (by omega),JiD]
theorem ZP {l:List α} {a b:Int} (h:0<=a) (h1:a<=b) (h2:b<=l.length):sub l a b=some ((l.take b.toNat).drop a.toNat):=by
 unfold sub;rw[if_pos ⟨h,h1,h2⟩]
theorem Vj {l:List α} {k:Nat} (h:k<=l.length):sub l 0 (k:Int)=some (l.take k):=by
 rw[ZP (by omega) (by omega) (by omega)];simp
theorem ZQ {eb:Nat} {k:Int} {z:α} (h:0<=k) (h':k.toNat*eb<=70368744177664):mkl eb k z=some (List.replicate k.toNat z):=by
 unfold mkl;rw[if_pos ⟨h,h'⟩]
theorem D9 {b:Bool} (h:b=true):CT b=some ():=by subst h;rfl
theorem Us {body:σ->Option (σ⊕ρ)} {r:ρ} (st:Nat->σ) (k:Nat) (step:∀ i,i<k->body (st i)=some (.inl (st (i+1)))) (last:body (st k)=some (.inr r)):∀ n,k<n->whl body n (st 0)=some r:=by
 have key:∀ (j n i:Nat),i+j=k->j<n->whl body n (st i)=some r:=by
  intro j;induction j with
  | zero=>
   intro n i hi hn;cases n with
   | zero=>omega
   | succ n=>
    have:i=k:=by omega
    subst this;simp only[whl,last]
  | succ j ih=>
   intro n i hi hn;cases n with
   | zero=>omega
   | succ n=>simp only[whl,step i (by omega)];exact ih n (i+1) (by omega) (by omega)
 intro n hn;exact key k n 0 (by omega) hn
theorem Ev.to {body:Nat->σ->Option (σ⊕ρ)} {r:ρ} (st:Nat->σ) (k:Nat) (h:∃ N,∀ n,N<=n->(∀ i,i<k->body n (st i)=some (.inl (st (i+1))))/\body n (st k)=some (.inr r)):Ev (λ n=>Go.AI.whl (body n) n (st 0)) r:=by
 obtain⟨N,h⟩:=h;exact⟨max N (k+1),λ n hn=>Us st k (h n (by omega)).1 (h n (by omega)).2 n (by omega)⟩
def Hl (N:Nat) (stop:Nat->Option ρ) (d:ρ):ρ:=((List.range N).findSome? stop).getD d
theorem WB {N:Nat} {stop:Nat->Option ρ} {d:ρ} (h:∀ i,i<N->stop i=none):Hl N stop d=d:=by
 unfold Hl;rw[List.findSome?_eq_none_iff.2 λ i hi=>h i (List.mem_range.1 hi)];rfl
theorem WC {N:Nat} {stop:Nat->Option ρ} {d r:ρ} (k:Nat) (hk:k<N) (hr:stop k=some r) (h:∀ i,i<k->stop i=none):Hl N stop d=r:=by
 unfold Hl;have:(List.range N).findSome? stop=some r:=by
  have e:List.range N=List.range k++(List.range (N-k)).map (k+·):=by rw[← List.range_add];congr 1;omega
  rw[e,List.findSome?_append,List.findSome?_eq_none_iff.2 λ i hi=>h i (List.mem_range.1 hi)];have:N-k=(N-k-1)+1:=by omega
  rw[this,List.range_succ_eq_map];simp[hr]
 rw[this];rfl
theorem PD (N:Nat) (stop:Nat->Option ρ) (d:ρ):((∀ i,i<N->stop i=none)/\Hl N stop d=d)\/∃ k r,k<N/\stop k=some r/\(∀ i,i<k->stop i=none)/\Hl N stop d=r:=by
 by_cases h:∀ i,i<N->stop i=none
 ·exact .inl ⟨h,WB h⟩
 ·right;have hex:∃ k,k<N/\stop k≠none:=by
   apply Classical.byContradiction;intro hh;exact h λ i hi=>Classical.byContradiction λ hn=>hh ⟨i,hi,hn⟩
  have key:∀ m,(∃ k,k<m/\k<N/\stop k≠none)->∃ k,k<N/\stop k≠none/\∀ i,i<k->stop i=none:=by
   intro m;induction m with
   | zero=>rintro⟨k,hk,_⟩;omega
   | succ m ih=>
    rintro⟨k,hk,h1,h2⟩;by_cases hm:∃ k,k<m/\k<N/\stop k≠none
    ·exact ih hm
    ·refine⟨k,h1,h2,λ i hi=>Classical.byContradiction λ hn=>hm ⟨i,by omega,by omega,hn⟩⟩
  obtain⟨k0,h1,h2⟩:=hex;obtain⟨k,h3,h4,h5⟩:=key (k0+1) ⟨k0,by omega,h1,h2⟩;obtain⟨r,hr⟩:=Option.ne_none_iff_exists'.1 h4;exact⟨k,r,h3,hr,h5,WC k h3 hr h5⟩
theorem WD {body:Int->Option (Int⊕ρ)} {N:Nat} (stop:Nat->Option ρ) {d:ρ} (h1:∀ i,i<N->body (i:Int)=some (match stop i with|some r=>.inr r|none=>.inl ((i+1:Nat):Int))) (h2:body (N:Int)=some (.inr d)):∀ n,N<n->whl body n 0=some (Hl N stop d):=by
 intro n hn;rcases PD N stop d with⟨h,e⟩|⟨k,r,hk,hr,h,e⟩
 ·rw[e];exact Us (λ i=>(i:Int)) N (λ i hi=>by rw[h1 i hi,h i hi]) h2 n hn
 ·rw[e];exact Us (λ i=>(i:Int)) k (λ i hi=>by rw[h1 i (by omega),h i hi]) (by rw[h1 k hk,hr]) n (by omega)
theorem Ev.first {body:Nat->Int->Option (Int⊕ρ)} {N:Nat} (stop:Nat->Option ρ) {d:ρ} (h:∃ M,∀ n,M<=n->(∀ i,i<N->body n (i:Int)=some (match stop i with|some r=>.inr r|none=>.inl ((i+1:Nat):Int)))/\body n (N:Int)=some (.inr d)):Ev (λ n=>Go.AI.whl (body n) n 0) (Hl N stop d):=by
 obtain⟨M,h⟩:=h;exact⟨max M (N+1),λ n hn=>WD stop (h n (by omega)).1 (h n (by omega)).2 n (by omega)⟩
theorem Jh4 {P:α->Prop} {c:Bool} {f:Nat->Option β} {d:β} {g:Nat->β->Option α} (hc:c=false) (k:Tot (λ n=>g n d) P):Tot (λ n=>(if c=true then f n else some d).bind (g n)) P:=by
 subst hc;exact k
theorem Jh5 {f:Nat->Nat->Option α} {z:Nat->α} (N:Nat) (h:∀ i,i<N->Ev (λ n=>f n i) (z i)):∃ M,∀ n,M<=n->∀ i,i<N->f n i=some (z i):=by
 induction N with
 | zero=>exact⟨0,λ n _ i hi=>by omega⟩
 | succ N ih=>
  obtain⟨M1,h1⟩:=ih λ i hi=>h i (by omega);obtain⟨M2,h2⟩:=h N (by omega);exact⟨max M1 M2,λ n hn i hi=>by
   by_cases e:i=N
   ·subst e;exact h2 n (by omega)
   ·exact h1 n (by omega) i (by omega)⟩
end Go.AI
end
section
namespace Go.AI
def scan {ρ:Type} (N:Nat) (stop:Nat->Option ρ):Unit⊕ρ:=match (List.range N).findSome? stop with
 | some r=>.inr r
 | none=>.inl ()
theorem FD {ρ:Type} {body:Nat->Int->Option (Int⊕(Unit⊕ρ))} (N:Nat) (stop:Nat->Option ρ)
  (h:∀ i,i<N->Ev (λ n=>body n (i:Int)) (match stop i with|some r=>.inr (.inr r)|none=>.inl ((i+1:Nat):Int)))
  (h2:Ev (λ n=>body n (N:Int)) (.inr (.inl ()))):Ev (λ n=>whl (body n) n 0) (AI.scan N stop):=by
 have key:∀ (k i:Nat),i+k=N->(List.range N).findSome? stop=((List.range k).map (i+·)).findSome? stop->∃ M c,∀ n fuel,M<=n->c<=fuel->whl (body n) fuel (i:Int)=some (AI.scan N stop):=by
  intro k;induction k with
  | zero=>
   intro i hi hf;have:i=N:=by omega
   subst this;obtain⟨M,hM⟩:=h2;refine⟨M,1,λ n fuel hn hfu=>?_⟩;obtain⟨fuel,rfl⟩:∃ f,fuel=f+1:=⟨fuel-1,by omega⟩;have e:=hM n hn;simp only at e;simp only[AI.whl,e];unfold AI.scan;rw[hf];rfl
  | succ k ih=>
   intro i hi hf;obtain⟨M,hM⟩:=h i (by omega);have hs:(List.range (k+1)).map (i+·)=i::(List.range k).map ((i+1)+·):=by
    rw[List.range_succ_eq_map];simp only[Jir,Nat.add_zero,List.map_map,List.cons.injEq,true_and];apply Jit;intro a _;simp only[Function.comp];omega
   rw[hs,List.findSome?_cons]at hf;cases hst:stop i with
   | some r=>
    rw[hst]at hf hM;refine⟨M,1,λ n fuel hn hfu=>?_⟩;obtain⟨fuel,rfl⟩:∃ f,fuel=f+1:=⟨fuel-1,by omega⟩;have e:=hM n hn;simp only at e;simp only[AI.whl,e];unfold AI.scan;rw[hf]
   | none=>
    rw[hst]at hf hM;obtain⟨M2,c,h3⟩:=ih (i+1) (by omega) hf;refine⟨max M M2,c+1,λ n fuel hn hfu=>?_⟩;obtain⟨fuel,rfl⟩:∃ f,fuel=f+1:=⟨fuel-1,by omega⟩;have e:=hM n (by omega);simp only at e;simp only[AI.whl,e];exact h3 n fuel (by omega) (by omega)
 obtain⟨M,c,hh⟩:=key N 0 (by omega) (by simp);exact⟨max M c,λ m hm=>hh m m (by omega) (by omega)⟩
theorem Gx {ρ:Type} {N:Nat} {stop:Nat->Option ρ} (h:∀ i,i<N->stop i=none):scan N stop=.inl ():=by
 unfold scan;rw[List.findSome?_eq_none_iff.2 λ i hi=>h i (List.mem_range.1 hi)]
theorem Gy {ρ:Type} {N:Nat} {stop:Nat->Option ρ} {i:Nat} (hi:i<N) (h:(stop i).isSome=true):∃ k r,k<N/\stop k=some r/\scan N stop=.inr r:=by
 unfold scan;cases hf:(List.range N).findSome? stop with
 | none=>rw[List.findSome?_eq_none_iff.1 hf i (List.mem_range.2 hi)]at h;cases h
 | some r=>
  obtain⟨k,hk,hr⟩:=List.exists_of_findSome?_eq_some hf;exact⟨k,r,List.mem_range.1 hk,hr,rfl⟩
def L4 (b:UInt8):Int:=(b.toNat:Int)
def Gm (b:UInt8):Bool:=decide (Dp .u8 (L4 b) 127>=32)&&decide (Dp .u8 (L4 b) 127<=126)
def C4 (b:UInt8):Bool:=Dp .u8 (L4 b) 127==32
theorem L5 {s:List UInt8} {i:Nat} {b:UInt8} (h:s[i]?=some b):IY s (i:Int)=some (L4 b):=by
 rw[Rs (Ak h)];unfold Nd L4;rw[h];rfl
theorem Rt {i n:Nat} (h:i<n):decide ((i:Int)<((n:Nat):Int))=true:=by simpa using h
def Nf (s:List UInt8):Int×Int:=match scan s.length (λ i=>if Gm (s.getD i 0)then none else some ((i:Int),(60:Int)))with
 | .inl _=>(((s.length:Nat):Int),0)
 | .inr p=>p
theorem BN {α:Type} {l:List α} {i:Nat} {d:α} (h:i<l.length):l.getD i d=l[i]:=by
 rw[List.getD_eq_getElem?_getD,Jiu h];rfl
theorem JbG {s:List UInt8} (hl:s.length<9223372036854775807):Ev (λ n=>LO n s) (Nf s):=by
 unfold LO Nf;refine Ev.bind (FD s.length (λ i=>if Gm (s.getD i 0)then none else some ((i:Int),(60:Int))) (λ i hi=>Ev.all λ n=>?_) (Ev.all λ n=>?_)) ?_
 ·unfold Hc;have hg:s[i]?=some s[i]:=Jiu hi;rw[if_pos (Rt hi),L5 hg,BN hi];have hc:F6 n (L4 s[i])=some (Gm s[i]):=rfl;simp only[Jib,hc];cases Gm s[i]with
  | true=>simp[Bx (show i<9223372036854775807 by omega)]
  | false=>simp
 ·unfold Hc;rw[if_neg (by simp)]
 ·generalize scan s.length _=z;cases z<;>exact Ev.const
theorem ZR {s:List UInt8} (hl:s.length<9223372036854775807):Ev (λ n=>LQ n s) (Nf s):=by
 unfold LQ Nf;refine Ev.bind (FD s.length (λ i=>if Gm (s.getD i 0)then none else some ((i:Int),(60:Int))) (λ i hi=>Ev.all λ n=>?_) (Ev.all λ n=>?_)) ?_
 ·unfold He;have hg:s[i]?=some s[i]:=Jiu hi;rw[if_pos (Rt hi),L5 hg,BN hi];have hc:Ho n (L4 s[i])=some (Gm s[i]):=rfl;simp only[Jib,hc];cases Gm s[i]with
  | true=>simp[Bx (show i<9223372036854775807 by omega)]
  | false=>simp
 ·unfold He;rw[if_neg (by simp)]
 ·generalize scan s.length _=z;cases z<;>exact Ev.const
theorem S7 {s:List UInt8} (h:s.all Gm=true):Nf s=(((s.length:Nat):Int),0):=by
 unfold Nf;rw[Gx λ i hi=>by rw[BN hi,Jif.1 h _ (Jih hi)];rfl]
theorem Qc {s:List UInt8} (h:s.all Gm=false):(Nf s).2=60:=by
 rw[List.all_eq_false]at h;obtain⟨b,hb,hc⟩:=h;obtain⟨i,hi,e⟩:=List.getElem_of_mem hb;unfold Nf;obtain⟨k,r,hk,hr,hs⟩:=Gy (stop:=λ i=>if Gm (s.getD i 0)then none else some ((i:Int),(60:Int))) hi (by
  rw[BN hi,e];simp only[Jij]at hc;rw[hc];rfl)
 rw[hs];simp only at hr⊢;split at hr
 ·cases hr
 ·cases hr;rfl
theorem WE {s:List UInt8} (hl:s.length<9223372036854775807):Ev (λ n=>In n s) (s.all Gm):=by
 unfold In;refine Ev.bind (ZR hl) ?_;cases h:s.all Gm with
 | true=>rw[S7 h];exact Ev.const
 | false=>rw[Qc h];exact Ev.const
def B4 (r:AF) (m:Int):Bool:=
 r.Print.all Gm&&decide (r.Print.length<=4)&&decide (1<=r.Cells.length)&&decide (r.Cells.length<=4) &&
 (decide (1<=r.Left)&&decide (r.Left<=63)&&decide (1<=r.Right)&&decide (r.Right<=63)&&decide (0<=r.From)&&decide (r.From<m)&&decide (0<=r.To)&&decide (r.To<m)) &&
 r.Cells.all (λ c=>decide (c<63)) &&
 (bif r.Print.any C4 then decide (r.Print.length=1)&&decide (r.Cells.length=1)&&r.Cells.any (λ c=>c==0)else !r.Cells.any (λ c=>c==0))
end Go.AI
end
section
namespace Go.AI
theorem WF {r:AF} (hl:r.Print.length<9223372036854775807):Ev (λ n=>whl (λ (x:(Bool×Int))=>D6 n r x.1 x.2) n (false,0)) (r.Print.any C4):=by
 refine Ev.whl (body:=λ n x=>D6 n r x.1 x.2) (λ k x=>∃ i:Nat,x.2=(i:Int)/\i<=r.Print.length/\k=r.Print.length-i/\x.1=(r.Print.take i).any C4) ?_ r.Print.length (false,0) ⟨0,rfl,by omega,by omega,by simp⟩;rintro k ⟨b,i'⟩ ⟨i,h1,hi,rfl,h2⟩;simp only at h1 h2;subst h1;subst h2;rcases Jil i r.Print.length with hlt|hge
 ·left;have hg:r.Print[i]?=some r.Print[i]:=Jiu hlt;have hcond:decide ((i:Int)<((r.Print.length:Nat):Int))=true:=by simpa using hlt
  refine⟨((r.Print.take (i+1)).any C4,((i+1:Nat):Int)),r.Print.length-(i+1),by omega,⟨i+1,rfl,by omega,rfl,rfl⟩,Ev.all λ n=>?_⟩;unfold D6;rw[if_pos hcond];have ht:(r.Print.take (i+1)).any C4=((r.Print.take i).any C4||C4 r.Print[i]):=by
   rw[List.take_add_one,hg];simp only[Option.toList_some,List.any_append,List.any_cons,List.any_nil,Bool.or_false]
  have hsp:∀ n,Ms n (L4 r.Print[i])=some (C4 r.Print[i]):=λ n=>rfl;rw[ht,O7 (by omega) (by omega),L5 hg];cases (r.Print.take i).any C4 with
  | true=>simp
  | false=>simp[hsp]
 ·right;have e:i=r.Print.length:=by omega
  subst e;refine Ev.all λ n=>?_;unfold D6;rw[if_neg (by simp),List.take_length]
theorem Ev.upto {σ ρ:Type} {body:Nat->σ->Option (σ⊕ρ)} {R:ρ->Prop} (N:Nat) (I:Nat->σ->Prop)
  (step:∀ i x,i<N->I i x->(∃ y,I (i+1) y/\Ev (λ n=>body n x) (.inl y))\/∃ r,R r/\Ev (λ n=>body n x) (.inr r))
  (last:∀ x,I N x->∃ r,R r/\Ev (λ n=>body n x) (.inr r)) (x:σ) (h0:I 0 x):∃ r,R r/\Ev (λ n=>Go.AI.whl (body n) n x) r:=by
 refine Jh0 (body:=body) (λ k x=>∃ i,i<=N/\k=N-i/\I i x) ?_ N x ⟨0,by omega,by omega,h0⟩;rintro k x ⟨i,hi,rfl,hx⟩;rcases Jil i N with hlt|hge
 ·rcases step i x hlt hx with⟨y,hy,hE⟩|h
  ·exact .inl ⟨y,N-(i+1),by omega,⟨i+1,by omega,rfl,hy⟩,hE⟩
  ·exact .inr h
 ·have:i=N:=by omega
  subst this;exact .inr (last x hx)
theorem WG {r:AF} (hl:r.Cells.length<9223372036854775807) (y:Bool):∃ z:Bool⊕Bool,(if r.Cells.all (λ c=>decide (c<63))=true then z=.inl (r.Cells.any (λ c=>c==0))else z=.inr false)/\Ev (λ n=>whl (λ (x:(Bool×Int))=>Dh n r y x.1 x.2) n (false,0)) z:=by
 refine Ev.upto (body:=λ n x=>Dh n r y x.1 x.2) r.Cells.length (λ i x=>x.2=(i:Int)/\x.1=(r.Cells.take i).any (λ c=>c==0)/\(r.Cells.take i).all (λ c=>decide (c<63))=true) ?_ ?_ (false,0) ⟨rfl,by simp,by simp⟩
 ·rintro i ⟨b,i'⟩ hlt ⟨h1,h2,h3⟩;simp only at h1 h2;subst h1;subst h2;have hg:r.Cells[i]?=some r.Cells[i]:=Jiu hlt;have hcond:decide ((i:Int)<((r.Cells.length:Nat):Int))=true:=by simpa using hlt
  by_cases hc:r.Cells[i]<63
  ·left;refine⟨((r.Cells.take (i+1)).any (λ c=>c==0),((i+1:Nat):Int)),⟨rfl,rfl,?_⟩,Ev.all λ n=>?_⟩
   ·rw[List.take_add_one,hg];simp only[Option.toList_some,List.all_append,h3,List.all_cons,decide_eq_true hc,List.all_nil,Bool.and_self]
   ·unfold Dh;have ht:(r.Cells.take (i+1)).any (λ c=>c==0)=((r.Cells.take i).any (λ c=>c==0)||r.Cells[i]==0):=by
     rw[List.take_add_one,hg];simp only[Option.toList_some,List.any_append,List.any_cons,List.any_nil,Bool.or_false]
    rw[if_pos hcond,Iy hg,Jib,if_neg (by simpa using hc),ht,O7 (by omega) (by omega)];cases (r.Cells.take i).any (λ c=>c==0)with
    | true=>simp
    | false=>simp
  ·right;refine⟨.inr false,?_,Ev.all λ n=>?_⟩
   ·rw[if_neg];intro h;rw[Jif]at h;exact hc (by simpa using h r.Cells[i] (Jih hlt))
   ·unfold Dh;rw[if_pos hcond,Iy hg,Jib,if_pos (by simp;omega)]
 ·rintro⟨b,i'⟩ ⟨h1,h2,h3⟩;simp only at h1 h2;subst h1;subst h2;rw[List.take_length]at h3⊢;refine⟨.inl (r.Cells.any (λ c=>c==0)),by rw[if_pos h3],Ev.all λ n=>?_⟩;unfold Dh;rw[if_neg (by simp)]
theorem ZS {r:AF} (hp:r.Print.length<9223372036854775807) (hc:r.Cells.length<9223372036854775807) (m:Int):Ev (λ n=>Kk n r m) (B4 r m):=by
 obtain⟨z,hz,hE⟩:=WG hc (r.Print.any C4);have h1:=WE hp;have h2:=WF (r:=r) hp;unfold Kk;refine Ev.bind h1 ?_;unfold B4;generalize r.Print.all Gm=a;by_cases g1:((((!a)||(decide (((r.Print.length:Nat):Int)>4)))||(decide (((r.Cells.length:Nat):Int)<1)))||(decide (((r.Cells.length:Nat):Int)>4)))=true
 ·simp only[g1,if_true];have:(a&&decide (r.Print.length<=4)&&decide (1<=r.Cells.length)&&decide (r.Cells.length<=4))=false:=by
   rw[← Jij];intro h;simp only[Jiv,decide_eq_true_eq]at h;simp only[JiN,decide_eq_true_eq,Bool.not_eq_true']at g1;rcases g1 with ((g|g)|g)|g
   ·rw[g]at h;simp at h
   all_goals omega
  rw[this];exact Ev.const
 ·simp only[g1];by_cases g2:((((((((decide (r.Left<1))||(decide (r.Left>63)))||(decide (r.Right<1)))||(decide (r.Right>63)))||(decide (r.From<0)))||(decide (r.From>=m)))||(decide (r.To<0)))||(decide (r.To>=m)))=true
  ·simp only[g2,if_true];have:(decide (1<=r.Left)&&decide (r.Left<=63)&&decide (1<=r.Right)&&decide (r.Right<=63)&&decide (0<=r.From)&&decide (r.From<m)&&decide (0<=r.To)&&decide (r.To<m))=false:=by
    rw[← Jij];intro h;simp only[Jiv,decide_eq_true_eq]at h;simp only[JiN,decide_eq_true_eq]at g2;omega
   rw[this,Bool.and_false];exact Ev.const
  ·have e1:(a&&decide (r.Print.length<=4)&&decide (1<=r.Cells.length)&&decide (r.Cells.length<=4))=true:=by
    simp only[JiN,decide_eq_true_eq,Bool.not_eq_true',not_or]at g1;simp only[Jiv,decide_eq_true_eq];refine⟨⟨⟨by simpa using g1.1.1.1,?_⟩,?_⟩,?_⟩<;>omega
   have e2:(decide (1<=r.Left)&&decide (r.Left<=63)&&decide (1<=r.Right)&&decide (r.Right<=63)&&decide (0<=r.From)&&decide (r.From<m)&&decide (0<=r.To)&&decide (r.To<m))=true:=by
    simp only[JiN,decide_eq_true_eq,not_or]at g2;simp only[Jiv,decide_eq_true_eq];omega
   rw[e1,e2];simp only[g2,JiG,if_false];refine Ev.bind h2 (Ev.bind hE ?_);split at hz
   ·rename_i h;subst hz;rw[h];generalize r.Print.any C4=b;cases b with
    | false=>exact Ev.const
    | true=>
     refine Ev.all λ n=>?_;simp only[Jii,JiG,if_false,Bool.and_true,Bool.true_and,cond_true];congr 3<;>rw[Bool.eq_iff_iff]<;>simp<;>omega
   ·rename_i h;subst hz;rw[Jij]at h;rw[h];exact Ev.const
end Go.AI
end
section
namespace Go.AI
theorem Ev.iteT {α:Type} {c:Bool} {a b:Nat->Option α} {z:α} (h:c=true) (k:Ev a z):Ev (λ n=>if c=true then a n else b n) z:=by subst h;exact k
theorem Ev.iteF {α:Type} {c:Bool} {a b:Nat->Option α} {z:α} (h:c=false) (k:Ev b z):Ev (λ n=>if c=true then a n else b n) z:=by subst h;exact k
theorem Ev.bindC {α β:Type} {x:Option β} {y:β} {g:Nat->β->Option α} {z:α} (h:x=some y) (k:Ev (λ n=>g n y) z):Ev (λ n=>x.bind (g n)) z:=by subst h;exact k
theorem Ev.guard {α β:Type} {c:Bool} {f:Nat->Option β} {d x:β} {g:Nat->β->Option α} {z:α} (h:c=true->Ev f x) (k:Ev (λ n=>g n (if c=true then x else d)) z):Ev (λ n=>(if c=true then f n else some d).bind (g n)) z:=by
 cases c with
 | true=>exact Ev.bind (h rfl) k
 | false=>exact k
theorem ZT {α β:Type} {a:List α} {b:List β}:(((a.length:Nat):Int) != ((b.length:Nat):Int))=decide (a.length≠b.length):=by
 rw[Bool.eq_iff_iff];simp only[bne_iff_ne,ne_eq,decide_eq_true_eq];omega
theorem Qd {α:Type} [DecidableEq α] [Inhabited α] (a b:List α) (h:a.length=b.length):scan a.length (λ i=>if a.getD i default=b.getD i default then none else some false)=if a=b then .inl ()else .inr false:=by
 by_cases e:a=b
 ·subst e;rw[if_pos rfl];exact Gx λ i _=>by rw[if_pos rfl]
 ·rw[if_neg e];have:∃ i,i<a.length/\a.getD i default≠b.getD i default:=by
   apply Classical.byContradiction;intro hn;refine e (List.ext_getElem h λ i h1 h2=>?_);have:=Classical.byContradiction λ hc=>hn ⟨i,h1,hc⟩;rwa[BN h1,BN h2]at this
  obtain⟨i,hi,hne⟩:=this;obtain⟨k,r,_,hr,hs⟩:=Gy (stop:=λ i=>if a.getD i default=b.getD i default then none else some false) hi (by rw[if_neg hne];rfl)
  rw[hs];split at hr
  ·cases hr
  ·cases hr;rfl
theorem Gv (a b:List Int) (ha:a.length<9223372036854775807):Ev (λ n=>CW n a b) (decide (a=b)):=by
 unfold CW;rw[ZT];by_cases h:a.length=b.length
 ·refine Ev.iteF (by simp[h]) ?_;refine Ev.bind (FD a.length (λ i=>if a.getD i default=b.getD i default then none else some false) (λ i hi=>Ev.all λ n=>?_) (Ev.all λ n=>?_)) ?_
  ·unfold D5;rw[if_pos (Rt hi),Hv hi,Hv (by omega)];simp only[Jib];by_cases e:a.getD i default=b.getD i default
   ·rw[if_neg (by simp only[bne_iff_ne,ne_eq];exact λ hh=>hh e),if_pos e,Bx (by omega)]
   ·rw[if_pos (by simp only[bne_iff_ne,ne_eq];exact e),if_neg e]
  ·unfold D5;rw[if_neg (by simp)]
  ·rw[Qd a b h];by_cases e:a=b
   ·rw[if_pos e,decide_eq_true e];exact Ev.const
   ·rw[if_neg e,decide_eq_false e];exact Ev.const
 ·refine Ev.iteT (by simp[h]) ?_;rw[decide_eq_false (λ e=>h (by rw[e]))];exact Ev.const
theorem S8 (a b:List Int) (ha:a.length<9223372036854775807):Ev (λ n=>Ke n a b) (decide (a=b)):=by
 unfold Ke;rw[ZT];by_cases h:a.length=b.length
 ·refine Ev.iteF (by simp[h]) ?_;refine Ev.bind (FD a.length (λ i=>if a.getD i default=b.getD i default then none else some false) (λ i hi=>Ev.all λ n=>?_) (Ev.all λ n=>?_)) ?_
  ·unfold Gs;rw[if_pos (Rt hi),Hv hi,Hv (by omega)];simp only[Jib];by_cases e:a.getD i default=b.getD i default
   ·rw[if_neg (by simp only[bne_iff_ne,ne_eq];exact λ hh=>hh e),if_pos e,Bx (by omega)]
   ·rw[if_pos (by simp only[bne_iff_ne,ne_eq];exact e),if_neg e]
  ·unfold Gs;rw[if_neg (by simp)]
  ·rw[Qd a b h];by_cases e:a=b
   ·rw[if_pos e,decide_eq_true e];exact Ev.const
   ·rw[if_neg e,decide_eq_false e];exact Ev.const
 ·refine Ev.iteT (by simp[h]) ?_;rw[decide_eq_false (λ e=>h (by rw[e]))];exact Ev.const
theorem Vk (a b:AF):decide (a=b)=(a.Print==b.Print&&decide (a.Cells=b.Cells)&&a.Left==b.Left&&a.Right==b.Right&&a.From==b.From&&a.To==b.To):=by
 rw[Bool.eq_iff_iff];cases a;cases b;simp only[decide_eq_true_eq,AF.mk.injEq,Jiv,beq_iff_eq];exact⟨λ⟨h1,h2,h3,h4,h5,h6⟩=>⟨⟨⟨⟨⟨h1,h2⟩,h3⟩,h4⟩,h5⟩,h6⟩,λ⟨⟨⟨⟨⟨h1,h2⟩,h3⟩,h4⟩,h5⟩,h6⟩=>⟨h1,h2,h3,h4,h5,h6⟩⟩
theorem S9 (a b:AF) (ha:a.Cells.length<9223372036854775807):Ev (λ n=>Gu n a b) (decide (a=b)):=by
 unfold Gu;refine Ev.guard (λ _=>Gv a.Cells b.Cells ha) (Ev.all λ n=>?_);rw[Vk];cases h:(a.Print==b.Print)<;>simp
theorem ZU (a b:AF) (ha:a.Cells.length<9223372036854775807):Ev (λ n=>Kf n a b) (decide (a=b)):=by
 unfold Kf;refine Ev.guard (λ _=>S8 a.Cells b.Cells ha) (Ev.all λ n=>?_);rw[Vk];cases (a.Print==b.Print)<;>cases (a.Left==b.Left)<;>cases (a.Right==b.Right)<;>cases (a.From==b.From)<;>cases (a.To==b.To)<;>simp
theorem Ta (b:UInt8):(F7 (L4 b)==4)=C4 b:=by
 have:∀ k:Nat,k<256->(F7 (k:Int)==4)=(Dp .u8 (k:Int) 127==32):=by decide +kernel
 exact this b.toNat b.toNat_lt
theorem ZV {s:List UInt8} {f:UInt8->Bool}:scan s.length (λ i=>if f (s.getD i 0)then some true else none)=if s.any f then .inr true else .inl ():=by
 cases h:s.any f with
 | false=>
  rw[List.any_eq_false]at h;exact Gx λ i hi=>by rw[BN hi,if_neg (h _ (Jih hi))]
 | true=>
  rw[List.any_eq_true]at h;obtain⟨b,hb,hf⟩:=h;obtain⟨i,hi,e⟩:=List.getElem_of_mem hb;obtain⟨k,r,_,hr,hs⟩:=Gy (stop:=λ i=>if f (s.getD i 0)then some true else none) hi (by rw[BN hi,e,hf];rfl)
  rw[hs];split at hr
  ·cases hr;rfl
  ·cases hr
theorem Tb {s:List UInt8} (hl:s.length<9223372036854775807):Ev (λ n=>Gq n s) (s.any C4):=by
 unfold Gq;refine Ev.bind (FD s.length (λ i=>if C4 (s.getD i 0)then some true else none) (λ i hi=>Ev.all λ n=>?_) (Ev.all λ n=>?_)) ?_
 ·unfold Ey;have hg:s[i]?=some s[i]:=Jiu hi;rw[if_pos (Rt hi),L5 hg,BN hi];simp only[Jib,S2,Ta];cases C4 s[i]with
  | true=>simp
  | false=>simp[Bx (show i<9223372036854775807 by omega)]
 ·unfold Ey;rw[if_neg (by simp)]
 ·rw[ZV];cases s.any C4<;>exact Ev.const
theorem WH {l:List Int} {f:Int->Bool}:scan l.length (λ i=>if f (l.getD i 0)then none else some false)=if l.all f then .inl ()else .inr false:=by
 cases h:l.all f with
 | true=>
  rw[Jif]at h;exact Gx λ i hi=>by rw[BN hi,if_pos (h _ (Jih hi))]
 | false=>
  rw[List.all_eq_false]at h;obtain⟨b,hb,hf⟩:=h;obtain⟨i,hi,e⟩:=List.getElem_of_mem hb;obtain⟨k,r,_,hr,hs⟩:=Gy (stop:=λ i=>if f (l.getD i 0)then none else some false) hi (by rw[BN hi,e,if_neg hf];rfl)
  rw[hs];split at hr
  ·cases hr
  ·cases hr;rfl
def Ng (c:Int):Bool:=decide (c<63)&&!(c==0)
theorem WI {r:AF} (hp:r.Print.length<9223372036854775807) (hc:r.Cells.length<9223372036854775807) (m:Int):Ev (λ n=>Kd n r m) (B4 r m):=by
 unfold Kd;by_cases g1:(((decide (((r.Print.length:Nat):Int)>4))||(decide (((r.Cells.length:Nat):Int)<1)))||(decide (((r.Cells.length:Nat):Int)>4)))=true
 ·refine Ev.iteT g1 ?_;have:B4 r m=false:=by
   rw[← Jij];intro h;simp only[B4,Jiv,decide_eq_true_eq]at h;simp only[JiN,decide_eq_true_eq]at g1;omega
  rw[this];exact Ev.const
 ·rw[Jij]at g1;refine Ev.iteF g1 (Ev.bind (JbG hp) ?_);cases ha:r.Print.all Gm with
  | false=>
   refine Ev.iteT (by rw[Qc ha];rfl) ?_;have:B4 r m=false:=by simp[B4,ha]
   rw[this];exact Ev.const
  | true=>
   refine Ev.iteF (by rw[S7 ha];rfl) ?_;by_cases g2:((((decide (r.Left<1))||(decide (r.Left>63)))||(decide (r.Right<1)))||(decide (r.Right>63)))=true
   ·refine Ev.iteT g2 ?_;have:B4 r m=false:=by
     rw[← Jij];intro h;simp only[B4,Jiv,decide_eq_true_eq]at h;simp only[JiN,decide_eq_true_eq]at g2;omega
    rw[this];exact Ev.const
   ·rw[Jij]at g2;refine Ev.iteF g2 ?_;by_cases g3:((((decide (r.From<0))||(decide (r.From>=m)))||(decide (r.To<0)))||(decide (r.To>=m)))=true
    ·refine Ev.iteT g3 ?_;have:B4 r m=false:=by
      rw[← Jij];intro h;simp only[B4,Jiv,decide_eq_true_eq]at h;simp only[JiN,decide_eq_true_eq]at g3;omega
     rw[this];exact Ev.const
    ·rw[Jij]at g3;refine Ev.iteF g3 (Ev.bind (Tb hp) ?_);simp only[Bool.or_eq_false_iff,decide_eq_false_iff_not]at g1 g2 g3;have e1:B4 r m=(r.Cells.all (λ c=>decide (c<63))&&(bif r.Print.any C4 then decide (r.Print.length=1)&&decide (r.Cells.length=1)&&r.Cells.any (λ c=>c==0)else !r.Cells.any (λ c=>c==0))):=by
      unfold B4;rw[ha];have:(true&&decide (r.Print.length<=4)&&decide (1<=r.Cells.length)&&decide (r.Cells.length<=4)&&(decide (1<=r.Left)&&decide (r.Left<=63)&&decide (1<=r.Right)&&decide (r.Right<=63)&&decide (0<=r.From)&&decide (r.From<m)&&decide (0<=r.To)&&decide (r.To<m)))=true:=by
       simp only[Jiv,decide_eq_true_eq,true_and];omega
      rw[this,Bool.true_and]
     rw[e1];cases hsp:r.Print.any C4 with
     | true=>
      refine Ev.iteT rfl ?_;by_cases g4:((((r.Print.length:Nat):Int)==1)&&(((r.Cells.length:Nat):Int)==1))=true
      ·have hl:r.Print.length=1/\r.Cells.length=1:=by
        simp only[Jiv,beq_iff_eq]at g4;omega
       obtain⟨c,hcell⟩:=List.length_eq_one_iff.1 hl.2;have hi:idx r.Cells 0=some c:=by rw[hcell];rfl
       simp only[g4,if_true,hi,Jib];refine Ev.all λ n=>?_;rw[hcell];simp only[hl.1,List.all_cons,List.all_nil,List.any_cons,List.any_nil,List.length_cons,List.length_nil,Bool.and_true,Bool.or_false,decide_true,Bool.true_and,cond_true];cases h0:(c==0)with
       | false=>simp
       | true=>
        have:c=0:=by simpa using h0
        subst this;rfl
      ·rw[Jij]at g4;simp only[g4,JiG,if_false,Jib,Bool.false_and];refine Ev.all λ n=>?_;have:(decide (r.Print.length=1)&&decide (r.Cells.length=1))=false:=by
        rw[← Jij];intro h;simp only[Jiv,decide_eq_true_eq]at h;rw[← Jij]at g4;apply g4;simp[h.1,h.2]
       simp[this]
     | false=>
      refine Ev.iteF rfl ?_;refine Ev.bind (FD r.Cells.length (λ i=>if Ng (r.Cells.getD i 0)then none else some false) (λ i hi=>Ev.all λ n=>?_) (Ev.all λ n=>?_)) ?_
      ·unfold Gr;rw[if_pos (Rt hi),Hv hi,show r.Cells.getD i default=r.Cells.getD i 0 from rfl];generalize r.Cells.getD i 0=c;simp only[Jib,Mq];by_cases hcc:Ng c=true
       ·simp only[Ng,Jiv,decide_eq_true_eq,Bool.not_eq_true',beq_eq_false_iff_ne,ne_eq]at hcc;rw[if_neg (by simp;omega),if_pos (by simp[Ng];omega),Bx (by omega)]
       ·rw[if_pos (by simp[Ng]at hcc⊢;omega),if_neg hcc]
      ·unfold Gr;rw[if_neg (by simp)]
      ·rw[WH];have e2:(r.Cells.all (λ c=>decide (c<63))&&!r.Cells.any (λ c=>c==0))=r.Cells.all Ng:=by
        rw[Bool.eq_iff_iff];simp only[Ng,Jiv,Jif,Bool.not_eq_true',List.any_eq_false,Jij];exact⟨λ h x hx=>⟨h.1 x hx,h.2 x hx⟩,λ h=>⟨λ x hx=>(h x hx).1,λ x hx=>(h x hx).2⟩⟩
       simp only[cond_false];rw[e2];cases r.Cells.all Ng<;>exact Ev.const
end Go.AI
end
section
namespace Go.AI
def ZW (r:AF):Prop:=r.Print.length<9223372036854775807/\r.Cells.length<9223372036854775807
def Fw (t:Ab):Prop:=t.Rules.length<9223372036854775807/\∀ r∈t.Rules,ZW r
def Tc (t:Ab) (i:Nat):Unit⊕(Int×Int):=scan i (λ k=>if t.Rules.getD k default=t.Rules.getD i default then some ((i:Int),(20:Int))else none)
def HU (t:Ab) (i:Nat):Option (Int×Int):=if B4 (t.Rules.getD i default) t.Modes=true then(match Tc t i with | .inl _=>none | .inr p=>some p)else some ((i:Int),20)
def WJ (t:Ab):Bool:=decide (t.Modes<1)||decide (t.Modes>8)||(t.Accept==0)||decide (IntKind.i64.wrap t.Accept>=Oo .i64 1 t.Modes)||decide (((t.Rules.length:Nat):Int)<1)||decide (((t.Rules.length:Nat):Int)>64)
def MC (t:Ab):Int×Int:=if WJ t=true then(-1,1)else match scan t.Rules.length (HU t)with
 | .inl _=>(0,0)
 | .inr p=>p
theorem Fw.get {t:Ab} (h:Fw t) {i:Nat} (hi:i<t.Rules.length):ZW (t.Rules.getD i default):=by
 rw[BN hi];exact h.2 _ (Jih hi)
theorem WK {t:Ab} (ht:Fw t) {i:Nat} (hi:i<t.Rules.length):Ev (λ n=>whl (λ (x:Int)=>E5 n t (i:Int) x) n 0) (Tc t i):=by
 refine FD i _ (λ k hk=>?_) (Ev.all λ n=>?_)
 ·unfold E5;refine Ev.iteT (by simpa using hk) (Ev.bindC (Hv (by omega)) (Ev.bindC (Hv hi) (Ev.bind (S9 _ _ (ht.get (by omega)).2) (Ev.all λ n=>?_))));by_cases e:t.Rules.getD k default=t.Rules.getD i default
  ·rw[if_pos (decide_eq_true e),if_pos e]
  ·rw[if_neg (by simpa using e),if_neg e,Bx (by have:=ht.1;omega)]
 ·unfold E5;rw[if_neg (by simp)]
theorem Ut {t:Ab} (ht:Fw t) {i:Nat} (hi:i<t.Rules.length):Ev (λ n=>whl (λ (x:Int)=>EZ n t (i:Int) (t.Rules.getD i default) (t.Rules.take i) x) n 0) (Tc t i):=by
 refine FD i _ (λ k hk=>?_) (Ev.all λ n=>?_)
 ·unfold EZ;have hk':k<(t.Rules.take i).length:=by rw[List.length_take];omega
  have hg:(t.Rules.take i).getD k default=t.Rules.getD k default:=by rw[BN hk',BN (by omega),List.getElem_take]
  refine Ev.iteT (Rt hk') (Ev.bindC (Hv hk') ?_);rw[hg];refine Ev.bind (ZU _ _ (ht.get (by omega)).2) (Ev.all λ n=>?_);by_cases e:t.Rules.getD k default=t.Rules.getD i default
  ·rw[if_pos (decide_eq_true e),if_pos e]
  ·rw[if_neg (by simpa using e),if_neg e,Bx (by have:=ht.1;omega)]
 ·unfold EZ;rw[if_neg (by simp;omega)]
theorem WL {t:Ab} (ht:Fw t):Ev (λ n=>whl (λ (x:Int)=>E6 n t x) n 0) (scan t.Rules.length (HU t)):=by
 refine FD _ _ (λ i hi=>?_) (Ev.all λ n=>?_)
 ·unfold E6;refine Ev.iteT (Rt hi) (Ev.bindC (Hv hi) (Ev.bind (ZS (ht.get hi).1 (ht.get hi).2 t.Modes) ?_));unfold HU;cases B4 (t.Rules.getD i default) t.Modes with
  | false=>exact Ev.iteT rfl Ev.const
  | true=>
   refine Ev.iteF rfl (Ev.bind (WK ht hi) ?_);cases Tc t i with
   | inl u=>refine Ev.all λ n=>?_;simp[Bx (show i<9223372036854775807 by have:=ht.1;omega)]
   | inr p=>exact Ev.const
 ·unfold E6;rw[if_neg (by simp)]
theorem Uu {t:Ab} (ht:Fw t):Ev (λ n=>whl (λ (x:Int)=>E0 n t x) n 0) (scan t.Rules.length (HU t)):=by
 refine FD _ _ (λ i hi=>?_) (Ev.all λ n=>?_)
 ·unfold E0;refine Ev.iteT (Rt hi) (Ev.bindC (Hv hi) (Ev.bind (WI (ht.get hi).1 (ht.get hi).2 t.Modes) ?_));unfold HU;cases B4 (t.Rules.getD i default) t.Modes with
  | false=>exact Ev.iteT rfl Ev.const
  | true=>
   refine Ev.iteF rfl (Ev.bindC (Vj (by omega)) (Ev.bind (Ut ht hi) ?_));cases Tc t i with
   | inl u=>refine Ev.all λ n=>?_;simp[Bx (show i<9223372036854775807 by have:=ht.1;omega)]
   | inr p=>exact Ev.const
 ·unfold E0;rw[if_neg (by simp)]
theorem ZX {t:Ab} (ht:Fw t):Ev (λ n=>Kl n t) (MC t):=by
 unfold Kl MC;refine Ev.bindC (y:=()) ?_ ?_
 ·split
  ·rename_i h;simp only[Bool.not_eq_true',Bool.or_eq_false_iff,decide_eq_false_iff_not]at h;exact D9 (by simp;omega)
  ·rfl
 ·show Ev (λ n=>if WJ t=true then _ else _) _
  cases WJ t with
  | true=>exact Ev.iteT rfl Ev.const
  | false=>
   refine Ev.iteF rfl (Ev.bind (WL ht) ?_);generalize scan t.Rules.length _=z;cases z<;>exact Ev.const
theorem WM {t:Ab} (ht:Fw t):Ev (λ n=>Kg n t) (MC t):=by
 unfold Kg MC WJ;cases h1:((decide (t.Modes<1))||(decide (t.Modes>8)))with
 | true=>exact Ev.iteT rfl (by simp only[Bool.true_or,if_true];exact Ev.const)
 | false=>
  refine Ev.iteF rfl (Ev.bindC (y:=()) ?_ ?_)
  ·split
   ·simp only[Bool.or_eq_false_iff,decide_eq_false_iff_not]at h1;exact D9 (by simp;omega)
   ·rfl
  ·simp only[Bool.false_or];cases h2:((t.Accept==0)||(decide (IntKind.i64.wrap t.Accept>=Oo .i64 1 t.Modes)))with
   | true=>exact Ev.iteT rfl (by simp only[Bool.true_or,if_true];exact Ev.const)
   | false=>
    refine Ev.iteF rfl ?_;simp only[Bool.false_or];cases h3:((decide (((t.Rules.length:Nat):Int)<1))||(decide (((t.Rules.length:Nat):Int)>64)))with
    | true=>exact Ev.iteT rfl (by simp only[if_true];exact Ev.const)
    | false=>
     refine Ev.iteF rfl (Ev.bind (Uu ht) ?_);simp only[JiG,if_false];generalize scan t.Rules.length _=z;cases z<;>exact Ev.const
def Hw (t:Ab):Bool:=!WJ t&&t.Rules.all (λ r=>B4 r t.Modes)&&decide t.Rules.Nodup
theorem L6 (t:Ab):((MC t).2==0)=Hw t:=by
 unfold MC Hw;cases WJ t with
 | true=>rfl
 | false=>
  simp only[JiG,if_false,Bool.not_false,Bool.true_and];have h20:∀ i p,HU t i=some p->p.2=20:=by
   intro i p h;unfold HU at h;split at h
   ·split at h
    ·cases h
    ·rename_i q hq;cases h;unfold Tc scan at hq;split at hq
     ·rename_i r hr;cases hq;obtain⟨k,_,hk⟩:=List.exists_of_findSome?_eq_some hr;split at hk
      ·cases hk;rfl
      ·cases hk
     ·cases hq
   ·cases h;rfl
  have hiff:(∀ i,i<t.Rules.length->HU t i=none)↔(t.Rules.all (λ r=>B4 r t.Modes)&&decide t.Rules.Nodup)=true:=by
   simp only[Jiv,Jif,decide_eq_true_eq];constructor
   ·intro h;have hs:∀ i,i<t.Rules.length->B4 (t.Rules.getD i default) t.Modes=true:=by
     intro i hi;have:=h i hi;unfold HU at this;split at this
     ·assumption
     ·cases this
    refine⟨λ r hr=>?_,?_⟩
    ·obtain⟨i,hi,e⟩:=List.getElem_of_mem hr;have:=hs i hi;rwa[BN hi,e]at this
    ·rw[List.Nodup,List.pairwise_iff_getElem];intro k i hk hi hlt e;have h0:=h i hi;unfold HU at h0;rw[if_pos (hs i hi)]at h0;obtain⟨_,r,_,_,hsc⟩:=Gy (N:=i) (stop:=λ k=>if t.Rules.getD k default=t.Rules.getD i default then some ((i:Int),(20:Int))else none) hlt (by rw[BN hk,BN hi,if_pos e];rfl)
     unfold Tc at h0;rw[hsc]at h0;cases h0
   ·rintro⟨h1,h2⟩ i hi;unfold HU;rw[if_pos (by rw[BN hi];exact h1 _ (Jih hi))];have:Tc t i=.inl ():=Gx λ k hk=>by
     rw[BN (show k<t.Rules.length by omega),BN hi,if_neg];rw[List.Nodup,List.pairwise_iff_getElem]at h2;exact h2 k i (by omega) hi hk
    rw[this]
  cases hv:(t.Rules.all (λ r=>B4 r t.Modes)&&decide t.Rules.Nodup)with
  | true=>rw[Gx (hiff.2 hv)];rfl
  | false=>
   have:¬∀ i,i<t.Rules.length->HU t i=none:=λ h=>by rw[hiff.1 h]at hv;cases hv
   have:∃ i,i<t.Rules.length/\HU t i≠none:=Classical.byContradiction λ hn=>this λ i hi=>Classical.byContradiction λ hc=>hn ⟨i,hi,hc⟩;obtain⟨i,hi,hne⟩:=this;obtain⟨k,r,_,hr,hs⟩:=Gy hi (Option.isSome_iff_ne_none.2 hne);rw[hs];show(r.2==0)=false;rw[h20 k r hr];rfl
theorem ZY {t:Ab} (ht:Fw t):Ev (λ n=>Mt n t) (Hw t):=by
 rw[← L6];exact Ev.bind (ZX ht) Ev.const
theorem Qe {t:Ab} (ht:Fw t):Ev (λ n=>Kh n t) (Hw t):=by
 rw[← L6];exact Ev.bind (WM ht) Ev.const
theorem L7 {t:Ab} (h:Hw t=true):∀ r∈t.Rules,B4 r t.Modes=true:=by
 unfold Hw at h;simp only[Jiv,Jif]at h;exact h.1.2
end Go.AI
end
