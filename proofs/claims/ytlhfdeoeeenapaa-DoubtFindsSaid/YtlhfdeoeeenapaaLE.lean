/- Part 5 of 6 of the proof: lemmas about the model and the program's functions, with no condition beyond those that each states. -/
import Derived.Test.YtlhfdeoeeenapaaLD
import Derived.ChangeArms
import Derived.WalkKit
import Derived.ProofKit
import Derived.OpenShut
import Derived.Carry
import Derived.WideKeyArgs
import Derived.ChangeSame
import Derived.KernelRfl
section
namespace Go.AI
open Go.Proofs
set_option maxRecDepth 10000
theorem xok (n kl:Nat):XOK Try.prog (cxk n kl):=⟨tyOK,rfl⟩
theorem fO (k:Nat) (s:St) {fn:Func} {f:FuncId} {args:List AV} {r:AV} (hf:Try.prog.funcs[f]? = some fn) (h:WP (cxk k 0) (AO fn) [] (TI (cxk k 0).ty fn.results.toList r) s) (hb:fn.body=some (AO fn):=by kernel_rfl) (hnm:(fn.name == "runtime.NumGoroutine")=false:=by kernel_rfl) (hnt:(cxk k 0).nt.n=fn.ntmps:=by kernel_rfl) (hlen:Nat.ble args.length fn.ntmps=true:=by kernel_rfl) (hs:(⟨(List.range args.length).zip args,[]⟩:St)=s:=by kernel_rfl):AD Try.prog f args r:=fo follows (Jd0 k 0) hf h hb hnm hnt hlen hs
theorem fL (k nb:Nat) (s:St) {fn:Func} {f:FuncId} {args:List AV} {O0 O1:List (Option Ob)} {r:AV} (hf:Try.prog.funcs[f]? = some fn) (h:WP (cxk k nb) (AO fn) [] (Q7 nb (cxk k nb).ty fn.results.toList r O1) s) (hb:fn.body=some (AO fn):=by kernel_rfl) (hnm:(fn.name == "runtime.NumGoroutine")=false:=by kernel_rfl) (hnt:(cxk k nb).nt=⟨fn.ntmps,[],nb,qfT⟩:=by kernel_rfl) (hlen:Nat.ble args.length fn.ntmps=true:=by kernel_rfl) (hs:(⟨(List.range args.length).zip args,O0⟩:St)=s:=by kernel_rfl):Bu Try.prog f args O0 nb r O1:=fl follows (Jd0 k nb) hf h hb hnm hnt hlen hs
theorem yok (n kl:Nat):YOK Try.prog (cxk n kl):=⟨rfl⟩
variable {n:Nat}
def eNM {α:Type} (_:α):List D:=[]
@[reducible] def HI {α:Type} (e:α->List D) (x:CU α):List D:=e x.a0++e x.a1
def As (x:Ay):List D:=[.str x.Print,.sl<|x.Cells.map eU8,.int .u8 x.Left,.int .u8 x.Right,.int .i64 x.From,.int .i64 x.To]
def AR (x:Ae):List D:=[.int .i64 x.Mode,.int .i64 x.Last,.int .u8 x.Need]
def Bd (x:Ao):List D:=[.int .u8 x.Up,.int .u8 x.Maybe]
def By (x:Hh):List D:=[.str x.Print,.str x.Cells,.int .i64 x.To]
def Au (x:Af):List D:=[.int .i64 x.Cost,.str x.Text,.str x.Cells]
def AF (x:Ah):List D:=[.str x.Arc.Print,.str x.Arc.Cells,.int .i64 x.Arc.To,.int .i64 x.More,.sl<|x.List.map Au,.int .i64 x.First.Cost,.str x.First.Text,.str x.First.Cells]
def Bl (x:AQ):List D:=[.str x.Text,.sl<|x.Cells.map eU8,.int .i64 x.Cost]
def Eh (x:Cz):List D:=[.sl<|x.P.map eU8,.sl<|x.C.map eU8,.int .u8 x.L,.int .u8 x.R,.int .u8 x.W.a0,.int .u8 x.W.a1]
def Jij (x:I1):List D:=[.int .u8 x.Base,.int .u8 x.Drop,.sl<|x.More.map Eh]
def HJ (x:Ay):List AV:=[.d<|.str x.Print,.d<|.sl<|x.Cells.map eU8,.d<|.int .u8 x.Left,.d<|.int .u8 x.Right,.d<|.int .i64 x.From,.d<|.int .i64 x.To]
def A8 (x:Ab):List AV:=[.d<|.int .i64 x.Modes,.d<|.int .u8 x.Accept,.d<|.sl<|x.Rules.map As]
def D9 (x:Ae):List AV:=[.d<|.int .i64 x.Mode,.d<|.int .i64 x.Last,.d<|.int .u8 x.Need]
def Dv (x:Aa) (v3:AV) (v4:AV):List AV:=[.d<|.sl<|x.Felt.map Bd,.d<|.int .i64 x.Budget,.d<|.int .i64 x.Most,v3,v4,.d<|.sl<|x.Before.map eNM]
def DD (x:Ah):List AV:=[.d<|.str x.Arc.Print,.d<|.str x.Arc.Cells,.d<|.int .i64 x.Arc.To,.d<|.int .i64 x.More,.d<|.sl<|x.List.map Au,.d<|.int .i64 x.First.Cost,.d<|.str x.First.Text,.d<|.str x.First.Cells]
def Jd1 (x:Af):List AV:=[.d<|.int .i64 x.Cost,.d<|.str x.Text,.d<|.str x.Cells]
def Kb (x:Aa) (v4:AV):List AV:=[.d<|.sl<|x.Felt.map Bd,.d<|.int .i64 x.Budget,.d<|.int .i64 x.Most,.d<|.sl<|x.Arcs.map<|eL By,v4,.d<|.sl<|x.Before.map eNM]
def Am (x:Aa) (v4:AV) (v5:AV):List AV:=[.d<|.sl<|x.Felt.map Bd,.d<|.int .i64 x.Budget,.d<|.int .i64 x.Most,.d<|.sl<|x.Arcs.map<|eL By,v4,v5]
def Jik (x:Hh):List AV:=[.d<|.str x.Print,.d<|.str x.Cells,.d<|.int .i64 x.To]
def Jab (x:AQ):List AV:=[.d<|.str x.Text,.d<|.sl<|x.Cells.map eU8,.d<|.int .i64 x.Cost]
def LZ (x:Cz):List AV:=[.d<|.sl<|x.P.map eU8,.d<|.sl<|x.C.map eU8,.d<|.int .u8 x.L,.d<|.int .u8 x.R,.d<|.int .u8 x.W.a0,.d<|.int .u8 x.W.a1]
def Of (x:Ay) (v1:AV):List AV:=[.d<|.str x.Print,v1,.d<|.int .u8 x.Left,.d<|.int .u8 x.Right,.d<|.int .i64 x.From,.d<|.int .i64 x.To]
def VM (x:I1):List AV:=[.d<|.int .u8 x.Base,.d<|.int .u8 x.Drop,.d<|.sl<|x.More.map Eh]
def Gl (x:Ab) (v2:AV):List AV:=[.d<|.int .i64 x.Modes,.d<|.int .u8 x.Accept,v2]
theorem X0:∀ a b:Int,Al [.int .i64] ((AY a).map .d) ((AY b).map .d)=some (decide (a=b)):=by
  intro a b;simp[Al,AY]
  all_goals (first|rfl|(rw[Bool.eq_iff_iff];simp))
theorem Jil:∀ a b:(List UInt8),Al [.string] ((eS a).map .d) ((eS b).map .d)=some (decide (a=b)):=by
  intro a b;simp[Al,eS]
  all_goals (first|rfl|(rw[Bool.eq_iff_iff];simp))
theorem TW:∀ a b:Ae,Al [.int .i64,.int .i64,.int .u8] ((AR a).map .d) ((AR b).map .d)=some (decide (a=b)):=by
  intro a b;cases a;cases b;simp[Al,AR,Bool.decide_and]
  all_goals (first|rfl|(rw[Bool.eq_iff_iff];simp))
section
variable (b:(List UInt8)) (c:(List Int)) (a:(CU Int))
def Je6:St:=⟨(0,.d<|.str b)::(1,.d<|.sl<|c.map eU8)::(2,.agg [.d<|.int .i64 a.a0,.d<|.int .i64 a.a1])::[],[]⟩
variable {b c a}
theorem AL {z} (H:A1 n b c a=some z):AD Try.prog 37 [.d (.str b),.d (.sl (c.map eU8)),.agg [.d (.int .i64 a.a0),.d (.int .i64 a.a1)]] (.agg [.d (.str z.Print),.d (.sl (z.Cells.map eU8)),.d (.int .u8 z.Left),.d (.int .u8 z.Right),.d (.int .i64 z.From),.d (.int .i64 z.To)]):=by
 exact fO 14 (Je6 b c a) Try.func37<|sr<|ck 2<|en<|sr<|ck 8<|en<|re (by cases H;exact pr rd)
end
def Je7:St:=⟨[],[]⟩
theorem Pu {z} (H:NF n=some z):AD Try.prog 35 [] (.own 6 (z.map As)):=by
 exact fO 16 Je7 Try.func35<|sr<|ck 1<|en<|sr<|ck 3<|en<|sr<|sF<|ck 1<|bx H λ a b H=>ca false (AL b)<|sF<|ck 1<|bx H λ c d H=>ca false (AL d)<|sF<|ck 1<|bx H λ e f H=>ca false (AL f)<|sF<|ck 1<|bx H λ g h H=>ca false (AL h)<|ck 2<|en<|re (by cases H;exact pr<|rO (v:=.osl 1 6 0<|List.length [a,c,e,g]) [1]<|ao vo)
section
variable (b:Int) (c:Int) (a:(CU Int))
def Je8:St:=⟨(0,.d<|.int .u8 b)::(1,.d<|.int .i64 c)::(2,.agg [.d<|.int .i64 a.a0,.d<|.int .i64 a.a1])::[],[]⟩
variable {b c a}
theorem E2 {z} (H:Fe n b c a=some z):AD Try.prog 36 [.d (.int .u8 b),.d (.int .i64 c),.agg [.d (.int .i64 a.a0),.d (.int .i64 a.a1)]] (.agg [.d (.str z.Print),.d (.sl (z.Cells.map eU8)),.d (.int .u8 z.Left),.d (.int .u8 z.Right),.d (.int .i64 z.From),.d (.int .i64 z.To)]):=by
 exact fO 16 (Je8 b c a) Try.func36<|sr<|ck 2<|en<|sr<|ck 1<|sF<|ck 1<|bx H λ h e H=>ca false (AL e)<|ck 2<|en<|sr<|ck 1<|bx H λ f g H=>so (Fu g)<|ck 2<|en<|sr<|ck 2<|en<|re (by cases H;exact pr rd)
end
section
variable (b:Int) (c:(List Ay))
def Je9:St:=⟨(0,.d<|.int .u8 b)::[],[]⟩
def Jfa:St:=⟨(2,.ptr 0 0)::(3,.osl 1 6 0<|c.length)::[],[some<|.box [.d<|.int .i64 0,.d<|.int .u8 0,.osl 2 6 0<|List.length ([]:List Ay)],some<|.arr 6<|c.map As,some<|.arr 6<|List.map As ([]:List Ay)]⟩
variable {b c}
theorem NG {z} (H:Fw n b=some z):AD Try.prog 20 [.d (.int .u8 b)] (.agg [.d (.int .i64 z.Modes),.d (.int .u8 z.Accept),.own 6 (z.Rules.map As)]):=by
 refine fO 121 (Je9 b) Try.func20<|sr<|ck 1<|en<|sr<|bx H λ K L H=>cl [List.length K] (Pu L)<|ck 13<|en<|sj (λ (x:(List Ay))=>Jfa x) (λ (x:(List Ay))=>Ed n x) z ?_ (λ a=>?_)
 ·intro c H;exact sr<|ck 3<|en<|re (by cases H;exact pr<|rO (v:=.agg [.d<|.int .i64 1,.d<|.int .u8 1,.osl 1 6 0<|c.length]) [1]<|a1<|c1 vd<|c1 vd<|c1 vo<|c0)
 refine sr<|ck 2<|en<|bk 0<|sr<|ck 2<|en<|cn H (λ H=>?_)<|λ H=>?_
 ·exact sr<|ck 2<|bx H λ r7 M H=>ca false (E2 M)<|sF<|ck 1<|bx H λ r8 O H=>ca false (AL O)<|sF<|ck 1<|bx H λ r9 e H=>ca false (AL e)<|sF<|ck 1<|bx H λ P f H=>ca false (AL f)<|ck 1<|bx H λ Q g H=>sp (Cc As 1 6 g)<|ck 1<|en<|sr<|ck 3<|en<|re<|qR<|qr (by cases H;exact pr<|rO (v:=.agg [.d<|.int .i64 2,.d<|.int .u8 3,.osl 7 6 0<|Q.length]) [7]<|a1<|c1 vd<|c1 vd<|c1 vo<|c0)
 ·refine sr<|ck 2<|en<|cn H (λ H=>?_)<|λ H=>?_
  ·exact sr<|ck 2<|bx H λ R h H=>ca false (E2 h)<|sF<|ck 1<|bx H λ S i H=>ca false (AL i)<|sF<|ck 1<|bx H λ T j H=>ca false (AL j)<|ck 1<|bx H λ U k H=>sp (Cc As 1 6 k)<|ck 1<|en<|sr<|ck 3<|en<|re<|qR<|qr (by cases H;exact pr<|rO (v:=.agg [.d<|.int .i64 2,.d<|.int .u8 1,.osl 7 6 0<|U.length]) [7]<|a1<|c1 vd<|c1 vd<|c1 vo<|c0)
  ·refine sr<|ck 2<|en<|cn H (λ H=>?_)<|λ H=>?_
   ·exact rz<|ck 1<|sF<|ck 1<|bx H λ V l H=>ca false (AL l)<|sF<|ck 1<|bx H λ W m H=>ca false (AL m)<|sF<|ck 1<|bx H λ X o H=>ca false (AL o)<|ck 1<|bx H λ Y p H=>sp (Cc As 1 6 p)<|ck 1<|ae<|qN<|qs (tr (Ez 0 2 6 (by kernel_rfl))<|sg [2,3])<|a Y H
   ·refine sr<|ck 2<|en<|cn H (λ H=>?_)<|λ H=>?_
    ·exact rz<|ck 1<|sF<|ck 1<|bx H λ Z q H=>ca false (AL q)<|ck 1<|bx H λ l4 r H=>sp (Cc As 1 6 r)<|ck 1<|ae<|qN<|qs (tr (Ez 0 2 6 (by kernel_rfl))<|sg [2,3])<|a l4 H
    ·refine sr<|ck 2<|en<|cn H (λ H=>?_)<|λ H=>?_
     ·exact sr<|sF<|ck 1<|bx H λ ab s H=>ca false (AL s)<|sF<|ck 1<|bx H λ ac t H=>ca false (AL t)<|ck 4<|en<|sr<|ck 4<|en<|rz<|ck 3<|sF<|ck 1<|bx H λ af u H=>ca false (AL u)<|ck 1<|bx H λ l5 w H=>sp (Cc As 1 6 w)<|ck 1<|ae<|qN<|qs (tr (Ez 0 2 6 (by kernel_rfl))<|sg [2,3])<|a l5 H
     ·refine sr<|ck 2<|en<|cn H (λ H=>?_)<|λ H=>?_
      ·exact sr<|ck 2<|bx H λ ah y H=>ca false (E2 y)<|sF<|ck 1<|bx H λ ai A H=>ca false (AL A)<|sF<|ck 1<|bx H λ aj B H=>ca false (AL B)<|ck 1<|bx H λ l6 C H=>sp (Cc As 1 6 C)<|ck 1<|en<|sr<|ck 3<|en<|re<|qR<|qr (by cases H;exact pr<|rO (v:=.agg [.d<|.int .i64 2,.d<|.int .u8 1,.osl 7 6 0<|l6.length]) [7]<|a1<|c1 vd<|c1 vd<|c1 vo<|c0)
      ·refine sr<|ck 2<|en<|cn H (λ H=>?_)<|λ H=>?_
       ·exact rz<|ck 1<|sF<|ck 1<|bx H λ al E H=>ca false (AL E)<|sF<|ck 1<|bx H λ am G H=>ca false (AL G)<|sF<|ck 1<|bx H λ ap I H=>ca false (AL I)<|ck 1<|bx H λ l7 J H=>sp (Cc As 1 6 J)<|ck 1<|ae<|qN<|qs (tr (Ez 0 2 6 (by kernel_rfl))<|sg [2,3])<|a l7 H
       ·exact sk<|qN<|qs (tr (Ez 0 2 6 (by kernel_rfl))<|sg [2,3])<|a K H
end
section
variable (a:Int)
def Jfb:St:=⟨(0,.d<|.int .u8 a)::[],[]⟩
variable {a}
theorem K1 {z} (H:FL n a=some z):AD Try.prog 90 [.d (.int .u8 a)] (.d (.bool z)):=by
 exact fO 12 (Jfb a) Try.func90<|sr<|ck 1<|en<|sr<|ck 3<|en<|sr<|ck 4<|gc 1 (decide<|32<=B8 .u8 a 127)<|pA<|ck 1<|en<|re (by cases H;exact pr rd)
end
section
variable (a:(List UInt8)) (b:Int)
def Jfc:St:=⟨(0,.d<|.str a)::[],[]⟩
def Jfd:St:=⟨(0,.d<|.str a)::(6,.d<|.int .i64 ((a.length:Nat):Int))::(7,.d<|.int .i64 b)::[],[]⟩
def Jfe:St:=⟨(0,.d<|.str a)::[],[]⟩
def Qo:(Unit⊕(Int×Int))->Ex->St->Prop:=xS (xX 0 0<|λ (_:Unit)=>Jfe a)<|xR ty Try.f78<|λ (y:(Int×Int))=>.tup [.d<|.int .i64 y.1,.d<|.int .i64 y.2]
def KB:Int->St:=(λ (x:Int)=>Jfd a x)
variable {a b}
theorem Jy (x:Int) (z:(Int⊕(Unit⊕(Int×Int)))) (H:GT n a x=some z):WP (cxk 19 0) (AO Try.f78) [1,0,1,0,0] (AP 0 (KB a) (Qo a) z) (KB a x):=by
 revert H;generalize x=b;intro H;refine sr<|ck 1<|en<|sq<|cn H (λ H=>?_)<|λ H=>?_
 ·refine sk<|qz<|sq<|bk 1<|sr<|ck 2<|en<|sr<|ck 2<|bx H λ k e H=>sp (Fb e)<|bx H λ i f H=>ca false (K1 f)<|ck 1<|en<|cn H (λ H=>?_)<|λ H=>?_
  ·exact sr<|ck 3<|en<|re<|qR<|qr (by cases H;exact ro rfl rdT)
  ·exact sk<|qN<|qz<|rz<|ck 2<|ae (by cases H;exact og<|sg [0,6,7])
 ·exact ex 0<|qx (by cases H;exact xo rfl<|sg [0])
theorem TX {z} (H:LR n a=some z):AD Try.prog 78 [.d (.str a)] (.tup [.d (.int .i64 z.1),.d (.int .i64 z.2)]):=by
 refine fO 19 (Jfc a) Try.func78<|sr<|ck 2<|en<|sq<|sr<|ck 3<|en<|bk 0<|bx H λ j c H=>?_;rcases j with l|m
 ·exact lX Jy c (sg [0,6,7]) rfl λ s g=>qH<|qs (g)<|sr<|ck 4<|en<|re (by cases H;exact pr rdT)
 ·exact lR Jy c (sg [0,6,7]) rfl λ s h=>qR<|qr (by cases H;exact pr h)
end
section
variable (a:Int)
def Jff:St:=⟨(0,.d<|.int .u8 a)::[],[]⟩
variable {a}
theorem Iw {z} (H:FY n a=some z):AD Try.prog 65 [.d (.int .u8 a)] (.d (.int .i64 z)):=by
 refine fO 30 (Jff a) Try.func65<|sr<|ck 1<|en<|sr<|ck 3<|en<|sq<|bk 0<|sr<|ck 4<|gc 1 (decide<|97<=B8 .u8 a 127)<|pA<|ck 1<|en<|cn H (λ H=>?_)<|λ H=>?_
 ·exact sr<|ck 1<|en<|re<|qR<|qr (by cases H;exact pr rd)
 ·refine sr<|ck 4<|gc 1 (decide<|65<=B8 .u8 a 127)<|pA<|ck 1<|en<|cn H (λ H=>?_)<|λ H=>?_
  ·exact sr<|ck 1<|en<|re<|qR<|qr (by cases H;exact pr rd)
  ·refine sr<|ck 4<|gc 1 (decide<|48<=B8 .u8 a 127)<|pA<|ck 1<|en<|cn H (λ H=>?_)<|λ H=>?_
   ·exact sr<|ck 1<|en<|re<|qR<|qr (by cases H;exact pr rd)
   ·refine sr<|ck 3<|en<|cn H (λ H=>?_)<|λ H=>?_
    ·exact sr<|ck 1<|en<|re<|qR<|qr (by cases H;exact pr rd)
    ·exact sk<|qN<|qz<|sr<|ck 1<|en<|re (by cases H;exact pr rd)
end
section
variable (a:(List UInt8)) (b:Int)
def Jfg:St:=⟨(0,.d<|.str a)::[],[]⟩
def Jfh:St:=⟨(0,.d<|.str a)::(5,.d<|.int .i64 ((a.length:Nat):Int))::(6,.d<|.int .i64 b)::[],[]⟩
def Jfi:St:=⟨[],[]⟩
def L3:(Unit⊕Bool)->Ex->St->Prop:=xS (xX 0 0<|λ (_:Unit)=>Jfi)<|xR ty Try.f79<|λ (y:Bool)=>.d<|.bool y
def G3:Int->St:=(λ (x:Int)=>Jfh a x)
variable {a b}
theorem Gm (x:Int) (z:(Int⊕(Unit⊕Bool))) (H:D2 n a x=some z):WP (cxk 15 0) (AO Try.f79) [1,0,1,0,0] (AP 0 (G3 a) (L3) z) (G3 a x):=by
 revert H;generalize x=b;intro H;refine sr<|ck 1<|en<|sq<|cn H (λ H=>?_)<|λ H=>?_
 ·refine sk<|qz<|sq<|bk 1<|sr<|ck 2<|en<|sr<|ck 2<|bx H λ k e H=>sp (Fb e)<|bx H λ i f H=>ca false (Iw f)<|ck 1<|en<|cn H (λ H=>?_)<|λ H=>?_
  ·exact sr<|ck 1<|en<|re<|qR<|qr (by cases H;exact ro rfl rd)
  ·exact sk<|qN<|qz<|rz<|ck 2<|ae (by cases H;exact og<|sg [0,5,6])
 ·exact ex 0<|qx (by cases H;exact xo rfl<|sg [])
theorem NS {z} (H:FS n a=some z):AD Try.prog 79 [.d (.str a)] (.d (.bool z)):=by
 refine fO 15 (Jfg a) Try.func79<|sr<|ck 1<|en<|sq<|sr<|ck 3<|en<|bk 0<|bx H λ j c H=>?_;rcases j with l|m
 ·exact lX Gm c (sg [0,5,6]) rfl λ s g=>qH<|qs (g)<|sr<|ck 1<|en<|re (by cases H;exact pr rd)
 ·exact lR Gm c (sg [0,5,6]) rfl λ s h=>qR<|qr (by cases H;exact pr h)
end
section
variable (a:Int)
def Jfj:St:=⟨(0,.d<|.int .u8 a)::[],[]⟩
variable {a}
theorem Ss {z} (H:MN n a=some z):AD Try.prog 80 [.d (.int .u8 a)] (.d (.bool z)):=by
 exact fO 5 (Jfj a) Try.func80<|sr<|ck 1<|en<|sr<|ck 3<|en<|re (by cases H;exact pr rd)
end
section
variable (a:Ay) (b:Int) (c:Int)
def Jfk:St:=⟨(0,.agg [.d<|.str a.Print,.d<|.sl<|a.Cells.map eU8,.d<|.int .u8 a.Left,.d<|.int .u8 a.Right,.d<|.int .i64 a.From,.d<|.int .i64 a.To])::(1,.d<|.int .i64 b)::[],[]⟩
def Jfl:St:=⟨(92,.d<|.sl<|a.Cells.map eU8)::(93,.d<|.int .i64 ((a.Cells.length:Nat):Int))::(94,.d<|.int .i64 c)::[],[]⟩
def Jfm:St:=⟨[],[]⟩
def Pv:(Unit⊕Bool)->Ex->St->Prop:=xS (xX 0 0<|λ (_:Unit)=>Jfm)<|xR ty Try.f61<|λ (y:Bool)=>.d<|.bool y
def Jz:Int->St:=(λ (x:Int)=>Jfl a x)
variable {a b c}
theorem IM (x:Int) (z:(Int⊕(Unit⊕Bool))) (H:FT n a x=some z):WP (cxk 110 0) (AO Try.f61) [1,1,1,1,1,1,0,1,0,0] (AP 0 (Jz a) (Pv) z) (Jz a x):=by
 revert H;generalize x=c;intro H;refine sr<|ck 1<|en<|sq<|cn H (λ H=>?_)<|λ H=>?_
 ·refine sk<|qz<|sq<|bk 1<|sr<|bx H λ p h H=>sp (AW eU8 h)<|ck 2<|en<|sr<|ck 1<|bx H λ e i H=>ca false (Ss i)<|ck 3<|gc 1 (!(!e))<|pO<|ck 2<|gc 1 (!((!e)||(p==63)))<|pO<|en<|cn H (λ H=>?_)<|λ H=>?_
  ·exact sr<|ck 1<|en<|re<|qR<|qr (by cases H;exact ro rfl rd)
  ·exact sk<|qN<|qz<|rz<|ck 2<|ae (by cases H;exact og<|sg [92,93,94])
 ·exact ex 0<|qx (by cases H;exact xo rfl<|sg [])
theorem Su {z} (H:J3 n a b=some z):AD Try.prog 61 [.agg (HJ a),.d (.int .i64 b)] (.d (.bool z)):=by
 refine fO 110 (Jfk a b) Try.func61<|sr<|ck 2<|en<|sq<|sr<|ck 6<|gc 1 (!(decide<|((a.Print.length:Nat):Int)>4))<|sE (g:=(!(decide<|((a.Print.length:Nat):Int)>4))) (λ hg=>AT eU8 a.Cells)<|gc 1 (!(decide<|((a.Print.length:Nat):Int)>4))<|pO<|ck 2<|gc 1 (!((decide<|((a.Print.length:Nat):Int)>4)||(decide<|((a.Cells.length:Nat):Int)<1)))<|sE (g:=(!((decide<|((a.Print.length:Nat):Int)>4)||(decide<|((a.Cells.length:Nat):Int)<1)))) (λ hg=>AT eU8 a.Cells)<|gc 1 (!((decide<|((a.Print.length:Nat):Int)>4)||(decide<|((a.Cells.length:Nat):Int)<1)))<|pO<|en<|cn H (λ H=>?_)<|λ H=>?_
 ·exact sr<|ck 1<|en<|re<|qr (by cases H;exact pr rd)
 ·refine sk<|qz<|sq<|sr<|ck 2<|bx H λ q j H=>ca false (TX j)<|ck 5<|en<|sr<|ck 2<|en<|cn H (λ H=>?_)<|λ H=>?_
  ·exact sr<|ck 1<|en<|re<|qr (by cases H;exact pr rd)
  ·refine sk<|qz<|sq<|sr<|ck 5<|gc 2 (!(decide<|a.Left<1))<|pO<|ck 2<|gc 2 (!((decide<|a.Left<1)||(decide<|a.Left>63)))<|pO<|ck 2<|gc 2 (!(((decide<|a.Left<1)||(decide<|a.Left>63))||(decide<|a.Right<1)))<|pO<|en<|cn H (λ H=>?_)<|λ H=>?_
   ·exact sr<|ck 1<|en<|re<|qr (by cases H;exact pr rd)
   ·refine sk<|qz<|sq<|sr<|ck 5<|gc 1 (!(decide<|a.From<0))<|ck 1<|gc 1 (!(decide<|a.From<0))<|pO<|ck 2<|gc 2 (!((decide<|a.From<0)||(decide<|a.From>=b)))<|pO<|ck 2<|gc 1 (!(((decide<|a.From<0)||(decide<|a.From>=b))||(decide<|a.To<0)))<|ck 1<|gc 1 (!(((decide<|a.From<0)||(decide<|a.From>=b))||(decide<|a.To<0)))<|pO<|en<|cn H (λ H=>?_)<|λ H=>?_
    ·exact sr<|ck 1<|en<|re<|qr (by cases H;exact pr rd)
    ·refine sk<|qz<|sq<|sr<|ck 2<|bx H λ r k H=>ca false (NS k)<|en<|cn H (λ H=>?_)<|λ H=>?_
     ·exact sr<|ck 6<|gc 1 (((a.Print.length:Nat):Int)==1)<|sE (g:=(((a.Print.length:Nat):Int)==1)) (λ hg=>AT eU8 a.Cells)<|gc 1 (((a.Print.length:Nat):Int)==1)<|pA<|ck 2<|gc 1 ((((a.Print.length:Nat):Int)==1)&&(((a.Cells.length:Nat):Int)==1))<|bx H λ u l H=>sE (λ hg=>AW eU8<|FJ l hg)<|gc 2 ((((a.Print.length:Nat):Int)==1)&&(((a.Cells.length:Nat):Int)==1))<|pA<|ck 1<|en<|re<|qr (by cases H;exact pr rd)
     ·refine sk<|qz<|sq<|sr<|ck 2<|sp (AT eU8 a.Cells)<|ck 1<|en<|bk 0<|bx H λ t f H=>?_;rcases t with v|w
      ·exact lX IM f (sg [92,93,94]) rfl λ s m=>qH<|qs (m)<|sr<|ck 1<|en<|re (by cases H;exact pr rd)
      ·exact lR IM f (sg [92,93,94]) rfl λ s o=>qR<|qr (by cases H;exact pr o)
end
section
variable (a:(List Int)) (b:(List Int)) (c:Int)
def Jfn:St:=⟨(0,.d<|.sl<|a.map eU8)::(1,.d<|.sl<|b.map eU8)::[],[]⟩
def Jfo:St:=⟨(0,.d<|.sl<|a.map eU8)::(1,.d<|.sl<|b.map eU8)::(12,.d<|.int .i64 ((a.length:Nat):Int))::(13,.d<|.int .i64 c)::[],[]⟩
def Jfp:St:=⟨[],[]⟩
def Pw:(Unit⊕Bool)->Ex->St->Prop:=xS (xX 0 0<|λ (_:Unit)=>Jfp)<|xR ty Try.f81<|λ (y:Bool)=>.d<|.bool y
def JA:Int->St:=(λ (x:Int)=>Jfo a b x)
variable {a b c}
theorem IN (x:Int) (z:(Int⊕(Unit⊕Bool))) (H:FU n a b x=some z):WP (cxk 26 0) (AO Try.f81) [1,1,0,1,0,0] (AP 0 (JA a b) (Pw) z) (JA a b x):=by
 revert H;generalize x=c;intro H;refine sr<|ck 1<|en<|sq<|cn H (λ H=>?_)<|λ H=>?_
 ·refine sk<|qz<|sq<|bk 1<|sr<|ck 2<|en<|sr<|ck 2<|bx H λ m f H=>sp (AW eU8 f)<|ck 3<|bx H λ o g H=>sp (AW eU8 g)<|ck 2<|en<|cn H (λ H=>?_)<|λ H=>?_
  ·exact sr<|ck 1<|en<|re<|qR<|qr (by cases H;exact ro rfl rd)
  ·exact sk<|qN<|qz<|rz<|ck 2<|ae (by cases H;exact og<|sg [0,1,12,13])
 ·exact ex 0<|qx (by cases H;exact xo rfl<|sg [])
theorem Sv {z} (H:J4 n a b=some z):AD Try.prog 81 [.d (.sl (a.map eU8)),.d (.sl (b.map eU8))] (.d (.bool z)):=by
 refine fO 26 (Jfn a b) Try.func81<|sr<|ck 1<|en<|sq<|sr<|ck 1<|sp (AT eU8 a)<|ck 1<|sp (AT eU8 b)<|ck 1<|en<|cn H (λ H=>?_)<|λ H=>?_
 ·exact sr<|ck 1<|en<|re<|qr (by cases H;exact pr rd)
 ·refine sk<|qz<|sq<|sr<|ck 1<|sp (AT eU8 a)<|ck 1<|en<|bk 0<|bx H λ h e H=>?_;rcases h with k|l
  ·exact lX IN e (sg [0,1,12,13]) rfl λ s i=>qH<|qs (i)<|sr<|ck 1<|en<|re (by cases H;exact pr rd)
  ·exact lR IN e (sg [0,1,12,13]) rfl λ s j=>qR<|qr (by cases H;exact pr j)
end
section
variable (a:Ay) (b:Ay)
def Jfq:St:=⟨(0,.agg [.d<|.str a.Print,.d<|.sl<|a.Cells.map eU8,.d<|.int .u8 a.Left,.d<|.int .u8 a.Right,.d<|.int .i64 a.From,.d<|.int .i64 a.To])::(1,.agg [.d<|.str b.Print,.d<|.sl<|b.Cells.map eU8,.d<|.int .u8 b.Left,.d<|.int .u8 b.Right,.d<|.int .i64 b.From,.d<|.int .i64 b.To])::[],[]⟩
variable {a b}
theorem Sw {z} (H:J5 n a b=some z):AD Try.prog 62 [.agg (HJ a),.agg (HJ b)] (.d (.bool z)):=by
 exact fO 45 (Jfq a b) Try.func62<|sr<|ck 3<|en<|sr<|ck 7<|gc 1 (a.From==b.From)<|ck 1<|gc 2 (a.From==b.From)<|pA<|ck 2<|gc 1 ((a.From==b.From)&&(a.To==b.To))<|ck 1<|gc 2 ((a.From==b.From)&&(a.To==b.To))<|pA<|ck 2<|gc 1 (((a.From==b.From)&&(a.To==b.To))&&(a.Left==b.Left))<|ck 1<|gc 2 (((a.From==b.From)&&(a.To==b.To))&&(a.Left==b.Left))<|pA<|ck 2<|gc 1 ((((a.From==b.From)&&(a.To==b.To))&&(a.Left==b.Left))&&(a.Right==b.Right))<|ck 1<|gc 2 ((((a.From==b.From)&&(a.To==b.To))&&(a.Left==b.Left))&&(a.Right==b.Right))<|pA<|ck 2<|gc 1 (((((a.From==b.From)&&(a.To==b.To))&&(a.Left==b.Left))&&(a.Right==b.Right))&&(a.Print==b.Print))<|ck 1<|gc 1 (((((a.From==b.From)&&(a.To==b.To))&&(a.Left==b.Left))&&(a.Right==b.Right))&&(a.Print==b.Print))<|bx H λ e c H=>cG false (leZ) rfl (λ hg=>Sv<|FJ c hg) (Or.inl rfl) (Dp (λ hh=>hh)<|Dp (λ hh=>hh)<|Hd) rfl<|pA<|ck 1<|en<|re (by cases H;exact pr rd)
end
section
variable (a:Ab) (b:Int) (e:Ay) (c:(List Ay)) (f:Int)
def Jfr:St:=⟨(0,.agg [.d<|.int .i64 a.Modes,.d<|.int .u8 a.Accept,.d<|.sl<|a.Rules.map As])::[],[]⟩
def Jfs:St:=⟨(1,.ptr 0 0)::(39,.d<|.sl<|a.Rules.map As)::(40,.d<|.int .i64 ((a.Rules.length:Nat):Int))::(41,.d<|.int .i64 b)::[],[some<|.box<|A8 a]⟩
def Jft:St:=⟨[],[]⟩
def Jfu:St:=⟨(1,.ptr 0 0)::(4,.d<|.int .i64 b)::(5,.ptr 1 0)::(39,.d<|.sl<|a.Rules.map As)::(40,.d<|.int .i64 ((a.Rules.length:Nat):Int))::(41,.d<|.int .i64 b)::(55,.d<|.sl<|c.map As)::(56,.d<|.int .i64 ((c.length:Nat):Int))::(57,.d<|.int .i64 f)::[],[some<|.box<|A8 a,some<|.box<|HJ e]⟩
def Jfv:St:=⟨(1,.ptr 0 0)::(39,.d<|.sl<|a.Rules.map As)::(40,.d<|.int .i64 ((a.Rules.length:Nat):Int))::(41,.d<|.int .i64 b)::[],[some<|.box<|A8 a]⟩
def Px:(Unit⊕(Int×Int))->Ex->St->Prop:=xS (xX 0 2<|λ (_:Unit)=>Jfv a b)<|xR ty Try.f52<|λ (y:(Int×Int))=>.tup [.d<|.int .i64 y.1,.d<|.int .i64 y.2]
def JB:Int->St:=(λ (x:Int)=>Jfu a b e c x)
def Py:(Unit⊕(Int×Int))->Ex->St->Prop:=xS (xX 0 0<|λ (_:Unit)=>Jft)<|xR ty Try.f52<|λ (y:(Int×Int))=>.tup [.d<|.int .i64 y.1,.d<|.int .i64 y.2]
def JC:Int->St:=(λ (x:Int)=>Jfs a x)
variable {a b e c f}
theorem IP (x:Int) (z:(Int⊕(Unit⊕(Int×Int)))) (H:EA n a b e c x=some z):WP (cxk 67 0) (AO Try.f52) [1,1,1,1,0,1,0,0,1,1,0,0,1,1,1,0,0] (AP 0 (JB a b e c) (Px a b) z) (JB a b e c x):=by
 revert H;generalize x=f;intro H;refine sr<|ck 1<|en<|sq<|cn H (λ H=>?_)<|λ H=>?_
 ·refine sk<|qz<|sq<|bk 3<|sr<|bx H λ K m H=>sp (AW As m)<|ck 3<|en<|sr<|ck 2<|bx H λ A o H=>ca false (Sw o)<|en<|cn H (λ H=>?_)<|λ H=>?_
  ·exact sr<|ck 3<|en<|re<|qR<|qr (by cases H;exact ro rfl rdT)
  ·exact sk<|qN<|qz<|rz<|ck 2<|ae (by cases H;exact og<|sg [1,4,5,39,40,41,55,56,57])
 ·exact ex 2<|qx (by cases H;exact xo rfl<|sg [1,39,40,41])
theorem IQ (x:Int) (z:(Int⊕(Unit⊕(Int×Int)))) (H:EB n a x=some z):WP (cxk 67 0) (AO Try.f52) [1,1,1,1,0,1,0,0] (AP 0 (JC a) (Py) z) (JC a x):=by
 revert H;generalize x=b;intro H;refine sr<|ck 1<|en<|sq<|cn H (λ H=>?_)<|λ H=>?_
 ·refine sk<|qz<|sq<|bk 1<|sr<|ck 1<|bx H λ e p H=>sp (AW As p)<|ck 4<|en<|sq<|sr<|ck 3<|bx H λ B q H=>ca false (Su q)<|ck 1<|en<|cn H (λ H=>?_)<|λ H=>?_
  ·exact sr<|ck 3<|en<|re<|qr<|qR<|qr (by cases H;exact ro rfl rdT)
  ·refine sk<|qz<|sr<|ck 3<|bx H λ c r H=>sp (ZD As 6 r)<|sp (AT As c)<|ck 1<|en<|bk 2<|bx H λ t h H=>?_;rcases t with C|E
   ·exact lX IP h (sg [1,4,5,39,40,41,55,56,57]) rfl λ s u=>qH<|qN<|qs (u)<|rz<|ck 2<|ae (by cases H;exact og<|sg [1,39,40,41])
   ·exact lR IP h (sg [1,4,5,39,40,41,55,56,57]) rfl λ s i=>qR<|qR<|qr (by cases H;exact ro rfl i)
 ·exact ex 0<|qx (by cases H;exact xo rfl<|sg [])
theorem Sx {z} (H:J6 n a=some z):AD Try.prog 52 [.agg (A8 a)] (.tup [.d (.int .i64 z.1),.d (.int .i64 z.2)]):=by
 refine fO 67 (Jfr a) Try.func52<|sr<|ck 3<|en<|sq<|sr<|ck 5<|gc 2 (!(decide<|a.Modes<1))<|pO<|en<|cn H (λ H=>?_)<|λ H=>?_
 ·exact sr<|ck 2<|en<|re<|qr (by cases H;exact pr rdT)
 ·refine sk<|qz<|sq<|sr<|ck 5<|gc 2 (!(a.Accept==0))<|ck 1<|gc 1 (!(a.Accept==0))<|bx H λ G v H=>soG (λ hg=>Fu<|FJ v hg) (Dp (λ hh=>hh)<|Hd)<|gc 1 (!(a.Accept==0))<|pO<|en<|cn H (λ H=>?_)<|λ H=>?_
  ·exact sr<|ck 2<|en<|re<|qr (by cases H;exact pr rdT)
  ·refine sk<|qz<|sq<|sr<|ck 2<|sp (AT As a.Rules)<|ck 3<|gc 1 (!(decide<|((a.Rules.length:Nat):Int)<1))<|sE (g:=(!(decide<|((a.Rules.length:Nat):Int)<1))) (λ hg=>AT As a.Rules)<|gc 1 (!(decide<|((a.Rules.length:Nat):Int)<1))<|pO<|en<|cn H (λ H=>?_)<|λ H=>?_
   ·exact sr<|ck 2<|en<|re<|qr (by cases H;exact pr rdT)
   ·refine sk<|qz<|sq<|sr<|ck 2<|sp (AT As a.Rules)<|ck 1<|en<|bk 0<|bx H λ w j H=>?_;rcases w with I|J
    ·exact lX IQ j (sg [1,39,40,41]) rfl λ s k=>qH<|qs (k)<|sr<|ck 2<|en<|re (by cases H;exact pr rdT)
    ·exact lR IQ j (sg [1,39,40,41]) rfl λ s l=>qR<|qr (by cases H;exact pr l)
end
section
variable (a:Ab)
def Jfw:St:=⟨(0,.agg [.d<|.int .i64 a.Modes,.d<|.int .u8 a.Accept,.d<|.sl<|a.Rules.map As])::[],[]⟩
variable {a}
theorem Sy {z} (H:MO n a=some z):AD Try.prog 39 [.agg (A8 a)] (.d (.bool z)):=by
 exact fO 12 (Jfw a) Try.func39<|sr<|ck 2<|en<|sr<|ck 1<|bx H λ c b H=>ca false (Sx b)<|ck 5<|en<|sr<|ck 3<|en<|re (by cases H;exact pr rd)
end
def Jfx:St:=⟨[],[]⟩
theorem Sz {z} (H:MP n=some z):AD Try.prog 82 [] (.agg [.d (.int .i64 z.Mode),.d (.int .i64 z.Last),.d (.int .u8 z.Need)]):=by
 exact fO 2 Jfx Try.func82<|sr<|ck 1<|en<|sr<|ck 2<|en<|re (by cases H;exact pr rd)
section
variable (b:Int) (a:Int)
def Jfy:St:=⟨(0,.d<|.int .u8 b)::(1,.d<|.int .i64 a)::[],[]⟩
variable {b a}
theorem Ix {z} (H:Io n b a=some z):AD Try.prog 64 [.d (.int .u8 b),.d (.int .i64 a)] (.d (.bool z)):=by
 exact fO 18 (Jfy b a) Try.func64<|sr<|ck 1<|en<|sr<|ck 4<|gc 1 (decide<|0<=a)<|pA<|ck 3<|bx H λ e c H=>soG (λ hg=>Fu<|FJ c hg) (Dp (λ hh=>hh)<|Dp (λ hh=>hh)<|Hd)<|gc 2 ((decide<|0<=a)&&(decide<|a<8))<|pA<|ck 1<|en<|re (by cases H;exact pr rd)
end
section
variable (b:Ab) (a:Ae) (c:Int)
def Jfz:St:=⟨(0,.agg [.d<|.int .i64 b.Modes,.d<|.int .u8 b.Accept,.d<|.sl<|b.Rules.map As])::(1,.agg [.d<|.int .i64 a.Mode,.d<|.int .i64 a.Last,.d<|.int .u8 a.Need])::(2,.d<|.int .i64 c)::[],[]⟩
variable {b a c}
theorem NH {z} (H:Jt n b a c=some z):AD Try.prog 55 [.agg (A8 b),.agg (D9 a),.d (.int .i64 c)] (.tup [.agg [.d (.int .i64 z.1.Mode),.d (.int .i64 z.1.Last),.d (.int .u8 z.1.Need)],.d (.bool z.2)]):=by
 refine fO 78 (Jfz b a c) Try.func55<|sr<|ck 4<|en<|sq<|sr<|ck 5<|gc 1 (!(decide<|c<0))<|sE (g:=(!(decide<|c<0))) (λ hg=>AT As b.Rules)<|gc 1 (!(decide<|c<0))<|pO<|en<|cn H (λ H=>?_)<|λ H=>?_
 ·exact sr<|ck 3<|en<|re<|qr (by cases H;exact pr rdT)
 ·refine sk<|qz<|sr<|ck 3<|bx H λ e f H=>sp (AW As f)<|ck 3<|en<|sq<|sr<|ck 7<|gc 1 (!(e.From != a.Mode))<|ck 1<|gc 1 (!(e.From != a.Mode))<|bx H λ o h H=>cG false (leZ) rfl (λ hg=>Ix<|FJ h hg) (Or.inl rfl) (Dp (λ hh=>hh)<|Dp (λ hh=>hh)<|Hd) rfl<|gc 1 (!(e.From != a.Mode))<|pO<|en<|cn H (λ H=>?_)<|λ H=>?_
  ·exact sr<|ck 3<|en<|re<|qr (by cases H;exact pr rdT)
  ·refine sk<|qz<|sq<|sr<|ck 3<|en<|cn H (λ H=>?_)<|λ H=>?_
   ·refine sr<|ck 6<|en<|sq<|sr<|ck 2<|en<|cn H (λ H=>?_)<|λ H=>?_
    ·exact sr<|ck 3<|en<|re<|qr<|qr (by cases H;exact pr rdT)
    ·exact sk<|qz<|sr<|ck 8<|en<|re<|qr (by cases H;exact pr rdT)
   ·refine sk<|qz<|sq<|sr<|ck 4<|bx H λ s i H=>sp (Fb i)<|bx H λ p j H=>ca false (Iw j)<|bx H λ q k H=>ca false (Ix k)<|ck 1<|en<|cn H (λ H=>?_)<|λ H=>?_
    ·exact sr<|ck 3<|en<|re<|qr (by cases H;exact pr rdT)
    ·exact sk<|qz<|sr<|ck 8<|bx H λ t l H=>sp (Fb l)<|bx H λ r m H=>ca false (Iw m)<|ck 5<|en<|re (by cases H;exact pr rdT)
end
section
variable (f:Ab) (o:(List Ae)) (p:(List (List Int))) (A:(List (Ae×Int))) (u:Int) (B:(List Ae)) (K:(List (List Int))) (a:(List Ae)) (g:(List (List Int))) (b:(List (Ae×Int))) (L:Int) (C:(List Ae)) (M:(List (List Int))) (J:(List (Ae×Int))) (q:(List Ae)) (w:(List (List Int))) (E:(List (Ae×Int))) (h:(List Ae)) (c:(List (List Int))) (r:(List (Ae×Int))) (G:Int)
def JfA:St:=⟨(0,.agg [.d<|.int .i64 f.Modes,.d<|.int .u8 f.Accept,.d<|.sl<|f.Rules.map As])::[],[]⟩
def JfB:St:=⟨(1,.ptr 0 0)::(5,.osl 1 3 0<|o.length)::(6,.osl 2 1 0<|p.length)::(7,.mp 3)::(8,.d<|.int .i64 u)::[],[some<|.box<|A8 f,some<|.arr 3<|o.map AR,some<|.narr 1<|p.map<|nL 1 AY,some<|.map true false<|Bp AR AY A]⟩
def JfC:St:=⟨(5,.osl 0 3 0<|B.length)::(6,.osl 1 1 0<|K.length)::[],[some<|.arr 3<|B.map AR,some<|.narr 1<|K.map<|nL 1 AY]⟩
def JfD:St:=⟨(1,.ptr 0 0)::(5,.osl 1 3 0<|a.length)::(6,.osl 2 1 0<|g.length)::(7,.mp 3)::(8,.d<|.int .i64 u)::(29,.d<|.int .i64 ((f.Rules.length:Nat):Int))::(30,.d<|.int .i64 L)::[],[some<|.box<|A8 f,some<|.arr 3<|a.map AR,some<|.narr 1<|g.map<|nL 1 AY,some<|.map true false<|Bp AR AY b]⟩
def JfE:St:=⟨(1,.ptr 0 0)::(5,.osl 1 3 0<|C.length)::(6,.osl 2 1 0<|M.length)::(7,.mp 3)::(8,.d<|.int .i64 u)::[],[some<|.box<|A8 f,some<|.arr 3<|C.map AR,some<|.narr 1<|M.map<|nL 1 AY,some<|.map true false<|Bp AR AY J]⟩
def JfF:St:=⟨(1,.ptr 0 0)::(5,.osl 1 3 0<|q.length)::(6,.osl 2 1 0<|w.length)::(7,.mp 3)::(8,.d<|.int .i64 u)::(29,.d<|.int .i64 ((f.Rules.length:Nat):Int))::(30,.d<|.int .i64 L)::[],[some<|.box<|A8 f,some<|.arr 3<|q.map AR,some<|.narr 1<|w.map<|nL 1 AY,some<|.map true false<|Bp AR AY E]⟩
def JfG:St:=⟨(1,.ptr 0 0)::(5,.osl 1 3 0<|h.length)::(6,.osl 2 1 0<|c.length)::(7,.mp 3)::(8,.d<|.int .i64 u)::(12,.d<|.int .i64 G)::(29,.d<|.int .i64 ((f.Rules.length:Nat):Int))::(30,.d<|.int .i64 L)::[],[some<|.box<|A8 f,some<|.arr 3<|h.map AR,some<|.narr 1<|c.map<|nL 1 AY,some<|.map true false<|Bp AR AY r]⟩
def MS:((List Ae)×(List<|List Int)×(List<|Ae×Int))->Ex->St->Prop:=xX 0 2<|λ (y:((List Ae)×(List<|List Int)×(List<|Ae×Int)))=>JfE f u y.1 y.2.1 y.2.2
def HK:((List Ae)×(List<|List Int)×(List<|Ae×Int)×Int)->St:=(λ (x:((List Ae)×(List<|List Int)×(List<|Ae×Int)×Int))=>JfD f u x.1 x.2.1 x.2.2.1 x.2.2.2)
def MT:((List Ae)×(List<|List Int))->Ex->St->Prop:=xX 0 0<|λ (y:((List Ae)×(List<|List Int)))=>JfC y.1 y.2
def HL:((List Ae)×(List<|List Int)×(List<|Ae×Int)×Int)->St:=(λ (x:((List Ae)×(List<|List Int)×(List<|Ae×Int)×Int))=>JfB f x.1 x.2.1 x.2.2.1 x.2.2.2)
variable {f o p A u B K a g b L C M J q w E h c r G}
theorem L4 (x:((List Ae)×(List (List Int))×(List (Ae×Int))×Int)) (z:(((List Ae)×(List (List Int))×(List (Ae×Int))×Int)⊕((List Ae)×(List (List Int))×(List (Ae×Int))))) (H:BP n f u x.1 x.2.1 x.2.2.1 x.2.2.2=some z):WP (cxk 78 0) (AO Try.f63) [1,1,1,1,0,1,0,0,1,0,0,1,0,0] (AP 0 (HK f u) (MS f u) z) (HK f u x):=by
 obtain⟨a,g,b,L⟩:=x;refine sr<|ck 1<|en<|sq<|cn H (λ H=>?_)<|λ H=>?_
 ·refine sk<|qz<|sj (λ (x:((List Ae)×(List<|List Int)×(List<|Ae×Int)))=>JfF f u L x.1 x.2.1 x.2.2) (λ (x:((List Ae)×(List<|List Int)×(List<|Ae×Int)))=>CD n L x.1 x.2.1 x.2.2) z ?_ (λ i=>?_)
  ·rintro⟨q,w,E⟩ H;exact rz<|ck 2<|ae (by cases H;exact og<|gP [1,5,6,7,8,29,30] [0,1,2,3]<|po1<|po1<|pn1 (nL 1 AY) w<|po1<|Pl.z)
  refine bk 3<|sr<|ck 2<|en<|sr<|ck 3<|bx H λ x8 T H=>sp (Bc 1 3 T)<|sp (Cb AR 1 0 (ty 79) T)<|ck 1<|bx H λ I Y H=>ca false (NH Y)<|ck 6<|en<|sq<|sr<|ck 2<|en<|cn H (λ H=>?_)<|λ H=>?_
  ·exact ex 3<|qx<|qH<|qs (gP [1,5,6,7,8,29,30] [0,1,2,3]<|po1<|po1<|pn1 (nL 1 AY) g<|po1<|Pl.z)<|i (a,g,b) H
  ·refine sk<|qz<|sr<|ck 2<|sp (TQ (enc:=AY) (encK:=AR) (k:=3) (e1:=λ x=>.int .i64 x) (m:=b) (l:=[.d<|.int .i64 I.1.Mode,.d<|.int .i64 I.1.Last,.d<|.int .u8 I.1.Need]) (key:=I.1) (z:=0) (vz:=[.int .i64 0]) TW true)<|ck 5<|en<|sj (λ (x:((List Ae)×(List<|List Int)×(List<|Ae×Int)×Int))=>JfG f u L x.1 x.2.1 x.2.2.1 x.2.2.2) (λ (x:((List Ae)×(List<|List Int)×(List<|Ae×Int)×Int))=>Dq n u L x.1 x.2.1 x.2.2.1 x.2.2.2) z ?_ (λ j=>?_)
   ·rintro⟨h,c,r,G⟩ H;exact bx H λ U O H=>rg (tr (so1 (encN:=(nL 1 AY)) 2 1 O)<|sno (encN:=(nL 1 AY)) (enc:=AY) O [.own 1<|U.map AY] U 1 2 0 1)<|ck 4<|sp (Bc 2 1 O)<|sp (Im (encN:=(nL 1 AY)) (row:=[.osl 4 1 0<|U.length]) (k:=2) (sz:=1) (off:=0) (t:=ty 87) (v:=.osl 4 1 0<|U.length) O)<|ck 2<|bx H λ P Z H=>sp (Cc AY 4 1 Z)<|sp (Bc 2 1 O)<|sp (Sf (encN:=(nL 1 AY)) (row:=[.osl 4 1 0<|U.length]) (row':=[.osl 6 1 0<|P.length]) (k:=2) (sz:=1) (off:=0) (t:=ty 87) (v:=.osl 6 1 0<|P.length) O)<|ae<|qN<|qs (tr (tr (tr (tr (tr (sni (encN:=(nL 1 AY)) (xs:=c) (n:=G) (enc:=AY) [.osl 6 1 0<|P.length] P 1 2 0 6 1)<|scl (encN:=(nL 1 AY)) (xss:=c) G [.own 1<|P.map AY] 1 2 P)<|sn 6 2 1<|lsS c G.toNat P)<|sn 65 2 1<|lsS c G.toNat P)<|sn 67 2 1<|lsS c G.toNat P)<|gP [1,5,6,7,8,29,30] [0,1,2,3]<|po1<|po1<|pn1 (nL 1 AY) (List.set c G.toNat P)<|po1<|Pl.z)<|i (h,(List.set c G.toNat P),r) H
   refine sr<|ck 2<|en<|cn H (λ H=>?_)<|λ H=>?_
   ·exact sr<|ck 3<|en<|sr<|ck 3<|sp (Sg (enc:=AY) (encK:=AR) (k:=3) (e1:=λ x=>.int .i64 x) (m:=b) (l:=[.d<|.int .i64 I.1.Mode,.d<|.int .i64 I.1.Last,.d<|.int .u8 I.1.Need]) (key:=I.1) (y:=((a.length:Nat):Int)) (v:=.d<|.int .i64 ((a.length:Nat):Int)) (vz:=[.int .i64 0]) TW)<|en<|rz<|ck 3<|bx H λ aa ab H=>sp (Cc AR 1 3 ab)<|ck 1<|sK false<|bx H λ R V H=>sp (JcZ (encN:=(nL 1 AY)) (esz:=1) (k:=2) (e:=[.nil]) V)<|ck 2<|ae<|qs (tr (Jey (encN:=(nL 1 AY)) (xss:=g) (yss:=R) (y:=([]:(List Int))) (row:=[.own 0 []]) (sz:=1) 7 (by kernel_rfl) (JcO V) (by kernel_rfl))<|gP [1,5,6,7,8,12,29,30] [0,6,7,3]<|po1<|po1<|pn1 (nL 1 AY) R<|po1<|Pl.z)<|j (aa,R,(BJ I.1 ((a.length:Nat):Int) b),((a.length:Nat):Int)) H
   ·exact sk<|qs (gP [1,5,6,7,8,12,29,30] [0,1,2,3]<|po1<|po1<|pn1 (nL 1 AY) g<|po1<|Pl.z)<|j (a,g,b,(Option.getD (AN I.1 b) 0)) H
 ·exact ex 2<|qx (by cases H;exact xo rfl<|gP [1,5,6,7,8] [0,1,2,3]<|po1<|po1<|pn1 (nL 1 AY) g<|po1<|Pl.z)
theorem L5 (x:((List Ae)×(List (List Int))×(List (Ae×Int))×Int)) (z:(((List Ae)×(List (List Int))×(List (Ae×Int))×Int)⊕((List Ae)×(List (List Int))))) (H:CE n f x.1 x.2.1 x.2.2.1 x.2.2.2=some z):WP (cxk 78 0) (AO Try.f63) [1,1,1,1,0,1,0,0] (AP 0 (HL f) (MT) z) (HL f x):=by
 obtain⟨o,p,A,u⟩:=x;refine sq<|sr<|ck 4<|en<|cn H (λ H=>?_)<|λ H=>?_
 ·exact sk<|qz<|sq<|bk 1<|sr<|ck 2<|sp (AT As f.Rules)<|ck 1<|en<|bk 2<|bx H λ ac af H=>lX L4 af (gP [1,5,6,7,8,29,30] [0,1,2,3]<|po1<|po1<|pn1 (nL 1 AY) p<|po1<|Pl.z) rfl λ s W=>qH<|qN<|qs (W)<|rz<|ck 3<|ae (by cases H;exact og<|gP [1,5,6,7,8] [0,1,2,3]<|po1<|po1<|pn1 (nL 1 AY) ac.2.1<|po1<|Pl.z)
 ·exact ex 0<|qx (by cases H;exact xo rfl<|gP [5,6] [1,2]<|po1<|pn1 (nL 1 AY) p<|Pl.z)
theorem Pz {z} (H:GU n f=some z):AD Try.prog 63 [.agg (A8 f)] (.tup [.own 3 (z.1.map AR),.d (.sl (z.2.map (eL AY)))]):=by
 exact fO 78 (JfA f) Try.func63<|sr<|ck 3<|en<|sr<|bx H λ Q ag H=>ca false (Sz ag)<|ck 2<|en<|sr<|ck 2<|sK true<|ck 2<|en<|sq<|rg (Jex (sz:=1) (es:=[[.nil]]) 3 (List.map (nL 1 AY) ([[]]:List (List Int))) (by kernel_rfl) (by kernel_rfl))<|ck 2<|sp (Sg (enc:=AY) (encK:=AR) (k:=4) (e1:=λ x=>.int .i64 x) (m:=[]) (l:=[.d<|.int .i64 Q.Mode,.d<|.int .i64 Q.Last,.d<|.int .u8 Q.Need]) (key:=Q) (y:=0) (v:=.d<|.int .i64 0) (vz:=[.int .i64 0]) TW)<|ck 2<|en<|sq<|sr<|ck 1<|en<|bk 0<|bx H λ S ah H=>lX L5 ah (gP [1,5,6,7,8] [0,2,3,4]<|po1<|po1<|pn1 (nL 1 AY) ([[]]:List (List Int))<|po1<|Pl.z) rfl λ s X=>qH<|qs (X)<|sr<|ck 4<|ae<|qs (JcQ (encN:=(nL 1 AY)) (encD:=(eL AY)) (xss:=S.2) (k:=1) (sz:=1) 3 (by kernel_rfl) (λ _=>rfl)<|λ _=>rfl)<|re (by cases H;exact pr<|rT (vs:=[.osl 0 3 0<|S.1.length,.d<|.sl<|S.2.map<|eL AY]) [0]<|t1 (ao vo)<|t1 (ad vd)<|t0)
end
section
variable (a:Ab)
def JfH:St:=⟨(0,.agg [.d<|.int .i64 a.Modes,.d<|.int .u8 a.Accept,.d<|.sl<|a.Rules.map As])::[],[]⟩
variable {a}
theorem Qp {z} (H:K0 n a=some z):AD Try.prog 53 [.agg (A8 a)] (.own 3 (z.map AR)):=by
 exact fO 11 (JfH a) Try.func53<|sr<|ck 2<|en<|sr<|ck 1<|bx H λ b c H=>cl [List.length b.1] (Pz c)<|ck 5<|en<|sr<|ck 2<|en<|re (by cases H;exact pr<|rO (v:=.osl 1 3 0<|b.1.length) [1]<|ao vo)
end
section
variable (a:Ab) (b:Ae)
def JfI:St:=⟨(0,.agg [.d<|.int .i64 a.Modes,.d<|.int .u8 a.Accept,.d<|.sl<|a.Rules.map As])::(1,.agg [.d<|.int .i64 b.Mode,.d<|.int .i64 b.Last,.d<|.int .u8 b.Need])::[],[]⟩
variable {a b}
theorem PA {z} (H:GV n a b=some z):AD Try.prog 54 [.agg (A8 a),.agg (D9 b)] (.d (.bool z)):=by
 exact fO 22 (JfI a b) Try.func54<|sr<|ck 3<|en<|sr<|ck 7<|gc 1 (decide<|b.Mode<a.Modes)<|ck 1<|gc 1 (decide<|b.Mode<a.Modes)<|bx H λ c e H=>cG false (leZ) rfl (λ hg=>Ix<|FJ e hg) (Or.inl rfl) (Dp (λ hh=>hh)<|Dp (λ hh=>hh)<|Hd) rfl<|pA<|ck 2<|gc 1 ((decide<|b.Mode<a.Modes)&&c)<|bx H λ g f H=>cG false (leZ) rfl (λ hg=>Ix<|FJ f hg) (Or.inl rfl) (Dp (λ hh=>hh)<|Hd) rfl<|pA<|ck 1<|en<|re (by cases H;exact pr rd)
end
section
variable (a:Int)
def JfJ:St:=⟨(0,.d<|.int .u8 a)::[],[]⟩
variable {a}
theorem Km {z} (H:CF n a=some z):AD Try.prog 83 [.d (.int .u8 a)] (.d (.int .i64 z)):=by
 exact fO 6 (JfJ a) Try.func83<|sr<|ck 1<|en<|sr<|ck 1<|bx H λ c b H=>sp (Fb b)<|ck 2<|en<|re (by cases H;exact pr rd)
end
section
variable (a:Ao) (b:Int)
def JfK:St:=⟨(0,.agg [.d<|.int .u8 a.Up,.d<|.int .u8 a.Maybe])::(1,.d<|.int .u8 b)::[],[]⟩
variable {a b}
theorem TY {z} (H:Gj n a b=some z):AD Try.prog 66 [.agg [.d (.int .u8 a.Up),.d (.int .u8 a.Maybe)],.d (.int .u8 b)] (.d (.int .i64 z)):=by
 exact fO 13 (JfK a b) Try.func66<|sr<|ck 2<|en<|sr<|ck 7<|bx H λ e c H=>ca true (Km c)<|ck 1<|en<|re (by cases H;exact pr rd)
end
section
variable (a:Int)
def Jdd:St:=⟨(0,.d<|.int .i64 a)::[],[]⟩
variable {a}
theorem G4 {z} (H:EC n a=some z):AD Try.prog 101 [.d (.int .i64 a)] (.d (.bool z)):=by
 exact fO 6 (Jdd a) Try.func101<|sr<|ck 1<|en<|sr<|ck 4<|en<|re (by cases H;exact pr rd)
end
section
variable (a:Int) (b:Int)
def JfL:St:=⟨(0,.d<|.int .i64 a)::(1,.d<|.int .i64 b)::[],[]⟩
variable {a b}
theorem Kn {z} (H:Dy n a b=some z):AD Try.prog 87 [.d (.int .i64 a),.d (.int .i64 b)] (.d (.int .i64 z)):=by
 refine fO 20 (JfL a b) Try.func87<|sr<|ck 1<|en<|sr<|ck 1<|bx H λ f c H=>ca false (G4 c)<|ck 1<|en<|sr<|ck 1<|bx H λ g e H=>ca false (G4 e)<|ck 1<|en<|sq<|sr<|ck 1<|en<|cn H (λ H=>?_)<|λ H=>?_
 ·refine sq<|sr<|ck 1<|en<|cn H (λ H=>?_)<|λ H=>?_
  ·exact sr<|ck 1<|en<|re<|qr<|qr (by cases H;exact pr rd)
  ·exact sk<|qz<|sr<|ck 1<|en<|re<|qr (by cases H;exact pr rd)
 ·refine sk<|qz<|sq<|sr<|ck 1<|en<|cn H (λ H=>?_)<|λ H=>?_
  ·exact sr<|ck 1<|en<|re<|qr (by cases H;exact pr rd)
  ·refine sk<|qz<|sq<|sr<|ck 3<|en<|cn H (λ H=>?_)<|λ H=>?_
   ·exact sr<|ck 1<|en<|re<|qr (by cases H;exact pr rd)
   ·refine sk<|qz<|sq<|sr<|ck 3<|en<|cn H (λ H=>?_)<|λ H=>?_
    ·exact sr<|ck 1<|en<|re<|qr (by cases H;exact pr rd)
    ·exact sk<|qz<|sr<|ck 1<|en<|re (by cases H;exact pr rd)
end
theorem PB {n:Nat} {a:(List UInt8)} {b:(List UInt8)} {z:Int} (H:Ju n a b=some z):AD Try.prog 88 [.d (.str a),.d (.str b)] (.d (.int .i64 z)):=XW Jju ⟨_,_,Try.func88,rfl,rfl⟩ H
section
variable (a:(List Int)) (b:Int)
def JfM:St:=⟨(0,.d<|.sl<|a.map AY)::[],[]⟩
def JfN:St:=⟨(3,.d<|.int .i64 0)::(6,.d<|.sl<|a.map AY)::(7,.d<|.int .i64 ((a.length:Nat):Int))::(8,.d<|.int .i64 b)::[],[]⟩
def JfO:St:=⟨(3,.d<|.int .i64 0)::[],[]⟩
def MU:(Unit⊕Int)->Ex->St->Prop:=xS (xX 0 0<|λ (_:Unit)=>JfO)<|xR ty Try.f86<|λ (y:Int)=>.d<|.int .i64 y
def HM:Int->St:=(λ (x:Int)=>JfN a x)
variable {a b}
theorem G5 (x:Int) (z:(Int⊕(Unit⊕Int))) (H:Gk n a x=some z):WP (cxk 18 0) (AO Try.f86) [1,1,0,1,0,0] (AP 0 (HM a) (MU) z) (HM a x):=by
 revert H;generalize x=b;intro H;refine sr<|ck 1<|en<|sq<|cn H (λ H=>?_)<|λ H=>?_
 ·refine sk<|qz<|sq<|bk 1<|sr<|bx H λ i g H=>sp (AW AY g)<|ck 2<|en<|sr<|ck 3<|en<|cn H (λ H=>?_)<|λ H=>?_
  ·exact sr<|ck 2<|en<|re<|qR<|qr (by cases H;exact ro rfl rd)
  ·exact sk<|qN<|qz<|rz<|ck 2<|ae (by cases H;exact og<|sg [3,6,7,8])
 ·exact ex 0<|qx (by cases H;exact xo rfl<|sg [3])
theorem PC {z} (H:GW n a=some z):AD Try.prog 86 [.d (.sl (a.map AY))] (.d (.int .i64 z)):=by
 refine fO 18 (JfM a) Try.func86<|sr<|ck 1<|en<|sr<|ck 1<|en<|sq<|sr<|ck 1<|sp (AT AY a)<|ck 1<|en<|bk 0<|bx H λ h c H=>?_;rcases h with j|k
 ·exact lX G5 c (sg [3,6,7,8]) rfl λ s e=>qH<|qs (e)<|sr<|ck 2<|en<|re (by cases H;exact pr rd)
 ·exact lR G5 c (sg [3,6,7,8]) rfl λ s f=>qR<|qr (by cases H;exact pr f)
end
section
variable (a:Af) (b:Af)
def JfP:St:=⟨(0,.agg [.d<|.int .i64 a.Cost,.d<|.str a.Text,.d<|.str a.Cells])::(1,.agg [.d<|.int .i64 b.Cost,.d<|.str b.Text,.d<|.str b.Cells])::[],[]⟩
variable {a b}
theorem DL {z} (H:AS n a b=some z):AD Try.prog 76 [.agg (Jd1 a),.agg (Jd1 b)] (.d (.int .i64 z)):=by
 exact fO 17 (JfP a b) Try.func76<|sr<|ck 3<|en<|sr<|ck 4<|bx H λ c f H=>ca false (Kn f)<|ck 4<|bx H λ e g H=>ca false (PB g)<|ck 1<|bx H λ i h H=>cb (ks:=[2]) (obl:=[(0+List.length [c,e],List.length<|List.map AY [c,e])]) true (leK leM<|leZ) (Jr TO rfl) (PC h) (Or.inr trivial) rfl<|ck 1<|en<|re (by cases H;exact pr rd)
end
section
variable (a:Ah) (b:Ah)
def JfQ:St:=⟨(0,.agg [.d<|.str a.Arc.Print,.d<|.str a.Arc.Cells,.d<|.int .i64 a.Arc.To,.d<|.int .i64 a.More,.d<|.sl<|a.List.map Au,.d<|.int .i64 a.First.Cost,.d<|.str a.First.Text,.d<|.str a.First.Cells])::(1,.agg [.d<|.str b.Arc.Print,.d<|.str b.Arc.Cells,.d<|.int .i64 b.Arc.To,.d<|.int .i64 b.More,.d<|.sl<|b.List.map Au,.d<|.int .i64 b.First.Cost,.d<|.str b.First.Text,.d<|.str b.First.Cells])::[],[]⟩
variable {a b}
theorem Ko {z} (H:HF n a b=some z):AD Try.prog 71 [.agg (DD a),.agg (DD b)] (.d (.int .i64 z)):=by
 exact fO 10 (JfQ a b) Try.func71<|sr<|ck 3<|en<|sr<|ck 4<|bx H λ e c H=>ca true (DL c)<|ck 1<|en<|re (by cases H;exact pr rd)
end
section
variable (b:Ab) (q:(List Ao)) (r:Int) (u:Int) (P:Aa) (c:(List Ae)) (j:(List (Ae×Int))) (I:Int) (C:(List (Ae×Int))) (f:(List (Ae×Int))) (G:Aa) (a:Int) (K:Aa) (i:Ae) (e:Aa) (h:Int) (L:Aa) (J:Aa) (w:Ay) (o:(Ae×Bool)) (p:(List Int)) (M:Int) (A:(List Int))
def Jac:St:=⟨(0,.agg [.d<|.int .i64 b.Modes,.d<|.int .u8 b.Accept,.d<|.sl<|b.Rules.map As])::(1,.d<|.sl<|q.map Bd)::(2,.d<|.int .i64 r)::(3,.d<|.int .i64 u)::[],[]⟩
def Jad:St:=⟨(8,.ptr 0 0)::[],[some<|.box<|Kb P<|.osl 1 1 0<|P.Accepts.length,some<|.arr 1<|P.Accepts.map eB]⟩
def Jae:St:=⟨(1,.d<|.sl<|q.map Bd)::(2,.d<|.int .i64 r)::(3,.d<|.int .i64 u)::(4,.ptr 0 0)::(9,.d<|.sl<|c.map AR)::(10,.mp 1)::(28,.d<|.sl<|c.map AR)::(29,.d<|.int .i64 ((c.length:Nat):Int))::(30,.d<|.int .i64 I)::[],[some<|.box<|A8 b,some<|.map true false<|Bp AR AY j]⟩
def Jaf:St:=⟨(1,.d<|.sl<|q.map Bd)::(2,.d<|.int .i64 r)::(3,.d<|.int .i64 u)::(4,.ptr 0 0)::(9,.d<|.sl<|c.map AR)::(10,.mp 1)::[],[some<|.box<|A8 b,some<|.map true false<|Bp AR AY C]⟩
def K2:(List<|Ae×Int)->Ex->St->Prop:=xX 0 0<|λ (y:(List<|Ae×Int))=>Jaf b q r u c y
def Gn:((List<|Ae×Int)×Int)->St:=(λ (x:((List<|Ae×Int)×Int))=>Jae b q r u c x.1 x.2)
def Jag:St:=⟨(4,.ptr 0 0)::(10,.mp 1)::(13,.ptr 2 0)::(50,.d<|.sl<|c.map AR)::(51,.d<|.int .i64 ((c.length:Nat):Int))::(52,.d<|.int .i64 a)::[],[some<|.box<|A8 b,some<|.map true false<|Bp AR AY f,some<|.box<|Dv G (.osl 3 1 0<|G.Arcs.length)<|.osl 4 1 0<|G.Accepts.length,some<|.narr 1<|G.Arcs.map<|nL 3 By,some<|.arr 1<|G.Accepts.map eB]⟩
def Jah:St:=⟨(13,.ptr 0 0)::[],[some<|.box<|Dv K (.osl 1 1 0<|K.Arcs.length)<|.osl 2 1 0<|K.Accepts.length,some<|.narr 1<|K.Arcs.map<|nL 3 By,some<|.arr 1<|K.Accepts.map eB]⟩
def Jai:St:=⟨(4,.ptr 0 0)::(10,.mp 1)::(13,.ptr 2 0)::(14,.d<|.int .i64 a)::(15,.ptr 3 0)::(50,.d<|.sl<|c.map AR)::(51,.d<|.int .i64 ((c.length:Nat):Int))::(52,.d<|.int .i64 a)::(67,.d<|.sl<|b.Rules.map As)::(68,.d<|.int .i64 ((b.Rules.length:Nat):Int))::(69,.d<|.int .i64 h)::[],[some<|.box<|A8 b,some<|.map true false<|Bp AR AY f,some<|.box<|Dv e (.osl 4 1 0<|e.Arcs.length)<|.osl 5 1 0<|e.Accepts.length,some<|.box<|D9 i,some<|.narr 1<|e.Arcs.map<|nL 3 By,some<|.arr 1<|e.Accepts.map eB]⟩
def Jaj:St:=⟨(4,.ptr 0 0)::(10,.mp 1)::(13,.ptr 2 0)::(50,.d<|.sl<|c.map AR)::(51,.d<|.int .i64 ((c.length:Nat):Int))::(52,.d<|.int .i64 a)::[],[some<|.box<|A8 b,some<|.map true false<|Bp AR AY f,some<|.box<|Dv L (.osl 3 1 0<|L.Arcs.length)<|.osl 4 1 0<|L.Accepts.length,some<|.narr 1<|L.Arcs.map<|nL 3 By,some<|.arr 1<|L.Accepts.map eB]⟩
def Jak:St:=⟨(4,.ptr 0 0)::(10,.mp 1)::(13,.ptr 2 0)::(14,.d<|.int .i64 a)::(15,.ptr 3 0)::(50,.d<|.sl<|c.map AR)::(51,.d<|.int .i64 ((c.length:Nat):Int))::(52,.d<|.int .i64 a)::(67,.d<|.sl<|b.Rules.map As)::(68,.d<|.int .i64 ((b.Rules.length:Nat):Int))::(69,.d<|.int .i64 h)::[],[some<|.box<|A8 b,some<|.map true false<|Bp AR AY f,some<|.box<|Dv J (.osl 4 1 0<|J.Arcs.length)<|.osl 5 1 0<|J.Accepts.length,some<|.box<|D9 i,some<|.narr 1<|J.Arcs.map<|nL 3 By,some<|.arr 1<|J.Accepts.map eB]⟩
def X1:St:=⟨(4,.ptr 0 0)::(10,.mp 1)::(13,.ptr 2 0)::(14,.d<|.int .i64 a)::(15,.ptr 3 0)::(17,.ptr 4 0)::(18,.ptr 5 0)::(20,.osl 6 1 0<|p.length)::(50,.d<|.sl<|c.map AR)::(51,.d<|.int .i64 ((c.length:Nat):Int))::(52,.d<|.int .i64 a)::(67,.d<|.sl<|b.Rules.map As)::(68,.d<|.int .i64 ((b.Rules.length:Nat):Int))::(69,.d<|.int .i64 h)::(84,.d<|.sl<|w.Cells.map eU8)::(85,.d<|.int .i64 ((w.Cells.length:Nat):Int))::(86,.d<|.int .i64 M)::[],[some<|.box<|A8 b,some<|.map true false<|Bp AR AY f,some<|.box<|Dv e (.osl 7 1 0<|e.Arcs.length)<|.osl 8 1 0<|e.Accepts.length,some<|.box<|D9 i,some<|.box<|HJ w,some<|.box<|D9 o.1,some<|.arr 1<|p.map eU8,some<|.narr 1<|e.Arcs.map<|nL 3 By,some<|.arr 1<|e.Accepts.map eB]⟩
def X2:St:=⟨(4,.ptr 0 0)::(10,.mp 1)::(13,.ptr 2 0)::(14,.d<|.int .i64 a)::(15,.ptr 3 0)::(17,.ptr 4 0)::(18,.ptr 5 0)::(20,.osl 6 1 0<|A.length)::(50,.d<|.sl<|c.map AR)::(51,.d<|.int .i64 ((c.length:Nat):Int))::(52,.d<|.int .i64 a)::(67,.d<|.sl<|b.Rules.map As)::(68,.d<|.int .i64 ((b.Rules.length:Nat):Int))::(69,.d<|.int .i64 h)::[],[some<|.box<|A8 b,some<|.map true false<|Bp AR AY f,some<|.box<|Dv e (.osl 7 1 0<|e.Arcs.length)<|.osl 8 1 0<|e.Accepts.length,some<|.box<|D9 i,some<|.box<|HJ w,some<|.box<|D9 o.1,some<|.arr 1<|A.map eU8,some<|.narr 1<|e.Arcs.map<|nL 3 By,some<|.arr 1<|e.Accepts.map eB]⟩
def K3:(List Int)->Ex->St->Prop:=xX 0 6<|λ (y:(List Int))=>X2 b c f a i e h w o y
def Gp:((List Int)×Int)->St:=(λ (x:((List Int)×Int))=>X1 b c f a i e h w o x.1 x.2)
def K4:Aa->Ex->St->Prop:=xX 0 4<|λ (y:Aa)=>Jaj b c f a y
def Gq:(Aa×Int)->St:=(λ (x:(Aa×Int))=>Jai b c f a i x.1 x.2)
def K5:Aa->Ex->St->Prop:=xX 0 2<|λ (y:Aa)=>Jah y
def Gr:(Aa×Int)->St:=(λ (x:(Aa×Int))=>Jag b c f x.1 x.2)
variable {b q r u P c j I C f G a K i e h L J w o p M A}
theorem Kp (x:((List (Ae×Int))×Int)) (z:(((List (Ae×Int))×Int)⊕(List (Ae×Int)))) (H:CG n b q r u c x.1 x.2=some z):WP (cxk 121 0) (AO Try.f40) [1,1,1,0,1,0,0] (AP 0 (Gn b q r u c) (K2 b q r u c) z) (Gn b q r u c x):=by
 obtain⟨j,I⟩:=x;refine sr<|ck 1<|en<|sq<|cn H (λ H=>?_)<|λ H=>?_
 ·exact sk<|qz<|sq<|bk 1<|sr<|ck 1<|bx H λ Q ai H=>sp (AW AR ai)<|ck 4<|en<|rz<|ck 3<|sp (Sg (enc:=AY) (encK:=AR) (k:=1) (e1:=λ x=>.int .i64 x) (m:=j) (l:=[.d<|.int .i64 Q.Mode,.d<|.int .i64 Q.Last,.d<|.int .u8 Q.Need]) (key:=Q) (y:=I) (v:=.d<|.int .i64 I) (vz:=[.int .i64 0]) TW)<|ae<|qN<|qz<|rz<|ck 2<|ae (by cases H;exact og<|sg [1,2,3,4,9,10,28,29,30])
 ·exact ex 0<|qx (by cases H;exact xo rfl<|sg [1,2,3,4,9,10])
theorem Kq (x:((List Int)×Int)) (z:(((List Int)×Int)⊕(List Int))) (H:Cj n b c f a i e h w o x.1 x.2=some z):WP (cxk 121 0) (AO Try.f40) [1,1,1,1,1,0,1,0,0,1,1,0,0,1,1,1,0,0,1,1,0,0,1,1,1,1,0,1,0,0] (AP 0 (Gp b c f a i e h w o) (K3 b c f a i e h w o) z) (Gp b c f a i e h w o x):=by
 obtain⟨p,M⟩:=x;refine sr<|ck 1<|en<|sq<|cn H (λ H=>?_)<|λ H=>?_
 ·exact sk<|qz<|sq<|bk 7<|sr<|bx H λ ay T H=>sp (AW eU8 T)<|ck 2<|en<|rz<|ck 3<|bx H λ az U H=>sp (Cc eU8 6 1 U)<|ck 1<|ae<|qN<|qz<|rz<|ck 2<|ae (by cases H;exact og<|gP [4,10,13,14,15,17,18,20,50,51,52,67,68,69,84,85,86] [0,1,2,3,4,5,10,7,8]<|po1<|po1<|po1<|po1<|po1<|po1<|po1<|pn1 (nL 3 By) e.Arcs<|po1<|Pl.z)
 ·exact ex 6<|qx (by cases H;exact xo rfl<|gP [4,10,13,14,15,17,18,20,50,51,52,67,68,69] [0,1,2,3,4,5,6,7,8]<|po1<|po1<|po1<|po1<|po1<|po1<|po1<|pn1 (nL 3 By) e.Arcs<|po1<|Pl.z)
theorem Kr (x:(Aa×Int)) (z:((Aa×Int)⊕Aa)) (H:Ck n b c f a i x.1 x.2=some z):WP (cxk 121 0) (AO Try.f40) [1,1,1,1,1,0,1,0,0,1,1,0,0,1,1,1,0,0] (AP 0 (Gq b c f a i) (K4 b c f a) z) (Gq b c f a i x):=by
 obtain⟨e,h⟩:=x;refine sr<|ck 1<|en<|sq<|cn H (λ H=>?_)<|λ H=>?_
 ·refine sk<|qz<|sj (λ (x:Aa)=>Jak b c f a i h x) (λ (x:Aa)=>Dz n h x) z ?_ (λ g=>?_)
  ·intro J H;exact rz<|ck 2<|ae (by cases H;exact og<|gP [4,10,13,14,15,50,51,52,67,68,69] [0,1,2,3,4,5]<|po1<|po1<|po1<|po1<|pn1 (nL 3 By) J.Arcs<|po1<|Pl.z)
  refine bk 5<|sr<|ck 1<|bx H λ w aj H=>sp (AW As aj)<|ck 4<|en<|sr<|ck 3<|bx H λ o V H=>ca false (NH V)<|ck 6<|en<|sq<|sr<|ck 2<|en<|cn H (λ H=>?_)<|λ H=>?_
  ·exact ex 5<|qx<|qH<|qs (gP [4,10,13,14,15,50,51,52,67,68,69] [0,1,2,3,4,5]<|po1<|po1<|po1<|po1<|pn1 (nL 3 By) e.Arcs<|po1<|Pl.z)<|g e H
  ·exact sk<|qz<|sr<|ck 1<|en<|sq<|sr<|ck 2<|sp (AT eU8 w.Cells)<|ck 1<|en<|bk 6<|bx H λ ak W H=>lX Kq W (tr (An.nilo 20 1 (by kernel_rfl))<|gP [4,10,13,14,15,17,18,20,50,51,52,67,68,69,84,85,86] [0,1,2,3,6,7,8,4,5]<|po1<|po1<|po1<|po1<|po1<|po1<|po1<|pn1 (nL 3 By) e.Arcs<|po1<|Pl.z) rfl λ s X=>qH<|qs (X)<|bx H λ O E H=>rg (tr (tr (so1 (encN:=(nL 3 By)) 7 1 E)<|sno (encN:=(nL 3 By)) (enc:=By) E [.own 3<|O.map By] O 1 7 0 3)<|fz (enc:=eU8) (xs:=ak) 20 6 1)<|ck 10<|sp (Bc 7 1 E)<|sp (Im (encN:=(nL 3 By)) (row:=[.osl 9 3 0<|O.length]) (k:=7) (sz:=1) (off:=0) (t:=ty 122) (v:=.osl 9 3 0<|O.length) E)<|ck 3<|bx H λ s1 Y H=>sp (JcY Y)<|ck 2<|sp (TQ (enc:=AY) (encK:=AR) (k:=1) (e1:=λ x=>.int .i64 x) (m:=f) (l:=[.d<|.int .i64 o.1.Mode,.d<|.int .i64 o.1.Last,.d<|.int .u8 o.1.Need]) (key:=o.1) (z:=0) (vz:=[.int .i64 0]) TW false)<|ck 2<|bx H λ B Z H=>sp (Cc By 9 3 Z)<|sp (Bc 7 1 E)<|sp (Sf (encN:=(nL 3 By)) (row:=[.osl 9 3 0<|O.length]) (row':=[.osl 11 3 0<|B.length]) (k:=7) (sz:=1) (off:=0) (t:=ty 122) (v:=.osl 11 3 0<|B.length) E)<|ae<|qN<|qs (tr (tr (tr (tr (tr (sni (encN:=(nL 3 By)) (xs:=e.Arcs) (n:=a) (enc:=By) [.osl 11 3 0<|B.length] B 1 7 0 11 3)<|scl (encN:=(nL 3 By)) (xss:=e.Arcs) a [.own 3<|B.map By] 1 7 B)<|sn 98 7 1<|lsS e.Arcs a.toNat B)<|sn 103 7 1<|lsS e.Arcs a.toNat B)<|snc 2 3 7 1<|lsS e.Arcs a.toNat B)<|gP [4,10,13,14,15,50,51,52,67,68,69] [0,1,2,3,7,8]<|po1<|po1<|po1<|po1<|pn1 (nL 3 By) (List.set e.Arcs a.toNat B)<|po1<|Pl.z)<|g ({ Felt:=e.Felt,Budget:=e.Budget,Most:=e.Most,Arcs:=List.set e.Arcs a.toNat B,Accepts:=e.Accepts,Before:=e.Before }:Aa) H
 ·exact ex 4<|qx (by cases H;exact xo rfl<|gP [4,10,13,50,51,52] [0,1,2,4,5]<|po1<|po1<|po1<|pn1 (nL 3 By) e.Arcs<|po1<|Pl.z)
theorem Ks (x:(Aa×Int)) (z:((Aa×Int)⊕Aa)) (H:CH n b c f x.1 x.2=some z):WP (cxk 121 0) (AO Try.f40) [1,1,1,1,1,0,1,0,0] (AP 0 (Gr b c f) (K5) z) (Gr b c f x):=by
 obtain⟨G,a⟩:=x;refine sr<|ck 1<|en<|sq<|cn H (λ H=>?_)<|λ H=>?_
 ·exact sk<|qz<|sq<|bk 3<|sr<|ck 1<|bx H λ i al H=>sp (AW AR al)<|ck 4<|en<|sr<|ck 7<|bx H λ a0 am H=>ca false (PA am)<|bx H λ a2 aa H=>sp (Bc 4 1 aa)<|bx H λ a3 S H=>stA eB 4 0 (ty 4) aa S<|en<|sq<|rg (tr (sn 60 4 1<|Dx S)<|snc 2 4 4 1<|Dx S)<|ck 2<|sp (AT As b.Rules)<|ck 1<|en<|bk 4<|bx H λ ap ab H=>lX Kr ab (gP [4,10,13,14,15,50,51,52,67,68,69] [0,1,2,5,3,4]<|po1<|po1<|po1<|po1<|pn1 (nL 3 By) G.Arcs<|po1<|Pl.z) rfl λ s ac=>qH<|qN<|qs (ac)<|rz<|ck 2<|ae (by cases H;exact og<|gP [4,10,13,50,51,52] [0,1,2,3,4]<|po1<|po1<|po1<|pn1 (nL 3 By) ap.Arcs<|po1<|Pl.z)
 ·exact ex 2<|qx (by cases H;exact xo rfl<|gP [13] [2,3,4]<|po1<|pn1 (nL 3 By) G.Arcs<|po1<|Pl.z)
theorem MV {z} (H:Ff n b q r u=some z):Bu Try.prog 40 [.agg (A8 b),.d (.sl (q.map Bd)),.d (.int .i64 r),.d (.int .i64 u)] [] 0 (.ptr 0 0) [some (.box (Kb z (.osl 1 1 0 (z.Accepts.length)))),some (.arr 1 (z.Accepts.map eB))]:=by
 exact fL 121 0 (Jac b q r u) Try.func40<|sr<|ck 2<|en<|sr<|ck 1<|bx H λ c ar H=>ca false (Qp ar)<|ck 1<|en<|sr<|ck 1<|sp (AT AR c)<|ck 2<|en<|sq<|sr<|ck 1<|sp (AT AR c)<|ck 1<|en<|bk 0<|bx H λ f au H=>lX Kp au (sg [1,2,3,4,9,10,28,29,30]) rfl λ s af=>qH<|qs (af)<|sr<|ck 4<|sp (AT AR c)<|bx H λ av R H=>sp (ZG 1 (ez:=[.nil]) R)<|ck 1<|sp (AT AR c)<|bx H λ a4 aw H=>sp (JhA eB 1 aw)<|ck 3<|en<|sq<|sq<|rg (tr (tr (JeF (encN:=(nL 3 By)) (sz:=1) (z:=[.nil]) (n:=((c.length:Nat):Int)) 2 (Sh R) (by kernel_rfl) (by kernel_rfl))<|sn 44 2 1<|Oa R)<|snc 4 3 2 1<|Oa R)<|ck 1<|sp (AT AR c)<|ck 1<|en<|bk 2<|bx H λ a5 ag H=>lX Ks ag (tr (Zs 4 5 (by kernel_rfl))<|gP [4,10,13,50,51,52] [0,1,4,2,3]<|po1<|po1<|po1<|pn1 (nL 3 By) av<|po1<|Pl.z) rfl λ s ah=>qH<|qs (ah)<|sr<|ck 2<|en<|re (by cases H;exact pL<|rl (s':=Jad z)<|tr (ZB (encN:=(nL 3 By)) (encD:=(eL By)) (xss:=z.Arcs) (sz:=1) 0 3 1 (by kernel_rfl) (by kernel_rfl) (λ _=>rfl)<|λ _=>rfl)<|sg [8])
end
section
variable (c:Int) (b:(List UInt8)) (a:Aa) (h:Int) (i:Bool) (e:Int) (f:Int) (g:Int)
def Jal:St:=⟨(0,.ptr 0 0)::(1,.d<|.int .i64 c)::(2,.d<|.str b)::[],[some<|.box<|Am a (.osl 1 1 0<|a.Accepts.length)<|.osl 2 1 0<|a.Before.length,some<|.arr 1<|a.Accepts.map eB,some<|.narr 1<|List.map (eMr (λ k=>.int .i64 k)<|λ v=>.int .i64 v) a.Before]⟩
def TZ:St:=⟨(6,.d<|.int .i64 h)::(7,.d<|.bool i)::[],[some<|.box<|Am a (.osl 1 1 0<|a.Accepts.length)<|.osl 2 1 0<|a.Before.length,some<|.arr 1<|a.Accepts.map eB,some<|.narr 1<|List.map (eMr (λ k=>.int .i64 k)<|λ v=>.int .i64 v) a.Before]⟩
def Jam:St:=⟨(0,.ptr 0 0)::(1,.d<|.int .i64 c)::(2,.d<|.str b)::(8,.d<|.int .i64 e)::(21,.d<|.int .i64 ((b.length:Nat):Int))::(22,.d<|.int .i64 f)::[],[some<|.box<|Am a (.osl 1 1 0<|a.Accepts.length)<|.osl 2 1 0<|a.Before.length,some<|.arr 1<|a.Accepts.map eB,some<|.narr 1<|List.map (eMr (λ k=>.int .i64 k)<|λ v=>.int .i64 v) a.Before]⟩
def Jan:St:=⟨(8,.d<|.int .i64 g)::[],[some<|.box<|Am a (.osl 1 1 0<|a.Accepts.length)<|.osl 2 1 0<|a.Before.length,some<|.arr 1<|a.Accepts.map eB,some<|.narr 1<|List.map (eMr (λ k=>.int .i64 k)<|λ v=>.int .i64 v) a.Before]⟩
def JD:Int->Ex->St->Prop:=xX 3 0<|λ (y:Int)=>Jan a y
def FG:(Int×Int)->St:=(λ (x:(Int×Int))=>Jam c b a x.1 x.2)
variable {c b a h i e f g}
theorem I2 (x:(Int×Int)) (z:((Int×Int)⊕Int)) (H:Co n c b a x.1 x.2=some z):WP (cxk 42 3) (AO Try.f56) [1,1,1,0,1,0,0] (AP 3 (FG c b a) (JD a) z) (FG c b a x):=by
 obtain⟨e,f⟩:=x;refine sr<|ck 1<|en<|sq<|cn H (λ H=>?_)<|λ H=>?_
 ·exact sk<|qz<|sq<|bk 1<|sr<|ck 2<|en<|rz<|ck 8<|bx H λ r j H=>sp (AW Bd j)<|ck 3<|bx H λ u l H=>sp (Fb l)<|bx H λ t m H=>ca false (TY m)<|ck 2<|ae<|qN<|qz<|rz<|ck 2<|ae (by cases H;exact og<|gP [0,1,2,8,21,22] [0,1,2]<|po1<|po1<|pn1 (eMr (λ k=>.int .i64 k)<|λ v=>.int .i64 v) a.Before<|Pl.z)
 ·exact ex 0<|qx (by cases H;exact xo rfl<|gP [8] [0,1,2]<|po1<|po1<|pn1 (eMr (λ k=>.int .i64 k)<|λ v=>.int .i64 v) a.Before<|Pl.z)
theorem Gs {z} (H:C6 n c b a=some z):Bu Try.prog 56 [.ptr 0 0,.d (.int .i64 c),.d (.str b)] [some (.box (Am a (.osl 1 1 0 (a.Accepts.length)) (.osl 2 1 0 (a.Before.length)))),some (.arr 1 (a.Accepts.map eB)),some (.narr 1 (List.map (eMr (λ k=>.int .i64 k) (λ v=>.int .i64 v)) a.Before))] 3 (.tup [.d (.int .i64 z.1),.d (.bool z.2)]) [some (.box (Am a (.osl 1 1 0 (a.Accepts.length)) (.osl 2 1 0 (a.Before.length)))),some (.arr 1 (a.Accepts.map eB)),some (.narr 1 (List.map (eMr (λ k=>.int .i64 k) (λ v=>.int .i64 v)) a.Before))]:=by
 refine fL 42 3 (Jal c b a) Try.func56<|sr<|ck 2<|en<|sq<|sr<|ck 6<|sp (AT Bd a.Felt)<|ck 3<|en<|cn H (λ H=>?_)<|λ H=>?_
 ·exact sr<|ck 2<|en<|re<|qr (by cases H;exact pL<|rl (s':=TZ a 0 false)<|gP [6,7] [0,1,2]<|po1<|po1<|pn1 (eMr (λ k=>.int .i64 k)<|λ v=>.int .i64 v) a.Before<|Pl.z)
 ·exact sk<|qz<|sr<|ck 1<|en<|sq<|sr<|ck 3<|en<|bk 0<|bx H λ q o H=>lX I2 o (gP [0,1,2,8,21,22] [0,1,2]<|po1<|po1<|pn1 (eMr (λ k=>.int .i64 k)<|λ v=>.int .i64 v) a.Before<|Pl.z) rfl λ s p=>qH<|qs (p)<|sr<|ck 3<|en<|re (by cases H;exact pL<|rl (s':=TZ a q true)<|gP [6,7] [0,1,2]<|po1<|po1<|pn1 (eMr (λ k=>.int .i64 k)<|λ v=>.int .i64 v) a.Before<|Pl.z)
end
section
variable (L:Aa) (r:Aa) (J:(List (Option (Bool×(List (Int×Int)))))) (l:Aa) (s:Int) (K:Aa) (h:Aa) (G:(List (Int×Int))) (C:Aa) (c:Int) (u:Aa) (M:(List (Int×Int))) (E:Aa) (o:Aa) (e1:(Int×Int)) (l19:(List (Int×Int))) (l20:(List (Int×Int))) (q:(List Hh)) (b:Aa) (w:Int) (p:Aa) (i:Aa)
def Jao:St:=⟨(0,.ptr 0 0)::[],[some<|.box<|Kb L<|.osl 1 1 0<|L.Accepts.length,some<|.arr 1<|L.Accepts.map eB]⟩
def Jap:St:=⟨[],[some<|.box<|Am r (.osl 1 1 0<|r.Accepts.length)<|.osl 2 1 0<|r.Before.length,some<|.arr 1<|r.Accepts.map eB,some<|.narr 1<|List.map (eMr (λ k=>.int .i64 k)<|λ v=>.int .i64 v) r.Before]⟩
def Jaq:St:=⟨(0,.ptr 0 0)::(28,.d<|.int .i64 ((J.length:Nat):Int))::(29,.d<|.int .i64 s)::[],[some<|.box<|Am l (.osl 1 1 0<|l.Accepts.length)<|.osl 2 1 0<|l.Before.length,some<|.arr 1<|l.Accepts.map eB,some<|.narr 1<|List.map (eMr (λ k=>.int .i64 k)<|λ v=>.int .i64 v) l.Before]⟩
def Jar:St:=⟨(0,.ptr 0 0)::[],[some<|.box<|Am K (.osl 1 1 0<|K.Accepts.length)<|.osl 2 1 0<|K.Before.length,some<|.arr 1<|K.Accepts.map eB,some<|.narr 1<|List.map (eMr (λ k=>.int .i64 k)<|λ v=>.int .i64 v) K.Before]⟩
def HN:Aa->Ex->St->Prop:=xX 2 0<|λ (y:Aa)=>Jar y
def Ei:(Aa×Int)->St:=(λ (x:(Aa×Int))=>Jaq J x.1 x.2)
def Jas:St:=⟨(0,.ptr 0 0)::(49,.osl 2 1 0<|C.Before.length)::(50,.d<|.int .i64 ((List.length (List.set h.Before (Int.toNat 0)<|some (false,B6<|BJ 0 0 G)):Nat):Int))::(51,.d<|.int .i64 c)::[],[some<|.box<|Am C (.osl 1 1 0<|C.Accepts.length)<|.osl 2 1 0<|C.Before.length,some<|.arr 1<|C.Accepts.map eB,some<|.narr 1<|List.map (eMr (λ k=>.int .i64 k)<|λ v=>.int .i64 v) C.Before]⟩
def Jat:St:=⟨[],[some<|.box<|Am u (.osl 1 1 0<|u.Accepts.length)<|.osl 2 1 0<|u.Before.length,some<|.arr 1<|u.Accepts.map eB,some<|.narr 1<|List.map (eMr (λ k=>.int .i64 k)<|λ v=>.int .i64 v) u.Before]⟩
def Jau:St:=⟨(0,.ptr 0 0)::(3,.d<|.int .i64 c)::(49,.osl 2 1 0<|E.Before.length)::(50,.d<|.int .i64 ((List.length (List.set h.Before (Int.toNat 0)<|some (false,B6<|BJ 0 0 G)):Nat):Int))::(51,.d<|.int .i64 c)::(57,.ptr 3 0)::[],[some<|.box<|Am E (.osl 1 1 0<|E.Accepts.length)<|.osl 2 1 0<|E.Before.length,some<|.arr 1<|E.Accepts.map eB,some<|.narr 1<|List.map (eMr (λ k=>.int .i64 k)<|λ v=>.int .i64 v) E.Before,some<|.iter false false none<|Bp AY AY M]⟩
def Jav:St:=⟨(0,.ptr 0 0)::(49,.osl 2 1 0<|o.Before.length)::(50,.d<|.int .i64 ((List.length (List.set h.Before (Int.toNat 0)<|some (false,B6<|BJ 0 0 G)):Nat):Int))::(51,.d<|.int .i64 c)::[],[some<|.box<|Am o (.osl 1 1 0<|o.Accepts.length)<|.osl 2 1 0<|o.Before.length,some<|.arr 1<|o.Accepts.map eB,some<|.narr 1<|List.map (eMr (λ k=>.int .i64 k)<|λ v=>.int .i64 v) o.Before]⟩
def Jaw:St:=⟨(0,.ptr 0 0)::(3,.d<|.int .i64 c)::(6,.d<|.int .i64 e1.2)::(49,.osl 2 1 0<|b.Before.length)::(50,.d<|.int .i64 ((List.length (List.set h.Before (Int.toNat 0)<|some (false,B6<|BJ 0 0 G)):Nat):Int))::(51,.d<|.int .i64 c)::(57,.ptr 3 0)::(69,.d<|.sl<|q.map By)::(70,.d<|.int .i64 ((q.length:Nat):Int))::(71,.d<|.int .i64 w)::[],[some<|.box<|Am b (.osl 1 1 0<|b.Accepts.length)<|.osl 2 1 0<|b.Before.length,some<|.arr 1<|b.Accepts.map eB,some<|.narr 1<|List.map (eMr (λ k=>.int .i64 k)<|λ v=>.int .i64 v) b.Before,some<|.iter false false none<|Bp AY AY<|l19++l20]⟩
def X3:St:=⟨(0,.ptr 0 0)::(3,.d<|.int .i64 c)::(49,.osl 2 1 0<|p.Before.length)::(50,.d<|.int .i64 ((List.length (List.set h.Before (Int.toNat 0)<|some (false,B6<|BJ 0 0 G)):Nat):Int))::(51,.d<|.int .i64 c)::(57,.ptr 3 0)::[],[some<|.box<|Am p (.osl 1 1 0<|p.Accepts.length)<|.osl 2 1 0<|p.Before.length,some<|.arr 1<|p.Accepts.map eB,some<|.narr 1<|List.map (eMr (λ k=>.int .i64 k)<|λ v=>.int .i64 v) p.Before,some<|.iter false false none<|Bp AY AY<|l19++l20]⟩
def X4:St:=⟨(0,.ptr 0 0)::(3,.d<|.int .i64 c)::(6,.d<|.int .i64 e1.2)::(49,.osl 2 1 0<|i.Before.length)::(50,.d<|.int .i64 ((List.length (List.set h.Before (Int.toNat 0)<|some (false,B6<|BJ 0 0 G)):Nat):Int))::(51,.d<|.int .i64 c)::(57,.ptr 3 0)::(69,.d<|.sl<|q.map By)::(70,.d<|.int .i64 ((q.length:Nat):Int))::(71,.d<|.int .i64 w)::[],[some<|.box<|Am i (.osl 1 1 0<|i.Accepts.length)<|.osl 2 1 0<|i.Before.length,some<|.arr 1<|i.Accepts.map eB,some<|.narr 1<|List.map (eMr (λ k=>.int .i64 k)<|λ v=>.int .i64 v) i.Before,some<|.iter false false none<|Bp AY AY<|l19++l20]⟩
def HO:Aa->Ex->St->Prop:=xX 2 6<|λ (y:Aa)=>X3 h G c l19 l20 y
def Ej:(Aa×Int)->St:=(λ (x:(Aa×Int))=>Jaw h G c e1 l19 l20 q x.1 x.2)
def Ek:Empty->Ex->St->Prop:=(λ (_:Empty) _ _=>False)
variable {L r J l s K h G C c u M E o e1 l19 l20 q b w p i}
theorem Hj (x:(Aa×Int)) (z:((Aa×Int)⊕Aa)) (H:B1 n J x.1 x.2=some z):WP (cxk 130 2) (AO Try.f41) [1,0,1,0,0] (AP 2 (Ei J) (HN) z) (Ei J x):=by
 obtain⟨l,s⟩:=x;refine sr<|ck 1<|en<|sq<|cn H (λ H=>?_)<|λ H=>?_
 ·exact sk<|qz<|sq<|bk 1<|sr<|ck 2<|en<|bx H λ Q I H=>rg (so1 (encN:=(eMr (λ k=>.int .i64 k)<|λ v=>.int .i64 v)) 2 1 I)<|ck 6<|sp (Bc 2 1 I)<|sp (Sf (encN:=(eMr (λ k=>.int .i64 k)<|λ v=>.int .i64 v)) (row:=[ZR (λ k=>.int .i64 k) (λ v=>.int .i64 v) Q]) (row':=[.mp 3]) (k:=2) (sz:=1) (off:=0) (t:=ty 125) (v:=.mp 3) I)<|ae<|qN<|qz<|rg (tr (tr (Js (ek:=(λ k=>.int .i64 k)) (ev:=(λ v=>.int .i64 v)) 2 3 ([]:(List<|Int×Int)) I (by kernel_rfl) (by kernel_rfl))<|sn 35 2 1<|lsS l.Before s.toNat<|some (false,([]:(List<|Int×Int))))<|snc 0 5 2 1<|lsS l.Before s.toNat<|some (false,([]:(List<|Int×Int))))<|ck 2<|ae (by cases H;exact og<|gP [0,28,29] [0,1,2]<|po1<|po1<|pn1 (eMr (λ k=>.int .i64 k)<|λ v=>.int .i64 v) (List.set l.Before s.toNat<|some (false,([]:(List<|Int×Int))))<|Pl.z)
 ·exact ex 0<|qx (by cases H;exact xo rfl<|gP [0] [0,1,2]<|po1<|po1<|pn1 (eMr (λ k=>.int .i64 k)<|λ v=>.int .i64 v) l.Before<|Pl.z)
theorem Hk (x:(Aa×Int)) (z:((Aa×Int)⊕Aa)) (H:Bz n h G c e1 q x.1 x.2=some z):WP (cxk 130 2) (AO Try.f41) [1,1,1,1,0,0,1,1,0,0,1,1,0,0,1,1,0,1,1,0,0] (AP 2 (Ej h G c e1 l19 l20 q) (HO h G c l19 l20) z) (Ej h G c e1 l19 l20 q x):=by
 obtain⟨b,w⟩:=x;refine sr<|ck 1<|en<|sq<|cn H (λ H=>?_)<|λ H=>?_
 ·refine sk<|qz<|sj (λ (x:Aa)=>X4 h G c e1 l19 l20 q w x) (λ (x:Aa)=>B2 n w x) z ?_ (λ e=>?_)
  ·intro i H;exact rz<|ck 2<|ae (by cases H;exact og<|gP [0,3,6,49,50,51,57,69,70,71] [0,1,2,3]<|po1<|po1<|pn1 (eMr (λ k=>.int .i64 k)<|λ v=>.int .i64 v) i.Before<|po1<|Pl.z)
  refine bk 7<|sr<|bx H λ g O H=>sp (AW By O)<|ck 3<|en<|sr<|ck 4<|bx H λ j P H=>ltP [0,1,2] (Gs P) (po1<|po1<|pn1 (eMr (λ k=>.int .i64 k)<|λ v=>.int .i64 v) b.Before<|Pl.z)<|tb (f:=EM<|Cv [0,1,2] 5 3) [some<|.box<|Am b (.osl 1 1 0<|b.Accepts.length)<|.osl 2 1 0<|b.Before.length,some<|.arr 1<|b.Accepts.map eB,some<|.narr 1<|List.map (eMr (λ k=>.int .i64 k)<|λ v=>.int .i64 v) b.Before,some<|.iter false false none<|Bp AY AY<|l19++l20,some<|.box<|Jik g] (po1<|po1<|pn1 (eMr (λ k=>.int .i64 k)<|λ v=>.int .i64 v) b.Before<|po1<|po1<|Pl.z)<|ck 5<|en<|sq<|sr<|ck 5<|gc 1 (!(!j.2))<|ck 1<|gc 4 (!(!j.2))<|pO<|en<|cn H (λ H=>?_)<|λ H=>?_
  ·exact ex 7<|qx<|qH<|qs (gP [0,3,6,49,50,51,57,69,70,71] [0,1,2,3]<|po1<|po1<|pn1 (eMr (λ k=>.int .i64 k)<|λ v=>.int .i64 v) b.Before<|po1<|Pl.z)<|e b H
  ·refine sk<|qz<|sq<|bx H λ A B H=>rg (Pq (ek:=(λ k=>.int .i64 k)) (ev:=(λ v=>.int .i64 v)) 2 (B0 B) (by kernel_rfl))<|ck 9<|sp (Bc 2 1<|B0 B)<|sp (Im (encN:=(eMr (λ k=>.int .i64 k)<|λ v=>.int .i64 v)) (row:=[.mp 5]) (k:=2) (sz:=1) (off:=0) (t:=ty 125) (v:=.mp 5)<|B0 B)<|ck 1<|en<|sr<|ck 3<|sp (LQ (enc:=AY) (encK:=AY) (ka:=false) (va:=false) (k:=5) (m:=A) (a:=.d<|.int .i64 g.To) (key:=g.To) (z:=(0:Int)) (vz:=[.int .i64 0]) X0 true)<|ck 5<|en<|sr<|ck 5<|gc 1 (!(!(Option.isSome<|AN g.To A)))<|ck 1<|gc 1 (!(!(Option.isSome<|AN g.To A)))<|pO<|en<|cn H (λ H=>?_)<|λ H=>?_
   ·exact rz<|ck 6<|sp (Oe (enc:=AY) (encK:=AY) (ka:=false) (va:=false) (k:=5) (m:=A) (a:=.d<|.int .i64 g.To) (key:=g.To) (y:=AX .i64 e1.2 j.1) (v:=.d<|.int .i64<|AX .i64 e1.2 j.1) (vz:=[.int .i64 0]) X0)<|ae<|qN<|qs (tr (tr (tr (tr (tr (VC (ka:=false) (va:=false) (e2:=Bp AY AY<|B6<|BJ g.To (AX .i64 e1.2 j.1) A) 5 (MJ (D7<|BJ g.To (AX .i64 e1.2 j.1) A).symm) (by kernel_rfl))<|Js (ek:=(λ k=>.int .i64 k)) (ev:=(λ v=>.int .i64 v)) 2 5 (B6<|BJ g.To (AX .i64 e1.2 j.1) A) (B0 B) (by kernel_rfl) (by kernel_rfl))<|sn 49 2 1<|lsS b.Before (Int.toNat<|AX .i64 c ((g.Cells.length:Nat):Int))<|some (false,B6<|BJ g.To (AX .i64 e1.2 j.1) A))<|sn 98 2 1<|lsS b.Before (Int.toNat<|AX .i64 c ((g.Cells.length:Nat):Int))<|some (false,B6<|BJ g.To (AX .i64 e1.2 j.1) A))<|snc 0 5 2 1<|lsS b.Before (Int.toNat<|AX .i64 c ((g.Cells.length:Nat):Int))<|some (false,B6<|BJ g.To (AX .i64 e1.2 j.1) A))<|gP [0,3,6,49,50,51,57,69,70,71] [0,1,2,3]<|po1<|po1<|pn1 (eMr (λ k=>.int .i64 k)<|λ v=>.int .i64 v) (List.set b.Before (Int.toNat<|AX .i64 c ((g.Cells.length:Nat):Int))<|some (false,B6<|BJ g.To (AX .i64 e1.2 j.1) A))<|po1<|Pl.z)<|e ({ Felt:=b.Felt,Budget:=b.Budget,Most:=b.Most,Arcs:=b.Arcs,Accepts:=b.Accepts,Before:=List.set b.Before (Int.toNat<|AX .i64 c ((g.Cells.length:Nat):Int)) (some (false,B6<|BJ g.To (AX .i64 e1.2 j.1) A)) }:Aa) H
   ·exact sk<|qN<|qs (tr (tr (tr (tr (Js (ek:=(λ k=>.int .i64 k)) (ev:=(λ v=>.int .i64 v)) 2 5 A (B0 B) (by kernel_rfl) (by kernel_rfl))<|sn 49 2 1<|lsS b.Before (Int.toNat<|AX .i64 c ((g.Cells.length:Nat):Int))<|some (false,A))<|sn 98 2 1<|lsS b.Before (Int.toNat<|AX .i64 c ((g.Cells.length:Nat):Int))<|some (false,A))<|snc 0 5 2 1<|lsS b.Before (Int.toNat<|AX .i64 c ((g.Cells.length:Nat):Int))<|some (false,A))<|gP [0,3,6,49,50,51,57,69,70,71] [0,1,2,3]<|po1<|po1<|pn1 (eMr (λ k=>.int .i64 k)<|λ v=>.int .i64 v) (List.set b.Before (Int.toNat<|AX .i64 c ((g.Cells.length:Nat):Int))<|some (false,A))<|po1<|Pl.z)<|e ({ Felt:=b.Felt,Budget:=b.Budget,Most:=b.Most,Arcs:=b.Arcs,Accepts:=b.Accepts,Before:=List.set b.Before (Int.toNat<|AX .i64 c ((g.Cells.length:Nat):Int)) (some (false,A)) }:Aa) H
 ·exact ex 6<|qx (by cases H;exact xo rfl<|gP [0,3,49,50,51,57] [0,1,2,3]<|po1<|po1<|pn1 (eMr (λ k=>.int .i64 k)<|λ v=>.int .i64 v) b.Before<|po1<|Pl.z)
end
def DT (b:Aa) (c:(List<|Int×Int)) (a:Int):Aa->Ex->St->Prop:=(λ (x:Aa)=>xX 2 4 (λ (y:Aa)=>Jav b c a y) x)
section
variable (c:Aa) (f:(List (Int×Int))) (b:Int) (g:Aa)
def El:(List<|Int×Int)->Aa->St:=(λ (l:(List<|Int×Int)) (x:Aa)=>Jau c f b l x)
def HP:Aa->Ex->St->Prop:=xX 2 2<|λ (y:Aa)=>Jat y
def Em:(Aa×Int)->St:=(λ (x:(Aa×Int))=>Jas c f x.1 x.2)
variable {c f b g}
theorem Hl (q:(List (Int×Int))) (x:Aa) (hz:∀ e,e∈q->∃ z,Ba n c f b e x=some z):WP (cxk 130 2) (AO Try.f41) [1,1,1,1,0,0,1,1,0,0,1,1,0,0] (XV 2 (El c f b) (DT c f b) (Ek) (λ (e:(Int×Int)) (x:Aa)=>Ba n c f b e x) q x) (El c f b q x):=by
 revert hz;generalize x=u;intro hz;refine sq<|rn 0 (.refl _)<|nd0<|nxt (yok _ _) (encK:=AY) (enc:=AY) (ka:=false) (va:=false) 3 (λ hl=>?_)<|λ e1 l19 l20 hl1=>bE (hz e1<|JeL hl1) λ z hF=>?_
 ·exact ck 1<|en<|sq<|cF<|ex 4<|qx<|mE hl rfl<|gP [0,49,50,51] [0,1,2]<|po1<|po1<|pn1 (eMr (λ k=>.int .i64 k)<|λ v=>.int .i64 v) u.Before<|Pl.z
 ·have H:=hF;exact ck 1<|en<|sq<|cT<|sk<|qz<|bk 5<|sr<|xr (xok _ _)<|ck 4<|en<|sr<|ck 5<|bx H λ M w H=>sp (AW (eL By) w)<|ck 1<|sp (AT By M)<|ck 1<|en<|bk 6<|bx H λ O A H=>lX (Hk (l19:=l19) (l20:=l20)) A (tr (Wt 3 (by kernel_rfl))<|gP [0,3,6,49,50,51,57,69,70,71] [0,1,2,3]<|po1<|po1<|pn1 (eMr (λ k=>.int .i64 k)<|λ v=>.int .i64 v) u.Before<|po1<|Pl.z) rfl λ s B=>qH<|qN (by cases H;exact mg hl1 hF<|tr (B)<|gP [0,3,49,50,51,57] [0,1,2,3]<|po1<|po1<|pn1 (eMr (λ k=>.int .i64 k)<|λ v=>.int .i64 v) O.Before<|po1<|Pl.z)
theorem Hm (x:(Aa×Int)) (z:((Aa×Int)⊕Aa)) (H:BA n c f x.1 x.2=some z):WP (cxk 130 2) (AO Try.f41) [1,1,1,1,0,0] (AP 2 (Em c f) (HP) z) (Em c f x):=by
 obtain⟨j,b⟩:=x;refine sr<|ck 1<|en<|sq<|cn H (λ H=>?_)<|λ H=>?_
 ·refine sk<|qz<|sq<|bk 3<|sq<|bx H λ p o H=>rg (ZS (ek:=(λ k=>.int .i64 k)) (ev:=(λ v=>.int .i64 v)) 2 (HE o) (by kernel_rfl))<|ck 1<|sp (Bc 2 1<|HE o)<|sp (Im (encN:=(eMr (λ k=>.int .i64 k)<|λ v=>.int .i64 v)) (row:=[.fmp<|Gh (λ k=>.int .i64 k) (λ v=>.int .i64 v) p.2]) (k:=2) (sz:=1) (off:=0) (t:=ty 125) (v:=.fmp<|Gh (λ k=>.int .i64 k) (λ v=>.int .i64 v) p.2)<|HE o)<|ck 2<|en<|sq<|rg (tr (tr (scl (encN:=(eMr (λ k=>.int .i64 k)<|λ v=>.int .i64 v)) (xss:=j.Before) b [.fmp<|Gh (λ k=>.int .i64 k) (λ v=>.int .i64 v) p.2] 1 2<|some (true,p.2))<|sn 49 2 1<|lsS j.Before b.toNat<|some (true,p.2))<|snc 0 5 2 1<|lsS j.Before b.toNat<|some (true,p.2))<|ck 1<|xr (xok _ _)<|xri (ek:=(λ k=>.int .i64 k)) (ev:=(λ v=>.int .i64 v)) (m:=p.2) 3<|en<|bk 4 ?_;have hD:=Si H;refine lM (F:=(λ (e:(Int×Int)) (x:Aa)=>Ba n c f b e x)) (E:=Ek) (E0:=DT c f b) Hl (gP [0,3,49,50,51,57] [0,1,2,3]<|po1<|po1<|pn1 (eMr (λ k=>.int .i64 k)<|λ v=>.int .i64 v) (List.set j.Before b.toNat<|some (true,p.2))<|po1<|Pl.z) (λ ord ho=>bI<|hD ord ho) (λ ord P ho hy e s hE=>xQ hE<|λ he C=>?_)<|λ ord r ho hy e s hE=>?_
  ·subst he;have H:=bK (hD ord ho) hy;exact qH<|qN<|qs (C)<|rz<|ck 2<|ae (by cases H;exact og<|gP [0,49,50,51] [0,1,2]<|po1<|po1<|pn1 (eMr (λ k=>.int .i64 k)<|λ v=>.int .i64 v) P.Before<|Pl.z)
  ·cases r
 ·exact ex 2<|qx (by cases H;exact xo rfl<|gP [] [0,1,2]<|po1<|po1<|pn1 (eMr (λ k=>.int .i64 k)<|λ v=>.int .i64 v) j.Before<|Pl.z)
theorem I3 {z} (H:CW n g=some z):Bu Try.prog 41 [.ptr 0 0] [some (.box (Kb g (.osl 1 1 0 (g.Accepts.length)))),some (.arr 1 (g.Accepts.map eB))] 2 (.tup []) [some (.box (Am z (.osl 1 1 0 (z.Accepts.length)) (.osl 2 1 0 (z.Before.length)))),some (.arr 1 (z.Accepts.map eB)),some (.narr 1 (List.map (eMr (λ k=>.int .i64 k) (λ v=>.int .i64 v)) z.Before))]:=by
 exact fL 130 2 (Jao g) Try.func41<|sr<|ck 5<|sp (AT Bd g.Felt)<|ck 1<|bx H λ G h H=>sp (ZG 1 (ez:=[.nilm]) h)<|ck 3<|en<|sq<|sq<|rg (tr (tr (JeN (ek:=(λ k=>.int .i64 k)) (ev:=(λ v=>.int .i64 v)) (zs:=G) 2 (Int.toNat<|AX .i64 ((g.Felt.length:Nat):Int) 1) (Sh h) (by kernel_rfl))<|sn 21 2 1<|Oa h)<|snc 0 5 2 1<|Oa h)<|ck 6<|en<|bk 0<|bx H λ c I H=>lX Hj I (gP [0,28,29] [0,1,2]<|po1<|po1<|pn1 (eMr (λ k=>.int .i64 k)<|λ v=>.int .i64 v) G<|Pl.z) rfl λ s J=>qH<|qs (J)<|sq<|bx H λ f i H=>rg (Pq (ek:=(λ k=>.int .i64 k)) (ev:=(λ v=>.int .i64 v)) 2 (B0 i) (by kernel_rfl))<|ck 4<|sp (Bc 2 1<|B0 i)<|sp (Im (encN:=(eMr (λ k=>.int .i64 k)<|λ v=>.int .i64 v)) (row:=[.mp 3]) (k:=2) (sz:=1) (off:=0) (t:=ty 125) (v:=.mp 3)<|B0 i)<|sp (Oe (enc:=AY) (encK:=AY) (ka:=false) (va:=false) (k:=3) (m:=f) (a:=.d<|.int .i64 0) (key:=0) (y:=0) (v:=.d<|.int .i64 0) (vz:=[.int .i64 0]) X0)<|en<|sq<|rg (tr (tr (tr (VC (ka:=false) (va:=false) (e2:=Bp AY AY<|B6<|BJ 0 0 f) 3 (MJ (D7<|BJ 0 0 f).symm) (by kernel_rfl))<|Js (ek:=(λ k=>.int .i64 k)) (ev:=(λ v=>.int .i64 v)) 2 3 (B6<|BJ 0 0 f) (B0 i) (by kernel_rfl) (by kernel_rfl))<|sn 43 2 1<|lsS c.Before (Int.toNat 0)<|some (false,B6<|BJ 0 0 f))<|snc 0 5 2 1<|lsS c.Before (Int.toNat 0)<|some (false,B6<|BJ 0 0 f))<|ck 6<|en<|bk 2<|bx H λ Q K H=>lX Hm K (gP [0,49,50,51] [0,1,2]<|po1<|po1<|pn1 (eMr (λ k=>.int .i64 k)<|λ v=>.int .i64 v) (List.set c.Before (Int.toNat 0)<|some (false,B6<|BJ 0 0 f))<|Pl.z) rfl λ s L=>qH (by cases H;exact pL'<|rl (s':=Jap z)<|tr (L)<|gP [] [0,1,2]<|po1<|po1<|pn1 (eMr (λ k=>.int .i64 k)<|λ v=>.int .i64 v) z.Before<|Pl.z)
end
section
variable (a:Ah)
def Jax:St:=⟨(0,.agg [.d<|.str a.Arc.Print,.d<|.str a.Arc.Cells,.d<|.int .i64 a.Arc.To,.d<|.int .i64 a.More,.d<|.sl<|a.List.map Au,.d<|.int .i64 a.First.Cost,.d<|.str a.First.Text,.d<|.str a.First.Cells])::[],[]⟩
def Jay:St:=⟨(2,.d<|.bool<|((a.List.length:Nat):Int)==0)::[],[]⟩
variable {a}
theorem EI {z} (H:DK n a=some z):Bu Try.prog 68 [.agg (DD a)] [] 0 (.d (.bool (((a.List.length:Nat):Int)==0))) []:=by
 exact fL 7 0 (Jax a) Try.func68<|sr<|ck 2<|en<|sr<|ck 2<|sp (AT Au a.List)<|ck 2<|en<|re (by cases H;exact pL<|rl (s':=Jay a)<|sg [2])
end
section
variable (a:(List Ah)) (c:Int) (b:Int)
def Jaz:St:=⟨(0,.osl 0 8 0<|a.length)::(1,.clo 68 [])::[],[some<|.arr 8<|a.map AF]⟩
def T0:St:=⟨(4,.d<|.int .i64 c)::[],[some<|.arr 8<|a.map AF]⟩
def JaA:St:=⟨(0,.osl 0 8 0<|a.length)::(1,.clo 68 [])::(7,.d<|.int .i64 ((a.length:Nat):Int))::(8,.d<|.int .i64 b)::[],[some<|.arr 8<|a.map AF]⟩
def JaB:St:=⟨[],[some<|.arr 8<|a.map AF]⟩
def Qq:(Unit⊕Int)->Ex->St->Prop:=xS (xX 1 0<|λ (_:Unit)=>JaB a)<|xL 1 ty Try.f72 (λ (y:Int)=>.d<|.int .i64 y)<|λ (_:Int)=>[some<|.arr 8<|a.map AF]
def KC:Int->St:=(λ (x:Int)=>JaA a x)
variable {a c b}
theorem JE (x:Int) (z:(Int⊕(Unit⊕Int))) (H:Fx n a x=some z):WP (cxk 19 1) (AO Try.f72) [1,0,1,0,0] (AP 1 (KC a) (Qq a) z) (KC a x):=by
 revert H;generalize x=b;intro H;refine sr<|ck 1<|en<|sq<|cn H (λ H=>?_)<|λ H=>?_
 ·refine sk<|qz<|sq<|bk 1<|sr<|ck 2<|en<|sr<|ck 3<|bx H λ k e H=>sp (Bc 0 8 e)<|sp (Cb AF 0 0 (ty 132) e)<|bx H λ l g H=>xc (xok _ _) [] (EI g)<|en<|cn H (λ H=>?_)<|λ H=>?_
  ·exact sr<|ck 2<|en<|re<|qR<|qr (by cases H;exact lo rfl<|rl (s':=T0 a b)<|sg [4])
  ·exact sk<|qN<|qz<|rz<|ck 2<|ae (by cases H;exact og<|sg [0,1,7,8])
 ·exact ex 0<|qx (by cases H;exact xo rfl<|sg [])
theorem T1 {z} (H:LS n a=some z):Bu Try.prog 72 [.osl 0 8 0 (a.length),.clo 68 []] [some (.arr 8 (a.map AF))] 1 (.d (.int .i64 z)) [some (.arr 8 (a.map AF))]:=by
 refine fL 19 1 (Jaz a) Try.func72<|sr<|ck 1<|en<|sq<|sr<|ck 3<|en<|bk 0<|bx H λ j f H=>?_;rcases j with m|o
 ·exact lX JE f (sg [0,1,7,8]) rfl λ s h=>qH<|qs (h)<|sr<|ck 1<|en<|re (by cases H;exact pL<|rl (s':=T0 a (-1))<|sg [4])
 ·exact lL JE f (sg [0,1,7,8]) rfl λ s i=>qR<|qr (by cases H;exact pL i)
end
section
variable (b:(List Ah)) (i:(List Ah)) (c:(List Ah)) (j:Int) (h:Int) (l:(List Ah)) (t:Int) (f:(List Ah)) (q:Int)
def JaC:St:=⟨(0,.osl 0 8 0<|b.length)::(1,.clo 68 [])::[],[some<|.arr 8<|b.map AF]⟩
def T3:St:=⟨(4,.osl 1 8 0<|i.length)::[],[none,some<|.arr 8<|i.map AF]⟩
def JaD:St:=⟨(0,.osl 0 8 0<|c.length)::(1,.clo 68 [])::(5,.d<|.int .i64 j)::(6,.d<|.int .i64 h)::[],[some<|.arr 8<|c.map AF]⟩
def JaE:St:=⟨(0,.osl 0 8 0<|l.length)::(5,.d<|.int .i64 t)::[],[some<|.arr 8<|l.map AF]⟩
def JaF:St:=⟨(0,.osl 0 8 0<|f.length)::(1,.clo 68 [])::(5,.d<|.int .i64 q)::(6,.d<|.int .i64 h)::[],[some<|.arr 8<|f.map AF]⟩
def PD:((List Ah)×Int)->Ex->St->Prop:=xX 1 0<|λ (y:((List Ah)×Int))=>JaE y.1 y.2
def JF:((List Ah)×Int×Int)->St:=(λ (x:((List Ah)×Int×Int))=>JaD x.1 x.2.1 x.2.2)
variable {b i c j h l t f q}
theorem NT (x:((List Ah)×Int×Int)) (z:(((List Ah)×Int×Int)⊕((List Ah)×Int))) (H:FV n x.1 x.2.1 x.2.2=some z):WP (cxk 42 1) (AO Try.f67) [1,1,1,0,1,0,0] (AP 1 (JF) (PD) z) (JF x):=by
 obtain⟨c,j,h⟩:=x;refine sq<|sr<|ck 4<|en<|cn H (λ H=>?_)<|λ H=>?_
 ·refine sk<|qz<|sj (λ (x:((List Ah)×Int))=>JaF h x.1 x.2) (λ (x:((List Ah)×Int))=>Ip n h x.1 x.2) z ?_ (λ a=>?_)
  ·rintro⟨f,q⟩ H;exact rz<|ck 3<|ae (by cases H;exact og<|sg [0,1,5,6])
  refine bk 1<|sr<|ck 2<|bx H λ E o H=>sp (Bc 0 8 o)<|sp (Cb AF 0 0 (ty 132) o)<|ck 2<|en<|sr<|ck 2<|bx H λ G u H=>xc (xok _ _) [] (EI u)<|ck 1<|en<|cn H (λ H=>?_)<|λ H=>?_
  ·exact sr<|ck 3<|bx H λ I p H=>sp (Bc 0 8 p)<|bx H λ C e H=>stA AF 0 0 (ty 132) p e<|en<|rg (tr (tr (tr (sn 0 0 8<|Dx e)<|sn 17 0 8<|Dx e)<|sn 22 0 8<|Dx e)<|sn 30 0 8<|Dx e)<|ck 3<|ae<|qN<|qs (sg [0,1,5,6])<|a (C,(AX .i64 j 1)) H
  ·exact sk<|qN<|qs (sg [0,1,5,6])<|a (c,j) H
 ·exact ex 0<|qx (by cases H;exact xo rfl<|sg [0,5])
theorem SA {z} (H:J7 n b=some z):Bu Try.prog 67 [.osl 0 8 0 (b.length),.clo 68 []] [some (.arr 8 (b.map AF))] 1 (.osl 1 8 0 (z.length)) [none,some (.arr 8 (z.map AF))]:=by
 refine fL 42 1 (JaC b) Try.func67<|sr<|ck 1<|en<|sr<|ck 2<|bx H λ J v H=>lt [0] (T1 v)<|ck 1<|en<|sq<|sr<|ck 2<|en<|cn H (λ H=>?_)<|λ H=>?_
 ·exact sr<|ck 2<|en<|re<|qr (by cases H;exact pL<|rl (s':=T3 b)<|tr (Zt (k:=0) (sz:=8) 4 (b.map AF) (b.length) (by kernel_rfl) Gg leM rfl)<|sg [4])
 ·exact sk<|qz<|sq<|sr<|ck 3<|en<|bk 0<|bx H λ r w H=>lX NT w (sg [0,1,5,6]) rfl λ s A=>qH<|qs (A)<|sr<|ck 2<|bx H λ K B H=>sp (Vu 0 8 B)<|bx H λ L m H=>xzP (xok _ _) AF 0 8 (0+Int.toNat r.2) (Int.toNat ((r.1.length:Nat):Int)-Int.toNat r.2) m<|en<|sq<|rg (tr (sn 0 0 8<|TR m)<|sn 36 0 8<|TR m)<|ck 2<|bx H λ M g H=>sp (Vu 0 8 g)<|ck 1<|en<|re (by cases H;exact pL<|rl (s':=T3 z)<|tr (Zt (k:=0) (sz:=8) 4 (z.map AF) (z.length) (by kernel_rfl) (Wk g) (Zx (enc:=AF) g)<|Wl g)<|sg [4])
end
end Go.AI
end
section
namespace Go.AI
open Go.Proofs
set_option maxRecDepth 10000
variable {n:Nat}
section
variable (a:Int) (b:(List Ah)) (c:(List Ah))
def JaG:St:=⟨(0,.eptr 0 8 (0+Int.toNat a) 0)::[],[some<|.arr 8<|b.map AF]⟩
def JaH:St:=⟨[],[some<|.arr 8<|c.map AF]⟩
variable {a b c}
theorem HQ {z} (H:DO n a b=some z):Bu Try.prog 69 [.eptr 0 8 (0+Int.toNat a) 0] [some (.arr 8 (b.map AF))] 1 (.tup []) [some (.arr 8 (z.map AF))]:=by
 exact fL 31 1 (JaG a b) Try.func69<|rz<|ck 4<|bx H λ m d H=>sp (Cb AF 0 3 (ty 3) d)<|ck 3<|bx H λ o e H=>sp (Cb AF 0 4 (ty 99) e)<|bx H λ p f H=>sp (AW Au f)<|ck 7<|bx H λ q g H=>sp (Cb AF 0 0 (ty 9) g)<|ck 3<|bx H λ r h H=>sp (Cb AF 0 4 (ty 99) h)<|bx H λ s i H=>sp (AW Au i)<|ck 2<|bx H λ v j H=>sp (Se j)<|ck 3<|bx H λ t k H=>bx H λ u l H=>stA AF 0 5 (ty 102) k l<|ae (by cases H;exact pL'<|rl (s':=JaH z)<|sg [])
end
section
variable (a:Ah) (b:Ah) (c:Int)
def JaI:St:=⟨(0,.agg [.d<|.str a.Arc.Print,.d<|.str a.Arc.Cells,.d<|.int .i64 a.Arc.To,.d<|.int .i64 a.More,.d<|.sl<|a.List.map Au,.d<|.int .i64 a.First.Cost,.d<|.str a.First.Text,.d<|.str a.First.Cells])::(1,.agg [.d<|.str b.Arc.Print,.d<|.str b.Arc.Cells,.d<|.int .i64 b.Arc.To,.d<|.int .i64 b.More,.d<|.sl<|b.List.map Au,.d<|.int .i64 b.First.Cost,.d<|.str b.First.Text,.d<|.str b.First.Cells])::[],[]⟩
def JaJ:St:=⟨(4,.d<|.int .i64 c)::[],[]⟩
variable {a b c}
theorem JG {z} (H:ED n a b=some z):Bu Try.prog 71 [.agg (DD a),.agg (DD b)] [] 0 (.d (.int .i64 z)) []:=by
 exact fL 10 0 (JaI a b) Try.func71<|sr<|ck 3<|en<|sr<|ck 4<|bx H λ f e H=>ca true (DL e)<|ck 1<|en<|re (by cases H;exact pL<|rl (s':=JaJ z)<|sg [4])
end
section
variable (a:(List Ah)) (f:Ah) (e:Ah) (c:Int) (k:Ah) (j:Ah)
def JaK:St:=⟨(0,.osl 0 8 0<|a.length)::(1,.clo 71 [])::[],[some<|.arr 8<|a.map AF]⟩
def JaL:St:=⟨(4,.ptr 1 0)::[],[some<|.arr 8<|a.map AF,some<|.box<|DD f]⟩
def JaM:St:=⟨(0,.osl 0 8 0<|a.length)::(1,.clo 71 [])::(4,.ptr 1 0)::(5,.ptr 2 0)::(6,.d<|.int .i64 c)::[],[some<|.arr 8<|a.map AF,some<|.box [.d<|.str [],.d<|.str [],.d<|.int .i64 0,.d<|.int .i64 0,.osl 3 3 0<|List.length ([]:List Af),.d<|.int .i64 0,.d<|.str [],.d<|.str []],some<|.box<|DD e,some<|.arr 3<|List.map Au ([]:List Af)]⟩
def JaN:St:=⟨(4,.ptr 1 0)::(5,.ptr 2 0)::[],[some<|.arr 8<|a.map AF,some<|.box [.d<|.str [],.d<|.str [],.d<|.int .i64 0,.d<|.int .i64 0,.osl 3 3 0<|List.length ([]:List Af),.d<|.int .i64 0,.d<|.str [],.d<|.str []],some<|.box<|DD k,some<|.arr 3<|List.map Au ([]:List Af)]⟩
def JaO:St:=⟨(0,.osl 0 8 0<|a.length)::(1,.clo 71 [])::(4,.ptr 1 0)::(5,.ptr 2 0)::(6,.d<|.int .i64 c)::[],[some<|.arr 8<|a.map AF,some<|.box [.d<|.str [],.d<|.str [],.d<|.int .i64 0,.d<|.int .i64 0,.osl 3 3 0<|List.length ([]:List Af),.d<|.int .i64 0,.d<|.str [],.d<|.str []],some<|.box<|DD j,some<|.arr 3<|List.map Au ([]:List Af)]⟩
def NU:Ah->Ex->St->Prop:=xX 1 0<|λ (y:Ah)=>JaN a y
def IR:(Ah×Int)->St:=(λ (x:(Ah×Int))=>JaM a x.1 x.2)
variable {a f e c k j}
theorem MW (x:(Ah×Int)) (z:((Ah×Int)⊕Ah)) (H:Fh n a x.1 x.2=some z):WP (cxk 33 1) (AO Try.f70) [1,1,1,0,1,0,0] (AP 1 (IR a) (NU a) z) (IR a x):=by
 obtain⟨e,c⟩:=x;refine sq<|sr<|ck 4<|en<|cn H (λ H=>?_)<|λ H=>?_
 ·refine sk<|qz<|sj (λ (x:Ah)=>JaO a c x) (λ (x:Ah)=>Fg n c x) z ?_ (λ b=>?_)
  ·intro j H;exact rz<|ck 3<|ae (by cases H;exact og<|sg [0,1,4,5,6])
  refine bk 1<|sq<|rx 8 6 (.refl _)<|ck 3<|bx H λ q g H=>sp (Bc 0 8 g)<|sp (Cb AF 0 0 (ty 132) g)<|ck 1<|mx<|bx H λ r l H=>xc (xok _ _) [] (JG l)<|nx 8 7<|mx<|ck 1<|nz<|qz<|cn H (λ H=>?_)<|λ H=>?_
  ·exact rz<|ck 2<|bx H λ p h H=>sp (Bc 0 8 h)<|sp (Cb AF 0 0 (ty 132) h)<|ck 1<|ae<|qN<|qs (sg [0,1,4,5,6])<|b p H
  ·exact sk<|qN<|qs (sg [0,1,4,5,6])<|b e H
 ·exact ex 0<|qx (by cases H;exact xo rfl<|sg [4,5])
theorem Qr {z} (H:Iq n a=some z):Bu Try.prog 70 [.osl 0 8 0 (a.length),.clo 71 []] [some (.arr 8 (a.map AF))] 1 (.agg [.d (.str z.Arc.Print),.d (.str z.Arc.Cells),.d (.int .i64 z.Arc.To),.d (.int .i64 z.More),.d (.sl (z.List.map Au)),.d (.int .i64 z.First.Cost),.d (.str z.First.Text),.d (.str z.First.Cells)]) [some (.arr 8 (a.map AF)),some (.box (DD z))]:=by
 refine fL 33 1 (JaK a) Try.func70<|sr<|ck 1<|en<|sq<|sr<|ck 3<|en<|cn H (λ H=>?_)<|λ H=>?_
 ·cases H
 ·exact sk<|qz<|sr<|ck 1<|bx H λ t i H=>sp (Bc 0 8 i)<|sp (Cb AF 0 0 (ty 132) i)<|ck 2<|en<|sq<|sr<|ck 1<|en<|bk 0<|bx H λ u m H=>lX MW m (tr (Ez 1 4 3 (by kernel_rfl))<|sg [0,1,4,5,6]) rfl λ s o=>qH<|qs (o)<|sr<|ck 2<|en<|re (by cases H;exact pL<|rl (s':=JaL a z)<|sg [4])
end
section
variable (a:Ah) (b:Ah) (c:Bool)
def JaP:St:=⟨(0,.agg [.d<|.str a.Arc.Print,.d<|.str a.Arc.Cells,.d<|.int .i64 a.Arc.To,.d<|.int .i64 a.More,.d<|.sl<|a.List.map Au,.d<|.int .i64 a.First.Cost,.d<|.str a.First.Text,.d<|.str a.First.Cells])::(1,.ptr 0 0)::[],[some<|.box<|DD b]⟩
def JaQ:St:=⟨(3,.d<|.bool c)::[],[some<|.box<|DD b]⟩
variable {a b c}
theorem I4 {z} (H:D8 n a b=some z):Bu Try.prog 73 [.agg (DD a),.ptr 0 0] [some (.box (DD b))] 1 (.d (.bool z)) [some (.box (DD b))]:=by
 exact fL 8 1 (JaP a b) Try.func73<|sr<|ck 2<|en<|sr<|ck 2<|bx H λ f e H=>ca false (Ko e)<|ck 2<|en<|re (by cases H;exact pL<|rl (s':=JaQ b<|f==0)<|sg [3])
end
section
variable (b:Ah) (a:(List Ah)) (e:Int) (c:Int)
def JaR:St:=⟨(0,.osl 0 8 0<|a.length)::(1,.clo 73 [.ptr 1 0])::[],[some<|.arr 8<|a.map AF,some<|.box<|DD b]⟩
def T4:St:=⟨(4,.d<|.int .i64 e)::[],[some<|.arr 8<|a.map AF,some<|.box<|DD b]⟩
def JaS:St:=⟨(0,.osl 0 8 0<|a.length)::(1,.clo 73 [.ptr 1 0])::(7,.d<|.int .i64 ((a.length:Nat):Int))::(8,.d<|.int .i64 c)::[],[some<|.arr 8<|a.map AF,some<|.box<|DD b]⟩
def JaT:St:=⟨[],[some<|.arr 8<|a.map AF,some<|.box<|DD b]⟩
def MX:(Unit⊕Int)->Ex->St->Prop:=xS (xX 2 0<|λ (_:Unit)=>JaT b a)<|xL 2 ty Try.f72 (λ (y:Int)=>.d<|.int .i64 y)<|λ (_:Int)=>[some<|.arr 8<|a.map AF,some<|.box<|DD b]
def HR:Int->St:=(λ (x:Int)=>JaS b a x)
variable {b a e c}
theorem G6 (x:Int) (z:(Int⊕(Unit⊕Int))) (H:EE n b a x=some z):WP (cxk 19 2) (AO Try.f72) [1,0,1,0,0] (AP 2 (HR b a) (MX b a) z) (HR b a x):=by
 revert H;generalize x=c;intro H;refine sr<|ck 1<|en<|sq<|cn H (λ H=>?_)<|λ H=>?_
 ·refine sk<|qz<|sq<|bk 1<|sr<|ck 2<|en<|sr<|ck 3<|bx H λ l f H=>sp (Bc 0 8 f)<|sp (Cb AF 0 0 (ty 132) f)<|bx H λ m h H=>xc (xok _ _) [1] (I4 h)<|en<|cn H (λ H=>?_)<|λ H=>?_
  ·exact sr<|ck 2<|en<|re<|qR<|qr (by cases H;exact lo rfl<|rl (s':=T4 b a c)<|sg [4])
  ·exact sk<|qN<|qz<|rz<|ck 2<|ae (by cases H;exact og<|sg [0,1,7,8])
 ·exact ex 0<|qx (by cases H;exact xo rfl<|sg [])
theorem PE {z} (H:GX n b a=some z):Bu Try.prog 72 [.osl 0 8 0 (a.length),.clo 73 [.ptr 1 0]] [some (.arr 8 (a.map AF)),some (.box (DD b))] 2 (.d (.int .i64 z)) [some (.arr 8 (a.map AF)),some (.box (DD b))]:=by
 refine fL 19 2 (JaR b a) Try.func72<|sr<|ck 1<|en<|sq<|sr<|ck 3<|en<|bk 0<|bx H λ k g H=>?_;rcases k with o|p
 ·exact lX G6 g (sg [0,1,7,8]) rfl λ s i=>qH<|qs (i)<|sr<|ck 1<|en<|re (by cases H;exact pL<|rl (s':=T4 b a (-1))<|sg [4])
 ·exact lL G6 g (sg [0,1,7,8]) rfl λ s j=>qR<|qr (by cases H;exact pL j)
end
theorem X5 {n:Nat} {b c:Int} {a:(List Ah)} {z:(List Ah)} (H:Sr n b c a=some z):Bu Try.prog 74 [.osl 0 8 0 (a.length),.d (.int .i64 b),.d (.int .i64 c)] [some (.arr 8 (a.map AF))] 1 (.osl 1 8 0 (z.length)) [none,some (.arr 8 (z.map AF))]:=Z8 (λ _=>rfl) H
theorem T5 {n:Nat} {a:(List Af)} {z:(List Af)} (H:Jv n a=some z):Bu Try.prog 75 [.osl 0 3 0 (a.length),.clo 76 []] [some (.arr 3 (a.map Au))] 1 (.tup []) [some (.arr 3 (z.map Au))]:=VK Jjs (by decide) Try.isAgg102 Try.sizeOf102 (enc:=Au) (λ _=>rfl) (λ x d hd=>by simp only[Au,List.mem_cons,List.not_mem_nil,or_false]at hd;rcases hd with rfl|rfl|rfl<;>rfl) (Sq Try.func76) (λ h=>DL h) ⟨_,_,Try.func75,rfl,rfl⟩ H
section
variable (l:Int) (f:Aa) (I:(List Ah)) (B:(List Af)) (w:(List Ah)) (o:(List Ah)) (C:Int) (r:(List Ah)) (j:(List Ah)) (e:(List ((List UInt8)×Af))) (t:(List ((List UInt8)×Af))) (A:Int) (s:(List ((List UInt8)×Af))) (J:(List ((List UInt8)×Af))) (p:(List Af)) (q:(List Af))
def JaU:St:=⟨(0,.ptr 0 0)::(1,.osl 1 8 0<|I.length)::(2,.d<|.int .i64 l)::[],[some<|.box<|Am f (.osl 2 1 0<|f.Accepts.length)<|.osl 3 1 0<|f.Before.length,some<|.arr 8<|I.map AF,some<|.arr 1<|f.Accepts.map eB,some<|.narr 1<|List.map (eMr (λ k=>.int .i64 k)<|λ v=>.int .i64 v) f.Before]⟩
def JaV:St:=⟨(6,.osl 4 3 0<|B.length)::[],[some<|.box<|Am f (.osl 2 1 0<|f.Accepts.length)<|.osl 3 1 0<|f.Before.length,none,some<|.arr 1<|f.Accepts.map eB,some<|.narr 1<|List.map (eMr (λ k=>.int .i64 k)<|λ v=>.int .i64 v) f.Before,some<|.arr 3<|B.map Au]⟩
def JaW:St:=⟨(0,.ptr 0 0)::(1,.osl 4 8 0<|o.length)::(2,.d<|.int .i64 l)::(21,.d<|.int .i64 ((w.length:Nat):Int))::(22,.d<|.int .i64 C)::[],[some<|.box<|Am f (.osl 2 1 0<|f.Accepts.length)<|.osl 3 1 0<|f.Before.length,none,some<|.arr 1<|f.Accepts.map eB,some<|.narr 1<|List.map (eMr (λ k=>.int .i64 k)<|λ v=>.int .i64 v) f.Before,some<|.arr 8<|o.map AF]⟩
def JaX:St:=⟨(0,.ptr 0 0)::(1,.osl 4 8 0<|r.length)::(2,.d<|.int .i64 l)::[],[some<|.box<|Am f (.osl 2 1 0<|f.Accepts.length)<|.osl 3 1 0<|f.Before.length,none,some<|.arr 1<|f.Accepts.map eB,some<|.narr 1<|List.map (eMr (λ k=>.int .i64 k)<|λ v=>.int .i64 v) f.Before,some<|.arr 8<|r.map AF]⟩
def I5:(List Ah)->Ex->St->Prop:=xX 4 0<|λ (y:(List Ah))=>JaX l f y
def EN:((List Ah)×Int)->St:=(λ (x:((List Ah)×Int))=>JaW l f w x.1 x.2)
def JaY:St:=⟨(0,.ptr 0 0)::(1,.osl 4 8 0<|j.length)::(2,.d<|.int .i64 l)::(8,.mp 5)::[],[some<|.box<|Am f (.osl 2 1 0<|f.Accepts.length)<|.osl 3 1 0<|f.Before.length,none,some<|.arr 1<|f.Accepts.map eB,some<|.narr 1<|List.map (eMr (λ k=>.int .i64 k)<|λ v=>.int .i64 v) f.Before,some<|.arr 8<|j.map AF,some<|.map false true<|Bp eS Au e]⟩
def JaZ:St:=⟨(8,.mp 4)::[],[some<|.box<|Am f (.osl 2 1 0<|f.Accepts.length)<|.osl 3 1 0<|f.Before.length,none,some<|.arr 1<|f.Accepts.map eB,some<|.narr 1<|List.map (eMr (λ k=>.int .i64 k)<|λ v=>.int .i64 v) f.Before,some<|.map false true<|Bp eS Au t]⟩
def Ja0:St:=⟨(0,.ptr 0 0)::(1,.osl 4 8 0<|j.length)::(2,.d<|.int .i64 l)::(8,.mp 5)::(10,.d<|.int .i64 A)::(11,.eptr 4 8 (0+Int.toNat A) 0)::[],[some<|.box<|Am f (.osl 2 1 0<|f.Accepts.length)<|.osl 3 1 0<|f.Before.length,none,some<|.arr 1<|f.Accepts.map eB,some<|.narr 1<|List.map (eMr (λ k=>.int .i64 k)<|λ v=>.int .i64 v) f.Before,some<|.arr 8<|j.map AF,some<|.map false true<|Bp eS Au s]⟩
def I6:(List<|(List UInt8)×Af)->Ex->St->Prop:=xX 4 2<|λ (y:(List<|(List UInt8)×Af))=>JaZ f y
def EO:((List Ah)×(List<|(List UInt8)×Af))->St:=(λ (x:((List Ah)×(List<|(List UInt8)×Af)))=>JaY l f x.1 x.2)
def Ja1:St:=⟨(15,.osl 4 3 0<|p.length)::(126,.ptr 5 0)::[],[some<|.box<|Am f (.osl 2 1 0<|f.Accepts.length)<|.osl 3 1 0<|f.Before.length,none,some<|.arr 1<|f.Accepts.map eB,some<|.narr 1<|List.map (eMr (λ k=>.int .i64 k)<|λ v=>.int .i64 v) f.Before,some<|.arr 3<|p.map Au,some<|.iter false true none<|Bp eS Au J]⟩
def Ja2:St:=⟨(15,.osl 4 3 0<|q.length)::[],[some<|.box<|Am f (.osl 2 1 0<|f.Accepts.length)<|.osl 3 1 0<|f.Before.length,none,some<|.arr 1<|f.Accepts.map eB,some<|.narr 1<|List.map (eMr (λ k=>.int .i64 k)<|λ v=>.int .i64 v) f.Before,some<|.arr 3<|q.map Au]⟩
def EP:Empty->Ex->St->Prop:=(λ (_:Empty) _ _=>False)
variable {l f I B w o C r j e t A s J p q}
theorem Iy (x:((List Ah)×Int)) (z:(((List Ah)×Int)⊕(List Ah))) (H:BT n l f w x.1 x.2=some z):WP (cxk 138 4) (AO Try.f57) [1,1,0,1,0,0] (AP 4 (EN l f w) (I5 l f) z) (EN l f w x):=by
 obtain⟨o,C⟩:=x;refine sr<|ck 1<|en<|sq<|cn H (λ H=>?_)<|λ H=>?_
 ·exact sk<|qz<|sq<|bk 1<|sr<|ck 2<|en<|rz<|ck 2<|bx H λ aa K H=>sp (Bc 4 8 K)<|bx H λ ab L H=>lt [4] (HQ L)<|bx H λ _ E H=>ae<|qN<|qz<|rg (tr (sn 1 4 8<|HD E)<|sn 25 4 8<|HD E)<|ck 2<|ae (by cases H;exact og<|gP [0,1,2,21,22] [0,1,2,3,4]<|po1<|po1<|po1<|pn1 (eMr (λ k=>.int .i64 k)<|λ v=>.int .i64 v) f.Before<|po1<|Pl.z)
 ·exact ex 0<|qx (by cases H;exact xo rfl<|gP [0,1,2] [0,1,2,3,4]<|po1<|po1<|po1<|pn1 (eMr (λ k=>.int .i64 k)<|λ v=>.int .i64 v) f.Before<|po1<|Pl.z)
theorem Iz (x:((List Ah)×(List ((List UInt8)×Af)))) (z:(((List Ah)×(List ((List UInt8)×Af)))⊕(List ((List UInt8)×Af)))) (H:Ch n l f x.1 x.2=some z):WP (cxk 138 4) (AO Try.f57) [1,1,1,1,0,0,0] (AP 4 (EO l f) (I6 f) z) (EO l f x):=by
 obtain⟨j,e⟩:=x;refine sq<|sr<|ck 3<|en<|cn H (λ H=>?_)<|λ H=>?_
 ·refine sk<|qz<|bk 3<|sr<|ck 1<|bx H λ ac M H=>lt [4] (Qr M)<|ck 2<|en<|sr<|ck 1<|xm (xok _ _)<|bx H λ A O H=>lt [4,7] (PE O)<|ck 1<|en<|sr<|ck 2<|bx H λ h u H=>sp (Bc 4 8 u)<|ck 1<|en<|sr<|ck 3<|sp (Cb AF 4 5 (ty 102) u)<|ck 2<|en<|sr<|ck 3<|sp (LQ (enc:=Au) (encK:=eS) (ka:=false) (va:=true) (k:=5) (m:=e) (a:=.d<|.str h.First.Text) (key:=h.First.Text) (z:=(⟨0,[],[]⟩:Af)) (vz:=[.int .i64 0,.str [],.str []]) Jil true)<|ck 6<|en<|sq<|sr<|ck 6<|gc 2 (!(decide<|h.First.Cost>l))<|ck 1<|sE (g:=((!(decide<|h.First.Cost>l))&&(!(Option.isSome<|AN h.First.Text e)))) (λ hg=>Jdc eS Au e)<|ck 1<|gc 4 ((!(decide<|h.First.Cost>l))&&(!(Option.isSome<|AN h.First.Text e)))<|pG (g:=(!(decide<|h.First.Cost>l))) (v:=.d<|.bool<|(!(Option.isSome<|AN h.First.Text e))&&(((e.length:Nat):Int)==f.Most)) (λ hg=>Rc (c:=.gv (!(decide<|h.First.Cost>l))<|.d<|.bool<|!(Option.isSome<|AN h.First.Text e)) (a:=.gv ((!(decide<|h.First.Cost>l))&&(!(Option.isSome<|AN h.First.Text e)))<|.d<|.bool<|((e.length:Nat):Int)==f.Most) (b:=.d<|.bool false) rfl rfl rfl ((λ hh=>hh) hg) (λ ht=>by rw[(λ hh=>hh) hg,ht];rfl) trivial)<|pO<|en<|cn H (λ H=>?_)<|λ H=>?_
  ·exact ex 2<|qx<|qX rfl (by cases H;exact xo rfl<|gP [8] [0,1,2,3,5]<|po1<|po1<|po1<|pn1 (eMr (λ k=>.int .i64 k)<|λ v=>.int .i64 v) f.Before<|po1<|Pl.z)
  ·refine sk<|qz<|sr<|ck 4<|sp (Cb AF 4 1 (ty 9) u)<|ck 3<|sp (Cb AF 4 4 (ty 99) u)<|bx H λ af P H=>sp (AW Au P)<|ck 2<|bx H λ Q R H=>sp (Se R)<|ck 2<|en<|sj (λ (x:(List<|(List UInt8)×Af))=>Ja0 l f j A x) (λ (x:(List<|(List UInt8)×Af))=>BU n j A x) z ?_ (λ i=>?_)
   ·intro s H;refine sr<|ck 4<|bx H λ ag S H=>sp (Cb AF 4 4 (ty 99) S)<|bx H λ ah T H=>sp (Jc4 Au 3 T)<|ck 2<|bx H λ ai U H=>bx H λ aj G H=>stA AF 4 4 (ty 99) U G<|en<|sq<|rg (sn 1 4 8<|Dx G)<|ck 3<|bx H λ Z V H=>sp (Cb AF 4 4 (ty 99) V)<|sp (AT Au Z.List)<|ck 1<|en<|cn H (λ H=>?_)<|λ H=>?_
    ·exact rz<|ck 1<|bx H λ ak W H=>lt [4] (HQ W)<|bx H λ _ X H=>ae<|qN (by cases H;exact og<|tr (sn 1 4 8<|HD X)<|gP [0,1,2,8] [0,1,2,3,4,5]<|po1<|po1<|po1<|pn1 (eMr (λ k=>.int .i64 k)<|λ v=>.int .i64 v) f.Before<|po1<|po1<|Pl.z)
    ·exact rz<|ck 4<|bx H λ al Y H=>lt [4] (X5 Y)<|ck 1<|ae<|qN (by cases H;exact og<|gP [0,1,2,8] [0,1,2,3,6,5]<|po1<|po1<|po1<|pn1 (eMr (λ k=>.int .i64 k)<|λ v=>.int .i64 v) f.Before<|po1<|po1<|Pl.z)
   refine sr<|ck 4<|gc 1 (!(!(Option.isSome<|AN h.First.Text e)))<|ck 1<|gc 3 (!(!(Option.isSome<|AN h.First.Text e)))<|ck 1<|gc 1 ((!(!(Option.isSome<|AN h.First.Text e)))&&(((Option.getD (AN h.First.Text e) (⟨0,[],[]⟩:Af)).Cost)==h.First.Cost))<|ck 1<|gc 2 ((!(!(Option.isSome<|AN h.First.Text e)))&&(((Option.getD (AN h.First.Text e) (⟨0,[],[]⟩:Af)).Cost)==h.First.Cost))<|pG (g:=(!(!(Option.isSome<|AN h.First.Text e)))) (v:=.d<|.bool<|(((Option.getD (AN h.First.Text e) (⟨0,[],[]⟩:Af)).Cost)==h.First.Cost)&&(Op.bytesLess Q<|(Option.getD (AN h.First.Text e) (⟨0,[],[]⟩:Af)).Cells)) (λ hg=>Rc (c:=.gv (!(!(Option.isSome<|AN h.First.Text e)))<|.d<|.bool<|((Option.getD (AN h.First.Text e) (⟨0,[],[]⟩:Af)).Cost)==h.First.Cost) (a:=.gv ((!(!(Option.isSome<|AN h.First.Text e)))&&(((Option.getD (AN h.First.Text e) (⟨0,[],[]⟩:Af)).Cost)==h.First.Cost))<|.d<|.bool<|Op.bytesLess Q<|(Option.getD (AN h.First.Text e) (⟨0,[],[]⟩:Af)).Cells) (b:=.d<|.bool false) rfl rfl rfl ((λ hh=>hh) hg) (λ ht=>by rw[(λ hh=>hh) hg,ht];rfl) trivial)<|pO<|en<|cn H (λ H=>?_)<|λ H=>?_
   ·exact rz<|ck 4<|sp (Oe (enc:=Au) (encK:=eS) (ka:=false) (va:=true) (k:=5) (m:=e) (a:=.d<|.str h.First.Text) (key:=h.First.Text) (y:=({ Cost:=h.First.Cost,Text:=h.First.Text,Cells:=Q }:Af)) (v:=.agg [.d<|.int .i64 h.First.Cost,.d<|.str h.First.Text,.d<|.str Q]) (vz:=[.int .i64 0,.str [],.str []]) Jil)<|ae<|qs (gP [0,1,2,8,10,11] [0,1,2,3,4,5]<|po1<|po1<|po1<|pn1 (eMr (λ k=>.int .i64 k)<|λ v=>.int .i64 v) f.Before<|po1<|po1<|Pl.z)<|i (BJ h.First.Text ({ Cost:=h.First.Cost,Text:=h.First.Text,Cells:=Q }:Af) e) H
   ·exact sk<|qs (gP [0,1,2,8,10,11] [0,1,2,3,4,5]<|po1<|po1<|po1<|pn1 (eMr (λ k=>.int .i64 k)<|λ v=>.int .i64 v) f.Before<|po1<|po1<|Pl.z)<|i e H
 ·exact ex 2<|qx (by cases H;exact xo rfl<|gP [8] [0,1,2,3,5]<|po1<|po1<|po1<|pn1 (eMr (λ k=>.int .i64 k)<|λ v=>.int .i64 v) f.Before<|po1<|Pl.z)
end
def EJ (a:Aa):(List Af)->Ex->St->Prop:=(λ (x:(List Af))=>xX 4 4 (λ (y:(List Af))=>Ja2 a y) x)
section
variable (a:Aa) (c:Int) (b:(List Ah))
def EQ:(List<|(List UInt8)×Af)->(List Af)->St:=(λ (l:(List<|(List UInt8)×Af)) (x:(List Af))=>Ja1 a l x)
variable {a c b}
theorem IA (g:(List ((List UInt8)×Af))) (x:(List Af)) (hz:∀ e,e∈g->∃ z,Bv n e x=some z):WP (cxk 138 4) (AO Try.f57) [1,1,1,1,1,1,0,1,0,0] (XV 4 (EQ a) (EJ a) (EP) (λ (e:((List UInt8)×Af)) (x:(List Af))=>Bv n e x) g x) (EQ a g x):=by
 revert hz;generalize x=h;intro hz;refine sq<|rn 0 (.refl _)<|nd0<|nxt (yok _ _) (encK:=eS) (enc:=Au) (ka:=false) (va:=true) 5 (λ hl=>?_)<|λ e2 w y hl2=>bE (hz e2<|JeL hl2) λ z hF=>?_
 ·exact ck 1<|en<|sq<|cF<|ex 4<|qx<|mE hl rfl<|gP [15] [0,1,2,3,4]<|po1<|po1<|po1<|pn1 (eMr (λ k=>.int .i64 k)<|λ v=>.int .i64 v) a.Before<|po1<|Pl.z
 ·have H:=hF;exact ck 1<|en<|sq<|cT<|sk<|qz<|bk 5<|sr<|xr (xok _ _)<|ck 3<|en<|rz<|ck 3<|bx H λ A i H=>sp (Cc Au 4 3 i)<|ck 1<|ae<|qN (by cases H;exact mg hl2 hF<|tr (Wt 5 (by kernel_rfl))<|gP [15,126] [0,1,2,3,8,5]<|po1<|po1<|po1<|pn1 (eMr (λ k=>.int .i64 k)<|λ v=>.int .i64 v) a.Before<|po1<|po1<|Pl.z)
theorem Kt {z} (H:CI n c a b=some z):Bu Try.prog 57 [.ptr 0 0,.osl 1 8 0 (b.length),.d (.int .i64 c)] [some (.box (Am a (.osl 2 1 0 (a.Accepts.length)) (.osl 3 1 0 (a.Before.length)))),some (.arr 8 (b.map AF)),some (.arr 1 (a.Accepts.map eB)),some (.narr 1 (List.map (eMr (λ k=>.int .i64 k) (λ v=>.int .i64 v)) a.Before))] 4 (.osl 4 3 0 (z.length)) [some (.box (Am a (.osl 2 1 0 (a.Accepts.length)) (.osl 3 1 0 (a.Before.length)))),none,some (.arr 1 (a.Accepts.map eB)),some (.narr 1 (List.map (eMr (λ k=>.int .i64 k) (λ v=>.int .i64 v)) a.Before)),some (.arr 3 (z.map Au))]:=by
 refine fL 138 4 (JaU c a b) Try.func57<|sr<|ck 1<|en<|sr<|ck 1<|bx H λ B j H=>lt [1] (SA j)<|ck 1<|en<|sq<|sr<|ck 3<|en<|bk 0<|bx H λ C m H=>lX Iy m (gP [0,1,2,21,22] [0,1,2,3,4]<|po1<|po1<|po1<|pn1 (eMr (λ k=>.int .i64 k)<|λ v=>.int .i64 v) a.Before<|po1<|Pl.z) rfl λ s o=>qH<|qs (o)<|sr<|ck 2<|en<|sq<|bk 2<|bx H λ G p H=>lX Iz p (gP [0,1,2,8] [0,1,2,3,4,5]<|po1<|po1<|po1<|pn1 (eMr (λ k=>.int .i64 k)<|λ v=>.int .i64 v) a.Before<|po1<|po1<|Pl.z) rfl λ s q=>qH<|qs (q)<|sr<|ck 1<|en<|sq<|sr<|ck 1<|xr (xok _ _)<|en<|bk 4 ?_;have hD:=Si H;refine lM (F:=(λ (e:((List UInt8)×Af)) (x:(List Af))=>Bv n e x)) (E:=EP) (E0:=EJ a) IA (tr (An.nilo 15 3 (by kernel_rfl))<|gP [15,126] [0,1,2,3,6,5]<|po1<|po1<|po1<|pn1 (eMr (λ k=>.int .i64 k)<|λ v=>.int .i64 v) a.Before<|po1<|po1<|Pl.z) (λ ord ho=>bI<|hD ord ho) (λ ord I ho hy e s hE=>xQ hE<|λ he t=>?_)<|λ ord r ho hy e s hE=>?_
 ·subst he;have H:=bK (hD ord ho) hy;exact qH<|qs (t)<|sr<|ck 1<|bx H λ J u H=>lt [4] (T5 u)<|bx H λ _ f H=>en<|sq<|rg (tr (sn 15 4 3<|HD f)<|sn 135 4 3<|HD f)<|ck 2<|en<|re (by cases H;exact pL<|rl (s':=JaV a z)<|gP [6] [0,1,2,3,4]<|po1<|po1<|po1<|pn1 (eMr (λ k=>.int .i64 k)<|λ v=>.int .i64 v) a.Before<|po1<|Pl.z)
 ·cases r
end
section
variable (J:Aa) (s:Aa) (M:(List Af)) (u:Aa) (C:(List (Option (Bool×(List (Int×(List Af))))))) (c:Int) (w:Aa) (E:(List (Option (Bool×(List (Int×(List Af))))))) (O:(List (Int×Int))) (b:Aa) (o:(List (Option (Bool×(List (Int×(List Af))))))) (A:Aa) (G:(List (Option (Bool×(List (Int×(List Af))))))) (e3:(Int×Int)) (l33:(List (Int×Int))) (l34:(List (Int×Int))) (p:(List Ah)) (r:(List Hh)) (g:(List (Option (Bool×(List (Int×(List Af))))))) (h:(List Ah)) (B:Int) (I:(List (Option (Bool×(List (Int×(List Af))))))) (q:(List Ah)) (i:(List (Option (Bool×(List (Int×(List Af))))))) (l:(List Ah))
def Ja3:St:=⟨(0,.ptr 0 0)::[],[some<|.box<|Am J (.osl 1 1 0<|J.Accepts.length)<|.osl 2 1 0<|J.Before.length,some<|.arr 1<|J.Accepts.map eB,some<|.narr 1<|List.map (eMr (λ k=>.int .i64 k)<|λ v=>.int .i64 v) J.Before]⟩
def Ja4:St:=⟨(2,.d<|.sl<|M.map Au)::[],[some<|.box<|Am s (.osl 1 1 0<|s.Accepts.length)<|.osl 2 1 0<|s.Before.length,some<|.arr 1<|s.Accepts.map eB,some<|.narr 1<|List.map (eMr (λ k=>.int .i64 k)<|λ v=>.int .i64 v) s.Before]⟩
def Ja5:St:=⟨(0,.ptr 0 0)::(3,.eptr 3 1 0 0)::(4,.d<|.int .i64 c)::[],[some<|.box<|Am u (.osl 1 1 0<|u.Accepts.length)<|.osl 2 1 0<|u.Before.length,some<|.arr 1<|u.Accepts.map eB,some<|.narr 1<|List.map (eMr (λ k=>.int .i64 k)<|λ v=>.int .i64 v) u.Before,some<|.narr 1<|List.map (eMr (λ k=>.int .i64 k)<|λ v=>.sl<|List.map Au v) C]⟩
def Ja6:St:=⟨(3,.eptr 3 1 0 0)::[],[some<|.box<|Am w (.osl 1 1 0<|w.Accepts.length)<|.osl 2 1 0<|w.Before.length,some<|.arr 1<|w.Accepts.map eB,some<|.narr 1<|List.map (eMr (λ k=>.int .i64 k)<|λ v=>.int .i64 v) w.Before,some<|.narr 1<|List.map (eMr (λ k=>.int .i64 k)<|λ v=>.sl<|List.map Au v) E]⟩
def Ja7:St:=⟨(0,.ptr 0 0)::(3,.eptr 3 1 0 0)::(4,.d<|.int .i64 c)::(34,.ptr 4 0)::[],[some<|.box<|Am b (.osl 1 1 0<|b.Accepts.length)<|.osl 2 1 0<|b.Before.length,some<|.arr 1<|b.Accepts.map eB,some<|.narr 1<|List.map (eMr (λ k=>.int .i64 k)<|λ v=>.int .i64 v) b.Before,some<|.narr 1<|List.map (eMr (λ k=>.int .i64 k)<|λ v=>.sl<|List.map Au v) o,some<|.iter false false none<|Bp AY AY O]⟩
def Ja8:St:=⟨(0,.ptr 0 0)::(3,.eptr 3 1 0 0)::(4,.d<|.int .i64 c)::[],[some<|.box<|Am A (.osl 1 1 0<|A.Accepts.length)<|.osl 2 1 0<|A.Before.length,some<|.arr 1<|A.Accepts.map eB,some<|.narr 1<|List.map (eMr (λ k=>.int .i64 k)<|λ v=>.int .i64 v) A.Before,some<|.narr 1<|List.map (eMr (λ k=>.int .i64 k)<|λ v=>.sl<|List.map Au v) G]⟩
def Ja9:St:=⟨(0,.ptr 0 0)::(3,.eptr 3 1 0 0)::(4,.d<|.int .i64 c)::(5,.d<|.int .i64 e3.1)::(6,.d<|.int .i64 e3.2)::(7,.osl 4 8 0<|p.length)::(34,.ptr 5 0)::[],[some<|.box<|Am b (.osl 1 1 0<|b.Accepts.length)<|.osl 2 1 0<|b.Before.length,some<|.arr 1<|b.Accepts.map eB,some<|.narr 1<|List.map (eMr (λ k=>.int .i64 k)<|λ v=>.int .i64 v) b.Before,some<|.narr 1<|List.map (eMr (λ k=>.int .i64 k)<|λ v=>.sl<|List.map Au v) o,some<|.arr 8<|p.map AF,some<|.iter false false none<|Bp AY AY<|l33++l34]⟩
def Jba:St:=⟨(0,.ptr 0 0)::(3,.eptr 3 1 0 0)::(4,.d<|.int .i64 c)::(5,.d<|.int .i64 e3.1)::(6,.d<|.int .i64 e3.2)::(7,.osl 4 8 0<|h.length)::(34,.ptr 5 0)::(68,.d<|.sl<|r.map By)::(69,.d<|.int .i64 ((r.length:Nat):Int))::(70,.d<|.int .i64 B)::[],[some<|.box<|Am b (.osl 1 1 0<|b.Accepts.length)<|.osl 2 1 0<|b.Before.length,some<|.arr 1<|b.Accepts.map eB,some<|.narr 1<|List.map (eMr (λ k=>.int .i64 k)<|λ v=>.int .i64 v) b.Before,some<|.narr 1<|List.map (eMr (λ k=>.int .i64 k)<|λ v=>.sl<|List.map Au v) g,some<|.arr 8<|h.map AF,some<|.iter false false none<|Bp AY AY<|l33++l34]⟩
def Jbb:St:=⟨(0,.ptr 0 0)::(3,.eptr 3 1 0 0)::(4,.d<|.int .i64 c)::(5,.d<|.int .i64 e3.1)::(6,.d<|.int .i64 e3.2)::(7,.osl 4 8 0<|q.length)::(34,.ptr 5 0)::[],[some<|.box<|Am b (.osl 1 1 0<|b.Accepts.length)<|.osl 2 1 0<|b.Before.length,some<|.arr 1<|b.Accepts.map eB,some<|.narr 1<|List.map (eMr (λ k=>.int .i64 k)<|λ v=>.int .i64 v) b.Before,some<|.narr 1<|List.map (eMr (λ k=>.int .i64 k)<|λ v=>.sl<|List.map Au v) I,some<|.arr 8<|q.map AF,some<|.iter false false none<|Bp AY AY<|l33++l34]⟩
def X6:St:=⟨(0,.ptr 0 0)::(3,.eptr 3 1 0 0)::(4,.d<|.int .i64 c)::(5,.d<|.int .i64 e3.1)::(6,.d<|.int .i64 e3.2)::(7,.osl 4 8 0<|l.length)::(34,.ptr 5 0)::(68,.d<|.sl<|r.map By)::(69,.d<|.int .i64 ((r.length:Nat):Int))::(70,.d<|.int .i64 B)::[],[some<|.box<|Am b (.osl 1 1 0<|b.Accepts.length)<|.osl 2 1 0<|b.Before.length,some<|.arr 1<|b.Accepts.map eB,some<|.narr 1<|List.map (eMr (λ k=>.int .i64 k)<|λ v=>.int .i64 v) b.Before,some<|.narr 1<|List.map (eMr (λ k=>.int .i64 k)<|λ v=>.sl<|List.map Au v) i,some<|.arr 8<|l.map AF,some<|.iter false false none<|Bp AY AY<|l33++l34]⟩
def Hn:((List<|Option<|Bool×(List<|Int×(List Af)))×(List Ah))->Ex->St->Prop:=xX 3 4<|λ (y:((List<|Option<|Bool×(List<|Int×(List Af)))×(List Ah)))=>Jbb c b e3 l33 l34 y.1 y.2
def DU:((List<|Option<|Bool×(List<|Int×(List Af)))×(List Ah)×Int)->St:=(λ (x:((List<|Option<|Bool×(List<|Int×(List Af)))×(List Ah)×Int))=>Jba c b e3 l33 l34 r x.1 x.2.1 x.2.2)
def DV:Empty->Ex->St->Prop:=(λ (_:Empty) _ _=>False)
variable {J s M u C c w E O b o A G e3 l33 l34 p r g h B I q i l}
theorem GG (x:((List (Option (Bool×(List (Int×(List Af))))))×(List Ah)×Int)) (z:(((List (Option (Bool×(List (Int×(List Af))))))×(List Ah)×Int)⊕((List (Option (Bool×(List (Int×(List Af))))))×(List Ah)))) (H:Br n c b e3 r x.1 x.2.1 x.2.2=some z):WP (cxk 123 3) (AO Try.f42) [1,1,0,1,0,0,1,0,0,1,1,0,0,1,1,0,1,1,1,0,1,0,0] (AP 3 (DU c b e3 l33 l34 r) (Hn c b e3 l33 l34) z) (DU c b e3 l33 l34 r x):=by
 obtain⟨g,h,B⟩:=x;refine sr<|ck 1<|en<|sq<|cn H (λ H=>?_)<|λ H=>?_
 ·refine sk<|qz<|sj (λ (x:((List<|Option<|Bool×(List<|Int×(List Af)))×(List Ah)))=>X6 c b e3 l33 l34 r B x.1 x.2) (λ (x:((List<|Option<|Bool×(List<|Int×(List Af)))×(List Ah)))=>CX n B x.1 x.2) z ?_ (λ e=>?_)
  ·rintro⟨i,l⟩ H;exact rz<|ck 2<|ae (by cases H;exact og<|gP [0,3,4,5,6,7,34,68,69,70] [0,1,2,3,4,5]<|po1<|po1<|pn1 (eMr (λ k=>.int .i64 k)<|λ v=>.int .i64 v) b.Before<|pn1 (eMr (λ k=>.int .i64 k)<|λ v=>.sl<|List.map Au v) i<|po1<|po1<|Pl.z)
  refine bk 5<|sr<|bx H λ K P H=>sp (AW By P)<|ck 3<|en<|sr<|ck 4<|bx H λ V Q H=>ltP [0,1,2] (Gs Q) (po1<|po1<|pn1 (eMr (λ k=>.int .i64 k)<|λ v=>.int .i64 v) b.Before<|Pl.z)<|tb (f:=EM<|Cv [0,1,2] 7 3) [some<|.box<|Am b (.osl 1 1 0<|b.Accepts.length)<|.osl 2 1 0<|b.Before.length,some<|.arr 1<|b.Accepts.map eB,some<|.narr 1<|List.map (eMr (λ k=>.int .i64 k)<|λ v=>.int .i64 v) b.Before,some<|.narr 1<|List.map (eMr (λ k=>.int .i64 k)<|λ v=>.sl<|List.map Au v) g,some<|.arr 8<|h.map AF,some<|.iter false false none<|Bp AY AY<|l33++l34,some<|.box<|Jik K] (po1<|po1<|pn1 (eMr (λ k=>.int .i64 k)<|λ v=>.int .i64 v) b.Before<|po1<|po1<|po1<|po1<|Pl.z)<|ck 5<|en<|sr<|ck 1<|en<|cn H (λ H=>?_)<|λ H=>?_
  ·exact sq<|bx H λ T L H=>rg (Pq (ek:=(λ k=>.int .i64 k)) (ev:=(λ v=>.sl<|List.map Au v)) 3 (B0 L) (by kernel_rfl))<|ck 6<|bx H λ W R H=>sp (Oc 3 1 0 5 (j:=0) R)<|sp (Im (encN:=(eMr (λ k=>.int .i64 k)<|λ v=>.sl<|List.map Au v)) (row:=[.mp 7]) (k:=3) (sz:=1) (off:=0) (t:=ty 128) (v:=.mp 7)<|B0 L)<|ck 2<|sp (LQ (enc:=(eL Au)) (encK:=AY) (ka:=false) (va:=false) (k:=7) (m:=T) (a:=.d<|.int .i64 K.To) (key:=K.To) (z:=([]:(List Af))) (vz:=[.nil]) X0 false)<|ck 1<|en<|rg (Js (ek:=(λ k=>.int .i64 k)) (ev:=(λ v=>.sl<|List.map Au v)) 3 7 T (B0 L) (by kernel_rfl) (by kernel_rfl))<|ck 6<|bx H λ U S H=>sp (Cc AF 4 8 S)<|ck 1<|ae<|qN<|qs (gP [0,3,4,5,6,7,34,68,69,70] [0,1,2,3,9,5]<|po1<|po1<|pn1 (eMr (λ k=>.int .i64 k)<|λ v=>.int .i64 v) b.Before<|pn1 (eMr (λ k=>.int .i64 k)<|λ v=>.sl<|List.map Au v) (List.set g (Int.toNat<|Bg (AX .i64 c ((K.Cells.length:Nat):Int)) 5)<|some (false,T))<|po1<|po1<|Pl.z)<|e ((List.set g (Int.toNat<|Bg (AX .i64 c ((K.Cells.length:Nat):Int)) 5)<|some (false,T)),U) H
  ·exact sk<|qN<|qs (gP [0,3,4,5,6,7,34,68,69,70] [0,1,2,3,4,5]<|po1<|po1<|pn1 (eMr (λ k=>.int .i64 k)<|λ v=>.int .i64 v) b.Before<|pn1 (eMr (λ k=>.int .i64 k)<|λ v=>.sl<|List.map Au v) g<|po1<|po1<|Pl.z)<|e (g,h) H
 ·exact ex 4<|qx (by cases H;exact xo rfl<|gP [0,3,4,5,6,7,34] [0,1,2,3,4,5]<|po1<|po1<|pn1 (eMr (λ k=>.int .i64 k)<|λ v=>.int .i64 v) b.Before<|pn1 (eMr (λ k=>.int .i64 k)<|λ v=>.sl<|List.map Au v) g<|po1<|po1<|Pl.z)
end
def DE (a:Int):(Aa×(List<|Option<|Bool×(List<|Int×(List Af))))->Ex->St->Prop:=(λ (x:(Aa×(List<|Option<|Bool×(List<|Int×(List Af)))))=>xX 3 2 (λ (y:(Aa×(List<|Option<|Bool×(List<|Int×(List Af)))))=>Ja8 a y.1 y.2) (x.1,x.2))
section
variable (b:Int) (o:Aa)
def DW:(List<|Int×Int)->(Aa×(List<|Option<|Bool×(List<|Int×(List Af))))->St:=(λ (l:(List<|Int×Int)) (x:(Aa×(List<|Option<|Bool×(List<|Int×(List Af)))))=>Ja7 b l x.1 x.2)
def Ho:(Aa×(List<|Option<|Bool×(List<|Int×(List Af))))->Ex->St->Prop:=xX 3 0<|λ (y:(Aa×(List<|Option<|Bool×(List<|Int×(List Af)))))=>Ja6 y.1 y.2
def DY:(Aa×(List<|Option<|Bool×(List<|Int×(List Af)))×Int)->St:=(λ (x:(Aa×(List<|Option<|Bool×(List<|Int×(List Af)))×Int))=>Ja5 x.1 x.2.1 x.2.2)
variable {b o}
theorem GH (J:(List (Int×Int))) (x:(Aa×(List (Option (Bool×(List (Int×(List Af)))))))) (hz:∀ e,e∈J->∃ z,A6 n b e x.1 x.2=some z):WP (cxk 123 3) (AO Try.f42) [1,1,0,1,0,0,1,0,0,1,1,0,0] (XV 3 (DW b) (DE b) (DV) (λ (e:(Int×Int)) (x:(Aa×(List (Option (Bool×(List (Int×(List Af))))))))=>A6 n b e x.1 x.2) J x) (DW b J x):=by
 obtain⟨h,i⟩:=x;refine sq<|rn 0 (.refl _)<|nd0<|nxt (yok _ _) (encK:=AY) (enc:=AY) (ka:=false) (va:=false) 4 (λ hl=>?_)<|λ e3 l33 l34 hl3=>bE (hz e3<|JeL hl3) λ z hF=>?_
 ·exact ck 1<|en<|sq<|cF<|ex 2<|qx<|mE hl rfl<|gP [0,3,4] [0,1,2,3]<|po1<|po1<|pn1 (eMr (λ k=>.int .i64 k)<|λ v=>.int .i64 v) h.Before<|pn1 (eMr (λ k=>.int .i64 k)<|λ v=>.sl<|List.map Au v) i<|Pl.z
 ·have H:=hF;refine ck 1<|en<|sq<|cT<|sk<|qz<|bk 3<|sr<|xr (xok _ _)<|ck 4<|en<|sr<|ck 1<|en<|sj (λ (x:(List Ah))=>Ja9 b h i e3 l33 l34 x) (λ (x:(List Ah))=>BQ n b h i e3 x) z ?_ (λ c=>?_)
  ·intro L H;refine sq<|sr<|ck 5<|bx H λ ab M H=>sp (AW (eL By) M)<|ck 1<|sp (AT By ab)<|ck 1<|en<|bk 4<|bx H λ K O H=>lX (GG (l33:=l33) (l34:=l34)) O (gP [0,3,4,5,6,7,34,68,69,70] [0,1,2,3,4,5]<|po1<|po1<|pn1 (eMr (λ k=>.int .i64 k)<|λ v=>.int .i64 v) h.Before<|pn1 (eMr (λ k=>.int .i64 k)<|λ v=>.sl<|List.map Au v) i<|po1<|po1<|Pl.z) rfl λ s P=>qH<|qs (P)<|sr<|ck 8<|bx H λ p Q H=>ltP [0,4,1,2] (Kt Q) (po1<|po1<|po1<|pn1 (eMr (λ k=>.int .i64 k)<|λ v=>.int .i64 v) h.Before<|Pl.z)<|tb (f:=EM<|Cv [0,4,1,2] 6 4) [some<|.box<|Am h (.osl 1 1 0<|h.Accepts.length)<|.osl 2 1 0<|h.Before.length,some<|.arr 1<|h.Accepts.map eB,some<|.narr 1<|List.map (eMr (λ k=>.int .i64 k)<|λ v=>.int .i64 v) h.Before,some<|.narr 1<|List.map (eMr (λ k=>.int .i64 k)<|λ v=>.sl<|List.map Au v) K.1,none,some<|.iter false false none<|Bp AY AY<|l33++l34,some<|.arr 3<|p.map Au] (po1<|po1<|pn1 (eMr (λ k=>.int .i64 k)<|λ v=>.int .i64 v) h.Before<|po1<|po1<|po1<|po1<|Pl.z)<|ck 1<|en<|sr<|ck 3<|en<|cn H (λ H=>?_)<|λ H=>?_
   ·exact bx H λ R w H=>rg (tr (Pq (ek:=(λ k=>.int .i64 k)) (ev:=(λ v=>.sl<|List.map Au v)) 3 (B0 w) (by kernel_rfl))<|fz (enc:=Au) (xs:=p) 13 6 3)<|ck 2<|bx H λ ah S H=>sp (Oc 3 1 0 5 (j:=0) S)<|sp (Im (encN:=(eMr (λ k=>.int .i64 k)<|λ v=>.sl<|List.map Au v)) (row:=[.mp 7]) (k:=3) (sz:=1) (off:=0) (t:=ty 128) (v:=.mp 7)<|B0 w)<|ck 2<|sp (Oe (enc:=(eL Au)) (encK:=AY) (ka:=false) (va:=false) (k:=7) (m:=R) (a:=.d<|.int .i64 e3.1) (key:=e3.1) (y:=p) (v:=.d<|.sl<|p.map Au) (vz:=[.nil]) X0)<|ae<|qN (by cases H;exact mg hl3 hF<|tr (tr (VC (ka:=false) (va:=false) (e2:=Bp AY (eL Au)<|B6<|BJ e3.1 p R) 7 (MJ (D7<|BJ e3.1 p R).symm) (by kernel_rfl))<|Js (ek:=(λ k=>.int .i64 k)) (ev:=(λ v=>.sl<|List.map Au v)) 3 7 (B6<|BJ e3.1 p R) (B0 w) (by kernel_rfl) (by kernel_rfl))<|gP [0,3,4,34] [0,1,2,3,5]<|po1<|po1<|pn1 (eMr (λ k=>.int .i64 k)<|λ v=>.int .i64 v) h.Before<|pn1 (eMr (λ k=>.int .i64 k)<|λ v=>.sl<|List.map Au v) (List.set K.1 (Int.toNat<|Bg b 5)<|some (false,B6<|BJ e3.1 p R))<|po1<|Pl.z)
   ·exact sk<|qN (by cases H;exact mg hl3 hF<|gP [0,3,4,34] [0,1,2,3,5]<|po1<|po1<|pn1 (eMr (λ k=>.int .i64 k)<|λ v=>.int .i64 v) h.Before<|pn1 (eMr (λ k=>.int .i64 k)<|λ v=>.sl<|List.map Au v) K.1<|po1<|Pl.z)
  refine sr<|ck 5<|sp (AT Bd h.Felt)<|ck 3<|gc 3 (b==((h.Felt.length:Nat):Int))<|ck 1<|bx H λ ai G H=>sE (λ hg=>Bc 1 1<|FJ G hg)<|sE (g:=(b==((h.Felt.length:Nat):Int))) (λ hg=>Cb eB 1 0 (ty 4)<|FJ G hg)<|pA<|en<|cn H (λ H=>?_)<|λ H=>?_
  ·exact rz<|ck 2<|sF<|ck 2<|bx H λ ac T H=>sp (ZC AF 8 T)<|ck 1<|ae<|qs (tr (Wt 4 (by kernel_rfl))<|gP [0,3,4,5,6,7,34] [0,1,2,3,6,4]<|po1<|po1<|pn1 (eMr (λ k=>.int .i64 k)<|λ v=>.int .i64 v) h.Before<|pn1 (eMr (λ k=>.int .i64 k)<|λ v=>.sl<|List.map Au v) i<|po1<|po1<|Pl.z)<|c ac H
  ·exact sk<|qs (tr (tr (Wt 4 (by kernel_rfl))<|An.nilo 7 8 (by kernel_rfl))<|gP [0,3,4,5,6,7,34] [0,1,2,3,5,4]<|po1<|po1<|pn1 (eMr (λ k=>.int .i64 k)<|λ v=>.int .i64 v) h.Before<|pn1 (eMr (λ k=>.int .i64 k)<|λ v=>.sl<|List.map Au v) i<|po1<|po1<|Pl.z)<|c ([]:List Ah) H
theorem GI (x:(Aa×(List (Option (Bool×(List (Int×(List Af))))))×Int)) (z:((Aa×(List (Option (Bool×(List (Int×(List Af))))))×Int)⊕(Aa×(List (Option (Bool×(List (Int×(List Af))))))))) (H:Bs n x.1 x.2.1 x.2.2=some z):WP (cxk 123 3) (AO Try.f42) [1,1,0,1,0,0] (AP 3 (DY) (Ho) z) (DY x):=by
 obtain⟨q,u,b⟩:=x;refine sq<|sr<|ck 2<|en<|cn H (λ H=>?_)<|λ H=>?_
 ·refine sk<|qz<|sq<|bk 1<|sq<|bx H λ af A H=>rg (so1 (encN:=(eMr (λ k=>.int .i64 k)<|λ v=>.sl<|List.map Au v)) 3 1 A)<|ck 3<|bx H λ aj U H=>sp (Oc 3 1 0 5 (j:=0) U)<|sp (Sf (encN:=(eMr (λ k=>.int .i64 k)<|λ v=>.sl<|List.map Au v)) (row:=[ZR (λ k=>.int .i64 k) (λ v=>.sl<|List.map Au v) af]) (row':=[.mp 4]) (k:=3) (sz:=1) (off:=0) (t:=ty 128) (v:=.mp 4) A)<|en<|sq<|bx H λ I B H=>rg (tr (Js (ek:=(λ k=>.int .i64 k)) (ev:=(λ v=>.sl<|List.map Au v)) 3 4 ([]:(List<|Int×(List Af))) A (by kernel_rfl) (by kernel_rfl))<|ZS (ek:=(λ k=>.int .i64 k)) (ev:=(λ v=>.int .i64 v)) 2 (HE B) (by kernel_rfl))<|ck 5<|sp (Bc 2 1<|HE B)<|sp (Im (encN:=(eMr (λ k=>.int .i64 k)<|λ v=>.int .i64 v)) (row:=[.fmp<|Gh (λ k=>.int .i64 k) (λ v=>.int .i64 v) I.2]) (k:=2) (sz:=1) (off:=0) (t:=ty 125) (v:=.fmp<|Gh (λ k=>.int .i64 k) (λ v=>.int .i64 v) I.2)<|HE B)<|xr (xok _ _)<|xri (ek:=(λ k=>.int .i64 k)) (ev:=(λ v=>.int .i64 v)) (m:=I.2) 5<|en<|bk 2 ?_;have hD:=Si H;refine lM (F:=(λ (e:(Int×Int)) (x:(Aa×(List<|Option<|Bool×(List<|Int×(List Af)))))=>A6 n b e x.1 x.2)) (E:=DV) (E0:=DE b) GH (tr (tr (tr (scl (encN:=(eMr (λ k=>.int .i64 k)<|λ v=>.int .i64 v)) (xss:=q.Before) b [.fmp<|Gh (λ k=>.int .i64 k) (λ v=>.int .i64 v) I.2] 1 2<|some (true,I.2))<|sn 30 2 1<|lsS q.Before b.toNat<|some (true,I.2))<|snc 0 5 2 1<|lsS q.Before b.toNat<|some (true,I.2))<|gP [0,3,4,34] [0,1,2,3,5]<|po1<|po1<|pn1 (eMr (λ k=>.int .i64 k)<|λ v=>.int .i64 v) (List.set q.Before b.toNat<|some (true,I.2))<|pn1 (eMr (λ k=>.int .i64 k)<|λ v=>.sl<|List.map Au v) (List.set u (Int.toNat<|Bg b 5)<|some (false,([]:(List<|Int×(List Af)))))<|po1<|Pl.z) (λ ord ho=>bI<|hD ord ho) (λ ord V ho hy e s hE=>xQ hE<|λ he W=>?_)<|λ ord r ho hy e s hE=>?_
  ·subst he;have H:=bK (hD ord ho) hy;exact qH<|qN<|qs (W)<|rz<|ck 3<|ae (by cases H;exact og<|gP [0,3,4] [0,1,2,3]<|po1<|po1<|pn1 (eMr (λ k=>.int .i64 k)<|λ v=>.int .i64 v) V.1.Before<|pn1 (eMr (λ k=>.int .i64 k)<|λ v=>.sl<|List.map Au v) V.2<|Pl.z)
  ·cases r
 ·exact ex 0<|qx (by cases H;exact xo rfl<|gP [3] [0,1,2,3]<|po1<|po1<|pn1 (eMr (λ k=>.int .i64 k)<|λ v=>.int .i64 v) q.Before<|pn1 (eMr (λ k=>.int .i64 k)<|λ v=>.sl<|List.map Au v) u<|Pl.z)
theorem IB {z} (H:CB n o=some z):Bu Try.prog 42 [.ptr 0 0] [some (.box (Am o (.osl 1 1 0 (o.Accepts.length)) (.osl 2 1 0 (o.Before.length)))),some (.arr 1 (o.Accepts.map eB)),some (.narr 1 (List.map (eMr (λ k=>.int .i64 k) (λ v=>.int .i64 v)) o.Before))] 3 (.d (.sl (z.2.map Au))) [some (.box (Am z.1 (.osl 1 1 0 (z.1.Accepts.length)) (.osl 2 1 0 (z.1.Before.length)))),some (.arr 1 (z.1.Accepts.map eB)),some (.narr 1 (List.map (eMr (λ k=>.int .i64 k) (λ v=>.int .i64 v)) z.1.Before))]:=by
 exact fL 123 3 (Ja3 o) Try.func42<|sr<|ck 1<|en<|sr<|ck 1<|en<|sq<|sq<|rg (tr (JeO (ek:=(λ k=>.int .i64 k)) (ev:=(λ v=>.sl<|List.map Au v)) 3 5 (by kernel_rfl))<|Jhy 3 3 1 (by kernel_rfl))<|ck 4<|sp (AT Bd o.Felt)<|ck 1<|en<|bk 0<|bx H λ X Y H=>lX GI Y (gP [0,3,4] [0,1,2,3]<|po1<|po1<|pn1 (eMr (λ k=>.int .i64 k)<|λ v=>.int .i64 v) o.Before<|pn1 (eMr (λ k=>.int .i64 k)<|λ v=>.sl<|List.map Au v) (List.replicate 5 (none:(Option<|Bool×(List<|Int×(List Af)))))<|Pl.z) rfl λ s Z=>qH<|qs (Z)<|sq<|bx H λ m7 C H=>rg (Pq (ek:=(λ k=>.int .i64 k)) (ev:=(λ v=>.sl<|List.map Au v)) 3 (B0 C) (by kernel_rfl))<|bx H λ ak aa H=>sp (Oc 3 1 0 5 (j:=0) aa)<|sp (Im (encN:=(eMr (λ k=>.int .i64 k)<|λ v=>.sl<|List.map Au v)) (row:=[.mp 4]) (k:=3) (sz:=1) (off:=0) (t:=ty 128) (v:=.mp 4)<|B0 C)<|sp (LQ (enc:=(eL Au)) (encK:=AY) (ka:=false) (va:=false) (k:=4) (m:=m7) (a:=.d<|.int .i64 0) (key:=0) (z:=([]:(List Af))) (vz:=[.nil]) X0 false)<|ck 1<|en<|re (by cases H;exact pL<|rl (s':=Ja4 X.1<|Option.getD (AN 0 m7) ([]:(List Af)))<|tr (Js (ek:=(λ k=>.int .i64 k)) (ev:=(λ v=>.sl<|List.map Au v)) 3 4 m7 (B0 C) (by kernel_rfl) (by kernel_rfl))<|gP [2] [0,1,2]<|po1<|po1<|pn1 (eMr (λ k=>.int .i64 k)<|λ v=>.int .i64 v) X.1.Before<|Pl.z)
end
section
variable (e:Ab) (h:(List Ao)) (i:Int) (j:Int) (b:(Aa×(List Af))) (a:(List AQ)) (l:Int) (c:(List AQ))
def JfR:St:=⟨(0,.agg [.d<|.int .i64 e.Modes,.d<|.int .u8 e.Accept,.d<|.sl<|e.Rules.map As])::(1,.d<|.sl<|h.map Bd)::(2,.d<|.int .i64 i)::(3,.d<|.int .i64 j)::[],[]⟩
def JfS:St:=⟨(10,.osl 0 3 0<|a.length)::(24,.d<|.sl<|b.2.map Au)::(25,.d<|.int .i64 ((b.2.length:Nat):Int))::(26,.d<|.int .i64 l)::[],[some<|.arr 3<|a.map Bl]⟩
def JfT:St:=⟨(10,.osl 0 3 0<|c.length)::[],[some<|.arr 3<|c.map Bl]⟩
def Qs:(List AQ)->Ex->St->Prop:=xX 0 0<|λ (y:(List AQ))=>JfT y
def KD:((List AQ)×Int)->St:=(λ (x:((List AQ)×Int))=>JfS b x.1 x.2)
variable {e h i j b a l c}
theorem PF (x:((List AQ)×Int)) (z:(((List AQ)×Int)⊕(List AQ))) (H:Fy n b x.1 x.2=some z):WP (cxk 43 0) (AO Try.f23) [1,1,1,1,1,0,1,0,0] (AP 0 (KD b) (Qs) z) (KD b x):=by
 obtain⟨a,l⟩:=x;refine sr<|ck 1<|en<|sq<|cn H (λ H=>?_)<|λ H=>?_
 ·exact sk<|qz<|sq<|bk 1<|sr<|bx H λ A m H=>sp (AW Au m)<|ck 3<|en<|rz<|ck 5<|xsb (xok _ _) A.Cells<|ck 4<|bx H λ B o H=>sp (Cc Bl 0 3 o)<|ck 1<|ae<|qN<|qz<|rz<|ck 2<|ae (by cases H;exact og<|sg [10,24,25,26])
 ·exact ex 0<|qx (by cases H;exact xo rfl<|sg [10])
theorem NI {z} (H:Jw n e h i j=some z):AD Try.prog 23 [.agg (A8 e),.d (.sl (h.map Bd)),.d (.int .i64 i),.d (.int .i64 j)] (.own 3 (z.map Bl)):=by
 refine fO 43 (JfR e h i j) Try.func23<|sr<|ck 2<|en<|sq<|sr<|ck 1<|bx H λ C p H=>ca false (Sy p)<|ck 1<|en<|cn H (λ H=>?_)<|λ H=>?_
 ·exact sr<|ck 1<|en<|re<|qr (by cases H;exact pr<|rO (v:=.d<|.nil) []<|ad vz)
 ·exact sk<|qz<|sr<|ck 4<|bx H λ E q H=>lt [] (MV q)<|ck 1<|en<|sr<|ck 1<|bx H λ g r H=>lt [1,2] (I3 r)<|tb (f:=EM<|Cv [1,2] 3 2) [some<|.box<|A8 e,some<|.box<|Am g (.osl 2 1 0<|g.Accepts.length)<|.osl 3 1 0<|g.Before.length,some<|.arr 1<|g.Accepts.map eB,some<|.narr 1<|List.map (eMr (λ k=>.int .i64 k)<|λ v=>.int .i64 v) g.Before] (po1<|po1<|po1<|pn1 (eMr (λ k=>.int .i64 k)<|λ v=>.int .i64 v) g.Before<|Pl.z)<|en<|sr<|ck 1<|en<|sq<|sr<|ck 1<|bx H λ b t H=>ltP [1,2,3] (IB t) (po1<|po1<|pn1 (eMr (λ k=>.int .i64 k)<|λ v=>.int .i64 v) g.Before<|Pl.z)<|tb (f:=EM<|Cv [1,2,3] 4 3) [some<|.box<|A8 e,some<|.box<|Am b.1 (.osl 2 1 0<|b.1.Accepts.length)<|.osl 3 1 0<|b.1.Before.length,some<|.arr 1<|b.1.Accepts.map eB,some<|.narr 1<|List.map (eMr (λ k=>.int .i64 k)<|λ v=>.int .i64 v) b.1.Before] (po1<|po1<|po1<|pn1 (eMr (λ k=>.int .i64 k)<|λ v=>.int .i64 v) b.1.Before<|Pl.z)<|sp (AT Au b.2)<|ck 1<|en<|bk 0<|bx H λ G u H=>lX PF u (tr (An.nilo 10 3 (by kernel_rfl))<|sg [10,24,25,26]) rfl λ s w=>qH<|qs (w)<|sr<|ck 2<|en<|re (by cases H;exact pr<|rO (v:=.osl 0 3 0<|z.length) [0]<|ao vo)
end
section
variable (a:Ab) (b:(List Ao)) (c:Int)
def JfU:St:=⟨(0,.agg [.d<|.int .i64 a.Modes,.d<|.int .u8 a.Accept,.d<|.sl<|a.Rules.map As])::(1,.d<|.sl<|b.map Bd)::(2,.d<|.int .i64 c)::[],[]⟩
variable {a b c}
theorem Cp {z} (H:Bx n a b c=some z):AD Try.prog 10 [.agg (A8 a),.d (.sl (b.map Bd)),.d (.int .i64 c)] (.tup [.own 3 (z.1.map Bl),.d (.int .i64 z.2)]):=by
 refine fO 19 (JfU a b c) Try.func10<|sr<|ck 3<|en<|sq<|sr<|ck 2<|en<|cn H (λ H=>?_)<|λ H=>?_
 ·exact sr<|ck 2<|en<|re<|qr (by cases H;exact pr<|rT (vs:=[.d<|.nil,.d<|.int .i64 1]) []<|t1 (ad vz)<|t1 (ad vd)<|t0)
 ·refine sk<|qz<|sr<|ck 3<|bx H λ e f H=>cl [List.length e] (NI f)<|ck 1<|en<|sq<|sr<|ck 3<|en<|cn H (λ H=>?_)<|λ H=>?_
  ·exact sr<|ck 2<|en<|re<|qr (by cases H;exact pr<|rT (vs:=[.d<|.nil,.d<|.int .i64 2]) []<|t1 (ad vz)<|t1 (ad vd)<|t0)
  ·exact sk<|qz<|sr<|ck 3<|en<|re (by cases H;exact pr<|rT (vs:=[.osl 1 3 0<|e.length,.d<|.int .i64 0]) [1]<|t1 (ao vo)<|t1 (ad vd)<|t0)
end
section
variable (a:Ab) (b:(List Ao)) (c:Int)
def JfV:St:=⟨(0,.agg [.d<|.int .i64 a.Modes,.d<|.int .u8 a.Accept,.d<|.sl<|a.Rules.map As])::(1,.d<|.sl<|b.map Bd)::(2,.d<|.int .i64 c)::[],[]⟩
variable {a b c}
theorem JH {z} (H:Fz n a b c=some z):AD Try.prog 11 [.agg (A8 a),.d (.sl (b.map Bd)),.d (.int .i64 c)] (.tup [.agg [.d (.str z.1.Text),.d (.sl (z.1.Cells.map eU8)),.d (.int .i64 z.1.Cost)],.d (.bool z.2)]):=by
 refine fO 23 (JfV a b c) Try.func11<|sr<|ck 3<|en<|sq<|sr<|ck 2<|en<|cn H (λ H=>?_)<|λ H=>?_
 ·exact sr<|ck 3<|en<|re<|qr (by cases H;exact pr<|rT (vs:=[.agg [.d<|.str [],.d<|.nil,.d<|.int .i64 0],.d<|.bool false]) []<|t1 (a1<|c1 vd<|c1 vn<|c1 vd<|c0)<|t1 (ad vd)<|t0)
 ·refine sk<|qz<|sr<|ck 3<|bx H λ g e H=>ca false (NI e)<|ck 1<|en<|sq<|sr<|ck 1<|sp (AT Bl g)<|ck 1<|en<|cn H (λ H=>?_)<|λ H=>?_
  ·exact sr<|ck 3<|en<|re<|qr (by cases H;exact pr<|rT (vs:=[.agg [.d<|.str [],.d<|.nil,.d<|.int .i64 0],.d<|.bool false]) []<|t1 (a1<|c1 vd<|c1 vn<|c1 vd<|c0)<|t1 (ad vd)<|t0)
  ·exact sk<|qz<|sr<|ck 1<|bx H λ h f H=>sp (AW Bl f)<|ck 3<|en<|re (by cases H;exact pr rdT)
end
section
variable (a:(List Int)) (b:(List Int)) (e:Int)
def JfW:St:=⟨(0,.d<|.sl<|a.map eU8)::(1,.d<|.sl<|b.map eU8)::[],[]⟩
def JfX:St:=⟨(0,.d<|.sl<|a.map eU8)::(1,.d<|.sl<|b.map eU8)::(5,.d<|.int .i64 e)::[],[]⟩
def JfY:St:=⟨[],[]⟩
def K6:(Unit⊕Bool)->Ex->St->Prop:=xS (xX 0 0<|λ (_:Unit)=>JfY)<|xR ty Try.f24<|λ (y:Bool)=>.d<|.bool y
def Gt:Int->St:=(λ (x:Int)=>JfX a b x)
variable {a b e}
theorem FO (x:Int) (z:(Int⊕(Unit⊕Bool))) (H:DA n a b x=some z):WP (cxk 26 0) (AO Try.f24) [1,1,0,1,0,0] (AP 0 (Gt a b) (K6) z) (Gt a b x):=by
 revert H;generalize x=e;intro H;refine sq<|sr<|ck 2<|sp (AT eU8 a)<|ck 1<|en<|cn H (λ H=>?_)<|λ H=>?_
 ·refine sk<|qz<|sq<|bk 1<|sr<|ck 2<|bx H λ k f H=>sp (AW eU8 f)<|ck 3<|bx H λ l g H=>sp (AW eU8 g)<|ck 2<|en<|cn H (λ H=>?_)<|λ H=>?_
  ·exact sr<|ck 1<|en<|re<|qR<|qr (by cases H;exact ro rfl rd)
  ·exact sk<|qN<|qz<|rz<|ck 3<|ae (by cases H;exact og<|sg [0,1,5])
 ·exact ex 0<|qx (by cases H;exact xo rfl<|sg [])
theorem HS {z} (H:DP n a b=some z):AD Try.prog 24 [.d (.sl (a.map eU8)),.d (.sl (b.map eU8))] (.d (.bool z)):=by
 refine fO 26 (JfW a b) Try.func24<|sr<|ck 1<|en<|sq<|sr<|ck 1<|sp (AT eU8 a)<|ck 1<|sp (AT eU8 b)<|ck 1<|en<|cn H (λ H=>?_)<|λ H=>?_
 ·exact sr<|ck 1<|en<|re<|qr (by cases H;exact pr rd)
 ·refine sk<|qz<|sq<|sr<|ck 1<|en<|bk 0<|bx H λ j c H=>?_;rcases j with m|o
  ·exact lX FO c (sg [0,1,5]) rfl λ s h=>qH<|qs (h)<|sr<|ck 1<|en<|re (by cases H;exact pr rd)
  ·exact lR FO c (sg [0,1,5]) rfl λ s i=>qR<|qr (by cases H;exact pr i)
end
section
variable (a:AQ) (b:AQ)
def JfZ:St:=⟨(0,.agg [.d<|.str a.Text,.d<|.sl<|a.Cells.map eU8,.d<|.int .i64 a.Cost])::(1,.agg [.d<|.str b.Text,.d<|.sl<|b.Cells.map eU8,.d<|.int .i64 b.Cost])::[],[]⟩
variable {a b}
theorem T6 {z} (H:LT n a b=some z):AD Try.prog 12 [.agg (Jab a),.agg (Jab b)] (.d (.bool z)):=by
 exact fO 24 (JfZ a b) Try.func12<|sr<|ck 3<|en<|sr<|ck 7<|gc 1 (a.Text==b.Text)<|ck 1<|gc 2 (a.Text==b.Text)<|pA<|ck 2<|gc 1 ((a.Text==b.Text)&&(a.Cost==b.Cost))<|ck 1<|gc 1 ((a.Text==b.Text)&&(a.Cost==b.Cost))<|bx H λ e c H=>cG false (leZ) rfl (λ hg=>HS<|FJ c hg) (Or.inl rfl) (Dp (λ hh=>hh)<|Dp (λ hh=>hh)<|Hd) rfl<|pA<|ck 1<|en<|re (by cases H;exact pr rd)
end
section
variable (a:(List AQ)) (b:(List AQ)) (e:Int)
def Jf0:St:=⟨(0,.d<|.sl<|a.map Bl)::(1,.d<|.sl<|b.map Bl)::[],[]⟩
def Jf1:St:=⟨(0,.d<|.sl<|a.map Bl)::(1,.d<|.sl<|b.map Bl)::(5,.d<|.int .i64 e)::[],[]⟩
def Jf2:St:=⟨[],[]⟩
def MY:(Unit⊕Bool)->Ex->St->Prop:=xS (xX 0 0<|λ (_:Unit)=>Jf2)<|xR ty Try.f14<|λ (y:Bool)=>.d<|.bool y
def HT:Int->St:=(λ (x:Int)=>Jf1 a b x)
variable {a b e}
theorem G7 (x:Int) (z:(Int⊕(Unit⊕Bool))) (H:Dr n a b x=some z):WP (cxk 27 0) (AO Try.f14) [1,1,0,1,0,0] (AP 0 (HT a b) (MY) z) (HT a b x):=by
 revert H;generalize x=e;intro H;refine sq<|sr<|ck 2<|sp (AT Bl a)<|ck 1<|en<|cn H (λ H=>?_)<|λ H=>?_
 ·refine sk<|qz<|sq<|bk 1<|sr<|ck 2<|bx H λ l f H=>sp (AW Bl f)<|ck 3<|bx H λ m g H=>sp (AW Bl g)<|ck 1<|bx H λ o h H=>ca false (T6 h)<|ck 1<|en<|cn H (λ H=>?_)<|λ H=>?_
  ·exact sr<|ck 1<|en<|re<|qR<|qr (by cases H;exact ro rfl rd)
  ·exact sk<|qN<|qz<|rz<|ck 3<|ae (by cases H;exact og<|sg [0,1,5])
 ·exact ex 0<|qx (by cases H;exact xo rfl<|sg [])
theorem Gu {z} (H:Ee n a b=some z):AD Try.prog 14 [.d (.sl (a.map Bl)),.d (.sl (b.map Bl))] (.d (.bool z)):=by
 refine fO 27 (Jf0 a b) Try.func14<|sr<|ck 1<|en<|sq<|sr<|ck 1<|sp (AT Bl a)<|ck 1<|sp (AT Bl b)<|ck 1<|en<|cn H (λ H=>?_)<|λ H=>?_
 ·exact sr<|ck 1<|en<|re<|qr (by cases H;exact pr rd)
 ·refine sk<|qz<|sq<|sr<|ck 1<|en<|bk 0<|bx H λ k c H=>?_;rcases k with p|q
  ·exact lX G7 c (sg [0,1,5]) rfl λ s i=>qH<|qs (i)<|sr<|ck 1<|en<|re (by cases H;exact pr rd)
  ·exact lR G7 c (sg [0,1,5]) rfl λ s j=>qR<|qr (by cases H;exact pr j)
end
section
variable (f:Ab) (c:(List Ao)) (o:Int) (i:(List Ao))
def Jim:St:=⟨[],[]⟩
def Jin:St:=⟨(1,.ptr 0 0)::(2,.osl 1 2 0<|List.length [({ Up:=3,Maybe:=0 }:Ao)])::(3,.osl 2 2 0<|c.length)::(4,.d<|.int .i64 o)::[],[some<|.box<|A8 f,some<|.arr 2<|List.map Bd [({ Up:=3,Maybe:=0 }:Ao)],some<|.arr 2<|c.map Bd]⟩
def Jio:St:=⟨(1,.ptr 0 0)::(2,.osl 1 2 0<|List.length [({ Up:=3,Maybe:=0 }:Ao)])::(3,.osl 2 2 0<|i.length)::[],[some<|.box<|A8 f,some<|.arr 2<|List.map Bd [({ Up:=3,Maybe:=0 }:Ao)],some<|.arr 2<|i.map Bd]⟩
def NV:(List Ao)->Ex->St->Prop:=xX 0 0<|λ (y:(List Ao))=>Jio f y
def IS:((List Ao)×Int)->St:=(λ (x:((List Ao)×Int))=>Jin f x.1 x.2)
variable {f c o i}
theorem MZ (x:((List Ao)×Int)) (z:(((List Ao)×Int)⊕(List Ao))) (H:DQ n f x.1 x.2=some z):WP (cxk 148 0) (AO Try.f7) [1,1,1,0,1,0,0] (AP 0 (IS f) (NV f) z) (IS f x):=by
 obtain⟨c,o⟩:=x;refine sq<|sr<|ck 2<|en<|cn H (λ H=>?_)<|λ H=>?_
 ·exact sk<|qz<|sq<|bk 1<|rz<|ck 3<|bx H λ P p H=>sp (Cc Bd 2 2 p)<|ck 1<|ae<|qN<|qz<|rz<|ck 3<|ae (by cases H;exact og<|sg [1,2,3,4])
 ·exact ex 0<|qx (by cases H;exact xo rfl<|sg [1,2,3])
theorem Qt {z} (H:Ir n=some z):AD Try.prog 7 [] (.d (.bool z)):=by
 exact fO 148 Jim Try.func7<|sr<|ck 1<|en<|sr<|bx H λ f q H=>ca false (NG q)<|ck 2<|en<|sr<|ck 5<|en<|sq<|sr<|ck 1<|en<|bk 0<|bx H λ M r H=>lX MZ r (sg [1,2,3,4]) rfl λ s t=>qH<|qs (t)<|sr<|ck 8<|en<|sq<|rg (fz (enc:=Bd) (xs:=([({ Up:=3,Maybe:=0 }:Ao)])) 2 1 2)<|ck 2<|bx H λ b u H=>ca false (Cp u)<|ck 5<|en<|sr<|ck 2<|bx H λ h v H=>ca false (Cp v)<|ck 5<|en<|sr<|ck 2<|sF<|bx H λ a w H=>ca false (Cp w)<|ck 5<|en<|sq<|rg (fz (enc:=Bd) (xs:=M) 3 2 2)<|ck 2<|bx H λ l A H=>ca false (Cp A)<|ck 5<|en<|sr<|ck 2<|bx H λ m B H=>ca false (Cp B)<|ck 5<|en<|sr<|ck 2<|bx H λ k C H=>ca false (JH C)<|ck 6<|en<|sr<|ck 2<|sF<|bx H λ E G H=>ca false (JH G)<|ck 6<|en<|sr<|ck 1<|bx H λ O I H=>ca false (Cp I)<|ck 5<|en<|sq<|rg (tr (fzc (enc:=eU8) (xs:=[3]) 5 1 3 1)<|fzc (enc:=eU8) (xs:=[1]) 6 1 4 1)<|ck 5<|gc 1 (b.2==0)<|bx H λ e J H=>cG (ks:=[9]) (obl:=[(0+List.length ([({ Text:=[98],Cells:=[3],Cost:=0 }:AQ)]),List.length<|List.map Bl<|[({ Text:=[98],Cells:=[3],Cost:=0 }:AQ)])]) false (leK leM<|leZ) (Jr rfl<|Jr TO rfl) (λ hg=>Gu<|FJ J hg) (Or.inr trivial) (Dp (λ hh=>hh)<|Dp (λ hh=>hh)<|Hd) rfl<|pA<|ck 2<|gc 1 ((b.2==0)&&e)<|pA<|ck 4<|gc 1 (((b.2==0)&&e)&&(h.2==0))<|bx H λ j K H=>cG (ks:=[10]) (obl:=[(0+List.length ([({ Text:=[98],Cells:=[3],Cost:=0 }:AQ),({ Text:=[97],Cells:=[1],Cost:=1 }:AQ)]),List.length<|List.map Bl<|[({ Text:=[98],Cells:=[3],Cost:=0 }:AQ),({ Text:=[97],Cells:=[1],Cost:=1 }:AQ)])]) false (leK leM<|leZ) (Jr rfl<|Jr TO rfl) (λ hg=>Gu<|FJ K hg) (Or.inr trivial) (Dp (λ hh=>hh)<|Dp (λ hh=>hh)<|Hd) rfl<|pA<|ck 2<|gc 1 ((((b.2==0)&&e)&&(h.2==0))&&j)<|pA<|ck 2<|sE (g:=(((((b.2==0)&&e)&&(h.2==0))&&j)&&(a.2==0))) (λ hg=>AT Bl a.1)<|gc 1 (((((b.2==0)&&e)&&(h.2==0))&&j)&&(a.2==0))<|pA<|ck 1<|en<|sr<|ck 3<|gc 1 ((((((b.2==0)&&e)&&(h.2==0))&&j)&&(a.2==0))&&(((a.1.length:Nat):Int)==3))<|pA<|ck 2<|gc 1 (((((((b.2==0)&&e)&&(h.2==0))&&j)&&(a.2==0))&&(((a.1.length:Nat):Int)==3))&&(l.2==2))<|pA<|ck 2<|pA<|ck 2<|gc 2 (((((((((b.2==0)&&e)&&(h.2==0))&&j)&&(a.2==0))&&(((a.1.length:Nat):Int)==3))&&(l.2==2))&&(m.2==1))&&k.2)<|pA<|ck 2<|gc 1 ((((((((((b.2==0)&&e)&&(h.2==0))&&j)&&(a.2==0))&&(((a.1.length:Nat):Int)==3))&&(l.2==2))&&(m.2==1))&&k.2)&&(k.1.Text==[97,97,97,97,97]))<|pA<|ck 2<|gc 1 (((((((((((b.2==0)&&e)&&(h.2==0))&&j)&&(a.2==0))&&(((a.1.length:Nat):Int)==3))&&(l.2==2))&&(m.2==1))&&k.2)&&(k.1.Text==[97,97,97,97,97]))&&(!E.2))<|pA<|ck 3<|gc 1 ((((((((((((b.2==0)&&e)&&(h.2==0))&&j)&&(a.2==0))&&(((a.1.length:Nat):Int)==3))&&(l.2==2))&&(m.2==1))&&k.2)&&(k.1.Text==[97,97,97,97,97]))&&(!E.2))&&(O.2==0))<|bx H λ Q L H=>cG (ks:=[11]) (obl:=[(0+List.length ([({ Text:=[],Cells:=[],Cost:=0 }:AQ)]),List.length<|List.map Bl<|[({ Text:=[],Cells:=[],Cost:=0 }:AQ)])]) false (leK leM<|leZ) (Jr rfl<|Jr TO rfl) (λ hg=>Gu<|FJ L hg) (Or.inr trivial) (Dp (λ hh=>hh)<|Dp (λ hh=>hh)<|Hd) rfl<|pA<|ck 1<|en<|re (by cases H;exact pr rd)
end
section
variable (a:Cz) (g:Int) (b:Ay) (h:Int) (e:Ay) (c:Ay) (i:Int) (f:Ay)
def Jf3:St:=⟨(0,.agg [.d<|.sl<|a.P.map eU8,.d<|.sl<|a.C.map eU8,.d<|.int .u8 a.L,.d<|.int .u8 a.R,.d<|.int .u8 a.W.a0,.d<|.int .u8 a.W.a1])::(1,.d<|.int .i64 g)::[],[]⟩
def Jf4:St:=⟨(2,.ptr 0 0)::(4,.ptr 1 0)::(5,.d<|.str [97,98,99,65,66,49,50,45,46])::(7,.ptr 2 0)::(8,.d<|.int .i64 h)::[],[some<|.box<|LZ a,some<|.box [.d<|.str [],.osl 3 1 0<|List.length ([]:List Int),.d<|.int .u8 0,.d<|.int .u8 0,.d<|.int .i64 0,.d<|.int .i64 0],some<|.box<|Of b<|.osl 4 1 0<|b.Cells.length,some<|.arr 1<|List.map eU8 ([]:List Int),some<|.arr 1<|b.Cells.map eU8]⟩
def Jf5:St:=⟨(2,.ptr 0 0)::(4,.ptr 1 0)::(7,.ptr 2 0)::[],[some<|.box<|LZ a,some<|.box [.d<|.str [],.osl 3 1 0<|List.length ([]:List Int),.d<|.int .u8 0,.d<|.int .u8 0,.d<|.int .i64 0,.d<|.int .i64 0],some<|.box<|Of e<|.osl 4 1 0<|e.Cells.length,some<|.arr 1<|List.map eU8 ([]:List Int),some<|.arr 1<|e.Cells.map eU8]⟩
def Qu:Ay->Ex->St->Prop:=xX 0 0<|λ (y:Ay)=>Jf5 a y
def KE:(Ay×Int)->St:=(λ (x:(Ay×Int))=>Jf4 a x.1 x.2)
def Jf6:St:=⟨(2,.ptr 0 0)::(4,.ptr 1 0)::(7,.ptr 2 0)::(10,.osl 3 1 0<|List.length [1,3,9,5,7,32,44,60])::(11,.d<|.int .i64 i)::[],[some<|.box<|LZ a,some<|.box [.d<|.str [],.osl 4 1 0<|List.length ([]:List Int),.d<|.int .u8 0,.d<|.int .u8 0,.d<|.int .i64 0,.d<|.int .i64 0],some<|.box<|Of c<|.osl 5 1 0<|c.Cells.length,some<|.arr 1<|List.map eU8 [1,3,9,5,7,32,44,60],some<|.arr 1<|List.map eU8 ([]:List Int),some<|.arr 1<|c.Cells.map eU8]⟩
def Jf7:St:=⟨(4,.ptr 0 0)::(7,.ptr 1 0)::[],[some<|.box [.d<|.str [],.osl 2 1 0<|List.length ([]:List Int),.d<|.int .u8 0,.d<|.int .u8 0,.d<|.int .i64 0,.d<|.int .i64 0],some<|.box<|Of f<|.osl 3 1 0<|f.Cells.length,some<|.arr 1<|List.map eU8 ([]:List Int),some<|.arr 1<|f.Cells.map eU8]⟩
def Qv:Ay->Ex->St->Prop:=xX 0 2<|λ (y:Ay)=>Jf7 y
def KF:(Ay×Int)->St:=(λ (x:(Ay×Int))=>Jf6 a x.1 x.2)
variable {a g b h e c i f}
theorem PG (x:(Ay×Int)) (z:((Ay×Int)⊕Ay)) (H:Ef n a x.1 x.2=some z):WP (cxk 101 0) (AO Try.f21) [1,1,1,0,1,0,0] (AP 0 (KE a) (Qu a) z) (KE a x):=by
 obtain⟨b,h⟩:=x;refine sq<|sr<|ck 3<|sp (AT eU8 a.P)<|ck 3<|gc 1 (decide<|h<((a.P.length:Nat):Int))<|pA<|en<|cn H (λ H=>?_)<|λ H=>?_
 ·exact sk<|qz<|sq<|bk 1<|sr<|ck 3<|bx H λ I o H=>sp (AW eU8 o)<|ck 4<|en<|rz<|ck 6<|bx H λ Y p H=>sp (JcX p)<|bx H λ Z q H=>sp (Se q)<|ck 2<|ae<|qN<|qz<|rz<|ck 3<|ae (by cases H;exact og<|sg [2,4,5,7,8])
 ·exact ex 0<|qx (by cases H;exact xo rfl<|sg [2,4,7])
theorem PH (x:(Ay×Int)) (z:((Ay×Int)⊕Ay)) (H:CN n a x.1 x.2=some z):WP (cxk 101 0) (AO Try.f21) [1,1,1,1,1,1,0,1,0,0] (AP 0 (KF a) (Qv) z) (KF a x):=by
 obtain⟨c,i⟩:=x;refine sq<|sr<|ck 3<|sp (AT eU8 a.C)<|ck 3<|gc 1 (decide<|i<((a.C.length:Nat):Int))<|pA<|en<|cn H (λ H=>?_)<|λ H=>?_
 ·exact sk<|qz<|sq<|bk 3<|rz<|ck 6<|bx H λ J r H=>sp (AW eU8 r)<|ck 2<|bx H λ K j H=>sp (Bc 3 1 j)<|sp (Cb eU8 3 0 (ty 60) j)<|ck 1<|bx H λ M t H=>sp (Cc eU8 5 1 t)<|ck 2<|ae<|qN<|qz<|rz<|ck 3<|ae (by cases H;exact og<|sg [2,4,7,10,11])
 ·exact ex 2<|qx (by cases H;exact xo rfl<|sg [4,7])
theorem T7 {z} (H:HG n a g=some z):AD Try.prog 21 [.agg (LZ a),.d (.int .i64 g)] (.agg [.d (.str z.Print),.own 1 (z.Cells.map eU8),.d (.int .u8 z.Left),.d (.int .u8 z.Right),.d (.int .i64 z.From),.d (.int .i64 z.To)]):=by
 exact fO 101 (Jf3 a g) Try.func21<|sr<|ck 2<|en<|sr<|ck 3<|en<|sr<|ck 4<|bx H λ O k H=>sp (Bc 2 1 k)<|sp (Cb eU8 2 0 (ty 5) k)<|ck 4<|bx H λ Q l H=>sp (Bc 2 1 l)<|sp (Cb eU8 2 0 (ty 5) l)<|ck 5<|bx H λ S u H=>so (LG u)<|ck 5<|bx H λ T w H=>so (LG w)<|ck 3<|en<|sq<|sr<|ck 1<|en<|bk 0<|bx H λ U A H=>lX PG A (tr (tr (Ez 1 1 1 (by kernel_rfl))<|Ez 3 1 1 (by kernel_rfl))<|sg [2,4,5,7,8]) rfl λ s B=>qH<|qs (B)<|sr<|ck 2<|en<|sr<|ck 5<|bx H λ V m H=>sp (Bc 5 1 m)<|sp (Cb eU8 5 0 (ty 60) m)<|ck 3<|en<|sq<|sr<|ck 1<|en<|bk 2<|bx H λ X E H=>lX PH E (sg [2,4,7,10,11]) rfl λ s G=>qH<|qs (G)<|sr<|ck 2<|en<|re (by cases H;exact pr<|rO (v:=.agg [.d<|.str z.Print,.osl 3 1 0<|z.Cells.length,.d<|.int .u8 z.Left,.d<|.int .u8 z.Right,.d<|.int .i64 z.From,.d<|.int .i64 z.To]) [3]<|a1<|c1 vd<|c1 vo<|c1 vd<|c1 vd<|c1 vd<|c1 vd<|c0)
end
section
variable (a:Int)
def Jf8:St:=⟨(0,.d<|.int .u8 a)::[],[]⟩
variable {a}
theorem M0 {z} (H:Hi n a=some z):AD Try.prog 89 [.d (.int .u8 a)] (.d (.bool z)):=by
 exact fO 11 (Jf8 a) Try.func89<|sr<|ck 1<|en<|sr<|ck 5<|gc 2 (decide<|B8 .u8 a 127>=32)<|pA<|ck 1<|en<|re (by cases H;exact pr rd)
end
section
variable (a:(List UInt8)) (b:Int)
def Jf9:St:=⟨(0,.d<|.str a)::[],[]⟩
def Jga:St:=⟨(0,.d<|.str a)::(4,.d<|.int .i64 b)::[],[]⟩
def Jgb:St:=⟨(0,.d<|.str a)::[],[]⟩
def Qx:(Unit⊕(Int×Int))->Ex->St->Prop:=xS (xX 0 0<|λ (_:Unit)=>Jgb a)<|xR ty Try.f77<|λ (y:(Int×Int))=>.tup [.d<|.int .i64 y.1,.d<|.int .i64 y.2]
def KG:Int->St:=(λ (x:Int)=>Jga a x)
variable {a b}
theorem JI (x:Int) (z:(Int⊕(Unit⊕(Int×Int)))) (H:GY n a x=some z):WP (cxk 19 0) (AO Try.f77) [1,0,1,0,0] (AP 0 (KG a) (Qx a) z) (KG a x):=by
 revert H;generalize x=b;intro H;refine sq<|sr<|ck 4<|en<|cn H (λ H=>?_)<|λ H=>?_
 ·refine sk<|qz<|sq<|bk 1<|sr<|ck 2<|bx H λ m e H=>sp (Fb e)<|bx H λ j f H=>ca false (M0 f)<|ck 1<|en<|cn H (λ H=>?_)<|λ H=>?_
  ·exact sr<|ck 3<|en<|re<|qR<|qr (by cases H;exact ro rfl rdT)
  ·exact sk<|qN<|qz<|rz<|ck 3<|ae (by cases H;exact og<|sg [0,4])
 ·exact ex 0<|qx (by cases H;exact xo rfl<|sg [0])
theorem T8 {z} (H:LU n a=some z):AD Try.prog 77 [.d (.str a)] (.tup [.d (.int .i64 z.1),.d (.int .i64 z.2)]):=by
 refine fO 19 (Jf9 a) Try.func77<|sr<|ck 2<|en<|sq<|sr<|ck 1<|en<|bk 0<|bx H λ i c H=>?_;rcases i with k|l
 ·exact lX JI c (sg [0,4]) rfl λ s g=>qH<|qs (g)<|sr<|ck 4<|en<|re (by cases H;exact pr rdT)
 ·exact lR JI c (sg [0,4]) rfl λ s h=>qR<|qr (by cases H;exact pr h)
end
section
variable (a:(List UInt8))
def Jgc:St:=⟨(0,.d<|.str a)::[],[]⟩
variable {a}
theorem Qy {z} (H:Is n a=some z):AD Try.prog 59 [.d (.str a)] (.d (.bool z)):=by
 exact fO 12 (Jgc a) Try.func59<|sr<|ck 1<|en<|sr<|ck 1<|bx H λ c b H=>ca false (T8 b)<|ck 5<|en<|sr<|ck 3<|en<|re (by cases H;exact pr rd)
end
section
variable (a:Int)
def Jgd:St:=⟨(0,.d<|.int .u8 a)::[],[]⟩
variable {a}
theorem SB {z} (H:MQ n a=some z):AD Try.prog 60 [.d (.int .u8 a)] (.d (.bool z)):=by
 exact fO 6 (Jgd a) Try.func60<|sr<|ck 1<|en<|sr<|ck 4<|en<|re (by cases H;exact pr rd)
end
section
variable (a:Ay) (f:Int) (c:Bool) (k:Int) (h:Bool) (e:Bool) (b:Bool) (l:Int) (i:Bool)
def Jge:St:=⟨(0,.agg [.d<|.str a.Print,.d<|.sl<|a.Cells.map eU8,.d<|.int .u8 a.Left,.d<|.int .u8 a.Right,.d<|.int .i64 a.From,.d<|.int .i64 a.To])::(1,.d<|.int .i64 f)::[],[]⟩
def Jgf:St:=⟨(2,.ptr 0 0)::(5,.d<|.bool c)::(6,.d<|.bool false)::(7,.d<|.int .i64 k)::[],[some<|.box<|HJ a]⟩
def Jgg:St:=⟨(2,.ptr 0 0)::(5,.d<|.bool h)::(6,.d<|.bool false)::[],[some<|.box<|HJ a]⟩
def PI:Bool->Ex->St->Prop:=xX 0 0<|λ (y:Bool)=>Jgg a y
def JJ:(Bool×Int)->St:=(λ (x:(Bool×Int))=>Jgf a x.1 x.2)
def Jgh:St:=⟨(2,.ptr 0 0)::(5,.d<|.bool e)::(6,.d<|.bool b)::(8,.d<|.int .i64 l)::[],[some<|.box<|HJ a]⟩
def Jgi:St:=⟨(2,.ptr 0 0)::(5,.d<|.bool e)::(6,.d<|.bool i)::[],[some<|.box<|HJ a]⟩
def PJ:(Bool⊕Bool)->Ex->St->Prop:=xS (xX 0 2<|λ (y:Bool)=>Jgi a e y)<|xR ty Try.f50<|λ (y:Bool)=>.d<|.bool y
def JK:(Bool×Int)->St:=(λ (x:(Bool×Int))=>Jgh a e x.1 x.2)
variable {a f c k h e b l i}
theorem NW (x:(Bool×Int)) (z:((Bool×Int)⊕Bool)) (H:DB n a x.1 x.2=some z):WP (cxk 125 0) (AO Try.f50) [1,1,1,1,0,1,0,0] (AP 0 (JJ a) (PI a) z) (JJ a x):=by
 obtain⟨c,k⟩:=x;refine sq<|sr<|ck 5<|en<|cn H (λ H=>?_)<|λ H=>?_
 ·exact sk<|qz<|sq<|bk 1<|rz<|ck 3<|gc 1 (!c)<|ck 1<|bx H λ K o H=>sE (λ hg=>Fb<|FJ o hg)<|bx H λ C p H=>cG false (leZ) rfl (λ hg=>SB<|FJ p hg) (Or.inl rfl) (Dp (λ hh=>hh)<|Hd) rfl<|pO<|ck 1<|ae<|qN<|qz<|rz<|ck 3<|ae (by cases H;exact og<|sg [2,5,6,7])
 ·exact ex 0<|qx (by cases H;exact xo rfl<|sg [2,5,6])
theorem IT (x:(Bool×Int)) (z:((Bool×Int)⊕(Bool⊕Bool))) (H:CY n a e x.1 x.2=some z):WP (cxk 125 0) (AO Try.f50) [1,1,1,1,1,0,1,0,0] (AP 0 (JK a e) (PJ a e) z) (JK a e x):=by
 obtain⟨b,l⟩:=x;refine sq<|sr<|ck 3<|sp (AT eU8 a.Cells)<|ck 1<|en<|cn H (λ H=>?_)<|λ H=>?_
 ·refine sk<|qz<|sq<|bk 3<|sq<|sr<|ck 3<|bx H λ E q H=>sp (AW eU8 q)<|ck 2<|en<|cn H (λ H=>?_)<|λ H=>?_
  ·exact sr<|ck 1<|en<|re<|qr<|qR<|qr (by cases H;exact ro rfl rd)
  ·exact sk<|qz<|rz<|ck 3<|gc 1 (!b)<|ck 1<|bx H λ G r H=>sE (λ hg=>AW eU8<|FJ r hg)<|gc 2 (!b)<|pO<|ck 1<|ae<|qN<|qz<|rz<|ck 3<|ae (by cases H;exact og<|sg [2,5,6,8])
 ·exact ex 2<|qx (by cases H;exact xo rfl<|sg [2,5,6])
theorem SC {z} (H:J8 n a f=some z):AD Try.prog 50 [.agg (HJ a),.d (.int .i64 f)] (.d (.bool z)):=by
 refine fO 125 (Jge a f) Try.func50<|sr<|ck 2<|en<|sq<|sr<|ck 2<|bx H λ j t H=>ca false (Qy t)<|ck 3<|gc 3 (!(!j))<|pO<|ck 2<|gc 1 (!((!j)||(decide<|((a.Print.length:Nat):Int)>4)))<|sE (g:=(!((!j)||(decide<|((a.Print.length:Nat):Int)>4)))) (λ hg=>AT eU8 a.Cells)<|gc 1 (!((!j)||(decide<|((a.Print.length:Nat):Int)>4)))<|pO<|ck 2<|gc 1 (!(((!j)||(decide<|((a.Print.length:Nat):Int)>4))||(decide<|((a.Cells.length:Nat):Int)<1)))<|sE (g:=(!(((!j)||(decide<|((a.Print.length:Nat):Int)>4))||(decide<|((a.Cells.length:Nat):Int)<1)))) (λ hg=>AT eU8 a.Cells)<|gc 1 (!(((!j)||(decide<|((a.Print.length:Nat):Int)>4))||(decide<|((a.Cells.length:Nat):Int)<1)))<|pO<|en<|cn H (λ H=>?_)<|λ H=>?_
 ·exact sr<|ck 1<|en<|re<|qr (by cases H;exact pr rd)
 ·refine sk<|qz<|sq<|sr<|ck 5<|gc 2 (!(decide<|a.Left<1))<|pO<|ck 2<|gc 2 (!((decide<|a.Left<1)||(decide<|a.Left>63)))<|pO<|ck 2<|gc 2 (!(((decide<|a.Left<1)||(decide<|a.Left>63))||(decide<|a.Right<1)))<|pO<|ck 2<|gc 2 (!((((decide<|a.Left<1)||(decide<|a.Left>63))||(decide<|a.Right<1))||(decide<|a.Right>63)))<|pO<|ck 2<|gc 1 (!(((((decide<|a.Left<1)||(decide<|a.Left>63))||(decide<|a.Right<1))||(decide<|a.Right>63))||(decide<|a.From<0)))<|ck 1<|gc 1 (!(((((decide<|a.Left<1)||(decide<|a.Left>63))||(decide<|a.Right<1))||(decide<|a.Right>63))||(decide<|a.From<0)))<|pO<|ck 2<|gc 2 (!((((((decide<|a.Left<1)||(decide<|a.Left>63))||(decide<|a.Right<1))||(decide<|a.Right>63))||(decide<|a.From<0))||(decide<|a.From>=f)))<|pO<|ck 2<|gc 1 (!(((((((decide<|a.Left<1)||(decide<|a.Left>63))||(decide<|a.Right<1))||(decide<|a.Right>63))||(decide<|a.From<0))||(decide<|a.From>=f))||(decide<|a.To<0)))<|ck 1<|gc 1 (!(((((((decide<|a.Left<1)||(decide<|a.Left>63))||(decide<|a.Right<1))||(decide<|a.Right>63))||(decide<|a.From<0))||(decide<|a.From>=f))||(decide<|a.To<0)))<|pO<|en<|cn H (λ H=>?_)<|λ H=>?_
  ·exact sr<|ck 1<|en<|re<|qr (by cases H;exact pr rd)
  ·refine sk<|qz<|sr<|ck 2<|en<|sq<|sr<|ck 1<|en<|bk 0<|bx H λ e u H=>lX NW u (sg [2,5,6,7]) rfl λ s v=>qH<|qs (v)<|sq<|sr<|ck 1<|en<|bk 2<|bx H λ B m H=>?_;rcases B with I|J
   ·refine lX IT m (sg [2,5,6,8]) rfl λ s w=>qH<|qs (w)<|sq<|sr<|ck 2<|en<|cn H (λ H=>?_)<|λ H=>?_
    ·exact sr<|ck 3<|en<|re<|qr (by cases H;exact pr rd)
    ·exact sk<|qz<|sr<|ck 6<|gc 1 (((a.Print.length:Nat):Int)==1)<|sE (g:=(((a.Print.length:Nat):Int)==1)) (λ hg=>AT eU8 a.Cells)<|gc 1 (((a.Print.length:Nat):Int)==1)<|pA<|ck 2<|pA<|ck 1<|en<|re (by cases H;exact pr rd)
   ·exact lR IT m (sg [2,5,6,8]) rfl λ s A=>qR<|qr (by cases H;exact pr A)
end
section
variable (a:Ay) (b:Ay)
def Jgj:St:=⟨(0,.agg [.d<|.str a.Print,.d<|.sl<|a.Cells.map eU8,.d<|.int .u8 a.Left,.d<|.int .u8 a.Right,.d<|.int .i64 a.From,.d<|.int .i64 a.To])::(1,.agg [.d<|.str b.Print,.d<|.sl<|b.Cells.map eU8,.d<|.int .u8 b.Left,.d<|.int .u8 b.Right,.d<|.int .i64 b.From,.d<|.int .i64 b.To])::[],[]⟩
variable {a b}
theorem NX {z} (H:FW n a b=some z):AD Try.prog 51 [.agg (HJ a),.agg (HJ b)] (.d (.bool z)):=by
 exact fO 45 (Jgj a b) Try.func51<|sr<|ck 3<|en<|sr<|ck 7<|gc 1 (a.Print==b.Print)<|ck 1<|gc 1 (a.Print==b.Print)<|bx H λ c e H=>cG false (leZ) rfl (λ hg=>HS<|FJ e hg) (Or.inl rfl) (Dp (λ hh=>hh)<|Dp (λ hh=>hh)<|Hd) rfl<|pA<|ck 2<|gc 1 ((a.Print==b.Print)&&c)<|ck 1<|gc 2 ((a.Print==b.Print)&&c)<|pA<|ck 2<|gc 1 (((a.Print==b.Print)&&c)&&(a.Left==b.Left))<|ck 1<|gc 2 (((a.Print==b.Print)&&c)&&(a.Left==b.Left))<|pA<|ck 2<|gc 1 ((((a.Print==b.Print)&&c)&&(a.Left==b.Left))&&(a.Right==b.Right))<|ck 1<|gc 2 ((((a.Print==b.Print)&&c)&&(a.Left==b.Left))&&(a.Right==b.Right))<|pA<|ck 2<|gc 1 (((((a.Print==b.Print)&&c)&&(a.Left==b.Left))&&(a.Right==b.Right))&&(a.From==b.From))<|ck 1<|gc 2 (((((a.Print==b.Print)&&c)&&(a.Left==b.Left))&&(a.Right==b.Right))&&(a.From==b.From))<|pA<|ck 1<|en<|re (by cases H;exact pr rd)
end
section
variable (a:Ab) (b:Int) (f:Int)
def Jgk:St:=⟨(0,.agg [.d<|.int .i64 a.Modes,.d<|.int .u8 a.Accept,.d<|.sl<|a.Rules.map As])::[],[]⟩
def Jgl:St:=⟨(1,.ptr 0 0)::(4,.d<|.int .i64 b)::[],[some<|.box<|A8 a]⟩
def Jgm:St:=⟨[],[]⟩
def Jgn:St:=⟨(1,.ptr 0 0)::(4,.d<|.int .i64 b)::(5,.d<|.int .i64 f)::[],[some<|.box<|A8 a]⟩
def Jgo:St:=⟨(1,.ptr 0 0)::(4,.d<|.int .i64 b)::[],[some<|.box<|A8 a]⟩
def PK:(Unit⊕(Int×Int))->Ex->St->Prop:=xS (xX 0 2<|λ (_:Unit)=>Jgo a b)<|xR ty Try.f38<|λ (y:(Int×Int))=>.tup [.d<|.int .i64 y.1,.d<|.int .i64 y.2]
def JL:Int->St:=(λ (x:Int)=>Jgn a b x)
def PL:(Unit⊕(Int×Int))->Ex->St->Prop:=xS (xX 0 0<|λ (_:Unit)=>Jgm)<|xR ty Try.f38<|λ (y:(Int×Int))=>.tup [.d<|.int .i64 y.1,.d<|.int .i64 y.2]
def JM:Int->St:=(λ (x:Int)=>Jgl a x)
variable {a b f}
theorem IU (x:Int) (z:(Int⊕(Unit⊕(Int×Int)))) (H:EF n a b x=some z):WP (cxk 74 0) (AO Try.f38) [1,1,0,1,0,0,1,0,0,1,1,0,0] (AP 0 (JL a b) (PK a b) z) (JL a b x):=by
 revert H;generalize x=f;intro H;refine sq<|sr<|ck 3<|en<|cn H (λ H=>?_)<|λ H=>?_
 ·refine sk<|qz<|sq<|bk 3<|sr<|ck 3<|bx H λ w h H=>sp (AW As h)<|ck 4<|bx H λ A i H=>sp (AW As i)<|ck 1<|bx H λ B j H=>ca false (NX j)<|en<|cn H (λ H=>?_)<|λ H=>?_
  ·exact sr<|ck 3<|en<|re<|qR<|qr (by cases H;exact ro rfl rdT)
  ·exact sk<|qN<|qz<|rz<|ck 3<|ae (by cases H;exact og<|sg [1,4,5])
 ·exact ex 2<|qx (by cases H;exact xo rfl<|sg [1,4])
theorem IV (x:Int) (z:(Int⊕(Unit⊕(Int×Int)))) (H:EG n a x=some z):WP (cxk 74 0) (AO Try.f38) [1,1,0,1,0,0] (AP 0 (JM a) (PL) z) (JM a x):=by
 revert H;generalize x=b;intro H;refine sq<|sr<|ck 3<|sp (AT As a.Rules)<|ck 1<|en<|cn H (λ H=>?_)<|λ H=>?_
 ·refine sk<|qz<|sq<|bk 1<|sq<|sr<|ck 3<|bx H λ C k H=>sp (AW As k)<|ck 3<|bx H λ E l H=>ca false (SC l)<|ck 1<|en<|cn H (λ H=>?_)<|λ H=>?_
  ·exact sr<|ck 3<|en<|re<|qr<|qR<|qr (by cases H;exact ro rfl rdT)
  ·refine sk<|qz<|sr<|ck 1<|en<|bk 2<|bx H λ t c H=>?_;rcases t with G|I
   ·exact lX IU c (sg [1,4,5]) rfl λ s m=>qH<|qN<|qs (m)<|rz<|ck 3<|ae (by cases H;exact og<|sg [1,4])
   ·exact lR IU c (sg [1,4,5]) rfl λ s o=>qR<|qR<|qr (by cases H;exact ro rfl o)
 ·exact ex 0<|qx (by cases H;exact xo rfl<|sg [])
theorem SD {z} (H:J9 n a=some z):AD Try.prog 38 [.agg (A8 a)] (.tup [.d (.int .i64 z.1),.d (.int .i64 z.2)]):=by
 refine fO 74 (Jgk a) Try.func38<|sr<|ck 3<|en<|sq<|sr<|ck 5<|gc 2 (!(decide<|a.Modes<1))<|pO<|ck 2<|gc 2 (!((decide<|a.Modes<1)||(decide<|a.Modes>8)))<|pO<|ck 2<|gc 2 (!(((decide<|a.Modes<1)||(decide<|a.Modes>8))||(a.Accept==0)))<|ck 1<|gc 1 (!(((decide<|a.Modes<1)||(decide<|a.Modes>8))||(a.Accept==0)))<|bx H λ v p H=>soG (λ hg=>Fu<|FJ p hg) (Dp (λ hh=>hh)<|Hd)<|gc 1 (!(((decide<|a.Modes<1)||(decide<|a.Modes>8))||(a.Accept==0)))<|pO<|ck 2<|gc 1 (!((((decide<|a.Modes<1)||(decide<|a.Modes>8))||(a.Accept==0))||(decide<|IntKind.i64.wrap a.Accept>=Hc .i64 1 a.Modes)))<|sE (g:=(!((((decide<|a.Modes<1)||(decide<|a.Modes>8))||(a.Accept==0))||(decide<|IntKind.i64.wrap a.Accept>=Hc .i64 1 a.Modes)))) (λ hg=>AT As a.Rules)<|gc 1 (!((((decide<|a.Modes<1)||(decide<|a.Modes>8))||(a.Accept==0))||(decide<|IntKind.i64.wrap a.Accept>=Hc .i64 1 a.Modes)))<|pO<|ck 2<|gc 1 (!(((((decide<|a.Modes<1)||(decide<|a.Modes>8))||(a.Accept==0))||(decide<|IntKind.i64.wrap a.Accept>=Hc .i64 1 a.Modes))||(decide<|((a.Rules.length:Nat):Int)<1)))<|sE (g:=(!(((((decide<|a.Modes<1)||(decide<|a.Modes>8))||(a.Accept==0))||(decide<|IntKind.i64.wrap a.Accept>=Hc .i64 1 a.Modes))||(decide<|((a.Rules.length:Nat):Int)<1)))) (λ hg=>AT As a.Rules)<|gc 1 (!(((((decide<|a.Modes<1)||(decide<|a.Modes>8))||(a.Accept==0))||(decide<|IntKind.i64.wrap a.Accept>=Hc .i64 1 a.Modes))||(decide<|((a.Rules.length:Nat):Int)<1)))<|pO<|en<|cn H (λ H=>?_)<|λ H=>?_
 ·exact sr<|ck 2<|en<|re<|qr (by cases H;exact pr rdT)
 ·refine sk<|qz<|sq<|sr<|ck 1<|en<|bk 0<|bx H λ u e H=>?_;rcases u with J|K
  ·exact lX IV e (sg [1,4]) rfl λ s q=>qH<|qs (q)<|sr<|ck 2<|en<|re (by cases H;exact pr rdT)
  ·exact lR IV e (sg [1,4]) rfl λ s r=>qR<|qr (by cases H;exact pr r)
end
section
variable (a:Ab)
def Jgp:St:=⟨(0,.agg [.d<|.int .i64 a.Modes,.d<|.int .u8 a.Accept,.d<|.sl<|a.Rules.map As])::[],[]⟩
variable {a}
theorem SE {z} (H:MR n a=some z):AD Try.prog 22 [.agg (A8 a)] (.d (.bool z)):=by
 exact fO 12 (Jgp a) Try.func22<|sr<|ck 2<|en<|sr<|ck 1<|bx H λ c b H=>ca false (SD b)<|ck 5<|en<|sr<|ck 3<|en<|re (by cases H;exact pr rd)
end
section
variable (b:I1) (a:Ab) (j:Ab) (h:Int) (q:Ab) (m:Ab) (i:Ab) (g:Int) (r:Ab) (o:Ab) (p:Ab)
def Jip:St:=⟨(0,.agg [.d<|.int .u8 b.Base,.d<|.int .u8 b.Drop,.d<|.sl<|b.More.map Eh])::[],[]⟩
def Jiq:St:=⟨(1,.ptr 0 0)::(2,.ptr 1 0)::(3,.ptr 2 0)::(4,.osl 3 6 0<|a.Rules.length)::(5,.d<|.int .i64 h)::[],[some<|.box<|VM b,some<|.box [.d<|.int .i64 0,.d<|.int .u8 0,.osl 4 6 0<|List.length ([]:List Ay)],some<|.box<|Gl j<|.osl 5 6 0<|j.Rules.length,some<|.arr 6<|a.Rules.map As,some<|.arr 6<|List.map As ([]:List Ay),some<|.arr 6<|j.Rules.map As]⟩
def Jir:St:=⟨(1,.ptr 0 0)::(2,.ptr 1 0)::(3,.ptr 2 0)::(4,.osl 3 6 0<|a.Rules.length)::[],[some<|.box<|VM b,some<|.box [.d<|.int .i64 0,.d<|.int .u8 0,.osl 4 6 0<|List.length ([]:List Ay)],some<|.box<|Gl q<|.osl 5 6 0<|q.Rules.length,some<|.arr 6<|a.Rules.map As,some<|.arr 6<|List.map As ([]:List Ay),some<|.arr 6<|q.Rules.map As]⟩
def Jis:St:=⟨(1,.ptr 0 0)::(2,.ptr 1 0)::(3,.ptr 2 0)::(4,.osl 3 6 0<|a.Rules.length)::(5,.d<|.int .i64 h)::[],[some<|.box<|VM b,some<|.box [.d<|.int .i64 0,.d<|.int .u8 0,.osl 4 6 0<|List.length ([]:List Ay)],some<|.box<|Gl m<|.osl 5 6 0<|m.Rules.length,some<|.arr 6<|a.Rules.map As,some<|.arr 6<|List.map As ([]:List Ay),some<|.arr 6<|m.Rules.map As]⟩
def Qz:Ab->Ex->St->Prop:=xX 0 0<|λ (y:Ab)=>Jir b a y
def KH:(Ab×Int)->St:=(λ (x:(Ab×Int))=>Jiq b a x.1 x.2)
def Jit:St:=⟨(1,.ptr 0 0)::(2,.ptr 1 0)::(3,.ptr 2 0)::(4,.osl 3 6 0<|a.Rules.length)::(6,.d<|.int .i64 g)::[],[some<|.box<|VM b,some<|.box [.d<|.int .i64 0,.d<|.int .u8 0,.osl 4 6 0<|List.length ([]:List Ay)],some<|.box<|Gl i<|.osl 5 6 0<|i.Rules.length,some<|.arr 6<|a.Rules.map As,some<|.arr 6<|List.map As ([]:List Ay),some<|.arr 6<|i.Rules.map As]⟩
def Jiu:St:=⟨(2,.ptr 0 0)::(3,.ptr 1 0)::(4,.osl 2 6 0<|a.Rules.length)::[],[some<|.box [.d<|.int .i64 0,.d<|.int .u8 0,.osl 3 6 0<|List.length ([]:List Ay)],some<|.box<|Gl r<|.osl 4 6 0<|r.Rules.length,some<|.arr 6<|a.Rules.map As,some<|.arr 6<|List.map As ([]:List Ay),some<|.arr 6<|r.Rules.map As]⟩
def Jiv:St:=⟨(1,.ptr 0 0)::(2,.ptr 1 0)::(3,.ptr 2 0)::(4,.osl 3 6 0<|a.Rules.length)::(6,.d<|.int .i64 g)::[],[some<|.box<|VM b,some<|.box [.d<|.int .i64 0,.d<|.int .u8 0,.osl 4 6 0<|List.length ([]:List Ay)],some<|.box<|Gl o<|.osl 5 6 0<|o.Rules.length,some<|.arr 6<|a.Rules.map As,some<|.arr 6<|List.map As ([]:List Ay),some<|.arr 6<|o.Rules.map As]⟩
def QA:Ab->Ex->St->Prop:=xX 0 2<|λ (y:Ab)=>Jiu a y
def KI:(Ab×Int)->St:=(λ (x:(Ab×Int))=>Jit b a x.1 x.2)
def Jiw:St:=⟨(2,.ptr 0 0)::(3,.ptr 1 0)::[],[some<|.box [.d<|.int .i64 0,.d<|.int .u8 0,.osl 2 6 0<|List.length ([]:List Ay)],some<|.box<|Gl p<|.osl 3 6 0<|p.Rules.length,some<|.arr 6<|List.map As ([]:List Ay),some<|.arr 6<|p.Rules.map As]⟩
variable {b a j h q m i g r o p}
theorem PM (x:(Ab×Int)) (z:((Ab×Int)⊕Ab)) (H:CO n b a x.1 x.2=some z):WP (cxk 77 0) (AO Try.f8) [1,1,1,1,0,1,0,0] (AP 0 (KH b a) (Qz b a) z) (KH b a x):=by
 obtain⟨j,h⟩:=x;refine sq<|sr<|ck 4<|en<|cn H (λ H=>?_)<|λ H=>?_
 ·refine sk<|qz<|sj (λ (x:Ab)=>Jis b a h x) (λ (x:Ab)=>Ds n h x) z ?_ (λ c=>?_)
  ·intro m H;exact rz<|ck 3<|ae (by cases H;exact og<|sg [1,2,3,4,5])
  refine bk 1<|sr<|ck 3<|bx H λ R B H=>so (Fu B)<|ck 2<|en<|cn H (λ H=>?_)<|λ H=>?_
  ·exact rz<|ck 4<|bx H λ U t H=>sp (Bc 3 6 t)<|sp (Cb As 3 0 (ty 66) t)<|ck 1<|bx H λ Q C H=>sp (Cc As 5 6 C)<|ck 2<|ae<|qN<|qs (sg [1,2,3,4,5])<|c ({ Modes:=j.Modes,Accept:=j.Accept,Rules:=Q }:Ab) H
  ·exact sk<|qN<|qs (sg [1,2,3,4,5])<|c j H
 ·exact ex 0<|qx (by cases H;exact xo rfl<|sg [1,2,3,4])
theorem PN (x:(Ab×Int)) (z:((Ab×Int)⊕Ab)) (H:CP n b a x.1 x.2=some z):WP (cxk 77 0) (AO Try.f8) [1,1,1,1,1,0,1,0,0] (AP 0 (KI b a) (QA a) z) (KI b a x):=by
 obtain⟨i,g⟩:=x;refine sq<|sr<|ck 3<|sp (AT Eh b.More)<|ck 3<|gc 1 (decide<|g<((b.More.length:Nat):Int))<|pA<|en<|cn H (λ H=>?_)<|λ H=>?_
 ·refine sk<|qz<|sj (λ (x:Ab)=>Jiv b a g x) (λ (x:Ab)=>Dt n g x) z ?_ (λ e=>?_)
  ·intro o H;exact rz<|ck 3<|ae (by cases H;exact og<|sg [1,2,3,4,6])
  refine bk 3<|sr<|ck 5<|bx H λ V E H=>sp (AW Eh E)<|ck 3<|bx H λ S G H=>ca false (T7 G)<|ck 1<|bx H λ u I H=>sp (Cc As 5 6 I)<|ck 2<|en<|sr<|ck 1<|bx H λ T J H=>cb (ks:=[7]) (obl:=[(0+List.length u,List.length<|u.map As)]) false (leK leM<|leZ) (Jr (JiK<|Jr rfl<|Jr rfl<|Jr TO rfl) rfl) (SE J) (Or.inr trivial) rfl<|ck 1<|en<|cn H (λ H=>?_)<|λ H=>?_
  ·exact rz<|ck 6<|bx H λ w l H=>sp (Vu 7 6 l)<|ck 2<|ae<|qN<|qs (tr (JcE (k:=7) (sz:=6) 2 2 (w.map As) (w.length) (by kernel_rfl) (Wk l) (Zx (enc:=As) l)<|Wl l)<|sg [1,2,3,4,6])<|e ({ Modes:=i.Modes,Accept:=i.Accept,Rules:=w }:Ab) H
  ·exact sk<|qN<|qs (sg [1,2,3,4,6])<|e ({ Modes:=i.Modes,Accept:=i.Accept,Rules:=u }:Ab) H
 ·exact ex 2<|qx (by cases H;exact xo rfl<|sg [2,3,4])
theorem T9 {z} (H:FA n b=some z):AD Try.prog 8 [.agg (VM b)] (.agg [.d (.int .i64 z.Modes),.d (.int .u8 z.Accept),.own 6 (z.Rules.map As)]):=by
 refine fO 77 (Jip b) Try.func8<|sr<|ck 2<|en<|sr<|ck 2<|bx H λ a K H=>cl [List.length a.Rules] (NG K)<|ck 2<|en<|sr<|ck 3<|en<|sr<|ck 3<|en<|sq<|sr<|ck 1<|en<|bk 0<|bx H λ W L H=>lX PM L (tr (Ez 1 2 6 (by kernel_rfl))<|sg [1,2,3,4,5]) rfl λ s M=>qH<|qs (M)<|sq<|sr<|ck 1<|en<|bk 2<|bx H λ A O H=>lX PN O (sg [1,2,3,4,6]) rfl λ s P=>qH<|qs (P)<|sj (λ (x:Ab)=>Jiw x) (λ (x:Ab)=>Eg n x) z ?_ (λ f=>?_)
 ·intro p H;exact sr<|ck 2<|en<|re (by cases H;exact pr<|rO (v:=.agg [.d<|.int .i64 z.Modes,.d<|.int .u8 z.Accept,.osl 3 6 0<|z.Rules.length]) [3]<|a1<|c1 vd<|c1 vd<|c1 vo<|c0)
 refine sr<|ck 4<|en<|cn H (λ H=>?_)<|λ H=>?_
 ·exact rz<|ck 3<|ae<|qs (sg [2,3])<|f ({ Modes:=A.Modes,Accept:=A.Accept,Rules:=a.Rules }:Ab) H
 ·exact sk<|qs (sg [2,3])<|f A H
end
def Jgq:St:=⟨[],[]⟩
theorem SF {z} (H:Rh n=some z):AD Try.prog 26 [] (.agg [.d (.int .i64 z.Mode),.d (.int .i64 z.Last),.d (.int .u8 z.Need)]):=by
 exact fO 2 Jgq Try.func26<|sr<|ck 1<|en<|sr<|ck 2<|en<|re (by cases H;exact pr rd)
section
variable (b:Int) (a:Int)
def Jgr:St:=⟨(0,.d<|.int .u8 b)::(1,.d<|.int .i64 a)::[],[]⟩
variable {b a}
theorem IC {z} (H:Iu n b a=some z):AD Try.prog 48 [.d (.int .u8 b),.d (.int .i64 a)] (.d (.bool z)):=by
 exact fO 18 (Jgr b a) Try.func48<|sr<|ck 1<|en<|sr<|ck 4<|gc 1 (decide<|a>=0)<|pA<|ck 3<|bx H λ e c H=>soG (λ hg=>Fu<|FJ c hg) (Dp (λ hh=>hh)<|Dp (λ hh=>hh)<|Hd)<|gc 2 ((decide<|a>=0)&&(decide<|a<8))<|pA<|ck 1<|en<|re (by cases H;exact pr rd)
end
section
variable (b:Ab) (a:Ae)
def Jgs:St:=⟨(0,.agg [.d<|.int .i64 b.Modes,.d<|.int .u8 b.Accept,.d<|.sl<|b.Rules.map As])::(1,.agg [.d<|.int .i64 a.Mode,.d<|.int .i64 a.Last,.d<|.int .u8 a.Need])::[],[]⟩
variable {b a}
theorem PO {z} (H:GZ n b a=some z):AD Try.prog 32 [.agg (A8 b),.agg (D9 a)] (.d (.bool z)):=by
 exact fO 27 (Jgs b a) Try.func32<|sr<|ck 3<|en<|sr<|ck 5<|gc 1 (decide<|a.Mode>=0)<|ck 1<|gc 2 (decide<|a.Mode>=0)<|pA<|ck 2<|gc 1 ((decide<|a.Mode>=0)&&(decide<|a.Mode<b.Modes))<|ck 1<|gc 1 ((decide<|a.Mode>=0)&&(decide<|a.Mode<b.Modes))<|bx H λ c e H=>cG false (leZ) rfl (λ hg=>IC<|FJ e hg) (Or.inl rfl) (Dp (λ hh=>hh)<|Dp (λ hh=>hh)<|Hd) rfl<|pA<|ck 2<|gc 1 (((decide<|a.Mode>=0)&&(decide<|a.Mode<b.Modes))&&c)<|bx H λ g f H=>cG false (leZ) rfl (λ hg=>IC<|FJ f hg) (Or.inl rfl) (Dp (λ hh=>hh)<|Hd) rfl<|pA<|ck 1<|en<|re (by cases H;exact pr rd)
end
section
variable (a:Int)
def Jgt:St:=⟨(0,.d<|.int .u8 a)::[],[]⟩
variable {a}
theorem L6 {z} (H:HH n a=some z):AD Try.prog 49 [.d (.int .u8 a)] (.d (.int .i64 z)):=by
 refine fO 26 (Jgt a) Try.func49<|sr<|ck 1<|en<|sr<|ck 3<|en<|sq<|sr<|ck 4<|gc 1 (decide<|B8 .u8 a 127>=97)<|pA<|en<|cn H (λ H=>?_)<|λ H=>?_
 ·exact sr<|ck 1<|en<|re<|qr (by cases H;exact pr rd)
 ·refine sk<|qz<|sq<|sr<|ck 4<|gc 1 (decide<|B8 .u8 a 127>=65)<|pA<|en<|cn H (λ H=>?_)<|λ H=>?_
  ·exact sr<|ck 1<|en<|re<|qr (by cases H;exact pr rd)
  ·refine sk<|qz<|sq<|sr<|ck 4<|gc 1 (decide<|B8 .u8 a 127>=48)<|pA<|en<|cn H (λ H=>?_)<|λ H=>?_
   ·exact sr<|ck 1<|en<|re<|qr (by cases H;exact pr rd)
   ·refine sk<|qz<|sq<|sr<|ck 2<|en<|cn H (λ H=>?_)<|λ H=>?_
    ·exact sr<|ck 1<|en<|re<|qr (by cases H;exact pr rd)
    ·exact sk<|qz<|sr<|ck 1<|en<|re (by cases H;exact pr rd)
end
end Go.AI
end
section
namespace Go.AI
open Go.Proofs
set_option maxRecDepth 10000
variable {n:Nat}
section
variable (b:Ab) (a:Ae) (c:Int)
def Jgu:St:=⟨(0,.agg [.d<|.int .i64 b.Modes,.d<|.int .u8 b.Accept,.d<|.sl<|b.Rules.map As])::(1,.agg [.d<|.int .i64 a.Mode,.d<|.int .i64 a.Last,.d<|.int .u8 a.Need])::(2,.d<|.int .i64 c)::[],[]⟩
variable {b a c}
theorem NJ {z} (H:Jx n b a c=some z):AD Try.prog 33 [.agg (A8 b),.agg (D9 a),.d (.int .i64 c)] (.tup [.agg [.d (.int .i64 z.1.Mode),.d (.int .i64 z.1.Last),.d (.int .u8 z.1.Need)],.d (.bool z.2)]):=by
 refine fO 87 (Jgu b a c) Try.func33<|sr<|ck 4<|en<|sq<|sr<|ck 5<|gc 1 (!(decide<|c<0))<|sE (g:=(!(decide<|c<0))) (λ hg=>AT As b.Rules)<|gc 1 (!(decide<|c<0))<|pO<|en<|cn H (λ H=>?_)<|λ H=>?_
 ·exact sr<|ck 3<|en<|re<|qr (by cases H;exact pr rdT)
 ·refine sk<|qz<|sr<|ck 3<|bx H λ e f H=>sp (AW As f)<|ck 3<|en<|sq<|sr<|ck 7<|gc 1 (!(e.From != a.Mode))<|ck 1<|gc 1 (!(e.From != a.Mode))<|bx H λ o h H=>cG false (leZ) rfl (λ hg=>IC<|FJ h hg) (Or.inl rfl) (Dp (λ hh=>hh)<|Dp (λ hh=>hh)<|Hd) rfl<|gc 1 (!(e.From != a.Mode))<|pO<|en<|cn H (λ H=>?_)<|λ H=>?_
  ·exact sr<|ck 3<|en<|re<|qr (by cases H;exact pr rdT)
  ·refine sk<|qz<|sq<|sr<|ck 6<|gc 1 (((e.Print.length:Nat):Int)==0)<|ck 1<|gc 3 (((e.Print.length:Nat):Int)==0)<|pA<|en<|cn H (λ H=>?_)<|λ H=>?_
   ·exact sr<|ck 3<|en<|re<|qr (by cases H;exact pr rdT)
   ·refine sk<|qz<|sq<|sr<|ck 4<|en<|cn H (λ H=>?_)<|λ H=>?_
    ·exact sr<|ck 12<|en<|re<|qr (by cases H;exact pr rdT)
    ·refine sk<|qz<|sq<|sr<|ck 4<|bx H λ t i H=>sp (Fb i)<|bx H λ p j H=>ca false (L6 j)<|bx H λ q k H=>ca false (IC k)<|ck 1<|en<|cn H (λ H=>?_)<|λ H=>?_
     ·exact sr<|ck 3<|en<|re<|qr (by cases H;exact pr rdT)
     ·exact sk<|qz<|sr<|ck 8<|bx H λ s l H=>sp (Fb l)<|bx H λ r m H=>ca false (L6 m)<|ck 5<|en<|re (by cases H;exact pr rdT)
end
section
variable (a:Int) (b:Int)
def Jgv:St:=⟨(0,.d<|.int .u8 a)::(1,.d<|.int .i64 b)::[],[]⟩
variable {a b}
theorem K7 {z} (H:Ka n a b=some z):AD Try.prog 44 [.d (.int .u8 a),.d (.int .i64 b)] (.d (.bool z)):=by
 exact fO 11 (Jgv a b) Try.func44<|sr<|ck 1<|en<|sr<|ck 3<|bx H λ e c H=>so (Fu c)<|ck 3<|en<|re (by cases H;exact pr rd)
end
section
variable (a:Ao) (c:Int) (f:Int) (e:Int) (i:Int) (h:Int)
def Jgw:St:=⟨(0,.agg [.d<|.int .u8 a.Up,.d<|.int .u8 a.Maybe])::(1,.d<|.int .u8 c)::[],[]⟩
def Jgx:St:=⟨(1,.d<|.int .u8 c)::(2,.ptr 0 0)::(5,.d<|.int .i64 f)::(6,.d<|.int .i64 e)::[],[some<|.box [.d<|.int .u8 a.Up,.d<|.int .u8 a.Maybe]]⟩
def Jgy:St:=⟨(5,.d<|.int .i64 i)::[],[]⟩
def Jgz:St:=⟨(1,.d<|.int .u8 c)::(2,.ptr 0 0)::(5,.d<|.int .i64 h)::(6,.d<|.int .i64 e)::[],[some<|.box [.d<|.int .u8 a.Up,.d<|.int .u8 a.Maybe]]⟩
def QB:Int->Ex->St->Prop:=xX 0 0<|λ (y:Int)=>Jgy y
def KJ:(Int×Int)->St:=(λ (x:(Int×Int))=>Jgx a c x.1 x.2)
variable {a c f e i h}
theorem PP (x:(Int×Int)) (z:((Int×Int)⊕Int)) (H:FB n a c x.1 x.2=some z):WP (cxk 29 0) (AO Try.f28) [1,1,0,1,0,0] (AP 0 (KJ a c) (QB) z) (KJ a c x):=by
 obtain⟨f,e⟩:=x;refine sq<|sr<|ck 2<|en<|cn H (λ H=>?_)<|λ H=>?_
 ·refine sk<|qz<|sj (λ (x:Int)=>Jgz a c e x) (λ (x:Int)=>G0 n e x) z ?_ (λ b=>?_)
  ·intro h H;exact rz<|ck 3<|ae (by cases H;exact og<|sg [1,2,5,6])
  refine bk 1<|sr<|ck 3<|bx H λ g j H=>ca false (K7 j)<|ck 3<|gc 1 (!g)<|ck 1<|bx H λ p k H=>cG false (leZ) rfl (λ hg=>K7<|FJ k hg) (Or.inl rfl) (Dp (λ hh=>hh)<|Dp (λ hh=>hh)<|Hd) rfl<|ck 2<|bx H λ q l H=>cG false (leZ) rfl (λ hg=>K7<|FJ l hg) (Or.inl rfl) (Dp (λ hh=>hh)<|Dp (λ hh=>hh)<|Hd) rfl<|gc 1 (!g)<|pA<|en<|cn H (λ H=>?_)<|λ H=>?_
  ·exact rz<|ck 3<|ae<|qN<|qs (sg [1,2,5,6])<|b (AX .i64 f 1) H
  ·exact sk<|qN<|qs (sg [1,2,5,6])<|b f H
 ·exact ex 0<|qx (by cases H;exact xo rfl<|sg [5])
theorem Ua {z} (H:LW n a c=some z):AD Try.prog 28 [.agg [.d (.int .u8 a.Up),.d (.int .u8 a.Maybe)],.d (.int .u8 c)] (.d (.int .i64 z)):=by
 exact fO 29 (Jgw a c) Try.func28<|sr<|ck 2<|en<|sr<|ck 1<|en<|sq<|sr<|ck 1<|en<|bk 0<|bx H λ r m H=>lX PP m (sg [1,2,5,6]) rfl λ s o=>qH<|qs (o)<|sr<|ck 2<|en<|re (by cases H;exact pr rd)
end
section
variable (c:Ab) (g:(List Int)) (h:Int) (f:Ae) (a:(List Int)) (b:(List UInt8)) (e:Int) (i:(List Int)) (o:Int) (m:(List Int)) (l:(List Int)) (p:(List Int)) (t:Int)
def JgA:St:=⟨(0,.agg [.d<|.int .i64 c.Modes,.d<|.int .u8 c.Accept,.d<|.sl<|c.Rules.map As])::(1,.d<|.sl<|g.map eU8)::(2,.d<|.int .i64 h)::[],[]⟩
def JgB:St:=⟨(1,.d<|.sl<|g.map eU8)::(2,.d<|.int .i64 h)::(3,.ptr 0 0)::(9,.ptr 1 0)::(10,.osl 2 1 0<|a.length)::(11,.d<|.str b)::(12,.d<|.int .i64 e)::[],[some<|.box<|A8 c,some<|.box<|D9 f,some<|.arr 1<|a.map eU8]⟩
def JgC:St:=⟨[],[]⟩
def JgD:St:=⟨(1,.d<|.sl<|g.map eU8)::(2,.d<|.int .i64 h)::(3,.ptr 0 0)::(9,.ptr 1 0)::(10,.osl 2 1 0<|a.length)::(11,.d<|.str b)::(12,.d<|.int .i64 e)::(13,.osl 3 1 0<|i.length)::(14,.d<|.int .i64 o)::[],[some<|.box<|A8 c,some<|.box<|D9 f,some<|.arr 1<|a.map eU8,some<|.arr 1<|i.map AY]⟩
def JgE:St:=⟨(1,.d<|.sl<|g.map eU8)::(2,.d<|.int .i64 h)::(3,.ptr 0 0)::(9,.ptr 1 0)::(10,.osl 2 1 0<|a.length)::(11,.d<|.str b)::(12,.d<|.int .i64 e)::(13,.osl 3 1 0<|m.length)::[],[some<|.box<|A8 c,some<|.box<|D9 f,some<|.arr 1<|a.map eU8,some<|.arr 1<|m.map AY]⟩
def JgF:St:=⟨(1,.d<|.sl<|g.map eU8)::(2,.d<|.int .i64 h)::(3,.ptr 0 0)::(9,.ptr 1 0)::(10,.osl 2 1 0<|a.length)::(11,.d<|.str b)::(12,.d<|.int .i64 e)::(13,.osl 3 1 0<|l.length)::(14,.d<|.int .i64 o)::[],[some<|.box<|A8 c,some<|.box<|D9 f,some<|.arr 1<|a.map eU8,some<|.arr 1<|l.map AY]⟩
def QC:(List Int)->Ex->St->Prop:=xX 0 2<|λ (y:(List Int))=>JgE c g h f a b e y
def KK:((List Int)×Int)->St:=(λ (x:((List Int)×Int))=>JgD c g h f a b e x.1 x.2)
def JgG:St:=⟨(1,.d<|.sl<|g.map eU8)::(2,.d<|.int .i64 h)::(3,.ptr 0 0)::(9,.ptr 1 0)::(10,.osl 2 1 0<|a.length)::(11,.d<|.str b)::(12,.d<|.int .i64 e)::(13,.osl 3 1 0<|p.length)::(17,.d<|.int .i64 t)::[],[some<|.box<|A8 c,some<|.box<|D9 f,some<|.arr 1<|a.map eU8,some<|.arr 1<|p.map AY]⟩
def QE:(Unit⊕((List Int)×(List UInt8)×Bool))->Ex->St->Prop:=xS (xX 0 0<|λ (_:Unit)=>JgC)<|xR ty Try.f17<|λ (y:((List Int)×(List UInt8)×Bool))=>.tup [.own 1<|y.1.map eU8,.d<|.str y.2.1,.d<|.bool y.2.2]
def KL:(Ae×(List Int)×(List UInt8)×Int)->St:=(λ (x:(Ae×(List Int)×(List UInt8)×Int))=>JgB c g h x.1 x.2.1 x.2.2.1 x.2.2.2)
variable {c g h f a b e i o m l p t}
theorem PR (x:((List Int)×Int)) (z:(((List Int)×Int)⊕(List Int))) (H:FC n c g h f a b e x.1 x.2=some z):WP (cxk 103 0) (AO Try.f17) [1,1,0,1,0,0,1,0,0,1,1,0,1,0,0] (AP 0 (KK c g h f a b e) (QC c g h f a b e) z) (KK c g h f a b e x):=by
 obtain⟨i,o⟩:=x;refine sq<|sr<|ck 3<|sp (AT As c.Rules)<|ck 1<|en<|cn H (λ H=>?_)<|λ H=>?_
 ·refine sk<|qz<|sj (λ (x:(List Int))=>JgF c g h f a b e o x) (λ (x:(List Int))=>G1 n o x) z ?_ (λ j=>?_)
  ·intro l H;exact rz<|ck 3<|ae (by cases H;exact og<|sg [1,2,3,9,10,11,12,13,14])
  refine bk 3<|sr<|ck 3<|bx H λ T u H=>ca false (NJ u)<|ck 6<|en<|sr<|ck 1<|en<|cn H (λ H=>?_)<|λ H=>?_
  ·exact rz<|ck 3<|bx H λ S v H=>sp (Cc AY 3 1 v)<|ck 1<|ae<|qN<|qs (sg [1,2,3,9,10,11,12,13,14])<|j S H
  ·exact sk<|qN<|qs (sg [1,2,3,9,10,11,12,13,14])<|j i H
 ·exact ex 2<|qx (by cases H;exact xo rfl<|sg [1,2,3,9,10,11,12,13])
theorem JN (x:(Ae×(List Int)×(List UInt8)×Int)) (z:((Ae×(List Int)×(List UInt8)×Int)⊕(Unit⊕((List Int)×(List UInt8)×Bool)))) (H:FE n c g h x.1 x.2.1 x.2.2.1 x.2.2.2=some z):WP (cxk 103 0) (AO Try.f17) [1,1,0,1,0,0] (AP 0 (KL c g h) (QE) z) (KL c g h x):=by
 obtain⟨f,a,b,e⟩:=x;refine sq<|sr<|ck 4<|en<|cn H (λ H=>?_)<|λ H=>?_
 ·refine sk<|qz<|sq<|bk 1<|sq<|sr<|ck 2<|sp (AT eU8 g)<|ck 6<|bx H λ U w H=>cG false (leZ) rfl (λ hg=>PO<|FJ w hg) (Or.inl rfl) (Dp (λ hh=>hh)<|Dp (λ hh=>hh)<|Hd) rfl<|pA<|en<|cn H (λ H=>?_)<|λ H=>?_
  ·exact sr<|ck 5<|en<|re<|qr<|qR<|qr (by cases H;exact ro rfl<|rT (vs:=[.osl 2 1 0<|a.length,.d<|.str b,.d<|.bool true]) [2]<|t1 (ao vo)<|t1 (ad vd)<|t1 (ad vd)<|t0)
  ·refine sk<|qz<|sr<|ck 2<|en<|sq<|sr<|ck 1<|en<|bk 2<|bx H λ p A H=>lX PR A (sg [1,2,3,9,10,11,12,13,14]) rfl λ s B=>qH<|qs (B)<|sq<|sr<|ck 3<|en<|cn H (λ H=>?_)<|λ H=>?_
   ·exact sr<|ck 3<|en<|re<|qr<|qR<|qr (by cases H;exact ro rfl<|rT (vs:=[.d<|.nil,.d<|.str [],.d<|.bool false]) []<|t1 (ad vz)<|t1 (ad vd)<|t1 (ad vd)<|t0)
   ·refine sk<|qz<|sr<|ck 2<|en<|sj (λ (x:Int)=>JgG c g h f a b e p x) (λ (x:Int)=>FD n c f a b e p x) z ?_ (λ k=>?_)
    ·intro t H;exact sr<|ck 4<|bx H λ V C H=>so (LG C)<|bx H λ W q H=>sp (Bc 3 1 q)<|sp (Cb AY 3 0 (ty 3) q)<|ck 1<|en<|sr<|ck 3<|bx H λ X E H=>ca false (NJ E)<|ck 4<|en<|sr<|ck 4<|bx H λ Y G H=>sp (AW As G)<|ck 2<|bx H λ af I H=>sp (JeG eU8 2 1 I)<|ck 1<|en<|rz<|ck 4<|bx H λ Z J H=>sp (AW As J)<|ck 2<|bx H λ s8 K H=>sp (Se K)<|ck 1<|ae<|qN<|qz<|rz<|ck 3<|ae (by cases H;exact og<|sg [1,2,3,9,10,11,12])
    refine sr<|ck 2<|sp (AT eU8 g)<|ck 1<|en<|cn H (λ H=>?_)<|λ H=>?_
    ·exact rz<|ck 2<|bx H λ L M H=>sp (AW eU8 M)<|ck 3<|ae<|qs (sg [1,2,3,9,10,11,12,13,17])<|k (IntKind.i64.wrap L) H
    ·exact sk<|qs (sg [1,2,3,9,10,11,12,13,17])<|k e H
 ·exact ex 0<|qx (by cases H;exact xo rfl<|sg [])
theorem Ub {z} (H:LX n c g h=some z):AD Try.prog 17 [.agg (A8 c),.d (.sl (g.map eU8)),.d (.int .i64 h)] (.tup [.own 1 (z.1.map eU8),.d (.str z.2.1),.d (.bool z.2.2)]):=by
 refine fO 103 (JgA c g h) Try.func17<|sr<|ck 4<|en<|sr<|bx H λ aa O H=>ca false (SF O)<|ck 5<|en<|sq<|sr<|ck 1<|en<|bk 0<|bx H λ P r H=>?_;rcases P with ab|ac
 ·exact lX JN r (sg [1,2,3,9,10,11,12]) rfl λ s Q=>qH<|qs (Q)<|sr<|ck 3<|en<|re (by cases H;exact pr<|rT (vs:=[.d<|.nil,.d<|.str [],.d<|.bool false]) []<|t1 (ad vz)<|t1 (ad vd)<|t1 (ad vd)<|t0)
 ·exact lR JN r (sg [1,2,3,9,10,11,12]) rfl λ s R=>qR<|qr (by cases H;exact pr R)
end
section
variable (b:(List Int)) (a:(List Ao)) (e:Int) (c:(List Ao))
def JgH:St:=⟨(0,.d<|.sl<|b.map eU8)::[],[]⟩
def JgI:St:=⟨(0,.d<|.sl<|b.map eU8)::(3,.osl 0 2 0<|a.length)::(4,.d<|.int .i64 e)::[],[some<|.arr 2<|a.map Bd]⟩
def JgJ:St:=⟨(3,.osl 0 2 0<|c.length)::[],[some<|.arr 2<|c.map Bd]⟩
def M3:(List Ao)->Ex->St->Prop:=xX 0 0<|λ (y:(List Ao))=>JgJ y
def HU:((List Ao)×Int)->St:=(λ (x:((List Ao)×Int))=>JgI b x.1 x.2)
variable {b a e c}
theorem L7 (x:((List Ao)×Int)) (z:(((List Ao)×Int)⊕(List Ao))) (H:Du n b x.1 x.2=some z):WP (cxk 21 0) (AO Try.f34) [1,1,0,1,0,0] (AP 0 (HU b) (M3) z) (HU b x):=by
 obtain⟨a,e⟩:=x;refine sq<|sr<|ck 2<|sp (AT eU8 b)<|ck 1<|en<|cn H (λ H=>?_)<|λ H=>?_
 ·exact sk<|qz<|sq<|bk 1<|rz<|ck 3<|bx H λ j f H=>sp (AW eU8 f)<|ck 3<|bx H λ l g H=>sp (Cc Bd 0 2 g)<|ck 1<|ae<|qN<|qz<|rz<|ck 3<|ae (by cases H;exact og<|sg [0,3,4])
 ·exact ex 0<|qx (by cases H;exact xo rfl<|sg [3])
theorem PS {z} (H:G2 n b=some z):AD Try.prog 34 [.d (.sl (b.map eU8))] (.own 2 (z.map Bd)):=by
 exact fO 21 (JgH b) Try.func34<|sr<|ck 1<|en<|sr<|ck 2<|en<|sq<|sr<|ck 1<|en<|bk 0<|bx H λ k h H=>lX L7 h (sg [0,3,4]) rfl λ s i=>qH<|qs (i)<|sr<|ck 2<|en<|re (by cases H;exact pr<|rO (v:=.osl 0 2 0<|z.length) [0]<|ao vo)
end
section
variable (a:(List Int)) (e:(List (CU Int))) (g:(List Ao)) (f:Int) (i:(List Ao)) (h:(List Ao)) (b:(List Ao)) (t:Int) (l:Int) (u:Int)
def JgK:St:=⟨(0,.d<|.sl<|a.map eU8)::(1,.d<|.sl<|e.map<|HI eU8)::[],[]⟩
def JgL:St:=⟨(0,.d<|.sl<|a.map eU8)::(1,.d<|.sl<|e.map<|HI eU8)::(6,.osl 0 2 0<|g.length)::(7,.d<|.int .i64 0)::(8,.d<|.int .i64 f)::[],[some<|.arr 2<|g.map Bd]⟩
def JgM:St:=⟨(0,.d<|.sl<|a.map eU8)::(6,.osl 0 2 0<|i.length)::(7,.d<|.int .i64 0)::[],[some<|.arr 2<|i.map Bd]⟩
def JgN:St:=⟨(0,.d<|.sl<|a.map eU8)::(1,.d<|.sl<|e.map<|HI eU8)::(6,.osl 0 2 0<|h.length)::(7,.d<|.int .i64 0)::(8,.d<|.int .i64 f)::[],[some<|.arr 2<|h.map Bd]⟩
def NY:(List Ao)->Ex->St->Prop:=xX 0 0<|λ (y:(List Ao))=>JgM a y
def IW:((List Ao)×Int)->St:=(λ (x:((List Ao)×Int))=>JgL a e x.1 x.2)
def JgO:St:=⟨(0,.d<|.sl<|a.map eU8)::(6,.osl 0 2 0<|b.length)::(7,.d<|.int .i64 t)::(11,.d<|.int .i64 l)::[],[some<|.arr 2<|b.map Bd]⟩
def JgP:St:=⟨(6,.osl 0 2 0<|b.length)::(7,.d<|.int .i64 u)::[],[some<|.arr 2<|b.map Bd]⟩
def NZ:Int->Ex->St->Prop:=xX 0 2<|λ (y:Int)=>JgP b y
def IX:(Int×Int)->St:=(λ (x:(Int×Int))=>JgO a b x.1 x.2)
variable {a e g f i h b t l u}
theorem M4 (x:((List Ao)×Int)) (z:(((List Ao)×Int)⊕(List Ao))) (H:DR n a e x.1 x.2=some z):WP (cxk 90 0) (AO Try.f18) [1,1,0,1,0,0] (AP 0 (IW a e) (NY a) z) (IW a e x):=by
 obtain⟨g,f⟩:=x;refine sq<|sr<|ck 2<|sp (AT (HI eU8) e)<|ck 3<|gc 1 (decide<|f<((e.length:Nat):Int))<|pA<|ck 2<|gc 2 ((decide<|f<((e.length:Nat):Int))&&(decide<|f<4))<|pA<|en<|cn H (λ H=>?_)<|λ H=>?_
 ·refine sk<|qz<|sj (λ (x:(List Ao))=>JgN a e f x) (λ (x:(List Ao))=>Fi n f x) z ?_ (λ c=>?_)
  ·intro h H;exact rz<|ck 3<|ae (by cases H;exact og<|sg [0,1,6,7,8])
  refine bk 1<|sr<|ck 2<|bx H λ S v H=>sp (AW (HI eU8) v)<|ck 5<|bx H λ T w H=>so (LG w)<|ck 2<|bx H λ U A H=>sp (AW (HI eU8) A)<|ck 3<|bx H λ V B H=>so (Fu B)<|ck 2<|en<|sr<|ck 2<|bx H λ W C H=>sp (AW (HI eU8) C)<|ck 5<|en<|cn H (λ H=>?_)<|λ H=>?_
  ·exact rz<|ck 2<|bx H λ X m H=>sp (Bc 0 2 m)<|ck 1<|sp (Cb Bd 0 0 (ty 60) m)<|ck 2<|bx H λ Y o H=>sp (Bc 0 2 o)<|ck 1<|bx H λ Q j H=>stA Bd 0 0 (ty 60) o j<|ae<|qN<|qs (tr (tr (tr (sn 6 0 2<|Dx j)<|sn 35 0 2<|Dx j)<|sn 53 0 2<|Dx j)<|sg [0,1,6,7,8])<|c Q H
  ·exact rz<|ck 2<|bx H λ Z p H=>sp (Bc 0 2 p)<|ck 1<|sp (Cb Bd 0 1 (ty 60) p)<|ck 2<|bx H λ aa q H=>sp (Bc 0 2 q)<|ck 1<|bx H λ R k H=>stA Bd 0 1 (ty 60) q k<|ae<|qN<|qs (tr (tr (tr (sn 6 0 2<|Dx k)<|sn 35 0 2<|Dx k)<|sn 62 0 2<|Dx k)<|sg [0,1,6,7,8])<|c R H
 ·exact ex 0<|qx (by cases H;exact xo rfl<|sg [0,6,7])
theorem M5 (x:(Int×Int)) (z:((Int×Int)⊕Int)) (H:DS n a b x.1 x.2=some z):WP (cxk 90 0) (AO Try.f18) [1,1,1,0,1,0,0] (AP 0 (IX a b) (NZ b) z) (IX a b x):=by
 obtain⟨t,l⟩:=x;refine sq<|sr<|ck 4<|en<|cn H (λ H=>?_)<|λ H=>?_
 ·exact sk<|qz<|sq<|bk 3<|rz<|ck 3<|bx H λ ab r H=>sp (Bc 0 2 r)<|sp (Cb Bd 0 0 (ty 62) r)<|ck 2<|bx H λ ac E H=>sp (AW eU8 E)<|ck 1<|bx H λ af G H=>ca false (Ua G)<|ck 2<|ae<|qN<|qz<|rz<|ck 3<|ae (by cases H;exact og<|sg [0,6,7,11])
 ·exact ex 2<|qx (by cases H;exact xo rfl<|sg [6,7])
theorem QF {z} (H:Iv n a e=some z):AD Try.prog 18 [.d (.sl (a.map eU8)),.d (.sl (e.map (HI eU8)))] (.tup [.own 2 (z.1.map Bd),.d (.int .i64 z.2)]):=by
 exact fO 90 (JgK a e) Try.func18<|sr<|ck 2<|en<|sr<|ck 1<|bx H λ I J H=>cl [List.length I] (PS J)<|ck 2<|en<|sq<|sr<|ck 1<|en<|bk 0<|bx H λ b K H=>lX M4 K (sg [0,1,6,7,8]) rfl λ s L=>qH<|qs (L)<|sq<|sr<|ck 1<|en<|bk 2<|bx H λ M O H=>lX M5 O (sg [0,6,7,11]) rfl λ s P=>qH<|qs (P)<|sr<|ck 4<|en<|re (by cases H;exact pr<|rT (vs:=[.osl 0 2 0<|b.length,.d<|.int .i64 M]) [0]<|t1 (ao vo)<|t1 (ad vd)<|t0)
end
section
variable (a:(List AQ)) (b:(List UInt8)) (c:Int)
def JgQ:St:=⟨(0,.d<|.sl<|a.map Bl)::(1,.d<|.str b)::[],[]⟩
def JgR:St:=⟨(0,.d<|.sl<|a.map Bl)::(1,.d<|.str b)::(4,.ptr 0 0)::(6,.d<|.int .i64 c)::[],[some<|.box [.d<|.str [],.osl 1 1 0<|List.length ([]:List Int),.d<|.int .i64 0],some<|.arr 1<|List.map eU8 ([]:List Int)]⟩
def JgS:St:=⟨(4,.ptr 0 0)::[],[some<|.box [.d<|.str [],.osl 1 1 0<|List.length ([]:List Int),.d<|.int .i64 0],some<|.arr 1<|List.map eU8 ([]:List Int)]⟩
def QG:(Unit⊕(AQ×Bool))->Ex->St->Prop:=xS (xX 0 0<|λ (_:Unit)=>JgS)<|xR ty Try.f19<|λ (y:(AQ×Bool))=>.tup [.agg [.d<|.str y.1.Text,.d<|.sl<|y.1.Cells.map eU8,.d<|.int .i64 y.1.Cost],.d<|.bool y.2]
def KN:Int->St:=(λ (x:Int)=>JgR a b x)
variable {a b c}
theorem JO (x:Int) (z:(Int⊕(Unit⊕(AQ×Bool)))) (H:FF n a b x=some z):WP (cxk 25 0) (AO Try.f19) [1,0,1,0,0] (AP 0 (KN a b) (QG) z) (KN a b x):=by
 revert H;generalize x=c;intro H;refine sq<|sr<|ck 2<|sp (AT Bl a)<|ck 1<|en<|cn H (λ H=>?_)<|λ H=>?_
 ·refine sk<|qz<|sq<|bk 1<|sr<|ck 2<|bx H λ k f H=>sp (AW Bl f)<|ck 4<|en<|cn H (λ H=>?_)<|λ H=>?_
  ·exact sr<|ck 2<|bx H λ l g H=>sp (AW Bl g)<|ck 3<|en<|re<|qR<|qr (by cases H;exact ro rfl rdT)
  ·exact sk<|qN<|qz<|rz<|ck 3<|ae (by cases H;exact og<|sg [0,1,4,6])
 ·exact ex 0<|qx (by cases H;exact xo rfl<|sg [4])
theorem Uc {z} (H:LY n a b=some z):AD Try.prog 19 [.d (.sl (a.map Bl)),.d (.str b)] (.tup [.agg [.d (.str z.1.Text),.d (.sl (z.1.Cells.map eU8)),.d (.int .i64 z.1.Cost)],.d (.bool z.2)]):=by
 refine fO 25 (JgQ a b) Try.func19<|sr<|ck 2<|en<|sq<|sr<|ck 1<|en<|bk 0<|bx H λ h e H=>?_;rcases h with m|o
 ·exact lX JO e (tr (Ez 0 1 1 (by kernel_rfl))<|sg [0,1,4,6]) rfl λ s i=>qH<|qs (i)<|sr<|ck 3<|en<|re (by cases H;exact pr<|rT (vs:=[.agg [.d<|.str [],.d<|.nil,.d<|.int .i64 0],.d<|.bool false]) []<|t1 (a1<|c1 vd<|c1 vn<|c1 vd<|c0)<|t1 (ad vd)<|t0)
 ·exact lR JO e (tr (Ez 0 1 1 (by kernel_rfl))<|sg [0,1,4,6]) rfl λ s j=>qR<|qr (by cases H;exact pr j)
end
section
variable (b:I1) (f:(List Int)) (h:(List (CU Int)))
def Jix:St:=⟨(0,.agg [.d<|.int .u8 b.Base,.d<|.int .u8 b.Drop,.d<|.sl<|b.More.map Eh])::(1,.d<|.sl<|f.map eU8)::(2,.d<|.sl<|h.map<|HI eU8)::[],[]⟩
variable {b f h}
theorem L8 {z} (H:EH n b f h=some z):AD Try.prog 5 [.agg (VM b),.d (.sl (f.map eU8)),.d (.sl (h.map (HI eU8)))] (.d (.bool z)):=by
 refine fO 97 (Jix b f h) Try.func5<|sr<|ck 2<|en<|sr<|bx H λ s k H=>ca true (Qt k)<|ck 1<|en<|sr<|ck 1<|bx H λ t l H=>ca false (T9 l)<|ck 2<|en<|sr<|ck 2<|bx H λ c m H=>ca false (Ub m)<|ck 7<|en<|sq<|sr<|ck 4<|sE (g:=(!(!c.2.2))) (λ hg=>AT eU8 c.1)<|gc 1 (!(!c.2.2))<|pO<|en<|cn H (λ H=>?_)<|λ H=>?_
 ·exact sr<|ck 2<|en<|re<|qr (by cases H;exact pr rd)
 ·refine sk<|qz<|sr<|ck 2<|bx H λ e o H=>ca false (QF o)<|ck 5<|en<|sr<|ck 3<|bx H λ i p H=>ca false (Cp p)<|ck 5<|en<|sr<|ck 3<|bx H λ a q H=>ca false (JH q)<|ck 6<|en<|sq<|sr<|ck 4<|gc 1 (!(!a.2))<|ck 1<|gc 1 (!(!a.2))<|pO<|ck 2<|gc 1 (!((!a.2)||(decide<|a.1.Cost>e.2)))<|sE (g:=(!((!a.2)||(decide<|a.1.Cost>e.2)))) (λ hg=>AT eU8 a.1.Cells)<|ck 1<|sE (g:=(!((!a.2)||(decide<|a.1.Cost>e.2)))) (λ hg=>AT eU8 c.1)<|gc 1 (!((!a.2)||(decide<|a.1.Cost>e.2)))<|pO<|en<|cn H (λ H=>?_)<|λ H=>?_
  ·exact sr<|ck 1<|en<|re<|qr (by cases H;exact pr rd)
  ·refine sk<|qz<|sq<|sr<|ck 2<|en<|cn H (λ H=>?_)<|λ H=>?_
   ·exact sr<|ck 2<|en<|re<|qr (by cases H;exact pr rd)
   ·exact sk<|qz<|sr<|ck 2<|bx H λ j r H=>ca false (Uc r)<|ck 6<|en<|sr<|ck 4<|pA<|ck 2<|gc 1 ((i.2==0)&&j.2)<|ck 1<|gc 1 ((i.2==0)&&j.2)<|pA<|ck 2<|pA<|ck 1<|en<|re (by cases H;exact pr rd)
end
end Go.AI
end
section
namespace Go.AI
def CRd (F:Nat->Option Obj) (l:List D) (cs:List Value):Prop:=l.length=cs.length/\∀ (i:Nat) (y:D) (v:Value),l[i]?=some y->cs[i]?=some v->A4 F y v
def FP {α:Type} (P:Program) (t:TypeId) (enc:α->List D) (ok:α->Prop):Prop:=
 ∀ (H:Type) (e:TypeId×Value->H) (w:World) (base:Nat) (spare:Nat->Bool) (held:Bool) (fuel:Nat) (cs:List Value) (x:DataW H×List MemPlace),DataW.trod e P w base spare held fuel t cs=some x->∃ a:α,ok a/\CRd (λ b=>w.heap[b]?) (enc a) cs
theorem SG {F:Nat->Option Obj} {y:D} {v:Value} (h:A4 F y v):CRd F [y] [v]:=by
 refine⟨rfl,λ i a b ha hb=>?_⟩;cases i with
 | zero=>simp at ha hb;subst ha;subst hb;exact h
 | succ i=>simp at ha
theorem X7 {P:Program} {t:TypeId} {k:IntKind} (ht:P.underlying t=some (.int k)):FP P t (λ n=>[.int k n]) (λ n=>(Lit.int k n).wf=true):=by
 intro H e w base spare held fuel cs x h;obtain⟨n,rfl,_,hw⟩:=DataW.trod_int ht h;exact⟨n,hw,SG (.int k n)⟩
theorem Ud {α:Type} {Q:Nat->α->Prop}:∀ n,(∀ i,i<n->∃ a,Q i a)->∃ l:List α,l.length=n/\∀ i a,l[i]?=some a->Q i a:=by
 intro n;induction n with
 | zero=>intro _;exact⟨[],rfl,λ i a h=>by simp at h⟩
 | succ n ih=>
  intro h;obtain⟨l,hl,hq⟩:=ih λ i hi=>h i (by omega);obtain⟨a,ha⟩:=h n (by omega);refine⟨l++[a],by simp[hl],λ i b hb=>?_⟩;rcases JjN i l.length with hlt|hge
  ·rw[Jj5 hlt]at hb;exact hq i b hb
  ·rw[Jkf hge]at hb;have:i-l.length=0:=by have:=Ad hb;simp at this;omega
   rw[this]at hb;simp at hb;subst hb;have:i=n:=by omega
   subst this;exact ha
theorem Ue {α β:Type} {f:α->Option β}:∀ {l:List α} {r:List β},l.mapM f=some r->r.length=l.length/\∀ (i:Nat) (a:α),l[i]?=some a->r[i]?=f a:=by
 intro l;induction l with
 | nil=>intro r h;simp at h;subst h;exact⟨rfl,λ i a h=>by simp at h⟩
 | cons a l ih=>
  intro r h;rw[List.mapM_cons]at h;simp only[Option.bind_eq_bind,Option.bind_eq_some_iff,Option.pure_def,Jj7]at h;obtain⟨b,hb,r',hr',rfl⟩:=h;obtain⟨h1,h2⟩:=ih hr';refine⟨by simp[h1],λ i x hx=>?_⟩;cases i with
  | zero=>simp at hx;subst hx;simp[hb]
  | succ i=>simpa using h2 i x (by simpa using hx)
theorem SH {α:Type} {P:Program} {t e:TypeId} {enc:α->List D} {ok:α->Prop} {sz:Nat} (ht:P.underlying t=some (.slice e)) (hsz:P.cellsOf e=sz) (h1:Nat.ble 1 sz=true) (hl:∀ a,(enc a).length=sz) (he:FP P e enc ok):FP P t (eL enc) (λ l=>l.length<=9223372036854775807/\∀ a∈l,ok a):=by
 intro H en w base spare held fuel cs x h;have h1:=Jkc h1;rcases DataW.trod_slice ht h with⟨rfl,_⟩|⟨a,len,cap,elems,rest,n,_,rfl,_,_,hcap,hmx,hel,hget,_,_⟩
 ·exact⟨[],⟨by simp,λ a h=>by simp at h⟩,SG (.sl0 _ _)⟩
 ·rw[hsz]at hget;have hex:∀ i,i<len->∃ y:α,ok y/\∃ ci,w.cells? base (a.add (i*sz)) sz=some ci/\CRd (λ b=>w.heap[b]?) (enc y) ci:=λ i hi=>by
   have hg:=hget i hi;rw[JjX (show i<elems.length by omega)]at hg;simp only[Option.bind_eq_some_iff]at hg;obtain⟨ci,hc,htr⟩:=hg;obtain⟨y,hy,hcr⟩:=he H en w base spare held n ci _ htr;exact⟨y,hy,ci,hc,hcr⟩
  obtain⟨l,hll,hq⟩:=Ud len hex;refine⟨l,⟨by unfold maxLen at hmx;omega,λ y hy=>?_⟩,SG ?_⟩
  ·obtain⟨i,hi⟩:=List.mem_iff_getElem?.1 hy;exact(hq i y hi).1
  ·rcases Nat.eq_zero_or_pos len with h0|hpos
   ·have:l=[]:=List.length_eq_zero_iff.1 (by omega);subst this;subst h0;exact .sl0 _ _
   ·
    have hcell:∀ i y,l[i]?=some y->∀ j,j<sz->∃ v,w.cell? ((a.add (i*sz)).add j)=some v/\∀ d,(enc y)[j]?=some d->A4 (λ b=>w.heap[b]?) d v:=λ i y hy j hj=>by
     obtain⟨_,ci,hc,hcr⟩:=hq i y hy;unfold World.cells? at hc;split at hc
     ·obtain⟨g1,g2⟩:=Ue hc;have:=g2 j j (by simp[hj]);have hjc:j<ci.length:=by rw[g1];simpa using hj
      rw[JjX hjc]at this;exact⟨ci[j],this.symm,λ d hd=>hcr.2 j d _ hd (JjX hjc)⟩
     ·cases hc
    have h0:l[0]?=some l[0]:=JjX (by omega);obtain⟨v0,hv0,_⟩:=hcell 0 _ h0 0 (by omega);have ha0:(a.add (0*sz)).add 0=a:=by simp[Addr.add]
    rw[ha0]at hv0;obtain⟨b,off,spot⟩:=a;unfold World.cell? at hv0;simp only at hv0;split at hv0
    ·rename_i c ty fr hblk;cases spot with
     | some s=>simp at hv0
     | none=>
      have hcell':∀ i y,l[i]?=some y->∀ j d,(enc y)[j]?=some d->∃ v,c[off+i*sz+j]?=some v/\A4 (λ b=>w.heap[b]?) d v:=λ i y hy j d hd=>by
       have hj:j<sz:=by rw[← hl y];exact Ad hd
       obtain⟨v,hv,hr⟩:=hcell i y hy j hj;rw[BI,BI,Jc hblk]at hv;exact⟨v,hv,hr d hd⟩
      have hlen:(l.map enc).length=len:=by simp[hll]
      have:=A4.sl (F:=λ b=>w.heap[b]?) (l.map enc) b off cap sz c ty fr (λ i j=>(c[off+i*sz+j]?).getD undef) hblk (λ e he=>by
        simp only[JjP]at he;obtain⟨y,_,rfl⟩:=he;exact hl y) (by omega) (λ i e hi j d hd=>by
        simp only[Jj1,Jj0]at hi;obtain⟨y,hy,rfl⟩:=hi;obtain⟨v,hv,_⟩:=hcell' i y hy j d hd;simp only[hv,JjI]) (λ i e hi j d hd=>by
        simp only[Jj1,Jj0]at hi;obtain⟨y,hy,rfl⟩:=hi;obtain⟨v,hv,hr⟩:=hcell' i y hy j d hd;simp only[hv,JjI];exact hr)
      rw[hlen]at this;exact this
    ·cases hv0
theorem JP {α:Type} {P:Program} {t e:TypeId} {enc:α->List D} {ok:α->Prop} {sz:Nat} (ht:P.underlying t=some (.slice e)) (hsz:P.cellsOf e=sz) (h1:Nat.ble 1 sz=true) (hl:∀ a,(enc a).length=sz) (he:FP P e enc ok):FP P t (eL enc) (λ l=>∀ a∈l,ok a):=by
 intro H en w base spare held fuel cs x h;obtain⟨l,h1,h2⟩:=SH ht hsz h1 hl he H en w base spare held fuel cs x h;exact⟨l,h1.2,h2⟩
theorem DZ {F:Nat->Option Obj} {l m:List D} {cs:List Value} {o n:Nat} (h:CRd F l ((cs.drop o).take n)) (hn:Nat.beq l.length n=true) (h':CRd F m (cs.drop (o+n))):CRd F (l++m) (cs.drop o):=by
 have hn:=Jj4 hn;have e:cs.drop o=(cs.drop o).take n++cs.drop (o+n):=by rw[← List.drop_drop,List.take_append_drop]
 rw[e];refine⟨by simp only[List.length_append,h.1,h'.1],λ i y v hy hv=>?_⟩;rcases JjN i l.length with hlt|hge
 ·rw[Jj5 hlt]at hy;rw[Jj5 (by rw[← h.1];exact hlt)]at hv;exact h.2 i y v hy hv
 ·rw[Jkf hge]at hy;rw[Jkf (by rw[← h.1];exact hge),← h.1]at hv;exact h'.2 _ y v hy hv
theorem SI {F:Nat->Option Obj} {cs:List Value} {o:Nat} (h:cs.length<=o):CRd F [] (cs.drop o):=by
 rw[List.drop_eq_nil_of_le h];exact⟨rfl,λ i y v hy=>by simp at hy⟩
theorem VN {H:Type} {enc:TypeId×Value->H} {P:Program} {w:World} {base:Nat} {spare:Nat->Bool} {held:Bool} {fuel:Nat} {t e:TypeId} {n:Nat} {cs:List Value} {x:DataW H×List MemPlace} (ht:P.underlying t=some (.array n e)) (h:DataW.trod enc P w base spare held fuel t cs=some x) :
  ∃ m,cs.length=P.cellsOf t/\∀ i,i<n->∃ y,DataW.trod enc P w base spare held m e ((cs.drop (i*P.cellsOf e)).take (P.cellsOf e))=some y:=by
 cases fuel with
 | zero=>simp[DataW.trod]at h
 | succ m=>
  unfold DataW.trod at h;rw[ht]at h;split at h<;>simp_all;obtain⟨xs,hp,_⟩:=h.2;refine⟨m,λ i hi=>?_⟩;obtain⟨g1,g2⟩:=Ue hp;have:=g2 i i (by simp[hi]);have hlt:i<xs.length:=by rw[g1];simpa using hi
  rw[JjX hlt]at this;exact⟨_,_,this.symm⟩
end Go.AI
end
section
namespace Go.AI
open Go.ChangeShapes Go.WideShapes Go.ChangeAt Go.RowKit
variable {P:Program} {H:Type} {en:TypeId×Value->H} {W W':World} {base:Nat} {spare:Nat->Bool} {held:Bool} {t e:TypeId} {v:Value} {d:DataW H} {ps:List MemPlace} {α:Type} {enc:α->List D} {ok:α->Prop}
theorem Jde {cs:Array Value} (hv:v=.agg cs) (hd:DataW.Trod en P W base spare held t v d ps) (hr:FP P t enc ok):∃ a,ok a/\Ag (λ b=>W.heap[b]?) noR (.agg ((enc a).map .d)) v:=by
 subst hv;obtain⟨fuel,hf⟩:=hd;obtain⟨a,h1,h2,h3⟩:=hr H en W base spare held fuel _ _ hf;refine⟨a,h1,.agg _ _ (by simpa [Value.cells]using h2) λ i x u hx hu=>?_⟩;simp only[Jj1,Jj0]at hx;obtain⟨y,hy,rfl⟩:=hx;exact .d _ _ (h3 i y u hy (by simpa [Value.cells]using hu))
theorem Wz {y:α->D} (hc:v.cells=#[v]) (hd:DataW.Trod en P W base spare held t v d ps) (hr:FP P t enc ok) (he:∀ a,enc a=[y a]):∃ a,ok a/\Ag (λ b=>W.heap[b]?) noR (.d (y a)) v:=by
 obtain⟨fuel,hf⟩:=hd;obtain⟨a,h1,h2,h3⟩:=hr H en W base spare held fuel _ _ hf;refine⟨a,h1,.d _ _ (h3 0 (y a) v (by rw[he];rfl) (by rw[hc];rfl))⟩
theorem JgT {F:Nat->Option Obj} {ρ:Nat->Option Loc}:CR F ρ [] []:=⟨rfl,λ i a v h=>by simp at h⟩
theorem SK {F:Nat->Option Obj} {ρ:Nat->Option Loc} {a:AV} {v:Value} {l:List AV} {vs:List Value} (h:Ag F ρ a v) (h':CR F ρ l vs):CR F ρ (a::l) (v::vs):=by
 refine⟨by simp[h'.1],λ i x u hx hu=>?_⟩;cases i with
 | zero=>simp at hx hu;subst hx;subst hu;exact h
 | succ i=>exact h'.2 i x u (by simpa using hx) (by simpa using hu)
theorem fld {w:World} {fuel:Nat} {cs:List Value} {fs:Array Field} {xs:List (DataW H×List MemPlace)} (hg:∀ (i:Nat) (f:Field),fs[i]?=some f->DataW.trod en P w base spare held fuel f.type ((cs.drop f.offset).take (P.cellsOf f.type))=xs[i]?) (hxl:xs.length=fs.size) (i:Nat) {f:Field} (hf:fs[i]?=some f) (u o n:Nat) (hu:f.type=u) (ho:f.offset=o) (hn:P.cellsOf u=n) (hr:FP P u enc ok) :
  ∃ a,ok a/\CRd (λ b=>w.heap[b]?) (enc a) ((cs.drop o).take n):=by
 have:=hg i f hf;have hi:i<xs.length:=by rw[hxl];exact Aj hf
 rw[JjX hi,hu,ho,hn]at this;exact hr H en w base spare held fuel _ _ this
theorem Jiy {w:World} {fuel:Nat} {cs:List Value} {m:Nat} (hg:∀ i,i<m->∃ y,DataW.trod en P w base spare held fuel e ((cs.drop (i*P.cellsOf e)).take (P.cellsOf e))=some y) (i:Nat) (hi:Nat.ble (i+1) m=true) (o n:Nat) (hn:P.cellsOf e=n) (ho:i*n=o) (hr:FP P e enc ok) :
  ∃ a,ok a/\CRd (λ b=>w.heap[b]?) (enc a) ((cs.drop o).take n):=by
 obtain⟨y,hy⟩:=hg i (Jkc hi);rw[hn,ho]at hy;exact hr H en w base spare held fuel _ _ hy
theorem Jbc {f:FuncId} {args:List AV} {vs:Array Value} (hc:AD P f args (.d (.bool true))) (hcr:CR (λ b=>W.heap[b]?) noR args vs.toList):Calls P f vs W λ e W'=>e=.returned (.bool true)/\(∀ before:List MemPlace,W.keptBut W' (·∈before))/\∀ b,b<W.heap.size->W'.heap[b]?=W.heap[b]? := by
 refine(hc.2 (λ b=>W.heap[b]?) W vs hcr λ b o h=>h).mono λ e W' h=>?_;obtain⟨v,F',ρ,rfl,hS,hr,hmu⟩:=h;have hv:v=.bool true:=by
  have:(BM true 0 (.d (.bool true))).1=.d (.bool true):=rfl;rw[this]at hr;exact hr.bool
 subst hv;have hold:∀ b,b<W.heap.size->W'.heap[b]?=W.heap[b]? := λ b hb=>hS.old b (by omega);refine⟨rfl,λ before=>World.keptBut_mono (λ p hp=>hp.elim) (?_:W.keptBut W' λ _=>False),hold⟩;refine⟨hmu.os,hmu.out,λ i hi=>?_⟩;rw[hold i hi];cases hh:W.heap[i]? with
 | none=>rfl
 | some o=>cases o<;>first|exact⟨rfl,rfl,rfl,λ _ _=>rfl⟩|exact .inr ⟨rfl,rfl⟩|rfl
theorem X8 {f:Func} {s:ChangeSpec} {apart fresh handsOn again:Bool} {args:Array Value} {ds gs:List (DataW H)} {before pa pv:List MemPlace}
  (hW:DataW.Whole en P f.params.toList s.vars apart W args.toList ds gs before)
  (hres:∀ (b:Nat) (sp:Nat->Bool) (hd:Bool),DataW.TrodAll en P W' b sp hd f.resultTypes.toList (v.resultList f.resultTypes.size) (s.fn H (ds++gs)).results [])
  (hargs:∀ sp:Nat->Bool,(∀ p∈before,sp p.block=true)->DataW.TrodAll en P W' 0 sp true f.params.toList args.toList (s.fn H (ds++gs)).args pa)
  (hvars:∀ sp:Nat->Bool,(∀ p∈before,sp p.block=true)->DataW.TrodVars en P W' sp s.vars (s.fn H (ds++gs)).vars pv)
  (hps:before=pa++pv) (hk:W.keptBut W' (·∈before)) (hold:∀ b,b<W.heap.size->W'.heap[b]?=W.heap[b]?)
  (hok:∀ (j:Nat) (t:TypeId) (r:Value),f.resultTypes[j]?=some t->(v.resultList f.resultTypes.size)[j]?=some r->Value.okWide P W' .any 0 t r) :
  s.post en P f apart fresh handsOn again W args v W':=by
 have hin:∀ p∈before,(λ b=>decide (b<W.heap.size)) p.block=true:=λ p hp=>by simpa using hW.lt p hp
 have hlt:=hW.lt;refine⟨ds,gs,before,[],pa,pv,hW,hres _ _ _,hargs _ hin,hvars _ hin,World.keptBut_mono (λ p hp=>⟨hp,?_⟩) hk,λ _=>?_⟩
 ·rw[hps,List.mem_append]at hp;exact Or.inr hp
 ·obtain⟨_,_,_,_,_,hz,hn⟩:=hW;refine⟨hok,_,_,([]++pa)++pv,⟨[]++pa,pv,trodAll_append (hargs _ (λ _ _=>rfl)) (hres _ _ _),hvars _ (λ _ _=>rfl),rfl,?_,?_⟩,?_⟩
  ·intro b off hp;have hp:MemPlace.cell b off∈before:=by rw[hps];simpa using hp
   have:=hz b off hp;simp only[World.frozen?,hold b (hlt _ hp)]at this⊢;exact this
  ·intro ha;have:=hn ha;rw[hps]at this;simpa using this
  ·intro p hp _;rw[hps];simpa using hp
theorem Jbd (hl:laidOutB P=true) (hr:P.readableRec t=true) (hrow:t<P.types.size) (h:DataW.Trod en P W 0 (λ _=>true) true t v d ps) (hb:∀ p∈ps,p.block<W.heap.size) {sp:Nat->Bool} (hs:∀ p∈ps,sp p.block=true) (hold:∀ b,b<W.heap.size->W'.heap[b]?=W.heap[b]?):DataW.Trod en P W' 0 sp true t v d ps:=by
 refine WideElems.Trod_stays hl hr hrow h (λ p hp=>?_) hs;have:=hb p hp;cases p with
 | cell b o=>exact World.cell?_of_block (w:=W) (hold b this)
 | map b=>exact hold b this
end Go.AI
end
section
namespace Go.AI
open Go.Proofs Go.ChangeShapes Go.WideShapes Go.ChangeAt Go.RowKit
def okI (k:IntKind) (n:Int):Prop:=(Lit.int k n).wf=true
theorem rd5:FP Try.prog 5 eU8 (okI .u8):=X7 Try.underlying5
theorem JgU:FP Try.prog 52 (eL eU8) (λ l=>∀ a∈l,okI .u8 a):=JP (sz:=1) Try.underlying52 (by kernel_rfl) rfl (λ _=>rfl) rd5
theorem Jiz:FP Try.prog 68 (HI eU8) (λ x=>okI .u8 x.a0/\okI .u8 x.a1):=by
 intro H e w base spare held fuel cs x h;obtain⟨m,hcl,hg⟩:=VN Try.underlying68 h;have hcl:cs.length=2:=hcl.trans (by kernel_rfl);obtain⟨a0,k0,c0⟩:=Jiy hg 0 rfl 0 1 (by kernel_rfl) rfl rd5;obtain⟨a1,k1,c1⟩:=Jiy hg 1 rfl 1 1 (by kernel_rfl) rfl rd5;refine⟨⟨a0,a1⟩,⟨k0,k1⟩,?_⟩;have:=DZ c0 rfl (DZ c1 rfl (SI (Nat.le_of_eq hcl)));exact this
def ID (x:Cz):Prop:=(∀ a∈x.P,okI .u8 a)/\(∀ a∈x.C,okI .u8 a)/\okI .u8 x.L/\okI .u8 x.R/\(okI .u8 x.W.a0/\okI .u8 x.W.a1)
theorem Jjh:FP Try.prog 70 Eh ID:=by
 intro H e w base spare held fuel cs x h;obtain⟨xs,n,_,_,hcl,hxl,hg⟩:=DataW.trod_struct Try.underlying70 h;have hcl:cs.length=6:=hcl.trans (by kernel_rfl);obtain⟨a0,k0,c0⟩:=fld hg hxl 0 rfl 52 0 1 rfl rfl (by kernel_rfl) JgU;obtain⟨a1,k1,c1⟩:=fld hg hxl 1 rfl 52 1 1 rfl rfl (by kernel_rfl) JgU;obtain⟨a2,k2,c2⟩:=fld hg hxl 2 rfl 5 2 1 rfl rfl (by kernel_rfl) rd5;obtain⟨a3,k3,c3⟩:=fld hg hxl 3 rfl 5 3 1 rfl rfl (by kernel_rfl) rd5;obtain⟨a4,k4,c4⟩:=fld hg hxl 4 rfl 68 4 2 rfl rfl (by kernel_rfl) Jiz;refine⟨⟨a0,a1,a2,a3,a4⟩,⟨k0,k1,k2,k3,k4⟩,?_⟩;have:=DZ c0 rfl (DZ c1 rfl (DZ c2 rfl (DZ c3 rfl (DZ c4 rfl (SI (Nat.le_of_eq hcl))))));exact this
theorem Jji:FP Try.prog 22 (eL Eh) (λ l=>∀ a∈l,ID a):=JP (sz:=6) Try.underlying22 (by kernel_rfl) rfl (λ _=>rfl) Jjh
def VO (x:I1):Prop:=okI .u8 x.Base/\okI .u8 x.Drop/\(∀ a∈x.More,ID a)
theorem Jjj:FP Try.prog 24 Jij VO:=by
 intro H e w base spare held fuel cs x h;obtain⟨xs,n,_,_,hcl,hxl,hg⟩:=DataW.trod_struct Try.underlying24 h;have hcl:cs.length=3:=hcl.trans (by kernel_rfl);obtain⟨a0,k0,c0⟩:=fld hg hxl 0 rfl 5 0 1 rfl rfl (by kernel_rfl) rd5;obtain⟨a1,k1,c1⟩:=fld hg hxl 1 rfl 5 1 1 rfl rfl (by kernel_rfl) rd5;obtain⟨a2,k2,c2⟩:=fld hg hxl 2 rfl 22 2 1 rfl rfl (by kernel_rfl) Jji;refine⟨⟨a0,a1,a2⟩,⟨k0,k1,k2⟩,?_⟩;have:=DZ c0 rfl (DZ c1 rfl (DZ c2 rfl (SI (Nat.le_of_eq hcl))));exact this
theorem Jjk:FP Try.prog 25 (eL (HI eU8)) (λ l=>∀ a∈l,(okI .u8 a.a0/\okI .u8 a.a1)):=JP (sz:=2) Try.underlying25 (by kernel_rfl) rfl (λ _=>rfl) Jiz
end Go.AI
end
section
namespace Go.AI
def Le {α:Type} (a b:Option α):Prop:=∀ z,a=some z->b=some z
theorem Le.refl {α:Type} (a:Option α):Le a a:=λ _ h=>h
theorem Le.bind {α β:Type} {a a':Option α} {f f':α->Option β} (h:Le a a') (hf:∀ x,Le (f x) (f' x)):Le (a.bind f) (a'.bind f'):=by
 intro z hz;obtain⟨x,h1,h2⟩:=bind_some hz;rw[h x h1];exact hf x z h2
theorem Le.ite {α:Type} {c:Prop} [Decidable c] {a a' b b':Option α} (h:Le a a') (h':Le b b'):Le (if c then a else b) (if c then a' else b'):=by
 split
 ·exact h
 ·exact h'
theorem Le.whl {σ ρ:Type} {body body':σ->Option (σ⊕ρ)} (hb:∀ x,Le (body x) (body' x)):∀ {n m:Nat},n<=m->∀ x,Le (whl body n x) (whl body' m x):=by
 intro n;induction n with
 | zero=>intro m _ x z hz;cases hz
 | succ n ih=>
  intro m hm x z hz;cases m with
  | zero=>omega
  | succ m=>
   simp only[Go.AI.whl]at hz⊢;cases hx:body x with
   | none=>rw[hx]at hz;cases hz
   | some y=>
    rw[hb x y hx];rw[hx]at hz;cases y with
    | inl y=>exact ih (by omega) y z hz
    | inr r=>exact hz
theorem Le.sum {α β γ:Type} {y:α⊕β} {f f':α->Option γ} {g g':β->Option γ} (hf:∀ a,Le (f a) (f' a)) (hg:∀ b,Le (g b) (g' b)):Le (match y with | .inl a=>f a | .inr b=>g b) (match y with | .inl a=>f' a | .inr b=>g' b):=by
 cases y with
 | inl a=>exact hf a
 | inr b=>exact hg b
def Ev {α:Type} (f:Nat->Option α) (z:α):Prop:=∃ n,∀ m,n<=m->f m=some z
theorem Ev.const {α:Type} {z:α}:Ev (λ _=>some z) z:=⟨0,λ _ _=>rfl⟩
theorem Ev.of {α:Type} {f:Nat->Option α} {z:α} (hm:∀ n m,n<=m->Le (f n) (f m)) {n:Nat} (h:f n=some z):Ev f z:=⟨n,λ m hnm=>hm n m hnm z h⟩
theorem Ev.all {α:Type} {f:Nat->Option α} {z:α} (h:∀ n,f n=some z):Ev f z:=⟨0,λ m _=>h m⟩
theorem Ev.bind {α β:Type} {f:Nat->Option α} {g:Nat->α->Option β} {x:α} {z:β} (h:Ev f x) (hg:Ev (λ n=>g n x) z):Ev (λ n=>(f n).bind (g n)) z:=by
 obtain⟨n,hn⟩:=h;obtain⟨m,hm⟩:=hg;refine⟨max n m,λ k hk=>?_⟩;show(f k).bind (g k)=_;rw[hn k (by omega)];exact hm k (by omega)
theorem Ev.out {α:Type} {f:Nat->Option α} {z:α} (h:Ev f z):∃ n,f n=some z:=by
 obtain⟨n,hn⟩:=h;exact⟨n,hn n (JjM n)⟩
theorem Ev.congr {α:Type} {f g:Nat->Option α} {z:α} (h:Ev f z) (e:∀ n,g n=f n):Ev g z:=by
 obtain⟨n,hn⟩:=h;exact⟨n,λ m hm=>by rw[e m];exact hn m hm⟩
theorem Ev.whl {σ ρ:Type} {body:Nat->σ->Option (σ⊕ρ)} {r:ρ} (I:Nat->σ->Prop) (h:∀ k x,I k x->(∃ y j,j<k/\I j y/\Ev (λ n=>body n x) (.inl y))\/Ev (λ n=>body n x) (.inr r)):∀ (k:Nat) (x:σ),I k x->Ev (λ n=>Go.AI.whl (body n) n x) r:=by
 have key:∀ (k:Nat) (x:σ),I k x->∃ N c,∀ n fuel,N<=n->c<=fuel->Go.AI.whl (body n) fuel x=some r:=by
  intro k;induction k using Nat.strongRecOn with
  | _ k ih=>
   intro x hx;rcases h k x hx with⟨y,j,hj,hy,N1,h1⟩|⟨N1,h1⟩
   ·obtain⟨N2,c,h2⟩:=ih j hj y hy;refine⟨max N1 N2,c+1,λ n fuel hn hf=>?_⟩;cases fuel with
    | zero=>omega
    | succ fuel=>
     have e:=h1 n (by omega);simp only at e;simp only[Go.AI.whl,e];exact h2 n fuel (by omega) (by omega)
   ·refine⟨N1,1,λ n fuel hn hf=>?_⟩;cases fuel with
    | zero=>omega
    | succ fuel=>
     have e:=h1 n hn;simp only at e;simp only[Go.AI.whl,e]
 intro k x hx;obtain⟨N,c,hh⟩:=key k x hx;exact⟨max N c,λ m hm=>hh m m (by omega) (by omega)⟩
end Go.AI
end
section
namespace Go.AI
variable {α ε σ ρ ζ β:Type}
theorem Le.dem {S:α->Prop} {k k':α->Option ζ} (h:∀ a,Le (k a) (k' a)):Le (dem S k) (dem S k'):=by
 intro z hz;have h1:=Si hz;have h0:∃ a,S a:=by
  unfold Go.AI.dem at hz;split at hz
  ·rename_i hx;exact hx.choose_spec.1
  ·cases hz
 exact ZN h0 λ a ha=>h a _ (h1 a ha)
theorem Le.mapW {F F':ε->σ->Option (σ⊕ρ)} (h:∀ e x,Le (F e x) (F' e x)) (l:List ε) (x:σ):Le (mapW F l x) (mapW F' l x):=by
 induction l generalizing x with
 | nil=>intro z hz;exact hz
 | cons e l ih=>
  intro z hz;unfold Go.AI.mapW at hz⊢;split at hz
  ·cases hz
  ·rename_i y hy;rw[h e x _ hy];exact ih y z hz
  ·rename_i r hy;rw[h e x _ hy];exact hz
theorem Le.sortC {c c':β->β->Option Int} (h:∀ x y,Le (c x y) (c' x y)) {xs:List β}:Le (sortC c xs) (sortC c' xs):=by
 intro z hz;obtain⟨hc,hz⟩:=Pt hz;have e:c'=c:=by
  funext x y;have:=hc.1.tot x y;rw[Option.isSome_iff_exists]at this;obtain⟨n,hn⟩:=this;rw[hn,h x y _ hn]
 rw[e];unfold Go.AI.sortC;rw[if_pos hc];exact hz
end Go.AI
end
section
namespace Go.AI
theorem VP (a:Int):IntKind.i64.wrap a=if decide (a % 18446744073709551616>=9223372036854775808)=true then a % 18446744073709551616-18446744073709551616 else a % 18446744073709551616:=rfl
theorem Ri (a:Int):IntKind.u8.wrap a=a % 256:=rfl
theorem PT {a:Int} (h:-9223372036854775808<=a) (h':a<9223372036854775808):IntKind.i64.wrap a=a:=by
 rw[VP];split
 ·rename_i hc;simp at hc;omega
 ·rename_i hc;simp at hc;omega
theorem PU {a b:Int} (h:-9223372036854775808<=a+b) (h':a+b<9223372036854775808):AX .i64 a b=a+b:=PT h h'
theorem Jbe {a b:Int} (h:-9223372036854775808<=a-b) (h':a-b<9223372036854775808):KW .i64 a b=a-b:=PT h h'
theorem JiA {a:Int} (h:0<=a) (h':a<256):IntKind.u8.wrap a=a:=by
 rw[Ri];omega
theorem Uf (a:Int):0<=IntKind.u8.wrap a/\IntKind.u8.wrap a<256:=by
 rw[Ri];omega
def Ku (m k:Int):Bool:=decide (0<=k)&&decide (k<8)&&(B8 .u8 (XF .u8 m k) 1==1)
theorem Jbf (n:Nat) (m k:Int):Io n m k=some (Ku m k):=by
 unfold Io Ku;by_cases h:0<=k
 ·by_cases h':k<8<;>simp[h,h',BO]
 ·simp[h]
theorem Jbg (n:Nat) (m k:Int):Iu n m k=some (Ku m k):=by
 unfold Iu Ku;by_cases h:0<=k
 ·by_cases h':k<8<;>simp[h,h',BO]
 ·simp[h]
def E3 (b:Int):Int:=
 if(decide (97<=B8 .u8 b 127)&&decide (B8 .u8 b 127<=122))=true then 1
 else if(decide (65<=B8 .u8 b 127)&&decide (B8 .u8 b 127<=90))=true then 2
 else if(decide (48<=B8 .u8 b 127)&&decide (B8 .u8 b 127<=57))=true then 3
 else if(B8 .u8 b 127==32)=true then 4 else 5
theorem Ug (n:Nat) (b:Int):FY n b=some (E3 b):=by
 unfold FY E3;split
 ·rfl
 ·split
  ·rfl
  ·split
   ·rfl
   ·split<;>rfl
theorem X9 (n:Nat) (b:Int):HH n b=some (E3 b):=by
 unfold HH E3;simp only[ge_iff_le];split
 ·rfl
 ·split
  ·rfl
  ·split
   ·rfl
   ·split<;>rfl
theorem Uh (b:Int):1<=E3 b/\E3 b<=5:=by
 unfold E3;split
 ·omega
 ·split
  ·omega
  ·split
   ·omega
   ·split<;>omega
def Rj (s:List UInt8) (i:Nat):Int:=(s[i]?.getD 0).toNat
theorem L9 {s:List UInt8} {i:Nat} (h:i<s.length):I0 s (i:Int)=some (Rj s i):=by
 unfold I0 Rj;rw[if_pos (by omega)];simp
def WA:Ae:=⟨0,0,0⟩
def WB (r:Ay) (s:Ae):Ae×Bool:=
 if((r.From != s.Mode)||!Ku r.Left s.Last)=true then(WA,false)
 else if(r.Print==[])=true then
  (if(B8 .u8 s.Need r.Right==0)=true then(WA,false)else(⟨r.To,s.Last,B8 .u8 s.Need r.Right⟩,true))
 else if(!Ku s.Need (E3 (Rj r.Print 0)))=true then(WA,false)
 else(⟨r.To,E3 (Rj r.Print (r.Print.length-1)),r.Right⟩,true)
def Bo (t:Ab) (s:Ae) (k:Int):Ae×Bool:=
 if(decide (k<0)||decide (k>=(t.Rules.length:Int)))=true then(WA,false)else WB (t.Rules[k.toNat]?.getD default) s
def Jbh (t:Ab):Prop:=∀ r∈t.Rules,r.Print.length<9223372036854775808
theorem PV {α:Type} [Inhabited α] {l:List α} {k:Int} (h:0<=k) (h':k<l.length):idx l k=some (l[k.toNat]?.getD default):=by
 unfold idx;rw[if_pos h];have:k.toNat<l.length:=by omega
 simp[this]
theorem Og {t:Ab} (ht:Jbh t) (n:Nat) (s:Ae) (k:Int):Jt n t s k=some (Bo t s k):=by
 unfold Jt Bo;by_cases hk:(decide (k<0)||decide (k>=(t.Rules.length:Int)))=true
 ·rw[if_pos hk,if_pos hk];rfl
 ·rw[if_neg hk,if_neg hk];simp only[Jkg,decide_eq_true_eq,not_or,Int.not_lt,ge_iff_le,Int.not_le]at hk;rw[PV hk.1 hk.2];have hmem:(t.Rules[k.toNat]?.getD default)∈t.Rules:=by
   have:k.toNat<t.Rules.length:=by omega
   simp[this]
  have hlen:=ht _ hmem;generalize t.Rules[k.toNat]?.getD default=r at hlen⊢;simp only[JjD,Jbf,Ug];unfold WB;by_cases h1:r.From=s.Mode
  ·simp only[h1,bne_self_eq_false,Bool.not_false,if_true,JjD,Bool.false_or];by_cases h2:Ku r.Left s.Last=true
   ·simp only[h2,JjK,Jj9,if_false];by_cases h3:r.Print=[]
    ·simp only[h3,beq_self_eq_true,if_true];split<;>rfl
    ·have h3':(r.Print==[])=false:=by simpa using h3
     have hpos:0<r.Print.length:=List.length_pos_iff.2 h3;simp only[h3',Jj9,if_false];have e0:=L9 (s:=r.Print) (i:=0) hpos;simp only[Int.natCast_zero]at e0;rw[e0];have e1:KW .i64 ((r.Print.length:Nat):Int) 1=((r.Print.length-1:Nat):Int):=by rw[Jbe (by omega) (by omega)];omega
     rw[e1,L9 (by omega)];simp only[JjD];split<;>rfl
   ·have h2:Ku r.Left s.Last=false:=by simpa using h2
    simp only[h2,Bool.not_false,if_true];rfl
  ·have h1':(r.From != s.Mode)=true:=by simpa using h1
   simp only[h1',JjK,Jj9,if_false,JjD,Bool.true_or,if_true];rfl
end Go.AI
end
section
namespace Go.AI
theorem AA {α:Type} {l:List α} {i:Nat} {x:α} (h:l[i]?=some x):i<l.length:=(List.getElem?_eq_some_iff.1 h).1
theorem Ui {t:Ab} (ht:Jbh t) (n:Nat) (s:Ae) (k:Int):Jx n t s k=some (Bo t s k):=by
 unfold Jx Bo;by_cases hk:(decide (k<0)||decide (k>=(t.Rules.length:Int)))=true
 ·rw[if_pos hk,if_pos hk];rfl
 ·rw[if_neg hk,if_neg hk];simp only[Jkg,decide_eq_true_eq,not_or,Int.not_lt,ge_iff_le,Int.not_le]at hk;rw[PV hk.1 hk.2];have hmem:(t.Rules[k.toNat]?.getD default)∈t.Rules:=by
   have:k.toNat<t.Rules.length:=by omega
   simp[this]
  have hlen:=ht _ hmem;generalize t.Rules[k.toNat]?.getD default=r at hlen⊢;simp only[JjD,Jbg,X9];unfold WB;by_cases h1:r.From=s.Mode
  ·simp only[h1,bne_self_eq_false,Bool.not_false,if_true,JjD,Bool.false_or];by_cases h2:Ku r.Left s.Last=true
   ·simp only[h2,JjK,Jj9,if_false];by_cases h3:r.Print=[]
    ·simp only[h3,List.length_nil,Int.natCast_zero,beq_self_eq_true,Bool.true_and,if_true];split<;>rfl
    ·have h3':(r.Print==[])=false:=by simpa using h3
     have hpos:0<r.Print.length:=List.length_pos_iff.2 h3;have h4:(((r.Print.length:Nat):Int)==0)=false:=by simp;omega
     simp only[h3',h4,Bool.false_and,Jj9,if_false];have e0:=L9 (s:=r.Print) (i:=0) hpos;simp only[Int.natCast_zero]at e0;rw[e0];have e1:KW .i64 ((r.Print.length:Nat):Int) 1=((r.Print.length-1:Nat):Int):=by rw[Jbe (by omega) (by omega)];omega
     rw[e1,L9 (by omega)];simp only[JjD];split<;>rfl
   ·have h2:Ku r.Left s.Last=false:=by simpa using h2
    simp only[h2,Bool.not_false,if_true];rfl
  ·have h1':(r.From != s.Mode)=true:=by simpa using h1
   simp only[h1',JjK,Jj9,if_false,JjD,Bool.true_or,if_true];rfl
def Bf (t:Ab) (s:Ae):Bool:=decide (s.Mode<t.Modes)&&Ku t.Accept s.Mode&&Ku s.Need 0
theorem VQ (n:Nat) (t:Ab) (s:Ae):GV n t s=some (Bf t s):=by
 unfold GV Bf;simp only[Jbf];by_cases h1:s.Mode<t.Modes
 ·cases h2:Ku t.Accept s.Mode<;>simp[h1]
 ·simp[h1]
theorem Uj (n:Nat) (t:Ab) (s:Ae):GZ n t s=some (Bf t s):=by
 unfold GZ Bf;simp only[Jbg];have h0:¬ (0<=s.Mode)->Ku t.Accept s.Mode=false:=λ h=>by simp[Ku,h]
 by_cases h:0<=s.Mode
 ·by_cases h1:s.Mode<t.Modes
  ·cases h2:Ku t.Accept s.Mode<;>simp[h,h1]
  ·simp[h1]
 ·simp[h,h0 h]
end Go.AI
end
section
namespace Go.AI
theorem VR (a b:Int) (h:0<=b) (h':b<256):0<=B8 .u8 a b/\B8 .u8 a b<=b:=by
 unfold B8;have hb:(BitVec.ofInt 8 b).toNat=b.toNat:=by
  rw[BitVec.toNat_ofInt];omega
 have hle:(BitVec.ofInt 8 a &&& BitVec.ofInt 8 b).toNat<=b.toNat:=by
  rw[BitVec.toNat_and,hb];exact Nat.and_le_right
 have e:(BitVec.ofInt IntKind.u8.bits a &&& BitVec.ofInt IntKind.u8.bits b).toNat=(BitVec.ofInt 8 a &&& BitVec.ofInt 8 b).toNat:=rfl;rw[e,JiA (by omega) (by omega)];omega
def K8 (r:Ay):Prop:=0<=r.To/\r.To<2/\0<=r.Right/\r.Right<=63/\r.Print.length<=3
def HV (t:Ab):Prop:=t.Rules.length<=11/\∀ r∈t.Rules,K8 r
theorem HV.short {t:Ab} (h:HV t):Jbh t:=λ r hr=>by have:=(h.2 r hr).2.2.2.2;omega
def InU (s:Ae):Prop:=0<=s.Mode/\s.Mode<2/\0<=s.Last/\s.Last<=5/\0<=s.Need/\s.Need<=63
def JgV:List Ae:=(List.range 768).map λ i=>⟨(i / 384:Nat),(i / 64 % 6:Nat),(i % 64:Nat)⟩
theorem Jbi {s:Ae} (h:InU s):s∈JgV:=by
 obtain⟨h1,h2,h3,h4,h5,h6⟩:=h;obtain⟨m,l,d⟩:=s;simp only at h1 h2 h3 h4 h5 h6;simp only[JgV,JjP,List.mem_range];refine⟨m.toNat*384+l.toNat*64+d.toNat,by omega,?_⟩;have e1:(m.toNat*384+l.toNat*64+d.toNat) / 384=m.toNat:=by omega
 have e2:(m.toNat*384+l.toNat*64+d.toNat) / 64 % 6=l.toNat:=by omega
 have e3:(m.toNat*384+l.toNat*64+d.toNat) % 64=d.toNat:=by omega
 rw[e1,e2,e3];congr 1<;>omega
theorem Jbj {l m:List Ae} (h:l.Nodup) (hs:∀ x∈l,x∈m):l.length<=m.length:=by
 induction l generalizing m with
 | nil=>simp
 | cons a l ih=>
  rw[List.nodup_cons]at h;have ha:=hs a (by simp);have hlen:(m.erase a).length=m.length-1:=List.length_erase_of_mem ha;have hpos:0<m.length:=List.length_pos_of_mem ha;have:=ih (m:=m.erase a) h.2 λ x hx=>by
   have hne:x≠a:=λ e=>h.1 (e▸hx);exact(List.mem_erase_of_ne hne).2 (hs x (by simp[hx]))
  simp;omega
theorem Jbk {l:List Ae} (h:l.Nodup) (hs:∀ x∈l,InU x):l.length<=768:=by
 have:=Jbj h λ x hx=>Jbi (hs x hx);simpa [JgV]using this
theorem Jbl {t:Ab} (ht:HV t) {s:Ae} (hs:InU s) {k:Int} (h:(Bo t s k).2=true):InU (Bo t s k).1:=by
 unfold Bo at h⊢;split at h
 ·cases h
 ·rename_i hk;rw[if_neg hk];simp only[Jkg,decide_eq_true_eq,not_or,Int.not_lt,ge_iff_le,Int.not_le]at hk;have hmem:(t.Rules[k.toNat]?.getD default)∈t.Rules:=by
   have:k.toNat<t.Rules.length:=by omega
   simp[this]
  have hr:=ht.2 _ hmem;generalize t.Rules[k.toNat]?.getD default=r at hr h⊢;obtain⟨a1,a2,a3,a4,a5⟩:=hr;obtain⟨b1,b2,b3,b4,b5,b6⟩:=hs;unfold WB at h⊢;split at h
  ·cases h
  ·rename_i h1;rw[if_neg h1];split at h
   ·rename_i h2;rw[if_pos h2];split at h
    ·cases h
    ·rename_i h3;rw[if_neg h3];have:=VR s.Need r.Right a3 (by omega);exact⟨a1,a2,b3,b4,this.1,by show B8 .u8 s.Need r.Right<=63;omega⟩
   ·rename_i h2;rw[if_neg h2];split at h
    ·cases h
    ·rename_i h3;rw[if_neg h3];have:=Uh (Rj r.Print (r.Print.length-1));exact⟨a1,a2,by show 0<=E3 _;omega,by show E3 _<=5;omega,a3,a4⟩
def BX:Ae:=⟨0,0,63⟩
def Kv (t:Ab) (s:Ae) (st:List Ae) (k:Nat):List Ae:=if(Bo t s k).2=true/\(Bo t s k).1 ∉ st then st++[(Bo t s k).1]else st
def N0 (t:Ab) (s:Ae) (m:Nat) (st:List Ae):List Ae:=(List.range m).foldl (Kv t s) st
theorem Kc (t:Ab) (s:Ae) (m:Nat) (st:List Ae):N0 t s (m+1) st=Kv t s (N0 t s m st) m:=by
 simp[N0,List.range_succ]
def Uk (t:Ab):Nat->Nat->List Ae->List Ae
 | 0,_,st=>st
 | f+1,i,st=>match st[i]? with
  | some s=>Uk t f (i+1) (N0 t s t.Rules.length st)
  | none=>st
def AK (t:Ab):List Ae:=Uk t 800 0 [BX]
structure Gv (t:Ab) (st:List Ae):Prop where
 nodup:st.Nodup
 inU:∀ s∈st,InU s
 first:st[0]?=some BX
 origin:∀ (j:Nat) (s:Ae),st[j]?=some s->0<j->∃ (i:Nat) (s':Ae) (k:Nat),i<j/\st[i]?=some s'/\k<t.Rules.length/\Bo t s' k=(s,true)
theorem Gv.len {t:Ab} {st:List Ae} (h:Gv t st):st.length<=768:=Jbk h.nodup h.inU
theorem Gv.add {t:Ab} (ht:HV t) {st:List Ae} (h:Gv t st) {i:Nat} {s:Ae} (hi:st[i]?=some s) {k:Nat} (hk:k<t.Rules.length):Gv t (Kv t s st k):=by
 unfold Kv;split
 ·rename_i hc;have hil:=AA hi;refine⟨?_,λ x hx=>?_,?_,λ j x hj h0=>?_⟩
  ·rw[List.nodup_append];refine⟨h.nodup,by simp,λ a ha b hb=>?_⟩;simp at hb;subst hb;exact λ e=>hc.2 (e▸ha)
  ·simp only[List.mem_append,List.mem_singleton]at hx;rcases hx with hx|rfl
   ·exact h.inU x hx
   ·exact Jbl ht (h.inU s (JjZ hi)) hc.1
  ·rw[Jj5 (by omega)];exact h.first
  ·rcases JjN j st.length with hlt|hge
   ·rw[Jj5 hlt]at hj;obtain⟨i',s',k',a1,a2,a3,a4⟩:=h.origin j x hj h0;exact⟨i',s',k',a1,by rw[Jj5 (by omega)];exact a2,a3,a4⟩
   ·rw[Jkf hge]at hj;have:j-st.length=0:=by have:=AA hj;simp at this;omega
    rw[this]at hj;simp at hj;subst hj;refine⟨i,s,k,by omega,by rw[Jj5 hil];exact hi,hk,?_⟩;exact Prod.ext rfl hc.1
 ·exact h
theorem Ul (t:Ab) (s:Ae) (st:List Ae) (k:Nat):st <+: Kv t s st k:=by
 unfold Kv;split
 ·exact List.prefix_append _ _
 ·exact List.prefix_refl _
theorem HW (t:Ab) (s:Ae) (st:List Ae):∀ m,st <+: N0 t s m st:=by
 intro m;induction m with
 | zero=>exact List.prefix_refl _
 | succ m ih=>rw[Kc];exact ih.trans (Ul _ _ _ _)
theorem Oh {α:Type} {l m:List α} (h:l <+: m) {i:Nat} {x:α} (hi:l[i]?=some x):m[i]?=some x:=by
 obtain⟨r,rfl⟩:=h;rw[Jj5 (AA hi)];exact hi
theorem Gv.exp {t:Ab} (ht:HV t) {st:List Ae} (h:Gv t st) {i:Nat} {s:Ae} (hi:st[i]?=some s):∀ m,m<=t.Rules.length->Gv t (N0 t s m st):=by
 intro m;induction m with
 | zero=>intro _;exact h
 | succ m ih=>
  intro hm;rw[Kc];exact(ih (by omega)).add ht (Oh (HW t s st m) hi) (by omega)
theorem Jbm (t:Ab) (s:Ae) (st:List Ae):∀ m k:Nat,k<m->(Bo t s k).2=true->(Bo t s k).1∈N0 t s m st:=by
 intro m;induction m with
 | zero=>intro k hk;omega
 | succ m ih=>
  intro k hk h;rw[Kc];by_cases e:k=m
  ·subst e;unfold Kv;by_cases hc:(Bo t s k).1∈N0 t s k st
   ·rw[if_neg (λ hh=>hh.2 hc)];exact hc
   ·rw[if_pos ⟨h,hc⟩];simp
  ·exact(Ul t s _ m).subset (ih k (by omega) h)
def JgW (t:Ab) (i:Nat) (st:List Ae):Prop:=∀ (j:Nat) (s:Ae),j<i->st[j]?=some s->∀ k:Nat,k<t.Rules.length->(Bo t s k).2=true->(Bo t s k).1∈st
theorem JgX {t:Ab} (ht:HV t):∀ (f i:Nat) (st:List Ae),Gv t st->JgW t i st->768<f+i->Gv t (Uk t f i st)/\∀ i',JgW t i' (Uk t f i st):=by
 intro f;induction f with
 | zero=>
  intro i st h hd hf;have:=h.len;refine⟨h,λ i' j s hj hs=>?_⟩;have hs:st[j]?=some s:=hs;exact hd j s (by have:=AA hs;omega) hs
 | succ f ih=>
  intro i st h hd hf;simp only[Uk];cases hi:st[i]? with
  | none=>
   refine⟨h,λ i' j s hj hs=>?_⟩;have hs:st[j]?=some s:=hs;exact hd j s (by have:=AA hs;rw[List.getElem?_eq_none_iff]at hi;omega) hs
  | some s=>
   refine ih (i+1) _ (h.exp ht hi _ (JjM _)) (λ j x hj hx k hk hk2=>?_) (by omega);by_cases e:j=i
   ·subst e;have:=Oh (HW t s st t.Rules.length) hi;rw[this]at hx;cases hx;exact Jbm t s st _ k hk hk2
   ·have hjl:j<st.length:=by have:=AA hi;omega
    have hxx:st[j]?=some st[j]:=JjX hjl;have:=Oh (HW t s st t.Rules.length) hxx;rw[this]at hx;cases hx;exact(HW t s st t.Rules.length).subset (hd j _ (by omega) hxx k hk hk2)
theorem Eo {t:Ab} (ht:HV t):Gv t (AK t)/\∀ i,JgW t i (AK t):=by
 refine JgX ht 800 0 [BX] ⟨by simp,λ s hs=>?_,rfl,λ j s hj h0=>?_⟩ (λ j s hj=>by omega) (by omega)
 ·simp at hs;subst hs;exact⟨by decide,by decide,by decide,by decide,by decide,by decide⟩
 ·cases j with
  | zero=>omega
  | succ j=>simp at hj
end Go.AI
end
section
namespace Go.AI
theorem Jjv {σ ρ:Type} {body:Nat->σ->Option (σ⊕ρ)} {R:ρ->Prop} (I:Nat->σ->Prop) (h:∀ k x,I k x->(∃ y j,j<k/\I j y/\Ev (λ n=>body n x) (.inl y))\/∃ r,R r/\Ev (λ n=>body n x) (.inr r)):∀ (k:Nat) (x:σ),I k x->∃ r,R r/\Ev (λ n=>Go.AI.whl (body n) n x) r:=by
 have key:∀ (k:Nat) (x:σ),I k x->∃ r,R r/\∃ N c,∀ n fuel,N<=n->c<=fuel->Go.AI.whl (body n) fuel x=some r:=by
  intro k;induction k using Nat.strongRecOn with
  | _ k ih=>
   intro x hx;rcases h k x hx with⟨y,j,hj,hy,N1,h1⟩|⟨r,hr,N1,h1⟩
   ·obtain⟨r,hr,N2,c,h2⟩:=ih j hj y hy;refine⟨r,hr,max N1 N2,c+1,λ n fuel hn hf=>?_⟩;cases fuel with
    | zero=>omega
    | succ fuel=>
     have e:=h1 n (by omega);simp only at e;simp only[Go.AI.whl,e];exact h2 n fuel (by omega) (by omega)
   ·refine⟨r,hr,N1,1,λ n fuel hn hf=>?_⟩;cases fuel with
    | zero=>omega
    | succ fuel=>
     have e:=h1 n hn;simp only at e;simp only[Go.AI.whl,e]
 intro k x hx;obtain⟨r,hr,N,c,hh⟩:=key k x hx;exact⟨r,hr,max N c,λ m hm=>hh m m (by omega) (by omega)⟩
def IY (st:List Ae) (nb:List (Ae×Int)):Prop:=∀ s,AN s nb=(st.findIdx? λ x=>decide (x=s)).map λ i=>(i:Int)
theorem CZ {st:List Ae} {s:Ae} {i:Nat} (hn:st.Nodup) (h:st[i]?=some s):(st.findIdx? λ x=>decide (x=s))=some i:=by
 have hi:=AA h;rw[List.findIdx?_eq_some_iff_getElem];have he:st[i]=s:=by rw[JjX hi]at h;exact Option.some.inj h
 refine⟨hi,by simpa using he,λ j hj=>?_⟩;simp only[JjL,decide_eq_false_iff_not];intro e;have:=(List.getElem_inj (i:=j) (j:=i) (h₀:=by omega) (h₁:=hi) hn).1 (by rw[e,he]);omega
theorem IE {st:List Ae} {s:Ae} (h:s ∉ st):(st.findIdx? λ x=>decide (x=s))=none:=by
 rw[List.findIdx?_eq_none_iff];intro y hy;simp only[decide_eq_false_iff_not];exact λ e=>h (e▸hy)
theorem HX {κ α:Type} [DecidableEq κ] (k k':κ) (v:α) (m:List (κ×α)):AN k' (BJ k v m)=if k'=k then some v else AN k' m:=by
 induction m with
 | nil=>simp[BJ,AN]
 | cons p m ih=>
  simp only[BJ];by_cases h:k=p.1
  ·rw[if_pos h];simp only[AN];by_cases h':k'=k
   ·simp[h']
   ·have:k'≠p.1:=λ e=>h' (e.trans h.symm);simp[h',this]
  ·rw[if_neg h];simp only[AN];by_cases h':k'=p.1
   ·have:k'≠k:=λ e=>h (e▸h');rw[if_pos h',if_neg this,if_pos h']
   ·rw[if_neg h',if_neg h',ih]
theorem IY.snoc {st:List Ae} {nb:List (Ae×Int)} (h:IY st nb) (hn:st.Nodup) {p:Ae} (hp:p ∉ st):IY (st++[p]) (BJ p (st.length:Nat) nb):=by
 intro s;rw[HX];have hnd:(st++[p]).Nodup:=by
  rw[List.nodup_append];exact⟨hn,by simp,λ a ha b hb=>by simp at hb;subst hb;exact λ e=>hp (e▸ha)⟩
 by_cases e:s=p
 ·subst e;rw[if_pos rfl,CZ hnd (i:=st.length) (by simp)];rfl
 ·rw[if_neg e,h s];by_cases hs:s∈st
  ·obtain⟨i,hi⟩:=List.mem_iff_getElem?.1 hs;rw[CZ hn hi,CZ hnd (i:=i) (by rw[Jj5 (AA hi)];exact hi)]
  ·rw[IE hs,IE (by simp[hs,e])]
def Gw (i m j k:Nat):Prop:=j<i\/(j=i/\k<m)
structure CJ (t:Ab) (st:List Ae) (fr:List (List Int)) (i m:Nat):Prop where
 len:fr.length=st.length
 cov:∀ j s k,Gw i m j k->st[j]?=some s->k<t.Rules.length->(Bo t s (k:Nat)).2=true->(Bo t s (k:Nat)).1∈st
 sound:∀ (n:Nat) l,fr[n]?=some l->∀ x∈l,∃ (j:Nat) (s:Ae) (k:Nat) (s':Ae),x=(j:Int)/\st[j]?=some s/\k<t.Rules.length/\st[n]?=some s'/\Bo t s (k:Nat)=(s',true)
 compl:∀ (n:Nat) l,fr[n]?=some l->∀ (j:Nat) (s:Ae) (k:Nat) (s':Ae),Gw i m j k->st[j]?=some s->k<t.Rules.length->st[n]?=some s'->Bo t s (k:Nat)=(s',true)->(j:Int)∈l
 small:∀ (n:Nat) l,fr[n]?=some l->l.length<=i*11+m
theorem CJ.snoc {t:Ab} {st:List Ae} {fr:List (List Int)} {i m:Nat} (h:CJ t st fr i m) {p:Ae} (hp:p ∉ st) (hi:i<st.length):CJ t (st++[p]) (fr++[[]]) i m:=by
 have hget:∀ (j:Nat) s,Gw i m j 0\/j<=i->(st++[p])[j]?=some s->st[j]?=some s:=λ j s hj hs=>by
  rcases JjN j st.length with hlt|hge
  ·rwa[Jj5 hlt]at hs
  ·rcases hj with (h1|⟨h1,_⟩)|h1<;>omega
 have hle:∀ {j k},Gw i m j k->j<=i:=λ h=>by rcases h with h|⟨h,_⟩<;>omega
 refine⟨by simp[h.len],λ j s k ht hs hk h2=>?_,λ n l hl x hx=>?_,λ n l hl j s k s' ht hs hk hs' he=>?_,λ n l hl=>?_⟩
 ·exact List.mem_append_left _ (h.cov j s k ht (hget j s (.inr (hle ht)) hs) hk h2)
 ·rcases JjN n fr.length with hlt|hge
  ·rw[Jj5 hlt]at hl;obtain⟨j,s,k,s',a1,a2,a3,a4,a5⟩:=h.sound n l hl x hx;exact⟨j,s,k,s',a1,by rw[Jj5 (AA a2)];exact a2,a3,by rw[Jj5 (AA a4)];exact a4,a5⟩
  ·rw[Jkf hge]at hl;have:n-fr.length=0:=by have:=AA hl;simp at this;omega
   rw[this]at hl;simp at hl;subst hl;simp at hx
 ·have hs0:=hget j s (.inr (hle ht)) hs;have hmem:s'∈st:=by have:=h.cov j s k ht hs0 hk (by rw[he]);rwa[he]at this
  rcases JjN n fr.length with hlt|hge
  ·rw[Jj5 hlt]at hl;rw[Jj5 (by rw[← h.len];exact hlt)]at hs';exact h.compl n l hl j s k s' ht hs0 hk hs' he
  ·have hn:n=st.length:=by have:=AA hs';simp at this;rw[h.len]at hge;omega
   subst hn;simp at hs';subst hs';exact absurd hmem hp
 ·rcases JjN n fr.length with hlt|hge
  ·rw[Jj5 hlt]at hl;exact h.small n l hl
  ·rw[Jkf hge]at hl;have:n-fr.length=0:=by have:=AA hl;simp at this;omega
   rw[this]at hl;simp at hl;subst hl;simp
theorem CJ.put {t:Ab} {st:List Ae} {fr:List (List Int)} {i m:Nat} (h:CJ t st fr i m) (hnd:st.Nodup) {s p:Ae} {q:Nat} {l:List Int} (hs:st[i]?=some s) (hm:m<t.Rules.length) (hst:Bo t s (m:Nat)=(p,true)) (hq:st[q]?=some p) (hl:fr[q]?=some l):CJ t st (fr.set q (l++[(i:Int)])) i (m+1):=by
 have htk:∀ {j k},Gw i (m+1) j k->Gw i m j k\/(j=i/\k=m):=λ {j k} h=>by
  unfold Gw at *;omega
 have hql:=AA hl;refine⟨by simp[h.len],λ j x k ht hx hk h2=>?_,λ n l' hl' x hx=>?_,λ n l' hl' j x k x' ht hx hk hx' he=>?_,λ n l' hl'=>?_⟩
 ·rcases htk ht with ht|⟨rfl,rfl⟩
  ·exact h.cov j x k ht hx hk h2
  ·rw[hs]at hx;cases hx;rw[hst];exact JjZ hq
 ·by_cases e:n=q
  ·subst e;rw[Jj8 hql]at hl';cases hl';simp only[List.mem_append,List.mem_singleton]at hx;rcases hx with hx|rfl
   ·exact h.sound n l hl x hx
   ·exact⟨i,s,m,p,rfl,hs,hm,hq,hst⟩
  ·rw[Jkd (Ne.symm e)]at hl';exact h.sound n l' hl' x hx
 ·rcases htk ht with ht|⟨rfl,rfl⟩
  ·by_cases e:n=q
   ·subst e;rw[Jj8 hql]at hl';cases hl';exact List.mem_append_left _ (h.compl n l hl j x k x' ht hx hk hx' he)
   ·rw[Jkd (Ne.symm e)]at hl';exact h.compl n l' hl' j x k x' ht hx hk hx' he
  ·rw[hs]at hx;cases hx;rw[hst]at he;cases he;have e:n=q:=by
    have h1:=AA hx';have h2:=AA hq;rw[JjX h1]at hx';rw[JjX h2]at hq;exact(List.getElem_inj (h₀:=h1) (h₁:=h2) hnd).1 ((Option.some.inj hx').trans (Option.some.inj hq).symm)
   subst e;rw[Jj8 hql]at hl';cases hl';simp
 ·by_cases e:n=q
  ·subst e;rw[Jj8 hql]at hl';cases hl';have:=h.small n l hl;simp;omega
  ·rw[Jkd (Ne.symm e)]at hl';have:=h.small n l' hl';omega
theorem CJ.skip {t:Ab} {st:List Ae} {fr:List (List Int)} {i m:Nat} (h:CJ t st fr i m) {s:Ae} (hs:st[i]?=some s) (hst:(Bo t s (m:Nat)).2=false):CJ t st fr i (m+1):=by
 have htk:∀ {j k},Gw i (m+1) j k->Gw i m j k\/(j=i/\k=m):=λ {j k} h=>by
  unfold Gw at *;omega
 refine⟨h.len,λ j x k ht hx hk h2=>?_,h.sound,λ n l hl j x k x' ht hx hk hx' he=>?_,λ n l hl=>by have:=h.small n l hl;omega⟩
 ·rcases htk ht with ht|⟨rfl,rfl⟩
  ·exact h.cov j x k ht hx hk h2
  ·rw[hs]at hx;cases hx;rw[hst]at h2;cases h2
 ·rcases htk ht with ht|⟨rfl,rfl⟩
  ·exact h.compl n l hl j x k x' ht hx hk hx' he
  ·rw[hs]at hx;cases hx;rw[he]at hst;cases hst
end Go.AI
end
section
namespace Go.AI
theorem IF {α:Type} {l:List α} {i:Nat} {x:α} (h:l[i]?=some x):idx l (i:Int)=some x:=by
 unfold idx;rw[if_pos (by omega)];simpa using h
theorem Gx {α:Type} {eb:Nat} {xs ys:List α} (h:(xs.length+ys.length)*eb<=70368744177664):app eb xs ys=some (xs++ys):=by
 unfold app;rw[if_pos h]
theorem Um {t:Ab} (ht:HV t) {i m:Nat} {s:Ae} {st:List Ae} {fr:List (List Int)} {nb:List (Ae×Int)} (hF:Gv t st) (hi:st[i]?=some s) (hN:IY st nb) (hR:CJ t st fr i m) (hm:m<t.Rules.length) :
  ∃ fr' nb',IY (Kv t s st m) nb'/\CJ t (Kv t s st m) fr' i (m+1)/\∀ n,BP n t (i:Int) st fr nb (m:Int)=some (.inl (Kv t s st m,fr',nb',((m+1:Nat):Int))):=by
 have hil:=AA hi;have hlen:=hF.len;have hrl:=ht.1;have hinc:AX .i64 (m:Int) 1=((m+1:Nat):Int):=by rw[PU (by omega) (by omega)];rfl
 have hcond:decide ((m:Int)<((t.Rules.length:Nat):Int))=true:=by simpa using hm
 cases hp:(Bo t s (m:Nat)).2 with
 | false=>
  have ha:Kv t s st m=st:=by unfold Kv;rw[if_neg (by rw[hp];simp)]
  refine⟨fr,nb,by rw[ha];exact hN,by rw[ha];exact hR.skip hi hp,λ n=>?_⟩;unfold BP;rw[if_pos hcond,IF hi];simp only[JjD,Og ht.short,hp,Bool.not_false,if_true,CD,hinc,ha]
 | true=>
  have hpe:Bo t s (m:Nat)=((Bo t s (m:Nat)).1,true):=Prod.ext rfl hp;generalize hpp:(Bo t s (m:Nat)).1=p at hpe;by_cases hmem:p∈st
  ·have ha:Kv t s st m=st:=by unfold Kv;rw[if_neg (by rw[hpp];exact λ hh=>hh.2 hmem)]
   obtain⟨q,hq⟩:=List.mem_iff_getElem?.1 hmem;have hql:=AA hq;obtain⟨lq,hfq⟩:∃ lq,fr[q]?=some lq:=⟨_,JjX (by rw[hR.len];exact hql)⟩;have hsm:=hR.small q _ hfq;have hget:AN p nb=some (q:Int):=by rw[hN p,CZ hF.nodup hq];rfl
   have hiv:i<768:=by omega
   refine⟨fr.set q (lq++[(i:Int)]),nb,by rw[ha];exact hN,by rw[ha];exact hR.put hF.nodup hi hm hpe hq hfq,λ n=>?_⟩;unfold BP;rw[if_pos hcond,IF hi];simp only[JjD,Og ht.short,hpe,hget,Option.isSome_some,JjK,Jj9,if_false,JjI,Dq];rw[IF hfq];simp only[JjD];rw[Gx (by simp;omega)];simp only[JjD,CD,hinc,ha,Jj6]
  ·have ha:Kv t s st m=st++[p]:=by unfold Kv;rw[if_pos ⟨hp,by rw[hpp];exact hmem⟩,hpp]
   have hnd:(st++[p]).Nodup:=by have:=(hF.add ht hi hm).nodup;rwa[ha]at this
   have hget:AN p nb=none:=by rw[hN p,IE hmem];rfl
   have hR':=hR.snoc hmem hil;have hfq:(fr++[[]])[st.length]?=some ([]:List Int):=by rw[← hR.len];simp
   refine⟨(fr++[[]]).set st.length ([]++[(i:Int)]),BJ p (st.length:Nat) nb,by rw[ha];exact hN.snoc hF.nodup hmem,by rw[ha];exact hR'.put hnd (by rw[Jj5 hil];exact hi) hm hpe (by simp) hfq,λ n=>?_⟩;unfold BP;rw[if_pos hcond,IF hi];simp only[JjD,Og ht.short,hpe,hget,Option.isSome_none,Bool.not_false,JjK,Jj9,if_true,if_false];rw[Gx (by simp;omega),JjD,Gx (by simp[hR.len];omega),JjD];simp only[Dq];rw[IF hfq];simp only[JjD];rw[Gx (by simp)];simp only[JjD,CD,hinc,ha,Jj6]
theorem CJ.next {t:Ab} {st:List Ae} {fr:List (List Int)} {i:Nat} (h:CJ t st fr i t.Rules.length) (hr:t.Rules.length<=11):CJ t st fr (i+1) 0:=by
 have htk:∀ {j k},k<t.Rules.length->Gw (i+1) 0 j k->Gw i t.Rules.length j k:=λ {j k} hk h=>by
  unfold Gw at *;omega
 exact⟨h.len,λ j s k ht hs hk=>h.cov j s k (htk hk ht) hs hk,h.sound,λ n l hl j s k s' ht hs hk=>h.compl n l hl j s k s' (htk hk ht) hs hk,λ n l hl=>by have:=h.small n l hl;omega⟩
theorem Jbn {t:Ab} (ht:HV t) {i:Nat} {s:Ae} {st:List Ae} {fr:List (List Int)} {nb:List (Ae×Int)} (hF:Gv t st) (hi:st[i]?=some s) (hN:IY st nb) (hR:CJ t st fr i 0) :
  ∃ r:List Ae×List (List Int)×List (Ae×Int),(r.1=N0 t s t.Rules.length st/\IY r.1 r.2.2/\CJ t r.1 r.2.1 (i+1) 0) /\
   Ev (λ n=>whl (λ (x:((List Ae)×(List (List Int))×(List (Ae×Int))×Int))=>BP n t (i:Int) x.1 x.2.1 x.2.2.1 x.2.2.2) n (st,fr,nb,0)) r:=by
 refine Jjv (body:=λ n x=>BP n t (i:Int) x.1 x.2.1 x.2.2.1 x.2.2.2) (λ k x=>∃ m:Nat,m<=t.Rules.length/\k=t.Rules.length-m/\x.1=N0 t s m st/\x.2.2.2=(m:Int)/\IY x.1 x.2.2.1/\CJ t x.1 x.2.1 i m) ?_ t.Rules.length (st,fr,nb,0) ⟨0,by omega,by omega,rfl,rfl,hN,hR⟩;rintro k ⟨st',fr',nb',m'⟩ ⟨m,hm,rfl,h1,h2,h3,h4⟩;simp only at h1 h2 h3 h4;subst h1;subst h2;rcases JjN m t.Rules.length with hlt|hge
 ·left;have hi':(N0 t s m st)[i]?=some s:=Oh (HW t s st m) hi;obtain⟨fr2,nb2,g1,g2,g3⟩:=Um ht (hF.exp ht hi m hm) hi' h3 h4 hlt;exact⟨_,t.Rules.length-(m+1),by omega,⟨m+1,hlt,rfl,(Kc t s m st).symm,rfl,g1,g2⟩,Ev.all g3⟩
 ·right;have e:m=t.Rules.length:=by omega
  subst e;refine⟨(N0 t s t.Rules.length st,fr',nb'),⟨rfl,h3,h4.next ht.1⟩,Ev.all λ n=>?_⟩;unfold BP;rw[if_neg (by simp)]
theorem VS {t:Ab} (ht:HV t):∃ fr,CJ t (AK t) fr (AK t).length 0/\Ev (λ n=>GU n t) (AK t,fr):=by
 have h0:Gv t [BX]:=⟨by simp,λ s hs=>by simp at hs;subst hs;exact⟨by decide,by decide,by decide,by decide,by decide,by decide⟩,rfl,λ j s hj h0=>by cases j with|zero=>omega|succ j=>simp at hj⟩;have loop:∃ r:List Ae×List (List Int),(r.1=AK t/\CJ t r.1 r.2 r.1.length 0) /\
   Ev (λ n=>whl (λ (x:((List Ae)×(List (List Int))×(List (Ae×Int))×Int))=>CE n t x.1 x.2.1 x.2.2.1 x.2.2.2) n ([BX],([[]]:List (List Int)),(BJ BX 0 []),0)) r:=by
  refine Jjv (body:=λ n x=>CE n t x.1 x.2.1 x.2.2.1 x.2.2.2) (λ k x=>∃ i:Nat,i<=x.1.length/\k=800-i/\Uk t (800-i) i x.1=AK t/\x.2.2.2=(i:Int)/\Gv t x.1/\IY x.1 x.2.2.1/\CJ t x.1 x.2.1 i 0) ?_ 800 _ ⟨0,by simp,by omega,rfl,rfl,h0,?_,?_⟩
  ·rintro k ⟨st,fr,nb,i'⟩ ⟨i,hil,rfl,hb,hi',hF,hN,hR⟩;simp only at hil hb hi' hF hN hR;subst hi';have hlen:=hF.len;rcases JjN i st.length with hlt|hge
   ·left;have hi:st[i]?=some st[i]:=JjX hlt;obtain⟨r,⟨g1,g2,g3⟩,g4⟩:=Jbn ht hF hi hN hR;have hexp:=hF.exp ht hi _ (JjM _);refine⟨(r.1,r.2.1,r.2.2,((i+1:Nat):Int)),800-(i+1),by omega,⟨i+1,?_,rfl,?_,rfl,by rw[g1];exact hexp,g2,g3⟩,?_⟩
    ·simp only[g1];have:=(HW t st[i] st t.Rules.length).length_le;omega
    ·simp only[g1];rw[← hb];have e:800-i=(800-(i+1))+1:=by omega
     rw[e];simp only[Uk,hi]
    ·refine(Ev.bind g4 (g:=λ _ y2=>some (.inl (y2.1,y2.2.1,y2.2.2,((i+1:Nat):Int)))) Ev.const).congr λ n=>?_;unfold CE;rw[if_pos (by simpa using hlt)];have hinc:AX .i64 (i:Int) 1=((i+1:Nat):Int):=by rw[PU (by omega) (by omega)];rfl
     rw[hinc]
   ·right;have e:i=st.length:=by omega
    subst e;have hst:st=AK t:=by
     rw[← hb];have e:800-st.length=(800-(st.length+1))+1:=by omega
     rw[e];simp[Uk]
    refine⟨(st,fr),⟨hst,hR⟩,Ev.all λ n=>?_⟩;unfold CE;rw[if_neg (by simp)]
  ·intro s;simp only[BJ,AN];by_cases e:s=BX
   ·subst e;simp
   ·have:¬ BX=s:=λ h=>e h.symm;simp[e,this]
  ·refine⟨rfl,λ j s k ht=>?_,λ n l hl x hx=>?_,λ n l hl j s k s' ht=>?_,λ n l hl=>?_⟩
   ·unfold Gw at ht;omega
   ·cases n with
    | zero=>simp at hl;subst hl;simp at hx
    | succ n=>simp at hl
   ·unfold Gw at ht;omega
   ·cases n with
    | zero=>simp at hl;subst hl;simp
    | succ n=>simp at hl
 obtain⟨⟨st,fr⟩,⟨g1,g2⟩,g3⟩:=loop;simp only at g1 g2;subst g1;refine⟨fr,g2,?_⟩;have hs:∀ n,MP n=some BX:=λ n=>rfl;refine(Ev.bind g3 (g:=λ _ y3=>some (y3.1,y3.2)) Ev.const).congr λ n=>?_;unfold GU;rw[hs,JjD]
theorem VT {t:Ab} (ht:HV t):Ev (λ n=>K0 n t) (AK t):=by
 obtain⟨fr,_,h⟩:=VS ht;exact(Ev.bind h (g:=λ _ r=>some r.1) Ev.const).congr λ n=>rfl
end Go.AI
end
section
namespace Go.AI
def Tot {α:Type} (f:Nat->Option α) (P:α->Prop):Prop:=∃ z,P z/\Ev f z
def Rd2 {σ ρ:Type} (I:σ->Prop) (P:ρ->Prop):σ⊕ρ->Prop
 | .inl y=>I y
 | .inr r=>P r
variable {α β σ ρ:Type} {P R:α->Prop}
theorem Tot.ev {f:Nat->Option α} {z:α} (h:Tot f (λ x=>x=z)):Ev f z:=by obtain⟨_,rfl,h⟩:=h;exact h
theorem Ev.tot {f:Nat->Option α} {z:α} (h:Ev f z) (hp:P z):Tot f P:=⟨z,hp,h⟩
theorem Jjw {z:α} (h:P z):Tot (λ _=>some z) P:=⟨z,h,Ev.const⟩
theorem Tot.all {f:Nat->Option α} {z:α} (h:∀ n,f n=some z) (hp:P z):Tot f P:=⟨z,hp,Ev.all h⟩
theorem Tot.mono {f:Nat->Option α} (h:Tot f R) (hp:∀ x,R x->P x):Tot f P:=by obtain⟨z,hz,h⟩:=h;exact⟨z,hp z hz,h⟩
theorem Tot.bind {f:Nat->Option β} {g:Nat->β->Option α} {R:β->Prop} (h:Tot f R) (k:∀ x,R x->Tot (λ n=>g n x) P):Tot (λ n=>(f n).bind (g n)) P:=by
 obtain⟨x,hx,h⟩:=h;obtain⟨z,hz,h'⟩:=k x hx;exact⟨z,hz,Ev.bind h h'⟩
theorem Jjx {f:Nat->Option β} {g:Nat->β->Option α} {x:β} (h:Ev f x) (k:Tot (λ n=>g n x) P):Tot (λ n=>(f n).bind (g n)) P:=by
 obtain⟨z,hz,h'⟩:=k;exact⟨z,hz,Ev.bind h h'⟩
theorem Tot.bindC {x:Option β} {y:β} {g:Nat->β->Option α} (h:x=some y) (k:Tot (λ n=>g n y) P):Tot (λ n=>x.bind (g n)) P:=by subst h;exact k
theorem Jjy {f:Nat->Option β} {y:β} {g:Nat->β->Option α} (h:∀ n,f n=some y) (k:Tot (λ n=>g n y) P):Tot (λ n=>(f n).bind (g n)) P:=Jjx (Ev.all h) k
theorem Tot.ite {c:Bool} {a b:Nat->Option α} (h1:c=true->Tot a P) (h2:c=false->Tot b P):Tot (λ n=>if c=true then a n else b n) P:=by
 cases c with
 | true=>exact h1 rfl
 | false=>exact h2 rfl
theorem Tot.iteT {c:Bool} {a b:Nat->Option α} (h:c=true) (k:Tot a P):Tot (λ n=>if c=true then a n else b n) P:=by subst h;exact k
theorem Tot.iteF {c:Bool} {a b:Nat->Option α} (h:c=false) (k:Tot b P):Tot (λ n=>if c=true then a n else b n) P:=by subst h;exact k
theorem Tot.guard {c:Bool} {f:Nat->Option β} {d:β} {g:Nat->β->Option α} {R:β->Prop} (h:c=true->Tot f R) (k:∀ x,(c=true->R x)->Tot (λ n=>g n x) P):Tot (λ n=>(if c=true then f n else some d).bind (g n)) P:=by
 cases c with
 | true=>exact Tot.bind (h rfl) λ x hx=>k x λ _=>hx
 | false=>exact k d λ h=>by cases h
theorem Tot.congr {f g:Nat->Option α} (h:Tot f P) (e:∀ n,g n=f n):Tot g P:=by obtain⟨z,hz,h⟩:=h;exact⟨z,hz,h.congr e⟩
theorem Tot.sum {y:β⊕σ} {f:Nat->β->Option α} {g:Nat->σ->Option α} (h1:∀ b,y=.inl b->Tot (λ n=>f n b) P) (h2:∀ b,y=.inr b->Tot (λ n=>g n b) P):Tot (λ n=>match y with | .inl b=>f n b | .inr b=>g n b) P:=by
 cases y with
 | inl b=>exact h1 b rfl
 | inr b=>exact h2 b rfl
theorem Tot.whl {body:Nat->σ->Option (σ⊕ρ)} {P:ρ->Prop} (I:Nat->σ->Prop) (h:∀ k x,I k x->Tot (λ n=>body n x) (Rd2 (λ y=>∃ j,j<k/\I j y) P)):∀ (k:Nat) (x:σ),I k x->Tot (λ n=>Go.AI.whl (body n) n x) P:=by
 have key:∀ (k:Nat) (x:σ),I k x->∃ r,P r/\∃ N c,∀ n fuel,N<=n->c<=fuel->Go.AI.whl (body n) fuel x=some r:=by
  intro k;induction k using Nat.strongRecOn with
  | _ k ih=>
   intro x hx;obtain⟨z,hz,N1,h1⟩:=h k x hx;cases z with
   | inl y=>
    obtain⟨j,hj,hy⟩:=hz;obtain⟨r,hr,N2,c,h2⟩:=ih j hj y hy;refine⟨r,hr,max N1 N2,c+1,λ n fuel hn hf=>?_⟩;cases fuel with
    | zero=>omega
    | succ fuel=>
     have e:=h1 n (by omega);simp only at e;simp only[Go.AI.whl,e];exact h2 n fuel (by omega) (by omega)
   | inr r=>
    refine⟨r,hz,N1,1,λ n fuel hn hf=>?_⟩;cases fuel with
    | zero=>omega
    | succ fuel=>
     have e:=h1 n hn;simp only at e;simp only[Go.AI.whl,e]
 intro k x hx;obtain⟨r,hr,N,c,hh⟩:=key k x hx;exact⟨r,hr,max N c,λ m hm=>hh m m (by omega) (by omega)⟩
theorem Tot.upto {body:Nat->σ->Option (σ⊕ρ)} {P:ρ->Prop} (N:Nat) (I:Nat->σ->Prop)
  (step:∀ i x,i<N->I i x->Tot (λ n=>body n x) (Rd2 (I (i+1)) P))
  (last:∀ x,I N x->Tot (λ n=>body n x) (Rd2 (λ _=>False) P)) (x:σ) (h0:I 0 x):Tot (λ n=>Go.AI.whl (body n) n x) P:=by
 refine Tot.whl (body:=body) (λ k x=>∃ i,i<=N/\k=N-i/\I i x) ?_ N x ⟨0,by omega,by omega,h0⟩;rintro k x ⟨i,hi,rfl,hx⟩;rcases JjN i N with hlt|hge
 ·refine(step i x hlt hx).mono λ z hz=>?_;cases z with
  | inl y=>exact⟨N-(i+1),by omega,i+1,by omega,rfl,hz⟩
  | inr r=>exact hz
 ·have:i=N:=by omega
  subst this;refine(last x hx).mono λ z hz=>?_;cases z with
  | inl y=>exact hz.elim
  | inr r=>exact hz
theorem C0 {l:List α} {i:Nat} {x:α} (h:l[i]?=some x):idx l (i:Int)=some x:=by
 unfold idx;rw[if_pos (by omega)];simpa using h
theorem BY {l:List α} {i:Nat} (h:i<l.length):idx l (i:Int)=some l[i]:=C0 (JjX h)
theorem M6 {eb:Nat} {xs ys:List α} (h:(xs.length+ys.length)*eb<=70368744177664):app eb xs ys=some (xs++ys):=by
 unfold app;rw[if_pos h]
theorem SL {l:List α} {i:Nat} {y:α} (h:i<l.length):put l (i:Int) y=some (l.set i y):=by
 unfold put;rw[if_pos (by omega),Jj6]
theorem SM {x y:List UInt8} (h:x.length+y.length<=9223372036854775807):cat x y=some (x++y):=by
 unfold cat;rw[if_pos h]
end Go.AI
end
section
namespace Go.AI
theorem Jdf (a:Int):IntKind.i64.wrap a=if decide (a % 18446744073709551616>=9223372036854775808)=true then a % 18446744073709551616-18446744073709551616 else a % 18446744073709551616:=rfl
theorem w64 {a:Int} (h:-9223372036854775808<=a) (h':a<9223372036854775808):IntKind.i64.wrap a=a:=by
 rw[Jdf];simp only[decide_eq_true_eq];split<;>omega
theorem KO {a b:Int} (h:-9223372036854775808<=a+b) (h':a+b<9223372036854775808):AX .i64 a b=a+b:=w64 h h'
theorem Un {a b:Int} (h:-9223372036854775808<=a-b) (h':a-b<9223372036854775808):KW .i64 a b=a-b:=w64 h h'
theorem B3 {i:Nat} (h:i<9223372036854775807):AX .i64 (i:Int) 1=((i+1:Nat):Int):=by rw[KO]<;>omega
theorem JgY (a:Int):IntKind.u8.wrap a=a % 256:=rfl
theorem Jbo (a:Int):0<=IntKind.u8.wrap a/\IntKind.u8.wrap a<256:=by rw[JgY];omega
theorem M7 {a m:Int} (h:0<=a) (hm:0<m):Bg a m=a % m/\0<=Bg a m/\Bg a m<m:=by
 have e:Bg a m=a % m:=by unfold Bg;rw[Int.tmod_eq_emod_of_nonneg h]
 rw[e];exact⟨rfl,Int.emod_nonneg _ (by omega),Int.emod_lt_of_pos _ hm⟩
variable {α β σ ρ:Type}
theorem JiB [Inhabited α] {l:List α} {i:Int} (h:0<=i) (h':i<l.length):idx l i=some (l.getD i.toNat default):=by
 unfold idx;rw[if_pos h,List.getD_eq_getElem?_getD,JjX (by omega)];rfl
theorem Gy [Inhabited α] {l:List α} {i:Nat} (h:i<l.length):idx l (i:Int)=some (l.getD i default):=by
 rw[JiB (by omega) (by omega),Jj6]
theorem JiC {l:List α} {i:Int} {y:α} (h:0<=i) (h':i<l.length):put l i y=some (l.set i.toNat y):=by
 unfold put;rw[if_pos ⟨h,h'⟩]
theorem WC {l:List α} {a b:Int} (h:0<=a) (h1:a<=b) (h2:b<=l.length):sub l a b=some ((l.take b.toNat).drop a.toNat):=by
 unfold sub;rw[if_pos ⟨h,h1,h2⟩]
theorem WD {l:List α} {k:Nat} (h:k<=l.length):sub l 0 (k:Int)=some (l.take k):=by
 rw[WC (by omega) (by omega) (by omega)];simp
theorem Jbp {eb:Nat} {k:Int} {z:α} (h:0<=k) (h':k.toNat*eb<=70368744177664):mkl eb k z=some (List.replicate k.toNat z):=by
 unfold mkl;rw[if_pos ⟨h,h'⟩]
theorem Cd {b:Bool} (h:b=true):BO b=some ():=by subst h;rfl
theorem VU {body:σ->Option (σ⊕ρ)} {r:ρ} (st:Nat->σ) (k:Nat) (step:∀ i,i<k->body (st i)=some (.inl (st (i+1)))) (last:body (st k)=some (.inr r)):∀ n,k<n->whl body n (st 0)=some r:=by
 have key:∀ (j n i:Nat),i+j=k->j<n->whl body n (st i)=some r:=by
  intro j;induction j with
  | zero=>
   intro n i hi hn;cases n with
   | zero=>omega
   | succ n=>
    have:i=k:=by omega
    subst this;simp only[whl,last]
  | succ j ih=>
   intro n i hi hn;cases n with
   | zero=>omega
   | succ n=>simp only[whl,step i (by omega)];exact ih n (i+1) (by omega) (by omega)
 intro n hn;exact key k n 0 (by omega) hn
theorem Ev.to {body:Nat->σ->Option (σ⊕ρ)} {r:ρ} (st:Nat->σ) (k:Nat) (h:∃ N,∀ n,N<=n->(∀ i,i<k->body n (st i)=some (.inl (st (i+1))))/\body n (st k)=some (.inr r)):Ev (λ n=>Go.AI.whl (body n) n (st 0)) r:=by
 obtain⟨N,h⟩:=h;exact⟨max N (k+1),λ n hn=>VU st k (h n (by omega)).1 (h n (by omega)).2 n (by omega)⟩
def G8 (N:Nat) (stop:Nat->Option ρ) (d:ρ):ρ:=((List.range N).findSome? stop).getD d
theorem Ya {N:Nat} {stop:Nat->Option ρ} {d:ρ} (h:∀ i,i<N->stop i=none):G8 N stop d=d:=by
 unfold G8;rw[List.findSome?_eq_none_iff.2 λ i hi=>h i (List.mem_range.1 hi)];rfl
theorem Yb {N:Nat} {stop:Nat->Option ρ} {d r:ρ} (k:Nat) (hk:k<N) (hr:stop k=some r) (h:∀ i,i<k->stop i=none):G8 N stop d=r:=by
 unfold G8;have:(List.range N).findSome? stop=some r:=by
  have e:List.range N=List.range k++(List.range (N-k)).map (k+·):=by rw[← List.range_add];congr 1;omega
  rw[e,List.findSome?_append,List.findSome?_eq_none_iff.2 λ i hi=>h i (List.mem_range.1 hi)];have:N-k=(N-k-1)+1:=by omega
  rw[this,List.range_succ_eq_map];simp[hr]
 rw[this];rfl
theorem QH (N:Nat) (stop:Nat->Option ρ) (d:ρ):((∀ i,i<N->stop i=none)/\G8 N stop d=d)\/∃ k r,k<N/\stop k=some r/\(∀ i,i<k->stop i=none)/\G8 N stop d=r:=by
 by_cases h:∀ i,i<N->stop i=none
 ·exact .inl ⟨h,Ya h⟩
 ·right;have hex:∃ k,k<N/\stop k≠none:=by
   apply Classical.byContradiction;intro hh;exact h λ i hi=>Classical.byContradiction λ hn=>hh ⟨i,hi,hn⟩
  have key:∀ m,(∃ k,k<m/\k<N/\stop k≠none)->∃ k,k<N/\stop k≠none/\∀ i,i<k->stop i=none:=by
   intro m;induction m with
   | zero=>rintro⟨k,hk,_⟩;omega
   | succ m ih=>
    rintro⟨k,hk,h1,h2⟩;by_cases hm:∃ k,k<m/\k<N/\stop k≠none
    ·exact ih hm
    ·refine⟨k,h1,h2,λ i hi=>Classical.byContradiction λ hn=>hm ⟨i,by omega,by omega,hn⟩⟩
  obtain⟨k0,h1,h2⟩:=hex;obtain⟨k,h3,h4,h5⟩:=key (k0+1) ⟨k0,by omega,h1,h2⟩;obtain⟨r,hr⟩:=Option.ne_none_iff_exists'.1 h4;exact⟨k,r,h3,hr,h5,Yb k h3 hr h5⟩
theorem Yc {body:Int->Option (Int⊕ρ)} {N:Nat} (stop:Nat->Option ρ) {d:ρ} (h1:∀ i,i<N->body (i:Int)=some (match stop i with|some r=>.inr r|none=>.inl ((i+1:Nat):Int))) (h2:body (N:Int)=some (.inr d)):∀ n,N<n->whl body n 0=some (G8 N stop d):=by
 intro n hn;rcases QH N stop d with⟨h,e⟩|⟨k,r,hk,hr,h,e⟩
 ·rw[e];exact VU (λ i=>(i:Int)) N (λ i hi=>by rw[h1 i hi,h i hi]) h2 n hn
 ·rw[e];exact VU (λ i=>(i:Int)) k (λ i hi=>by rw[h1 i (by omega),h i hi]) (by rw[h1 k hk,hr]) n (by omega)
theorem Ev.first {body:Nat->Int->Option (Int⊕ρ)} {N:Nat} (stop:Nat->Option ρ) {d:ρ} (h:∃ M,∀ n,M<=n->(∀ i,i<N->body n (i:Int)=some (match stop i with|some r=>.inr r|none=>.inl ((i+1:Nat):Int)))/\body n (N:Int)=some (.inr d)):Ev (λ n=>Go.AI.whl (body n) n 0) (G8 N stop d):=by
 obtain⟨M,h⟩:=h;exact⟨max M (N+1),λ n hn=>Yc stop (h n (by omega)).1 (h n (by omega)).2 n (by omega)⟩
theorem Jjz {P:α->Prop} {c:Bool} {f:Nat->Option β} {d x:β} {g:Nat->β->Option α} (hc:c=true) (h:Ev f x) (k:Tot (λ n=>g n x) P):Tot (λ n=>(if c=true then f n else some d).bind (g n)) P:=by
 subst hc;exact Jjx h k
theorem JjA {P:α->Prop} {c:Bool} {f:Nat->Option β} {d:β} {g:Nat->β->Option α} (hc:c=false) (k:Tot (λ n=>g n d) P):Tot (λ n=>(if c=true then f n else some d).bind (g n)) P:=by
 subst hc;exact k
theorem JjB {f:Nat->Nat->Option α} {z:Nat->α} (N:Nat) (h:∀ i,i<N->Ev (λ n=>f n i) (z i)):∃ M,∀ n,M<=n->∀ i,i<N->f n i=some (z i):=by
 induction N with
 | zero=>exact⟨0,λ n _ i hi=>by omega⟩
 | succ N ih=>
  obtain⟨M1,h1⟩:=ih λ i hi=>h i (by omega);obtain⟨M2,h2⟩:=h N (by omega);exact⟨max M1 M2,λ n hn i hi=>by
   by_cases e:i=N
   ·subst e;exact h2 n (by omega)
   ·exact h1 n (by omega) i (by omega)⟩
end Go.AI
end
section
namespace Go.AI
def scan {ρ:Type} (N:Nat) (stop:Nat->Option ρ):Unit⊕ρ:=match (List.range N).findSome? stop with
 | some r=>.inr r
 | none=>.inl ()
theorem Fj {ρ:Type} {body:Nat->Int->Option (Int⊕(Unit⊕ρ))} (N:Nat) (stop:Nat->Option ρ)
  (h:∀ i,i<N->Ev (λ n=>body n (i:Int)) (match stop i with|some r=>.inr (.inr r)|none=>.inl ((i+1:Nat):Int)))
  (h2:Ev (λ n=>body n (N:Int)) (.inr (.inl ()))):Ev (λ n=>whl (body n) n 0) (AI.scan N stop):=by
 have key:∀ (k i:Nat),i+k=N->(List.range N).findSome? stop=((List.range k).map (i+·)).findSome? stop->∃ M c,∀ n fuel,M<=n->c<=fuel->whl (body n) fuel (i:Int)=some (AI.scan N stop):=by
  intro k;induction k with
  | zero=>
   intro i hi hf;have:i=N:=by omega
   subst this;obtain⟨M,hM⟩:=h2;refine⟨M,1,λ n fuel hn hfu=>?_⟩;obtain⟨fuel,rfl⟩:∃ f,fuel=f+1:=⟨fuel-1,by omega⟩;have e:=hM n hn;simp only at e;simp only[AI.whl,e];unfold AI.scan;rw[hf];rfl
  | succ k ih=>
   intro i hi hf;obtain⟨M,hM⟩:=h i (by omega);have hs:(List.range (k+1)).map (i+·)=i::(List.range k).map ((i+1)+·):=by
    rw[List.range_succ_eq_map];simp only[JjT,Nat.add_zero,List.map_map,List.cons.injEq,true_and];apply JjV;intro a _;simp only[Function.comp];omega
   rw[hs,List.findSome?_cons]at hf;cases hst:stop i with
   | some r=>
    rw[hst]at hf hM;refine⟨M,1,λ n fuel hn hfu=>?_⟩;obtain⟨fuel,rfl⟩:∃ f,fuel=f+1:=⟨fuel-1,by omega⟩;have e:=hM n hn;simp only at e;simp only[AI.whl,e];unfold AI.scan;rw[hf]
   | none=>
    rw[hst]at hf hM;obtain⟨M2,c,h3⟩:=ih (i+1) (by omega) hf;refine⟨max M M2,c+1,λ n fuel hn hfu=>?_⟩;obtain⟨fuel,rfl⟩:∃ f,fuel=f+1:=⟨fuel-1,by omega⟩;have e:=hM n (by omega);simp only at e;simp only[AI.whl,e];exact h3 n fuel (by omega) (by omega)
 obtain⟨M,c,hh⟩:=key N 0 (by omega) (by simp);exact⟨max M c,λ m hm=>hh m m (by omega) (by omega)⟩
theorem FZ {ρ:Type} {N:Nat} {stop:Nat->Option ρ} (h:∀ i,i<N->stop i=none):scan N stop=.inl ():=by
 unfold scan;rw[List.findSome?_eq_none_iff.2 λ i hi=>h i (List.mem_range.1 hi)]
theorem F3 {ρ:Type} {N:Nat} {stop:Nat->Option ρ} {i:Nat} (hi:i<N) (h:(stop i).isSome=true):∃ k r,k<N/\stop k=some r/\scan N stop=.inr r:=by
 unfold scan;cases hf:(List.range N).findSome? stop with
 | none=>rw[List.findSome?_eq_none_iff.1 hf i (List.mem_range.2 hi)]at h;cases h
 | some r=>
  obtain⟨k,hk,hr⟩:=List.exists_of_findSome?_eq_some hf;exact⟨k,r,List.mem_range.1 hk,hr,rfl⟩
def Ma (b:UInt8):Int:=(b.toNat:Int)
def FQ (b:UInt8):Bool:=decide (B8 .u8 (Ma b) 127>=32)&&decide (B8 .u8 (Ma b) 127<=126)
def CK (b:UInt8):Bool:=B8 .u8 (Ma b) 127==32
theorem JQ {s:List UInt8} {i:Nat} {b:UInt8} (h:s[i]?=some b):I0 s (i:Int)=some (Ma b):=by
 rw[L9 (AA h)];unfold Rj Ma;rw[h];rfl
theorem Gz {i n:Nat} (h:i<n):decide ((i:Int)<((n:Nat):Int))=true:=by simpa using h
theorem IZ (n:Nat):decide (((n:Nat):Int)<((n:Nat):Int))=false:=by simp
def NK (s:List UInt8):Int×Int:=match scan s.length (λ i=>if FQ (s.getD i 0)then none else some ((i:Int),(60:Int)))with
 | .inl _=>(((s.length:Nat):Int),0)
 | .inr p=>p
theorem B9 {α:Type} {l:List α} {i:Nat} {d:α} (h:i<l.length):l.getD i d=l[i]:=by
 rw[List.getD_eq_getElem?_getD,JjX h];rfl
theorem Jdg {s:List UInt8} (hl:s.length<9223372036854775807):Ev (λ n=>LR n s) (NK s):=by
 unfold LR NK;refine Ev.bind (Fj s.length (λ i=>if FQ (s.getD i 0)then none else some ((i:Int),(60:Int))) (λ i hi=>Ev.all λ n=>?_) (Ev.all λ n=>?_)) ?_
 ·unfold GT;have hg:s[i]?=some s[i]:=JjX hi;rw[if_pos (Gz hi),JQ hg,B9 hi];have hc:FL n (Ma s[i])=some (FQ s[i]):=rfl;simp only[JjD,hc];cases FQ s[i]with
  | true=>simp[B3 (show i<9223372036854775807 by omega)]
  | false=>simp
 ·unfold GT;rw[if_neg (by simp)]
 ·generalize scan s.length _=z;cases z<;>exact Ev.const
theorem Jbq {s:List UInt8} (hl:s.length<9223372036854775807):Ev (λ n=>LU n s) (NK s):=by
 unfold LU NK;refine Ev.bind (Fj s.length (λ i=>if FQ (s.getD i 0)then none else some ((i:Int),(60:Int))) (λ i hi=>Ev.all λ n=>?_) (Ev.all λ n=>?_)) ?_
 ·unfold GY;have hg:s[i]?=some s[i]:=JjX hi;rw[if_pos (Gz hi),JQ hg,B9 hi];have hc:Hi n (Ma s[i])=some (FQ s[i]):=rfl;simp only[JjD,hc];cases FQ s[i]with
  | true=>simp[B3 (show i<9223372036854775807 by omega)]
  | false=>simp
 ·unfold GY;rw[if_neg (by simp)]
 ·generalize scan s.length _=z;cases z<;>exact Ev.const
theorem Uo {s:List UInt8} (h:s.all FQ=true):NK s=(((s.length:Nat):Int),0):=by
 unfold NK;rw[FZ λ i hi=>by rw[B9 hi,JjH.1 h _ (JjJ hi)];rfl]
theorem Rk {s:List UInt8} (h:s.all FQ=false):(NK s).2=60:=by
 rw[List.all_eq_false]at h;obtain⟨b,hb,hc⟩:=h;obtain⟨i,hi,e⟩:=List.getElem_of_mem hb;unfold NK;obtain⟨k,r,hk,hr,hs⟩:=F3 (stop:=λ i=>if FQ (s.getD i 0)then none else some ((i:Int),(60:Int))) hi (by
  rw[B9 hi,e];simp only[JjL]at hc;rw[hc];rfl)
 rw[hs];simp only at hr⊢;split at hr
 ·cases hr
 ·cases hr;rfl
theorem Yd {s:List UInt8} (hl:s.length<9223372036854775807):Ev (λ n=>Is n s) (s.all FQ):=by
 unfold Is;refine Ev.bind (Jbq hl) ?_;cases h:s.all FQ with
 | true=>rw[Uo h];exact Ev.const
 | false=>rw[Rk h];exact Ev.const
def B4 (r:Ay) (m:Int):Bool:=
 r.Print.all FQ&&decide (r.Print.length<=4)&&decide (1<=r.Cells.length)&&decide (r.Cells.length<=4) &&
 (decide (1<=r.Left)&&decide (r.Left<=63)&&decide (1<=r.Right)&&decide (r.Right<=63)&&decide (0<=r.From)&&decide (r.From<m)&&decide (0<=r.To)&&decide (r.To<m)) &&
 r.Cells.all (λ c=>decide (c<63)) &&
 (bif r.Print.any CK then decide (r.Print.length=1)&&decide (r.Cells.length=1)&&r.Cells.any (λ c=>c==0)else !r.Cells.any (λ c=>c==0))
end Go.AI
end
section
namespace Go.AI
theorem Ye {r:Ay} (hl:r.Print.length<9223372036854775807):Ev (λ n=>whl (λ (x:(Bool×Int))=>DB n r x.1 x.2) n (false,0)) (r.Print.any CK):=by
 refine Ev.whl (body:=λ n x=>DB n r x.1 x.2) (λ k x=>∃ i:Nat,x.2=(i:Int)/\i<=r.Print.length/\k=r.Print.length-i/\x.1=(r.Print.take i).any CK) ?_ r.Print.length (false,0) ⟨0,rfl,by omega,by omega,by simp⟩;rintro k ⟨b,i'⟩ ⟨i,h1,hi,rfl,h2⟩;simp only at h1 h2;subst h1;subst h2;rcases JjN i r.Print.length with hlt|hge
 ·left;have hg:r.Print[i]?=some r.Print[i]:=JjX hlt;have hcond:decide ((i:Int)<((r.Print.length:Nat):Int))=true:=by simpa using hlt
  refine⟨((r.Print.take (i+1)).any CK,((i+1:Nat):Int)),r.Print.length-(i+1),by omega,⟨i+1,rfl,by omega,rfl,rfl⟩,Ev.all λ n=>?_⟩;unfold DB;rw[if_pos hcond];have ht:(r.Print.take (i+1)).any CK=((r.Print.take i).any CK||CK r.Print[i]):=by
   rw[List.take_add_one,hg];simp only[Option.toList_some,List.any_append,List.any_cons,List.any_nil,Bool.or_false]
  have hsp:∀ n,MQ n (Ma r.Print[i])=some (CK r.Print[i]):=λ n=>rfl;rw[ht,PU (by omega) (by omega),JQ hg];cases (r.Print.take i).any CK with
  | true=>simp
  | false=>simp[hsp]
 ·right;have e:i=r.Print.length:=by omega
  subst e;refine Ev.all λ n=>?_;unfold DB;rw[if_neg (by simp),List.take_length]
theorem Ev.upto {σ ρ:Type} {body:Nat->σ->Option (σ⊕ρ)} {R:ρ->Prop} (N:Nat) (I:Nat->σ->Prop)
  (step:∀ i x,i<N->I i x->(∃ y,I (i+1) y/\Ev (λ n=>body n x) (.inl y))\/∃ r,R r/\Ev (λ n=>body n x) (.inr r))
  (last:∀ x,I N x->∃ r,R r/\Ev (λ n=>body n x) (.inr r)) (x:σ) (h0:I 0 x):∃ r,R r/\Ev (λ n=>Go.AI.whl (body n) n x) r:=by
 refine Jjv (body:=body) (λ k x=>∃ i,i<=N/\k=N-i/\I i x) ?_ N x ⟨0,by omega,by omega,h0⟩;rintro k x ⟨i,hi,rfl,hx⟩;rcases JjN i N with hlt|hge
 ·rcases step i x hlt hx with⟨y,hy,hE⟩|h
  ·exact .inl ⟨y,N-(i+1),by omega,⟨i+1,by omega,rfl,hy⟩,hE⟩
  ·exact .inr h
 ·have:i=N:=by omega
  subst this;exact .inr (last x hx)
theorem Yf {r:Ay} (hl:r.Cells.length<9223372036854775807) (y:Bool):∃ z:Bool⊕Bool,(if r.Cells.all (λ c=>decide (c<63))=true then z=.inl (r.Cells.any (λ c=>c==0))else z=.inr false)/\Ev (λ n=>whl (λ (x:(Bool×Int))=>CY n r y x.1 x.2) n (false,0)) z:=by
 refine Ev.upto (body:=λ n x=>CY n r y x.1 x.2) r.Cells.length (λ i x=>x.2=(i:Int)/\x.1=(r.Cells.take i).any (λ c=>c==0)/\(r.Cells.take i).all (λ c=>decide (c<63))=true) ?_ ?_ (false,0) ⟨rfl,by simp,by simp⟩
 ·rintro i ⟨b,i'⟩ hlt ⟨h1,h2,h3⟩;simp only at h1 h2;subst h1;subst h2;have hg:r.Cells[i]?=some r.Cells[i]:=JjX hlt;have hcond:decide ((i:Int)<((r.Cells.length:Nat):Int))=true:=by simpa using hlt
  by_cases hc:r.Cells[i]<63
  ·left;refine⟨((r.Cells.take (i+1)).any (λ c=>c==0),((i+1:Nat):Int)),⟨rfl,rfl,?_⟩,Ev.all λ n=>?_⟩
   ·rw[List.take_add_one,hg];simp only[Option.toList_some,List.all_append,h3,List.all_cons,decide_eq_true hc,List.all_nil,Bool.and_self]
   ·unfold CY;have ht:(r.Cells.take (i+1)).any (λ c=>c==0)=((r.Cells.take i).any (λ c=>c==0)||r.Cells[i]==0):=by
     rw[List.take_add_one,hg];simp only[Option.toList_some,List.any_append,List.any_cons,List.any_nil,Bool.or_false]
    rw[if_pos hcond,IF hg,JjD,if_neg (by simpa using hc),ht,PU (by omega) (by omega)];cases (r.Cells.take i).any (λ c=>c==0)with
    | true=>simp
    | false=>simp
  ·right;refine⟨.inr false,?_,Ev.all λ n=>?_⟩
   ·rw[if_neg];intro h;rw[JjH]at h;exact hc (by simpa using h r.Cells[i] (JjJ hlt))
   ·unfold CY;rw[if_pos hcond,IF hg,JjD,if_pos (by simp;omega)]
 ·rintro⟨b,i'⟩ ⟨h1,h2,h3⟩;simp only at h1 h2;subst h1;subst h2;rw[List.take_length]at h3⊢;refine⟨.inl (r.Cells.any (λ c=>c==0)),by rw[if_pos h3],Ev.all λ n=>?_⟩;unfold CY;rw[if_neg (by simp)]
theorem Jbr {r:Ay} (hp:r.Print.length<9223372036854775807) (hc:r.Cells.length<9223372036854775807) (m:Int):Ev (λ n=>J8 n r m) (B4 r m):=by
 obtain⟨z,hz,hE⟩:=Yf hc (r.Print.any CK);have h1:=Yd hp;have h2:=Ye (r:=r) hp;unfold J8;refine Ev.bind h1 ?_;unfold B4;generalize r.Print.all FQ=a;by_cases g1:((((!a)||(decide (((r.Print.length:Nat):Int)>4)))||(decide (((r.Cells.length:Nat):Int)<1)))||(decide (((r.Cells.length:Nat):Int)>4)))=true
 ·simp only[g1,if_true];have:(a&&decide (r.Print.length<=4)&&decide (1<=r.Cells.length)&&decide (r.Cells.length<=4))=false:=by
   rw[← JjL];intro h;simp only[JjY,decide_eq_true_eq]at h;simp only[Jkg,decide_eq_true_eq,Bool.not_eq_true']at g1;rcases g1 with ((g|g)|g)|g
   ·rw[g]at h;simp at h
   all_goals omega
  rw[this];exact Ev.const
 ·simp only[g1];by_cases g2:((((((((decide (r.Left<1))||(decide (r.Left>63)))||(decide (r.Right<1)))||(decide (r.Right>63)))||(decide (r.From<0)))||(decide (r.From>=m)))||(decide (r.To<0)))||(decide (r.To>=m)))=true
  ·simp only[g2,if_true];have:(decide (1<=r.Left)&&decide (r.Left<=63)&&decide (1<=r.Right)&&decide (r.Right<=63)&&decide (0<=r.From)&&decide (r.From<m)&&decide (0<=r.To)&&decide (r.To<m))=false:=by
    rw[← JjL];intro h;simp only[JjY,decide_eq_true_eq]at h;simp only[Jkg,decide_eq_true_eq]at g2;omega
   rw[this,Bool.and_false];exact Ev.const
  ·have e1:(a&&decide (r.Print.length<=4)&&decide (1<=r.Cells.length)&&decide (r.Cells.length<=4))=true:=by
    simp only[Jkg,decide_eq_true_eq,Bool.not_eq_true',not_or]at g1;simp only[JjY,decide_eq_true_eq];refine⟨⟨⟨by simpa using g1.1.1.1,?_⟩,?_⟩,?_⟩<;>omega
   have e2:(decide (1<=r.Left)&&decide (r.Left<=63)&&decide (1<=r.Right)&&decide (r.Right<=63)&&decide (0<=r.From)&&decide (r.From<m)&&decide (0<=r.To)&&decide (r.To<m))=true:=by
    simp only[Jkg,decide_eq_true_eq,not_or]at g2;simp only[JjY,decide_eq_true_eq];omega
   rw[e1,e2];simp only[g2,Jj9,if_false];refine Ev.bind h2 (Ev.bind hE ?_);split at hz
   ·rename_i h;subst hz;rw[h];generalize r.Print.any CK=b;cases b with
    | false=>exact Ev.const
    | true=>
     refine Ev.all λ n=>?_;simp only[JjK,Jj9,if_false,Bool.and_true,Bool.true_and,cond_true];congr 3<;>rw[Bool.eq_iff_iff]<;>simp<;>omega
   ·rename_i h;subst hz;rw[JjL]at h;rw[h];exact Ev.const
end Go.AI
end
section
namespace Go.AI
theorem Ev.iteT {α:Type} {c:Bool} {a b:Nat->Option α} {z:α} (h:c=true) (k:Ev a z):Ev (λ n=>if c=true then a n else b n) z:=by subst h;exact k
theorem Ev.iteF {α:Type} {c:Bool} {a b:Nat->Option α} {z:α} (h:c=false) (k:Ev b z):Ev (λ n=>if c=true then a n else b n) z:=by subst h;exact k
theorem Ev.bindC {α β:Type} {x:Option β} {y:β} {g:Nat->β->Option α} {z:α} (h:x=some y) (k:Ev (λ n=>g n y) z):Ev (λ n=>x.bind (g n)) z:=by subst h;exact k
theorem Ev.guard {α β:Type} {c:Bool} {f:Nat->Option β} {d x:β} {g:Nat->β->Option α} {z:α} (h:c=true->Ev f x) (k:Ev (λ n=>g n (if c=true then x else d)) z):Ev (λ n=>(if c=true then f n else some d).bind (g n)) z:=by
 cases c with
 | true=>exact Ev.bind (h rfl) k
 | false=>exact k
theorem Jbs {α β:Type} {a:List α} {b:List β}:(((a.length:Nat):Int) != ((b.length:Nat):Int))=decide (a.length≠b.length):=by
 rw[Bool.eq_iff_iff];simp only[bne_iff_ne,ne_eq,decide_eq_true_eq];omega
theorem Rl {α:Type} [DecidableEq α] [Inhabited α] (a b:List α) (h:a.length=b.length):scan a.length (λ i=>if a.getD i default=b.getD i default then none else some false)=if a=b then .inl ()else .inr false:=by
 by_cases e:a=b
 ·subst e;rw[if_pos rfl];exact FZ λ i _=>by rw[if_pos rfl]
 ·rw[if_neg e];have:∃ i,i<a.length/\a.getD i default≠b.getD i default:=by
   apply Classical.byContradiction;intro hn;refine e (List.ext_getElem h λ i h1 h2=>?_);have:=Classical.byContradiction λ hc=>hn ⟨i,h1,hc⟩;rwa[B9 h1,B9 h2]at this
  obtain⟨i,hi,hne⟩:=this;obtain⟨k,r,_,hr,hs⟩:=F3 (stop:=λ i=>if a.getD i default=b.getD i default then none else some false) hi (by rw[if_neg hne];rfl)
  rw[hs];split at hr
  ·cases hr
  ·cases hr;rfl
theorem Mb (a b:List Int) (ha:a.length<9223372036854775807):Ev (λ n=>DP n a b) (decide (a=b)):=by
 unfold DP;rw[Jbs];by_cases h:a.length=b.length
 ·refine Ev.iteF (by simp[h]) ?_;refine Ev.bind (Fj a.length (λ i=>if a.getD i default=b.getD i default then none else some false) (λ i hi=>Ev.all λ n=>?_) (Ev.all λ n=>?_)) ?_
  ·unfold DA;rw[if_pos (Gz hi),Gy hi,Gy (by omega)];simp only[JjD];by_cases e:a.getD i default=b.getD i default
   ·rw[if_neg (by simp only[bne_iff_ne,ne_eq];exact λ hh=>hh e),if_pos e,B3 (by omega)]
   ·rw[if_pos (by simp only[bne_iff_ne,ne_eq];exact e),if_neg e]
  ·unfold DA;rw[if_neg (by simp)]
  ·rw[Rl a b h];by_cases e:a=b
   ·rw[if_pos e,decide_eq_true e];exact Ev.const
   ·rw[if_neg e,decide_eq_false e];exact Ev.const
 ·refine Ev.iteT (by simp[h]) ?_;rw[decide_eq_false (λ e=>h (by rw[e]))];exact Ev.const
theorem Uq (a b:List Int) (ha:a.length<9223372036854775807):Ev (λ n=>J4 n a b) (decide (a=b)):=by
 unfold J4;rw[Jbs];by_cases h:a.length=b.length
 ·refine Ev.iteF (by simp[h]) ?_;refine Ev.bind (Fj a.length (λ i=>if a.getD i default=b.getD i default then none else some false) (λ i hi=>Ev.all λ n=>?_) (Ev.all λ n=>?_)) ?_
  ·unfold FU;rw[if_pos (Gz hi),Gy hi,Gy (by omega)];simp only[JjD];by_cases e:a.getD i default=b.getD i default
   ·rw[if_neg (by simp only[bne_iff_ne,ne_eq];exact λ hh=>hh e),if_pos e,B3 (by omega)]
   ·rw[if_pos (by simp only[bne_iff_ne,ne_eq];exact e),if_neg e]
  ·unfold FU;rw[if_neg (by simp)]
  ·rw[Rl a b h];by_cases e:a=b
   ·rw[if_pos e,decide_eq_true e];exact Ev.const
   ·rw[if_neg e,decide_eq_false e];exact Ev.const
 ·refine Ev.iteT (by simp[h]) ?_;rw[decide_eq_false (λ e=>h (by rw[e]))];exact Ev.const
theorem WE (a b:Ay):decide (a=b)=(a.Print==b.Print&&decide (a.Cells=b.Cells)&&a.Left==b.Left&&a.Right==b.Right&&a.From==b.From&&a.To==b.To):=by
 rw[Bool.eq_iff_iff];cases a;cases b;simp only[decide_eq_true_eq,Ay.mk.injEq,JjY,beq_iff_eq];exact⟨λ⟨h1,h2,h3,h4,h5,h6⟩=>⟨⟨⟨⟨⟨h1,h2⟩,h3⟩,h4⟩,h5⟩,h6⟩,λ⟨⟨⟨⟨⟨h1,h2⟩,h3⟩,h4⟩,h5⟩,h6⟩=>⟨h1,h2,h3,h4,h5,h6⟩⟩
theorem Ur (a b:Ay) (ha:a.Cells.length<9223372036854775807):Ev (λ n=>FW n a b) (decide (a=b)):=by
 unfold FW;refine Ev.guard (λ _=>Mb a.Cells b.Cells ha) (Ev.all λ n=>?_);rw[WE];cases h:(a.Print==b.Print)<;>simp
theorem Jbt (a b:Ay) (ha:a.Cells.length<9223372036854775807):Ev (λ n=>J5 n a b) (decide (a=b)):=by
 unfold J5;refine Ev.guard (λ _=>Uq a.Cells b.Cells ha) (Ev.all λ n=>?_);rw[WE];cases (a.Print==b.Print)<;>cases (a.Left==b.Left)<;>cases (a.Right==b.Right)<;>cases (a.From==b.From)<;>cases (a.To==b.To)<;>simp
theorem Us (b:UInt8):(E3 (Ma b)==4)=CK b:=by
 have:∀ k:Nat,k<256->(E3 (k:Int)==4)=(B8 .u8 (k:Int) 127==32):=by decide +kernel
 exact this b.toNat b.toNat_lt
theorem Jbu {s:List UInt8} {f:UInt8->Bool}:scan s.length (λ i=>if f (s.getD i 0)then some true else none)=if s.any f then .inr true else .inl ():=by
 cases h:s.any f with
 | false=>
  rw[List.any_eq_false]at h;exact FZ λ i hi=>by rw[B9 hi,if_neg (h _ (JjJ hi))]
 | true=>
  rw[List.any_eq_true]at h;obtain⟨b,hb,hf⟩:=h;obtain⟨i,hi,e⟩:=List.getElem_of_mem hb;obtain⟨k,r,_,hr,hs⟩:=F3 (stop:=λ i=>if f (s.getD i 0)then some true else none) hi (by rw[B9 hi,e,hf];rfl)
  rw[hs];split at hr
  ·cases hr;rfl
  ·cases hr
theorem Ut {s:List UInt8} (hl:s.length<9223372036854775807):Ev (λ n=>FS n s) (s.any CK):=by
 unfold FS;refine Ev.bind (Fj s.length (λ i=>if CK (s.getD i 0)then some true else none) (λ i hi=>Ev.all λ n=>?_) (Ev.all λ n=>?_)) ?_
 ·unfold D2;have hg:s[i]?=some s[i]:=JjX hi;rw[if_pos (Gz hi),JQ hg,B9 hi];simp only[JjD,Ug,Us];cases CK s[i]with
  | true=>simp
  | false=>simp[B3 (show i<9223372036854775807 by omega)]
 ·unfold D2;rw[if_neg (by simp)]
 ·rw[Jbu];cases s.any CK<;>exact Ev.const
theorem Yg {l:List Int} {f:Int->Bool}:scan l.length (λ i=>if f (l.getD i 0)then none else some false)=if l.all f then .inl ()else .inr false:=by
 cases h:l.all f with
 | true=>
  rw[JjH]at h;exact FZ λ i hi=>by rw[B9 hi,if_pos (h _ (JjJ hi))]
 | false=>
  rw[List.all_eq_false]at h;obtain⟨b,hb,hf⟩:=h;obtain⟨i,hi,e⟩:=List.getElem_of_mem hb;obtain⟨k,r,_,hr,hs⟩:=F3 (stop:=λ i=>if f (l.getD i 0)then none else some false) hi (by rw[B9 hi,e,if_neg hf];rfl)
  rw[hs];split at hr
  ·cases hr
  ·cases hr;rfl
def NL (c:Int):Bool:=decide (c<63)&&!(c==0)
theorem Yh {r:Ay} (hp:r.Print.length<9223372036854775807) (hc:r.Cells.length<9223372036854775807) (m:Int):Ev (λ n=>J3 n r m) (B4 r m):=by
 unfold J3;by_cases g1:(((decide (((r.Print.length:Nat):Int)>4))||(decide (((r.Cells.length:Nat):Int)<1)))||(decide (((r.Cells.length:Nat):Int)>4)))=true
 ·refine Ev.iteT g1 ?_;have:B4 r m=false:=by
   rw[← JjL];intro h;simp only[B4,JjY,decide_eq_true_eq]at h;simp only[Jkg,decide_eq_true_eq]at g1;omega
  rw[this];exact Ev.const
 ·rw[JjL]at g1;refine Ev.iteF g1 (Ev.bind (Jdg hp) ?_);cases ha:r.Print.all FQ with
  | false=>
   refine Ev.iteT (by rw[Rk ha];rfl) ?_;have:B4 r m=false:=by simp[B4,ha]
   rw[this];exact Ev.const
  | true=>
   refine Ev.iteF (by rw[Uo ha];rfl) ?_;by_cases g2:((((decide (r.Left<1))||(decide (r.Left>63)))||(decide (r.Right<1)))||(decide (r.Right>63)))=true
   ·refine Ev.iteT g2 ?_;have:B4 r m=false:=by
     rw[← JjL];intro h;simp only[B4,JjY,decide_eq_true_eq]at h;simp only[Jkg,decide_eq_true_eq]at g2;omega
    rw[this];exact Ev.const
   ·rw[JjL]at g2;refine Ev.iteF g2 ?_;by_cases g3:((((decide (r.From<0))||(decide (r.From>=m)))||(decide (r.To<0)))||(decide (r.To>=m)))=true
    ·refine Ev.iteT g3 ?_;have:B4 r m=false:=by
      rw[← JjL];intro h;simp only[B4,JjY,decide_eq_true_eq]at h;simp only[Jkg,decide_eq_true_eq]at g3;omega
     rw[this];exact Ev.const
    ·rw[JjL]at g3;refine Ev.iteF g3 (Ev.bind (Ut hp) ?_);simp only[JjW,decide_eq_false_iff_not]at g1 g2 g3;have e1:B4 r m=(r.Cells.all (λ c=>decide (c<63))&&(bif r.Print.any CK then decide (r.Print.length=1)&&decide (r.Cells.length=1)&&r.Cells.any (λ c=>c==0)else !r.Cells.any (λ c=>c==0))):=by
      unfold B4;rw[ha];have:(true&&decide (r.Print.length<=4)&&decide (1<=r.Cells.length)&&decide (r.Cells.length<=4)&&(decide (1<=r.Left)&&decide (r.Left<=63)&&decide (1<=r.Right)&&decide (r.Right<=63)&&decide (0<=r.From)&&decide (r.From<m)&&decide (0<=r.To)&&decide (r.To<m)))=true:=by
       simp only[JjY,decide_eq_true_eq,true_and];omega
      rw[this,Bool.true_and]
     rw[e1];cases hsp:r.Print.any CK with
     | true=>
      refine Ev.iteT rfl ?_;by_cases g4:((((r.Print.length:Nat):Int)==1)&&(((r.Cells.length:Nat):Int)==1))=true
      ·have hl:r.Print.length=1/\r.Cells.length=1:=by
        simp only[JjY,beq_iff_eq]at g4;omega
       obtain⟨c,hcell⟩:=List.length_eq_one_iff.1 hl.2;have hi:idx r.Cells 0=some c:=by rw[hcell];rfl
       simp only[g4,if_true,hi,JjD];refine Ev.all λ n=>?_;rw[hcell];simp only[hl.1,List.all_cons,List.all_nil,List.any_cons,List.any_nil,List.length_cons,List.length_nil,Bool.and_true,Bool.or_false,decide_true,Bool.true_and,cond_true];cases h0:(c==0)with
       | false=>simp
       | true=>
        have:c=0:=by simpa using h0
        subst this;rfl
      ·rw[JjL]at g4;simp only[g4,Jj9,if_false,JjD,Bool.false_and];refine Ev.all λ n=>?_;have:(decide (r.Print.length=1)&&decide (r.Cells.length=1))=false:=by
        rw[← JjL];intro h;simp only[JjY,decide_eq_true_eq]at h;rw[← JjL]at g4;apply g4;simp[h.1,h.2]
       simp[this]
     | false=>
      refine Ev.iteF rfl ?_;refine Ev.bind (Fj r.Cells.length (λ i=>if NL (r.Cells.getD i 0)then none else some false) (λ i hi=>Ev.all λ n=>?_) (Ev.all λ n=>?_)) ?_
      ·unfold FT;rw[if_pos (Gz hi),Gy hi,show r.Cells.getD i default=r.Cells.getD i 0 from rfl];generalize r.Cells.getD i 0=c;simp only[JjD,MN];by_cases hcc:NL c=true
       ·simp only[NL,JjY,decide_eq_true_eq,Bool.not_eq_true',beq_eq_false_iff_ne,ne_eq]at hcc;rw[if_neg (by simp;omega),if_pos (by simp[NL];omega),B3 (by omega)]
       ·rw[if_pos (by simp[NL]at hcc⊢;omega),if_neg hcc]
      ·unfold FT;rw[if_neg (by simp)]
      ·rw[Yg];have e2:(r.Cells.all (λ c=>decide (c<63))&&!r.Cells.any (λ c=>c==0))=r.Cells.all NL:=by
        rw[Bool.eq_iff_iff];simp only[NL,JjY,JjH,Bool.not_eq_true',List.any_eq_false,JjL];exact⟨λ h x hx=>⟨h.1 x hx,h.2 x hx⟩,λ h=>⟨λ x hx=>(h x hx).1,λ x hx=>(h x hx).2⟩⟩
       simp only[cond_false];rw[e2];cases r.Cells.all NL<;>exact Ev.const
end Go.AI
end
section
namespace Go.AI
def Jbv (r:Ay):Prop:=r.Print.length<9223372036854775807/\r.Cells.length<9223372036854775807
def E4 (t:Ab):Prop:=t.Rules.length<9223372036854775807/\∀ r∈t.Rules,Jbv r
def Uu (t:Ab) (i:Nat):Unit⊕(Int×Int):=scan i (λ k=>if t.Rules.getD k default=t.Rules.getD i default then some ((i:Int),(20:Int))else none)
def HY (t:Ab) (i:Nat):Option (Int×Int):=if B4 (t.Rules.getD i default) t.Modes=true then(match Uu t i with | .inl _=>none | .inr p=>some p)else some ((i:Int),20)
def Uv (t:Ab):Bool:=decide (t.Modes<1)||decide (t.Modes>8)||(t.Accept==0)||decide (IntKind.i64.wrap t.Accept>=Hc .i64 1 t.Modes)||decide (((t.Rules.length:Nat):Int)<1)||decide (((t.Rules.length:Nat):Int)>64)
def M8 (t:Ab):Int×Int:=if Uv t=true then(-1,1)else match scan t.Rules.length (HY t)with
 | .inl _=>(0,0)
 | .inr p=>p
theorem E4.get {t:Ab} (h:E4 t) {i:Nat} (hi:i<t.Rules.length):Jbv (t.Rules.getD i default):=by
 rw[B9 hi];exact h.2 _ (JjJ hi)
theorem Yi {t:Ab} (ht:E4 t) {i:Nat} (hi:i<t.Rules.length):Ev (λ n=>whl (λ (x:Int)=>EF n t (i:Int) x) n 0) (Uu t i):=by
 refine Fj i _ (λ k hk=>?_) (Ev.all λ n=>?_)
 ·unfold EF;refine Ev.iteT (by simpa using hk) (Ev.bindC (Gy (by omega)) (Ev.bindC (Gy hi) (Ev.bind (Ur _ _ (ht.get (by omega)).2) (Ev.all λ n=>?_))));by_cases e:t.Rules.getD k default=t.Rules.getD i default
  ·rw[if_pos (decide_eq_true e),if_pos e]
  ·rw[if_neg (by simpa using e),if_neg e,B3 (by have:=ht.1;omega)]
 ·unfold EF;rw[if_neg (by simp)]
theorem VV {t:Ab} (ht:E4 t) {i:Nat} (hi:i<t.Rules.length):Ev (λ n=>whl (λ (x:Int)=>EA n t (i:Int) (t.Rules.getD i default) (t.Rules.take i) x) n 0) (Uu t i):=by
 refine Fj i _ (λ k hk=>?_) (Ev.all λ n=>?_)
 ·unfold EA;have hk':k<(t.Rules.take i).length:=by rw[List.length_take];omega
  have hg:(t.Rules.take i).getD k default=t.Rules.getD k default:=by rw[B9 hk',B9 (by omega),List.getElem_take]
  refine Ev.iteT (Gz hk') (Ev.bindC (Gy hk') ?_);rw[hg];refine Ev.bind (Jbt _ _ (ht.get (by omega)).2) (Ev.all λ n=>?_);by_cases e:t.Rules.getD k default=t.Rules.getD i default
  ·rw[if_pos (decide_eq_true e),if_pos e]
  ·rw[if_neg (by simpa using e),if_neg e,B3 (by have:=ht.1;omega)]
 ·unfold EA;rw[if_neg (by simp;omega)]
theorem Yj {t:Ab} (ht:E4 t):Ev (λ n=>whl (λ (x:Int)=>EG n t x) n 0) (scan t.Rules.length (HY t)):=by
 refine Fj _ _ (λ i hi=>?_) (Ev.all λ n=>?_)
 ·unfold EG;refine Ev.iteT (Gz hi) (Ev.bindC (Gy hi) (Ev.bind (Jbr (ht.get hi).1 (ht.get hi).2 t.Modes) ?_));unfold HY;cases B4 (t.Rules.getD i default) t.Modes with
  | false=>exact Ev.iteT rfl Ev.const
  | true=>
   refine Ev.iteF rfl (Ev.bind (Yi ht hi) ?_);cases Uu t i with
   | inl u=>refine Ev.all λ n=>?_;simp[B3 (show i<9223372036854775807 by have:=ht.1;omega)]
   | inr p=>exact Ev.const
 ·unfold EG;rw[if_neg (by simp)]
theorem VW {t:Ab} (ht:E4 t):Ev (λ n=>whl (λ (x:Int)=>EB n t x) n 0) (scan t.Rules.length (HY t)):=by
 refine Fj _ _ (λ i hi=>?_) (Ev.all λ n=>?_)
 ·unfold EB;refine Ev.iteT (Gz hi) (Ev.bindC (Gy hi) (Ev.bind (Yh (ht.get hi).1 (ht.get hi).2 t.Modes) ?_));unfold HY;cases B4 (t.Rules.getD i default) t.Modes with
  | false=>exact Ev.iteT rfl Ev.const
  | true=>
   refine Ev.iteF rfl (Ev.bindC (WD (by omega)) (Ev.bind (VV ht hi) ?_));cases Uu t i with
   | inl u=>refine Ev.all λ n=>?_;simp[B3 (show i<9223372036854775807 by have:=ht.1;omega)]
   | inr p=>exact Ev.const
 ·unfold EB;rw[if_neg (by simp)]
theorem Jbw {t:Ab} (ht:E4 t):Ev (λ n=>J9 n t) (M8 t):=by
 unfold J9 M8;refine Ev.bindC (y:=()) ?_ ?_
 ·split
  ·rename_i h;simp only[Bool.not_eq_true',JjW,decide_eq_false_iff_not]at h;exact Cd (by simp;omega)
  ·rfl
 ·show Ev (λ n=>if Uv t=true then _ else _) _
  cases Uv t with
  | true=>exact Ev.iteT rfl Ev.const
  | false=>
   refine Ev.iteF rfl (Ev.bind (Yj ht) ?_);generalize scan t.Rules.length _=z;cases z<;>exact Ev.const
theorem Yk {t:Ab} (ht:E4 t):Ev (λ n=>J6 n t) (M8 t):=by
 unfold J6 M8 Uv;cases h1:((decide (t.Modes<1))||(decide (t.Modes>8)))with
 | true=>exact Ev.iteT rfl (by simp only[Bool.true_or,if_true];exact Ev.const)
 | false=>
  refine Ev.iteF rfl (Ev.bindC (y:=()) ?_ ?_)
  ·split
   ·simp only[JjW,decide_eq_false_iff_not]at h1;exact Cd (by simp;omega)
   ·rfl
  ·simp only[Bool.false_or];cases h2:((t.Accept==0)||(decide (IntKind.i64.wrap t.Accept>=Hc .i64 1 t.Modes)))with
   | true=>exact Ev.iteT rfl (by simp only[Bool.true_or,if_true];exact Ev.const)
   | false=>
    refine Ev.iteF rfl ?_;simp only[Bool.false_or];cases h3:((decide (((t.Rules.length:Nat):Int)<1))||(decide (((t.Rules.length:Nat):Int)>64)))with
    | true=>exact Ev.iteT rfl (by simp only[if_true];exact Ev.const)
    | false=>
     refine Ev.iteF rfl (Ev.bind (VW ht) ?_);simp only[Jj9,if_false];generalize scan t.Rules.length _=z;cases z<;>exact Ev.const
def DM (t:Ab):Bool:=!Uv t&&t.Rules.all (λ r=>B4 r t.Modes)&&decide t.Rules.Nodup
theorem Mc (t:Ab):((M8 t).2==0)=DM t:=by
 unfold M8 DM;cases Uv t with
 | true=>rfl
 | false=>
  simp only[Jj9,if_false,Bool.not_false,Bool.true_and];have h20:∀ i p,HY t i=some p->p.2=20:=by
   intro i p h;unfold HY at h;split at h
   ·split at h
    ·cases h
    ·rename_i q hq;cases h;unfold Uu scan at hq;split at hq
     ·rename_i r hr;cases hq;obtain⟨k,_,hk⟩:=List.exists_of_findSome?_eq_some hr;split at hk
      ·cases hk;rfl
      ·cases hk
     ·cases hq
   ·cases h;rfl
  have hiff:(∀ i,i<t.Rules.length->HY t i=none)↔(t.Rules.all (λ r=>B4 r t.Modes)&&decide t.Rules.Nodup)=true:=by
   simp only[JjY,JjH,decide_eq_true_eq];constructor
   ·intro h;have hs:∀ i,i<t.Rules.length->B4 (t.Rules.getD i default) t.Modes=true:=by
     intro i hi;have:=h i hi;unfold HY at this;split at this
     ·assumption
     ·cases this
    refine⟨λ r hr=>?_,?_⟩
    ·obtain⟨i,hi,e⟩:=List.getElem_of_mem hr;have:=hs i hi;rwa[B9 hi,e]at this
    ·rw[List.Nodup,List.pairwise_iff_getElem];intro k i hk hi hlt e;have h0:=h i hi;unfold HY at h0;rw[if_pos (hs i hi)]at h0;obtain⟨_,r,_,_,hsc⟩:=F3 (N:=i) (stop:=λ k=>if t.Rules.getD k default=t.Rules.getD i default then some ((i:Int),(20:Int))else none) hlt (by rw[B9 hk,B9 hi,if_pos e];rfl)
     unfold Uu at h0;rw[hsc]at h0;cases h0
   ·rintro⟨h1,h2⟩ i hi;unfold HY;rw[if_pos (by rw[B9 hi];exact h1 _ (JjJ hi))];have:Uu t i=.inl ():=FZ λ k hk=>by
     rw[B9 (show k<t.Rules.length by omega),B9 hi,if_neg];rw[List.Nodup,List.pairwise_iff_getElem]at h2;exact h2 k i (by omega) hi hk
    rw[this]
  cases hv:(t.Rules.all (λ r=>B4 r t.Modes)&&decide t.Rules.Nodup)with
  | true=>rw[FZ (hiff.2 hv)];rfl
  | false=>
   have:¬∀ i,i<t.Rules.length->HY t i=none:=λ h=>by rw[hiff.1 h]at hv;cases hv
   have:∃ i,i<t.Rules.length/\HY t i≠none:=Classical.byContradiction λ hn=>this λ i hi=>Classical.byContradiction λ hc=>hn ⟨i,hi,hc⟩;obtain⟨i,hi,hne⟩:=this;obtain⟨k,r,_,hr,hs⟩:=F3 hi (Option.isSome_iff_ne_none.2 hne);rw[hs];show(r.2==0)=false;rw[h20 k r hr];rfl
theorem Jbx {t:Ab} (ht:E4 t):Ev (λ n=>MR n t) (DM t):=by
 rw[← Mc];exact Ev.bind (Jbw ht) Ev.const
theorem Yl {t:Ab} (ht:E4 t):Ev (λ n=>MO n t) (DM t):=by
 rw[← Mc];exact Ev.bind (Yk ht) Ev.const
theorem VX {t:Ab} {l:List Ay} (h:DM t=true) (hl:l.Sublist t.Rules) (h1:1<=l.length):DM ⟨t.Modes,t.Accept,l⟩=true:=by
 unfold DM Uv at h⊢;simp only[JjY,Bool.not_eq_true',JjW,decide_eq_false_iff_not,JjH,decide_eq_true_eq]at h⊢;have hle:=hl.length_le;exact⟨⟨⟨⟨h.1.1.1.1,by omega⟩,by omega⟩,λ r hr=>h.1.2 r (hl.subset hr)⟩,hl.nodup h.2⟩
theorem IG {t:Ab} (h:DM t=true):∀ r∈t.Rules,B4 r t.Modes=true:=by
 unfold DM at h;simp only[JjY,JjH]at h;exact h.1.2
end Go.AI
end
