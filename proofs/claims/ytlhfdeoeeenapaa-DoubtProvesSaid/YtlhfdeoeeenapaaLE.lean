/- Part 5 of 6 of the proof: lemmas about the model and the program's functions, with no condition beyond those that each states. -/
import Derived.Test.YtlhfdeoeeenapaaLD
import Derived.ChangeArms
import Derived.WalkKit
import Derived.ProofKit
import Derived.OpenShut
import Derived.Carry
import Derived.WideKeyArgs
import Derived.ChangeSame
import Derived.KernelRfl
section
namespace Go.AI
open Go.Proofs
set_option maxRecDepth 10000
theorem xok (n kl:Nat):XOK Try.prog (cxk n kl):=⟨tyOK,rfl⟩
theorem fO (k:Nat) (s:St) {fn:Func} {f:FuncId} {args:List AV} {r:AV} (hf:Try.prog.funcs[f]? = some fn) (h:WP (cxk k 0) (AN fn) [] (Uo (cxk k 0).ty fn.results.toList r) s) (hb:fn.body=some (AN fn):=by kernel_rfl) (hnm:(fn.name == "runtime.NumGoroutine")=false:=by kernel_rfl) (hnt:(cxk k 0).nt.n=fn.ntmps:=by kernel_rfl) (hlen:Nat.ble args.length fn.ntmps=true:=by kernel_rfl) (hs:(⟨(List.range args.length).zip args,[]⟩:St)=s:=by kernel_rfl):AE Try.prog f args r:=fo follows (JeS k 0) hf h hb hnm hnt hlen hs
theorem fL (k nb:Nat) (s:St) {fn:Func} {f:FuncId} {args:List AV} {O0 O1:List (Option Ob)} {r:AV} (hf:Try.prog.funcs[f]? = some fn) (h:WP (cxk k nb) (AN fn) [] (RG nb (cxk k nb).ty fn.results.toList r O1) s) (hb:fn.body=some (AN fn):=by kernel_rfl) (hnm:(fn.name == "runtime.NumGoroutine")=false:=by kernel_rfl) (hnt:(cxk k nb).nt=⟨fn.ntmps,[],nb,qfT⟩:=by kernel_rfl) (hlen:Nat.ble args.length fn.ntmps=true:=by kernel_rfl) (hs:(⟨(List.range args.length).zip args,O0⟩:St)=s:=by kernel_rfl):Bz Try.prog f args O0 nb r O1:=fl follows (JeS k nb) hf h hb hnm hnt hlen hs
theorem yok (n kl:Nat):YOK Try.prog (cxk n kl):=⟨rfl⟩
variable {n:Nat}
def eNM {α:Type} (_:α):List D:=[]
@[reducible] def JP {α:Type} (e:α->List D) (x:C1 α):List D:=e x.a0++e x.a1
def Ar (x:Az):List D:=[.str x.Print,.sl<|x.Cells.map eU8,.int .u8 x.Left,.int .u8 x.Right,.int .i64 x.From,.int .i64 x.To]
def AU (x:Ae):List D:=[.int .i64 x.Mode,.int .i64 x.Last,.int .u8 x.Need]
def Bk (x:AD):List D:=[.int .u8 x.Up,.int .u8 x.Maybe]
def BD (x:Hu):List D:=[.str x.Print,.str x.Cells,.int .i64 x.To]
def Au (x:Ag):List D:=[.int .i64 x.Cost,.str x.Text,.str x.Cells]
def AK (x:Ai):List D:=[.str x.Arc.Print,.str x.Arc.Cells,.int .i64 x.Arc.To,.int .i64 x.More,.sl<|x.List.map Au,.int .i64 x.First.Cost,.str x.First.Text,.str x.First.Cells]
def Bi (x:AZ):List D:=[.str x.Text,.sl<|x.Cells.map eU8,.int .i64 x.Cost]
def Es (x:CD):List D:=[.sl<|x.P.map eU8,.sl<|x.C.map eU8,.int .u8 x.L,.int .u8 x.R,.int .u8 x.W.a0,.int .u8 x.W.a1]
def Jjn (x:Ji):List D:=[.int .u8 x.Base,.int .u8 x.Drop,.sl<|x.More.map Es]
def Ax (x:Af):List D:=[.int .i64 x.S.Mode,.int .i64 x.S.Last,.int .u8 x.S.Need,.int .i64 x.Rule,.int .i64 x.At,.str x.Text]
def HX (x:Az):List AV:=[.d<|.str x.Print,.d<|.sl<|x.Cells.map eU8,.d<|.int .u8 x.Left,.d<|.int .u8 x.Right,.d<|.int .i64 x.From,.d<|.int .i64 x.To]
def A0 (x:Aa):List AV:=[.d<|.int .i64 x.Modes,.d<|.int .u8 x.Accept,.d<|.sl<|x.Rules.map Ar]
def Hw (x:Ae):List AV:=[.d<|.int .i64 x.Mode,.d<|.int .i64 x.Last,.d<|.int .u8 x.Need]
def DA (x:Ab) (v3:AV) (v4:AV):List AV:=[.d<|.sl<|x.Felt.map Bk,.d<|.int .i64 x.Budget,.d<|.int .i64 x.Most,v3,v4,.d<|.sl<|x.Before.map eNM]
def DK (x:Ai):List AV:=[.d<|.str x.Arc.Print,.d<|.str x.Arc.Cells,.d<|.int .i64 x.Arc.To,.d<|.int .i64 x.More,.d<|.sl<|x.List.map Au,.d<|.int .i64 x.First.Cost,.d<|.str x.First.Text,.d<|.str x.First.Cells]
def JeT (x:Ag):List AV:=[.d<|.int .i64 x.Cost,.d<|.str x.Text,.d<|.str x.Cells]
def Kx (x:Ab) (v4:AV):List AV:=[.d<|.sl<|x.Felt.map Bk,.d<|.int .i64 x.Budget,.d<|.int .i64 x.Most,.d<|.sl<|x.Arcs.map<|eL BD,v4,.d<|.sl<|x.Before.map eNM]
def An (x:Ab) (v4:AV) (v5:AV):List AV:=[.d<|.sl<|x.Felt.map Bk,.d<|.int .i64 x.Budget,.d<|.int .i64 x.Most,.d<|.sl<|x.Arcs.map<|eL BD,v4,v5]
def Jjo (x:Hu):List AV:=[.d<|.str x.Print,.d<|.str x.Cells,.d<|.int .i64 x.To]
def S3 (x:AZ):List AV:=[.d<|.str x.Text,.d<|.sl<|x.Cells.map eU8,.d<|.int .i64 x.Cost]
def Mr (x:CD):List AV:=[.d<|.sl<|x.P.map eU8,.d<|.sl<|x.C.map eU8,.d<|.int .u8 x.L,.d<|.int .u8 x.R,.d<|.int .u8 x.W.a0,.d<|.int .u8 x.W.a1]
def OG (x:Az) (v1:AV):List AV:=[.d<|.str x.Print,v1,.d<|.int .u8 x.Left,.d<|.int .u8 x.Right,.d<|.int .i64 x.From,.d<|.int .i64 x.To]
def Wu (x:Ji):List AV:=[.d<|.int .u8 x.Base,.d<|.int .u8 x.Drop,.d<|.sl<|x.More.map Es]
def Gz (x:Aa) (v2:AV):List AV:=[.d<|.int .i64 x.Modes,.d<|.int .u8 x.Accept,v2]
def Ms (x:Af):List AV:=[.d<|.int .i64 x.S.Mode,.d<|.int .i64 x.S.Last,.d<|.int .u8 x.S.Need,.d<|.int .i64 x.Rule,.d<|.int .i64 x.At,.d<|.str x.Text]
theorem YN:∀ a b:Int,Am [.int .i64] ((A3 a).map .d) ((A3 b).map .d)=some (decide (a=b)):=by
  intro a b;simp[Am,A3]
  all_goals (first|rfl|(rw[Bool.eq_iff_iff];simp))
theorem Jjp:∀ a b:(List UInt8),Am [.string] ((eS a).map .d) ((eS b).map .d)=some (decide (a=b)):=by
  intro a b;simp[Am,eS]
  all_goals (first|rfl|(rw[Bool.eq_iff_iff];simp))
theorem UC:∀ a b:Ae,Am [.int .i64,.int .i64,.int .u8] ((AU a).map .d) ((AU b).map .d)=some (decide (a=b)):=by
  intro a b;cases a;cases b;simp[Am,AU,Bool.decide_and]
  all_goals (first|rfl|(rw[Bool.eq_iff_iff];simp))
section
variable (b:(List UInt8)) (c:(List Int)) (a:(C1 Int))
def JfY:St:=⟨(0,.d<|.str b)::(1,.d<|.sl<|c.map eU8)::(2,.agg [.d<|.int .i64 a.a0,.d<|.int .i64 a.a1])::[],[]⟩
variable {b c a}
theorem AR {z} (H:A5 n b c a=some z):AE Try.prog 37 [.d (.str b),.d (.sl (c.map eU8)),.agg [.d (.int .i64 a.a0),.d (.int .i64 a.a1)]] (.agg [.d (.str z.Print),.d (.sl (z.Cells.map eU8)),.d (.int .u8 z.Left),.d (.int .u8 z.Right),.d (.int .i64 z.From),.d (.int .i64 z.To)]):=by
 exact fO 14 (JfY b c a) Try.func37<|sr<|ck 2<|en<|sr<|ck 8<|en<|re (by cases H;exact pr rd)
end
def JfZ:St:=⟨[],[]⟩
theorem PT {z} (H:N3 n=some z):AE Try.prog 35 [] (.own 6 (z.map Ar)):=by
 exact fO 16 JfZ Try.func35<|sr<|ck 1<|en<|sr<|ck 3<|en<|sr<|sF<|ck 1<|bx H λ a b H=>ca false (AR b)<|sF<|ck 1<|bx H λ c d H=>ca false (AR d)<|sF<|ck 1<|bx H λ e f H=>ca false (AR f)<|sF<|ck 1<|bx H λ g h H=>ca false (AR h)<|ck 2<|en<|re (by cases H;exact pr<|rO (v:=.osl 1 6 0<|List.length [a,c,e,g]) [1]<|ao vo)
section
variable (b:Int) (c:Int) (a:(C1 Int))
def Jf0:St:=⟨(0,.d<|.int .u8 b)::(1,.d<|.int .i64 c)::(2,.agg [.d<|.int .i64 a.a0,.d<|.int .i64 a.a1])::[],[]⟩
variable {b c a}
theorem E9 {z} (H:Fl n b c a=some z):AE Try.prog 36 [.d (.int .u8 b),.d (.int .i64 c),.agg [.d (.int .i64 a.a0),.d (.int .i64 a.a1)]] (.agg [.d (.str z.Print),.d (.sl (z.Cells.map eU8)),.d (.int .u8 z.Left),.d (.int .u8 z.Right),.d (.int .i64 z.From),.d (.int .i64 z.To)]):=by
 exact fO 16 (Jf0 b c a) Try.func36<|sr<|ck 2<|en<|sr<|ck 1<|sF<|ck 1<|bx H λ h e H=>ca false (AR e)<|ck 2<|en<|sr<|ck 1<|bx H λ f g H=>so (Gt g)<|ck 2<|en<|sr<|ck 2<|en<|re (by cases H;exact pr rd)
end
section
variable (b:Int) (c:(List Az))
def Jf1:St:=⟨(0,.d<|.int .u8 b)::[],[]⟩
def Jf2:St:=⟨(2,.ptr 0 0)::(3,.osl 1 6 0<|c.length)::[],[some<|.box [.d<|.int .i64 0,.d<|.int .u8 0,.osl 2 6 0<|List.length ([]:List Az)],some<|.arr 6<|c.map Ar,some<|.arr 6<|List.map Ar ([]:List Az)]⟩
variable {b c}
theorem N4 {z} (H:FC n b=some z):AE Try.prog 20 [.d (.int .u8 b)] (.agg [.d (.int .i64 z.Modes),.d (.int .u8 z.Accept),.own 6 (z.Rules.map Ar)]):=by
 refine fO 121 (Jf1 b) Try.func20<|sr<|ck 1<|en<|sr<|bx H λ K L H=>cl [List.length K] (PT L)<|ck 13<|en<|sj (λ (x:(List Az))=>Jf2 x) (λ (x:(List Az))=>El n x) z ?_ (λ a=>?_)
 ·intro c H;exact sr<|ck 3<|en<|re (by cases H;exact pr<|rO (v:=.agg [.d<|.int .i64 1,.d<|.int .u8 1,.osl 1 6 0<|c.length]) [1]<|a1<|c1 vd<|c1 vd<|c1 vo<|c0)
 refine sr<|ck 2<|en<|bk 0<|sr<|ck 2<|en<|cn H (λ H=>?_)<|λ H=>?_
 ·exact sr<|ck 2<|bx H λ r7 M H=>ca false (E9 M)<|sF<|ck 1<|bx H λ r8 O H=>ca false (AR O)<|sF<|ck 1<|bx H λ r9 e H=>ca false (AR e)<|sF<|ck 1<|bx H λ P f H=>ca false (AR f)<|ck 1<|bx H λ Q g H=>sp (BJ Ar 1 6 g)<|ck 1<|en<|sr<|ck 3<|en<|re<|qR<|qr (by cases H;exact pr<|rO (v:=.agg [.d<|.int .i64 2,.d<|.int .u8 3,.osl 7 6 0<|Q.length]) [7]<|a1<|c1 vd<|c1 vd<|c1 vo<|c0)
 ·refine sr<|ck 2<|en<|cn H (λ H=>?_)<|λ H=>?_
  ·exact sr<|ck 2<|bx H λ R h H=>ca false (E9 h)<|sF<|ck 1<|bx H λ S i H=>ca false (AR i)<|sF<|ck 1<|bx H λ T j H=>ca false (AR j)<|ck 1<|bx H λ U k H=>sp (BJ Ar 1 6 k)<|ck 1<|en<|sr<|ck 3<|en<|re<|qR<|qr (by cases H;exact pr<|rO (v:=.agg [.d<|.int .i64 2,.d<|.int .u8 1,.osl 7 6 0<|U.length]) [7]<|a1<|c1 vd<|c1 vd<|c1 vo<|c0)
  ·refine sr<|ck 2<|en<|cn H (λ H=>?_)<|λ H=>?_
   ·exact rz<|ck 1<|sF<|ck 1<|bx H λ V l H=>ca false (AR l)<|sF<|ck 1<|bx H λ W m H=>ca false (AR m)<|sF<|ck 1<|bx H λ X o H=>ca false (AR o)<|ck 1<|bx H λ Y p H=>sp (BJ Ar 1 6 p)<|ck 1<|ae<|qN<|qs (tr (F4 0 2 6 (by kernel_rfl))<|sg [2,3])<|a Y H
   ·refine sr<|ck 2<|en<|cn H (λ H=>?_)<|λ H=>?_
    ·exact rz<|ck 1<|sF<|ck 1<|bx H λ Z q H=>ca false (AR q)<|ck 1<|bx H λ l4 r H=>sp (BJ Ar 1 6 r)<|ck 1<|ae<|qN<|qs (tr (F4 0 2 6 (by kernel_rfl))<|sg [2,3])<|a l4 H
    ·refine sr<|ck 2<|en<|cn H (λ H=>?_)<|λ H=>?_
     ·exact sr<|sF<|ck 1<|bx H λ ab s H=>ca false (AR s)<|sF<|ck 1<|bx H λ ac t H=>ca false (AR t)<|ck 4<|en<|sr<|ck 4<|en<|rz<|ck 3<|sF<|ck 1<|bx H λ af u H=>ca false (AR u)<|ck 1<|bx H λ l5 w H=>sp (BJ Ar 1 6 w)<|ck 1<|ae<|qN<|qs (tr (F4 0 2 6 (by kernel_rfl))<|sg [2,3])<|a l5 H
     ·refine sr<|ck 2<|en<|cn H (λ H=>?_)<|λ H=>?_
      ·exact sr<|ck 2<|bx H λ ah y H=>ca false (E9 y)<|sF<|ck 1<|bx H λ ai A H=>ca false (AR A)<|sF<|ck 1<|bx H λ aj B H=>ca false (AR B)<|ck 1<|bx H λ l6 C H=>sp (BJ Ar 1 6 C)<|ck 1<|en<|sr<|ck 3<|en<|re<|qR<|qr (by cases H;exact pr<|rO (v:=.agg [.d<|.int .i64 2,.d<|.int .u8 1,.osl 7 6 0<|l6.length]) [7]<|a1<|c1 vd<|c1 vd<|c1 vo<|c0)
      ·refine sr<|ck 2<|en<|cn H (λ H=>?_)<|λ H=>?_
       ·exact rz<|ck 1<|sF<|ck 1<|bx H λ al E H=>ca false (AR E)<|sF<|ck 1<|bx H λ am G H=>ca false (AR G)<|sF<|ck 1<|bx H λ ap I H=>ca false (AR I)<|ck 1<|bx H λ l7 J H=>sp (BJ Ar 1 6 J)<|ck 1<|ae<|qN<|qs (tr (F4 0 2 6 (by kernel_rfl))<|sg [2,3])<|a l7 H
       ·exact sk<|qN<|qs (tr (F4 0 2 6 (by kernel_rfl))<|sg [2,3])<|a K H
end
section
variable (a:Int)
def Jf3:St:=⟨(0,.d<|.int .u8 a)::[],[]⟩
variable {a}
theorem Lr {z} (H:FT n a=some z):AE Try.prog 90 [.d (.int .u8 a)] (.d (.bool z)):=by
 exact fO 12 (Jf3 a) Try.func90<|sr<|ck 1<|en<|sr<|ck 3<|en<|sr<|ck 4<|gc 1 (decide<|32<=Ca .u8 a 127)<|pA<|ck 1<|en<|re (by cases H;exact pr rd)
end
section
variable (a:(List UInt8)) (b:Int)
def Jf4:St:=⟨(0,.d<|.str a)::[],[]⟩
def Jf5:St:=⟨(0,.d<|.str a)::(6,.d<|.int .i64 ((a.length:Nat):Int))::(7,.d<|.int .i64 b)::[],[]⟩
def Jf6:St:=⟨(0,.d<|.str a)::[],[]⟩
def QQ:(Unit⊕(Int×Int))->Ex->St->Prop:=xS (xX 0 0<|λ (_:Unit)=>Jf6 a)<|xR ty Try.f78<|λ (y:(Int×Int))=>.tup [.d<|.int .i64 y.1,.d<|.int .i64 y.2]
def KY:Int->St:=(λ (x:Int)=>Jf5 a x)
variable {a b}
theorem JQ (x:Int) (z:(Int⊕(Unit⊕(Int×Int)))) (H:G7 n a x=some z):WP (cxk 19 0) (AN Try.f78) [1,0,1,0,0] (AP 0 (KY a) (QQ a) z) (KY a x):=by
 revert H;generalize x=b;intro H;refine sr<|ck 1<|en<|sq<|cn H (λ H=>?_)<|λ H=>?_
 ·refine sk<|qz<|sq<|bk 1<|sr<|ck 2<|en<|sr<|ck 2<|bx H λ k e H=>sp (Fj e)<|bx H λ i f H=>ca false (Lr f)<|ck 1<|en<|cn H (λ H=>?_)<|λ H=>?_
  ·exact sr<|ck 3<|en<|re<|qR<|qr (by cases H;exact ro rfl rdT)
  ·exact sk<|qN<|qz<|rz<|ck 2<|ae (by cases H;exact og<|sg [0,6,7])
 ·exact ex 0<|qx (by cases H;exact xo rfl<|sg [0])
theorem UD {z} (H:Mh n a=some z):AE Try.prog 78 [.d (.str a)] (.tup [.d (.int .i64 z.1),.d (.int .i64 z.2)]):=by
 refine fO 19 (Jf4 a) Try.func78<|sr<|ck 2<|en<|sq<|sr<|ck 3<|en<|bk 0<|bx H λ j c H=>?_;rcases j with l|m
 ·exact lX JQ c (sg [0,6,7]) rfl λ s g=>qH<|qs (g)<|sr<|ck 4<|en<|re (by cases H;exact pr rdT)
 ·exact lR JQ c (sg [0,6,7]) rfl λ s h=>qR<|qr (by cases H;exact pr h)
end
section
variable (a:Int)
def Jf7:St:=⟨(0,.d<|.int .u8 a)::[],[]⟩
variable {a}
theorem IN {z} (H:Gc n a=some z):AE Try.prog 65 [.d (.int .u8 a)] (.d (.int .i64 z)):=by
 refine fO 30 (Jf7 a) Try.func65<|sr<|ck 1<|en<|sr<|ck 3<|en<|sq<|bk 0<|sr<|ck 4<|gc 1 (decide<|97<=Ca .u8 a 127)<|pA<|ck 1<|en<|cn H (λ H=>?_)<|λ H=>?_
 ·exact sr<|ck 1<|en<|re<|qR<|qr (by cases H;exact pr rd)
 ·refine sr<|ck 4<|gc 1 (decide<|65<=Ca .u8 a 127)<|pA<|ck 1<|en<|cn H (λ H=>?_)<|λ H=>?_
  ·exact sr<|ck 1<|en<|re<|qR<|qr (by cases H;exact pr rd)
  ·refine sr<|ck 4<|gc 1 (decide<|48<=Ca .u8 a 127)<|pA<|ck 1<|en<|cn H (λ H=>?_)<|λ H=>?_
   ·exact sr<|ck 1<|en<|re<|qR<|qr (by cases H;exact pr rd)
   ·refine sr<|ck 3<|en<|cn H (λ H=>?_)<|λ H=>?_
    ·exact sr<|ck 1<|en<|re<|qR<|qr (by cases H;exact pr rd)
    ·exact sk<|qN<|qz<|sr<|ck 1<|en<|re (by cases H;exact pr rd)
end
section
variable (a:(List UInt8)) (b:Int)
def Jf8:St:=⟨(0,.d<|.str a)::[],[]⟩
def Jf9:St:=⟨(0,.d<|.str a)::(5,.d<|.int .i64 ((a.length:Nat):Int))::(6,.d<|.int .i64 b)::[],[]⟩
def Jga:St:=⟨[],[]⟩
def Mt:(Unit⊕Bool)->Ex->St->Prop:=xS (xX 0 0<|λ (_:Unit)=>Jga)<|xR ty Try.f79<|λ (y:Bool)=>.d<|.bool y
def Hj:Int->St:=(λ (x:Int)=>Jf9 a x)
variable {a b}
theorem GA (x:Int) (z:(Int⊕(Unit⊕Bool))) (H:D9 n a x=some z):WP (cxk 15 0) (AN Try.f79) [1,0,1,0,0] (AP 0 (Hj a) (Mt) z) (Hj a x):=by
 revert H;generalize x=b;intro H;refine sr<|ck 1<|en<|sq<|cn H (λ H=>?_)<|λ H=>?_
 ·refine sk<|qz<|sq<|bk 1<|sr<|ck 2<|en<|sr<|ck 2<|bx H λ k e H=>sp (Fj e)<|bx H λ i f H=>ca false (IN f)<|ck 1<|en<|cn H (λ H=>?_)<|λ H=>?_
  ·exact sr<|ck 1<|en<|re<|qR<|qr (by cases H;exact ro rfl rd)
  ·exact sk<|qN<|qz<|rz<|ck 2<|ae (by cases H;exact og<|sg [0,5,6])
 ·exact ex 0<|qx (by cases H;exact xo rfl<|sg [])
theorem Og {z} (H:F5 n a=some z):AE Try.prog 79 [.d (.str a)] (.d (.bool z)):=by
 refine fO 15 (Jf8 a) Try.func79<|sr<|ck 1<|en<|sq<|sr<|ck 3<|en<|bk 0<|bx H λ j c H=>?_;rcases j with l|m
 ·exact lX GA c (sg [0,5,6]) rfl λ s g=>qH<|qs (g)<|sr<|ck 1<|en<|re (by cases H;exact pr rd)
 ·exact lR GA c (sg [0,5,6]) rfl λ s h=>qR<|qr (by cases H;exact pr h)
end
section
variable (a:Int)
def Jgb:St:=⟨(0,.d<|.int .u8 a)::[],[]⟩
variable {a}
theorem S4 {z} (H:Nf n a=some z):AE Try.prog 80 [.d (.int .u8 a)] (.d (.bool z)):=by
 exact fO 5 (Jgb a) Try.func80<|sr<|ck 1<|en<|sr<|ck 3<|en<|re (by cases H;exact pr rd)
end
section
variable (a:Az) (b:Int) (c:Int)
def Jgc:St:=⟨(0,.agg [.d<|.str a.Print,.d<|.sl<|a.Cells.map eU8,.d<|.int .u8 a.Left,.d<|.int .u8 a.Right,.d<|.int .i64 a.From,.d<|.int .i64 a.To])::(1,.d<|.int .i64 b)::[],[]⟩
def Jgd:St:=⟨(92,.d<|.sl<|a.Cells.map eU8)::(93,.d<|.int .i64 ((a.Cells.length:Nat):Int))::(94,.d<|.int .i64 c)::[],[]⟩
def Jge:St:=⟨[],[]⟩
def PU:(Unit⊕Bool)->Ex->St->Prop:=xS (xX 0 0<|λ (_:Unit)=>Jge)<|xR ty Try.f61<|λ (y:Bool)=>.d<|.bool y
def JR:Int->St:=(λ (x:Int)=>Jgd a x)
variable {a b c}
theorem I4 (x:Int) (z:(Int⊕(Unit⊕Bool))) (H:F6 n a x=some z):WP (cxk 110 0) (AN Try.f61) [1,1,1,1,1,1,0,1,0,0] (AP 0 (JR a) (PU) z) (JR a x):=by
 revert H;generalize x=c;intro H;refine sr<|ck 1<|en<|sq<|cn H (λ H=>?_)<|λ H=>?_
 ·refine sk<|qz<|sq<|bk 1<|sr<|bx H λ p h H=>sp (AF eU8 h)<|ck 2<|en<|sr<|ck 1<|bx H λ e i H=>ca false (S4 i)<|ck 3<|gc 1 (!(!e))<|pO<|ck 2<|gc 1 (!((!e)||(p==63)))<|pO<|en<|cn H (λ H=>?_)<|λ H=>?_
  ·exact sr<|ck 1<|en<|re<|qR<|qr (by cases H;exact ro rfl rd)
  ·exact sk<|qN<|qz<|rz<|ck 2<|ae (by cases H;exact og<|sg [92,93,94])
 ·exact ex 0<|qx (by cases H;exact xo rfl<|sg [])
theorem S5 {z} (H:Ko n a b=some z):AE Try.prog 61 [.agg (HX a),.d (.int .i64 b)] (.d (.bool z)):=by
 refine fO 110 (Jgc a b) Try.func61<|sr<|ck 2<|en<|sq<|sr<|ck 6<|gc 1 (!(decide<|((a.Print.length:Nat):Int)>4))<|sE (g:=(!(decide<|((a.Print.length:Nat):Int)>4))) (λ hg=>AQ eU8 a.Cells)<|gc 1 (!(decide<|((a.Print.length:Nat):Int)>4))<|pO<|ck 2<|gc 1 (!((decide<|((a.Print.length:Nat):Int)>4)||(decide<|((a.Cells.length:Nat):Int)<1)))<|sE (g:=(!((decide<|((a.Print.length:Nat):Int)>4)||(decide<|((a.Cells.length:Nat):Int)<1)))) (λ hg=>AQ eU8 a.Cells)<|gc 1 (!((decide<|((a.Print.length:Nat):Int)>4)||(decide<|((a.Cells.length:Nat):Int)<1)))<|pO<|en<|cn H (λ H=>?_)<|λ H=>?_
 ·exact sr<|ck 1<|en<|re<|qr (by cases H;exact pr rd)
 ·refine sk<|qz<|sq<|sr<|ck 2<|bx H λ q j H=>ca false (UD j)<|ck 5<|en<|sr<|ck 2<|en<|cn H (λ H=>?_)<|λ H=>?_
  ·exact sr<|ck 1<|en<|re<|qr (by cases H;exact pr rd)
  ·refine sk<|qz<|sq<|sr<|ck 5<|gc 2 (!(decide<|a.Left<1))<|pO<|ck 2<|gc 2 (!((decide<|a.Left<1)||(decide<|a.Left>63)))<|pO<|ck 2<|gc 2 (!(((decide<|a.Left<1)||(decide<|a.Left>63))||(decide<|a.Right<1)))<|pO<|en<|cn H (λ H=>?_)<|λ H=>?_
   ·exact sr<|ck 1<|en<|re<|qr (by cases H;exact pr rd)
   ·refine sk<|qz<|sq<|sr<|ck 5<|gc 1 (!(decide<|a.From<0))<|ck 1<|gc 1 (!(decide<|a.From<0))<|pO<|ck 2<|gc 2 (!((decide<|a.From<0)||(decide<|a.From>=b)))<|pO<|ck 2<|gc 1 (!(((decide<|a.From<0)||(decide<|a.From>=b))||(decide<|a.To<0)))<|ck 1<|gc 1 (!(((decide<|a.From<0)||(decide<|a.From>=b))||(decide<|a.To<0)))<|pO<|en<|cn H (λ H=>?_)<|λ H=>?_
    ·exact sr<|ck 1<|en<|re<|qr (by cases H;exact pr rd)
    ·refine sk<|qz<|sq<|sr<|ck 2<|bx H λ r k H=>ca false (Og k)<|en<|cn H (λ H=>?_)<|λ H=>?_
     ·exact sr<|ck 6<|gc 1 (((a.Print.length:Nat):Int)==1)<|sE (g:=(((a.Print.length:Nat):Int)==1)) (λ hg=>AQ eU8 a.Cells)<|gc 1 (((a.Print.length:Nat):Int)==1)<|pA<|ck 2<|gc 1 ((((a.Print.length:Nat):Int)==1)&&(((a.Cells.length:Nat):Int)==1))<|bx H λ u l H=>sE (λ hg=>AF eU8<|Dk l hg)<|gc 2 ((((a.Print.length:Nat):Int)==1)&&(((a.Cells.length:Nat):Int)==1))<|pA<|ck 1<|en<|re<|qr (by cases H;exact pr rd)
     ·refine sk<|qz<|sq<|sr<|ck 2<|sp (AQ eU8 a.Cells)<|ck 1<|en<|bk 0<|bx H λ t f H=>?_;rcases t with v|w
      ·exact lX I4 f (sg [92,93,94]) rfl λ s m=>qH<|qs (m)<|sr<|ck 1<|en<|re (by cases H;exact pr rd)
      ·exact lR I4 f (sg [92,93,94]) rfl λ s o=>qR<|qr (by cases H;exact pr o)
end
section
variable (a:(List Int)) (b:(List Int)) (c:Int)
def Jgf:St:=⟨(0,.d<|.sl<|a.map eU8)::(1,.d<|.sl<|b.map eU8)::[],[]⟩
def Jgg:St:=⟨(0,.d<|.sl<|a.map eU8)::(1,.d<|.sl<|b.map eU8)::(12,.d<|.int .i64 ((a.length:Nat):Int))::(13,.d<|.int .i64 c)::[],[]⟩
def Jgh:St:=⟨[],[]⟩
def PV:(Unit⊕Bool)->Ex->St->Prop:=xS (xX 0 0<|λ (_:Unit)=>Jgh)<|xR ty Try.f81<|λ (y:Bool)=>.d<|.bool y
def JS:Int->St:=(λ (x:Int)=>Jgg a b x)
variable {a b c}
theorem I5 (x:Int) (z:(Int⊕(Unit⊕Bool))) (H:F7 n a b x=some z):WP (cxk 26 0) (AN Try.f81) [1,1,0,1,0,0] (AP 0 (JS a b) (PV) z) (JS a b x):=by
 revert H;generalize x=c;intro H;refine sr<|ck 1<|en<|sq<|cn H (λ H=>?_)<|λ H=>?_
 ·refine sk<|qz<|sq<|bk 1<|sr<|ck 2<|en<|sr<|ck 2<|bx H λ m f H=>sp (AF eU8 f)<|ck 3<|bx H λ o g H=>sp (AF eU8 g)<|ck 2<|en<|cn H (λ H=>?_)<|λ H=>?_
  ·exact sr<|ck 1<|en<|re<|qR<|qr (by cases H;exact ro rfl rd)
  ·exact sk<|qN<|qz<|rz<|ck 2<|ae (by cases H;exact og<|sg [0,1,12,13])
 ·exact ex 0<|qx (by cases H;exact xo rfl<|sg [])
theorem S6 {z} (H:Kp n a b=some z):AE Try.prog 81 [.d (.sl (a.map eU8)),.d (.sl (b.map eU8))] (.d (.bool z)):=by
 refine fO 26 (Jgf a b) Try.func81<|sr<|ck 1<|en<|sq<|sr<|ck 1<|sp (AQ eU8 a)<|ck 1<|sp (AQ eU8 b)<|ck 1<|en<|cn H (λ H=>?_)<|λ H=>?_
 ·exact sr<|ck 1<|en<|re<|qr (by cases H;exact pr rd)
 ·refine sk<|qz<|sq<|sr<|ck 1<|sp (AQ eU8 a)<|ck 1<|en<|bk 0<|bx H λ h e H=>?_;rcases h with k|l
  ·exact lX I5 e (sg [0,1,12,13]) rfl λ s i=>qH<|qs (i)<|sr<|ck 1<|en<|re (by cases H;exact pr rd)
  ·exact lR I5 e (sg [0,1,12,13]) rfl λ s j=>qR<|qr (by cases H;exact pr j)
end
section
variable (a:Az) (b:Az)
def Jgi:St:=⟨(0,.agg [.d<|.str a.Print,.d<|.sl<|a.Cells.map eU8,.d<|.int .u8 a.Left,.d<|.int .u8 a.Right,.d<|.int .i64 a.From,.d<|.int .i64 a.To])::(1,.agg [.d<|.str b.Print,.d<|.sl<|b.Cells.map eU8,.d<|.int .u8 b.Left,.d<|.int .u8 b.Right,.d<|.int .i64 b.From,.d<|.int .i64 b.To])::[],[]⟩
variable {a b}
theorem S7 {z} (H:Kq n a b=some z):AE Try.prog 62 [.agg (HX a),.agg (HX b)] (.d (.bool z)):=by
 exact fO 45 (Jgi a b) Try.func62<|sr<|ck 3<|en<|sr<|ck 7<|gc 1 (a.From==b.From)<|ck 1<|gc 2 (a.From==b.From)<|pA<|ck 2<|gc 1 ((a.From==b.From)&&(a.To==b.To))<|ck 1<|gc 2 ((a.From==b.From)&&(a.To==b.To))<|pA<|ck 2<|gc 1 (((a.From==b.From)&&(a.To==b.To))&&(a.Left==b.Left))<|ck 1<|gc 2 (((a.From==b.From)&&(a.To==b.To))&&(a.Left==b.Left))<|pA<|ck 2<|gc 1 ((((a.From==b.From)&&(a.To==b.To))&&(a.Left==b.Left))&&(a.Right==b.Right))<|ck 1<|gc 2 ((((a.From==b.From)&&(a.To==b.To))&&(a.Left==b.Left))&&(a.Right==b.Right))<|pA<|ck 2<|gc 1 (((((a.From==b.From)&&(a.To==b.To))&&(a.Left==b.Left))&&(a.Right==b.Right))&&(a.Print==b.Print))<|ck 1<|gc 1 (((((a.From==b.From)&&(a.To==b.To))&&(a.Left==b.Left))&&(a.Right==b.Right))&&(a.Print==b.Print))<|bx H λ e c H=>cG false (leZ) rfl (λ hg=>S6<|Dk c hg) (Or.inl rfl) (Dj (λ hh=>hh)<|Dj (λ hh=>hh)<|GT) rfl<|pA<|ck 1<|en<|re (by cases H;exact pr rd)
end
section
variable (a:Aa) (b:Int) (e:Az) (c:(List Az)) (f:Int)
def Jgj:St:=⟨(0,.agg [.d<|.int .i64 a.Modes,.d<|.int .u8 a.Accept,.d<|.sl<|a.Rules.map Ar])::[],[]⟩
def Jgk:St:=⟨(1,.ptr 0 0)::(39,.d<|.sl<|a.Rules.map Ar)::(40,.d<|.int .i64 ((a.Rules.length:Nat):Int))::(41,.d<|.int .i64 b)::[],[some<|.box<|A0 a]⟩
def Jgl:St:=⟨[],[]⟩
def Jgm:St:=⟨(1,.ptr 0 0)::(4,.d<|.int .i64 b)::(5,.ptr 1 0)::(39,.d<|.sl<|a.Rules.map Ar)::(40,.d<|.int .i64 ((a.Rules.length:Nat):Int))::(41,.d<|.int .i64 b)::(55,.d<|.sl<|c.map Ar)::(56,.d<|.int .i64 ((c.length:Nat):Int))::(57,.d<|.int .i64 f)::[],[some<|.box<|A0 a,some<|.box<|HX e]⟩
def Jgn:St:=⟨(1,.ptr 0 0)::(39,.d<|.sl<|a.Rules.map Ar)::(40,.d<|.int .i64 ((a.Rules.length:Nat):Int))::(41,.d<|.int .i64 b)::[],[some<|.box<|A0 a]⟩
def PW:(Unit⊕(Int×Int))->Ex->St->Prop:=xS (xX 0 2<|λ (_:Unit)=>Jgn a b)<|xR ty Try.f52<|λ (y:(Int×Int))=>.tup [.d<|.int .i64 y.1,.d<|.int .i64 y.2]
def JT:Int->St:=(λ (x:Int)=>Jgm a b e c x)
def PX:(Unit⊕(Int×Int))->Ex->St->Prop:=xS (xX 0 0<|λ (_:Unit)=>Jgl)<|xR ty Try.f52<|λ (y:(Int×Int))=>.tup [.d<|.int .i64 y.1,.d<|.int .i64 y.2]
def JU:Int->St:=(λ (x:Int)=>Jgk a x)
variable {a b e c f}
theorem I6 (x:Int) (z:(Int⊕(Unit⊕(Int×Int)))) (H:EG n a b e c x=some z):WP (cxk 67 0) (AN Try.f52) [1,1,1,1,0,1,0,0,1,1,0,0,1,1,1,0,0] (AP 0 (JT a b e c) (PW a b) z) (JT a b e c x):=by
 revert H;generalize x=f;intro H;refine sr<|ck 1<|en<|sq<|cn H (λ H=>?_)<|λ H=>?_
 ·refine sk<|qz<|sq<|bk 3<|sr<|bx H λ K m H=>sp (AF Ar m)<|ck 3<|en<|sr<|ck 2<|bx H λ A o H=>ca false (S7 o)<|en<|cn H (λ H=>?_)<|λ H=>?_
  ·exact sr<|ck 3<|en<|re<|qR<|qr (by cases H;exact ro rfl rdT)
  ·exact sk<|qN<|qz<|rz<|ck 2<|ae (by cases H;exact og<|sg [1,4,5,39,40,41,55,56,57])
 ·exact ex 2<|qx (by cases H;exact xo rfl<|sg [1,39,40,41])
theorem I7 (x:Int) (z:(Int⊕(Unit⊕(Int×Int)))) (H:EH n a x=some z):WP (cxk 67 0) (AN Try.f52) [1,1,1,1,0,1,0,0] (AP 0 (JU a) (PX) z) (JU a x):=by
 revert H;generalize x=b;intro H;refine sr<|ck 1<|en<|sq<|cn H (λ H=>?_)<|λ H=>?_
 ·refine sk<|qz<|sq<|bk 1<|sr<|ck 1<|bx H λ e p H=>sp (AF Ar p)<|ck 4<|en<|sq<|sr<|ck 3<|bx H λ B q H=>ca false (S5 q)<|ck 1<|en<|cn H (λ H=>?_)<|λ H=>?_
  ·exact sr<|ck 3<|en<|re<|qr<|qR<|qr (by cases H;exact ro rfl rdT)
  ·refine sk<|qz<|sr<|ck 3<|bx H λ c r H=>sp (Jap Ar 6 r)<|sp (AQ Ar c)<|ck 1<|en<|bk 2<|bx H λ t h H=>?_;rcases t with C|E
   ·exact lX I6 h (sg [1,4,5,39,40,41,55,56,57]) rfl λ s u=>qH<|qN<|qs (u)<|rz<|ck 2<|ae (by cases H;exact og<|sg [1,39,40,41])
   ·exact lR I6 h (sg [1,4,5,39,40,41,55,56,57]) rfl λ s i=>qR<|qR<|qr (by cases H;exact ro rfl i)
 ·exact ex 0<|qx (by cases H;exact xo rfl<|sg [])
theorem S8 {z} (H:Kr n a=some z):AE Try.prog 52 [.agg (A0 a)] (.tup [.d (.int .i64 z.1),.d (.int .i64 z.2)]):=by
 refine fO 67 (Jgj a) Try.func52<|sr<|ck 3<|en<|sq<|sr<|ck 5<|gc 2 (!(decide<|a.Modes<1))<|pO<|en<|cn H (λ H=>?_)<|λ H=>?_
 ·exact sr<|ck 2<|en<|re<|qr (by cases H;exact pr rdT)
 ·refine sk<|qz<|sq<|sr<|ck 5<|gc 2 (!(a.Accept==0))<|ck 1<|gc 1 (!(a.Accept==0))<|bx H λ G v H=>soG (λ hg=>Gt<|Dk v hg) (Dj (λ hh=>hh)<|GT)<|gc 1 (!(a.Accept==0))<|pO<|en<|cn H (λ H=>?_)<|λ H=>?_
  ·exact sr<|ck 2<|en<|re<|qr (by cases H;exact pr rdT)
  ·refine sk<|qz<|sq<|sr<|ck 2<|sp (AQ Ar a.Rules)<|ck 3<|gc 1 (!(decide<|((a.Rules.length:Nat):Int)<1))<|sE (g:=(!(decide<|((a.Rules.length:Nat):Int)<1))) (λ hg=>AQ Ar a.Rules)<|gc 1 (!(decide<|((a.Rules.length:Nat):Int)<1))<|pO<|en<|cn H (λ H=>?_)<|λ H=>?_
   ·exact sr<|ck 2<|en<|re<|qr (by cases H;exact pr rdT)
   ·refine sk<|qz<|sq<|sr<|ck 2<|sp (AQ Ar a.Rules)<|ck 1<|en<|bk 0<|bx H λ w j H=>?_;rcases w with I|J
    ·exact lX I7 j (sg [1,39,40,41]) rfl λ s k=>qH<|qs (k)<|sr<|ck 2<|en<|re (by cases H;exact pr rdT)
    ·exact lR I7 j (sg [1,39,40,41]) rfl λ s l=>qR<|qr (by cases H;exact pr l)
end
section
variable (a:Aa)
def Jgo:St:=⟨(0,.agg [.d<|.int .i64 a.Modes,.d<|.int .u8 a.Accept,.d<|.sl<|a.Rules.map Ar])::[],[]⟩
variable {a}
theorem S9 {z} (H:Ng n a=some z):AE Try.prog 39 [.agg (A0 a)] (.d (.bool z)):=by
 exact fO 12 (Jgo a) Try.func39<|sr<|ck 2<|en<|sr<|ck 1<|bx H λ c b H=>ca false (S8 b)<|ck 5<|en<|sr<|ck 3<|en<|re (by cases H;exact pr rd)
end
def Jgp:St:=⟨[],[]⟩
theorem Ta {z} (H:Nh n=some z):AE Try.prog 82 [] (.agg [.d (.int .i64 z.Mode),.d (.int .i64 z.Last),.d (.int .u8 z.Need)]):=by
 exact fO 2 Jgp Try.func82<|sr<|ck 1<|en<|sr<|ck 2<|en<|re (by cases H;exact pr rd)
section
variable (b:Int) (a:Int)
def Jgq:St:=⟨(0,.d<|.int .u8 b)::(1,.d<|.int .i64 a)::[],[]⟩
variable {b a}
theorem IP {z} (H:IG n b a=some z):AE Try.prog 64 [.d (.int .u8 b),.d (.int .i64 a)] (.d (.bool z)):=by
 exact fO 18 (Jgq b a) Try.func64<|sr<|ck 1<|en<|sr<|ck 4<|gc 1 (decide<|0<=a)<|pA<|ck 3<|bx H λ e c H=>soG (λ hg=>Gt<|Dk c hg) (Dj (λ hh=>hh)<|Dj (λ hh=>hh)<|GT)<|gc 2 ((decide<|0<=a)&&(decide<|a<8))<|pA<|ck 1<|en<|re (by cases H;exact pr rd)
end
section
variable (b:Aa) (a:Ae) (c:Int)
def Jgr:St:=⟨(0,.agg [.d<|.int .i64 b.Modes,.d<|.int .u8 b.Accept,.d<|.sl<|b.Rules.map Ar])::(1,.agg [.d<|.int .i64 a.Mode,.d<|.int .i64 a.Last,.d<|.int .u8 a.Need])::(2,.d<|.int .i64 c)::[],[]⟩
variable {b a c}
theorem N5 {z} (H:JK n b a c=some z):AE Try.prog 55 [.agg (A0 b),.agg (Hw a),.d (.int .i64 c)] (.tup [.agg [.d (.int .i64 z.1.Mode),.d (.int .i64 z.1.Last),.d (.int .u8 z.1.Need)],.d (.bool z.2)]):=by
 refine fO 78 (Jgr b a c) Try.func55<|sr<|ck 4<|en<|sq<|sr<|ck 5<|gc 1 (!(decide<|c<0))<|sE (g:=(!(decide<|c<0))) (λ hg=>AQ Ar b.Rules)<|gc 1 (!(decide<|c<0))<|pO<|en<|cn H (λ H=>?_)<|λ H=>?_
 ·exact sr<|ck 3<|en<|re<|qr (by cases H;exact pr rdT)
 ·refine sk<|qz<|sr<|ck 3<|bx H λ e f H=>sp (AF Ar f)<|ck 3<|en<|sq<|sr<|ck 7<|gc 1 (!(e.From != a.Mode))<|ck 1<|gc 1 (!(e.From != a.Mode))<|bx H λ o h H=>cG false (leZ) rfl (λ hg=>IP<|Dk h hg) (Or.inl rfl) (Dj (λ hh=>hh)<|Dj (λ hh=>hh)<|GT) rfl<|gc 1 (!(e.From != a.Mode))<|pO<|en<|cn H (λ H=>?_)<|λ H=>?_
  ·exact sr<|ck 3<|en<|re<|qr (by cases H;exact pr rdT)
  ·refine sk<|qz<|sq<|sr<|ck 3<|en<|cn H (λ H=>?_)<|λ H=>?_
   ·refine sr<|ck 6<|en<|sq<|sr<|ck 2<|en<|cn H (λ H=>?_)<|λ H=>?_
    ·exact sr<|ck 3<|en<|re<|qr<|qr (by cases H;exact pr rdT)
    ·exact sk<|qz<|sr<|ck 8<|en<|re<|qr (by cases H;exact pr rdT)
   ·refine sk<|qz<|sq<|sr<|ck 4<|bx H λ s i H=>sp (Fj i)<|bx H λ p j H=>ca false (IN j)<|bx H λ q k H=>ca false (IP k)<|ck 1<|en<|cn H (λ H=>?_)<|λ H=>?_
    ·exact sr<|ck 3<|en<|re<|qr (by cases H;exact pr rdT)
    ·exact sk<|qz<|sr<|ck 8<|bx H λ t l H=>sp (Fj l)<|bx H λ r m H=>ca false (IN m)<|ck 5<|en<|re (by cases H;exact pr rdT)
end
section
variable (f:Aa) (o:(List Ae)) (p:(List (List Int))) (A:(List (Ae×Int))) (u:Int) (B:(List Ae)) (K:(List (List Int))) (a:(List Ae)) (g:(List (List Int))) (b:(List (Ae×Int))) (L:Int) (C:(List Ae)) (M:(List (List Int))) (J:(List (Ae×Int))) (q:(List Ae)) (w:(List (List Int))) (E:(List (Ae×Int))) (h:(List Ae)) (c:(List (List Int))) (r:(List (Ae×Int))) (G:Int)
def Jgs:St:=⟨(0,.agg [.d<|.int .i64 f.Modes,.d<|.int .u8 f.Accept,.d<|.sl<|f.Rules.map Ar])::[],[]⟩
def Jgt:St:=⟨(1,.ptr 0 0)::(5,.osl 1 3 0<|o.length)::(6,.osl 2 1 0<|p.length)::(7,.mp 3)::(8,.d<|.int .i64 u)::[],[some<|.box<|A0 f,some<|.arr 3<|o.map AU,some<|.narr 1<|p.map<|nL 1 A3,some<|.map true false<|Bt AU A3 A]⟩
def Jgu:St:=⟨(5,.osl 0 3 0<|B.length)::(6,.osl 1 1 0<|K.length)::[],[some<|.arr 3<|B.map AU,some<|.narr 1<|K.map<|nL 1 A3]⟩
def Jgv:St:=⟨(1,.ptr 0 0)::(5,.osl 1 3 0<|a.length)::(6,.osl 2 1 0<|g.length)::(7,.mp 3)::(8,.d<|.int .i64 u)::(29,.d<|.int .i64 ((f.Rules.length:Nat):Int))::(30,.d<|.int .i64 L)::[],[some<|.box<|A0 f,some<|.arr 3<|a.map AU,some<|.narr 1<|g.map<|nL 1 A3,some<|.map true false<|Bt AU A3 b]⟩
def Jgw:St:=⟨(1,.ptr 0 0)::(5,.osl 1 3 0<|C.length)::(6,.osl 2 1 0<|M.length)::(7,.mp 3)::(8,.d<|.int .i64 u)::[],[some<|.box<|A0 f,some<|.arr 3<|C.map AU,some<|.narr 1<|M.map<|nL 1 A3,some<|.map true false<|Bt AU A3 J]⟩
def Jgx:St:=⟨(1,.ptr 0 0)::(5,.osl 1 3 0<|q.length)::(6,.osl 2 1 0<|w.length)::(7,.mp 3)::(8,.d<|.int .i64 u)::(29,.d<|.int .i64 ((f.Rules.length:Nat):Int))::(30,.d<|.int .i64 L)::[],[some<|.box<|A0 f,some<|.arr 3<|q.map AU,some<|.narr 1<|w.map<|nL 1 A3,some<|.map true false<|Bt AU A3 E]⟩
def Jgy:St:=⟨(1,.ptr 0 0)::(5,.osl 1 3 0<|h.length)::(6,.osl 2 1 0<|c.length)::(7,.mp 3)::(8,.d<|.int .i64 u)::(12,.d<|.int .i64 G)::(29,.d<|.int .i64 ((f.Rules.length:Nat):Int))::(30,.d<|.int .i64 L)::[],[some<|.box<|A0 f,some<|.arr 3<|h.map AU,some<|.narr 1<|c.map<|nL 1 A3,some<|.map true false<|Bt AU A3 r]⟩
def Nk:((List Ae)×(List<|List Int)×(List<|Ae×Int))->Ex->St->Prop:=xX 0 2<|λ (y:((List Ae)×(List<|List Int)×(List<|Ae×Int)))=>Jgw f u y.1 y.2.1 y.2.2
def HY:((List Ae)×(List<|List Int)×(List<|Ae×Int)×Int)->St:=(λ (x:((List Ae)×(List<|List Int)×(List<|Ae×Int)×Int))=>Jgv f u x.1 x.2.1 x.2.2.1 x.2.2.2)
def Nl:((List Ae)×(List<|List Int))->Ex->St->Prop:=xX 0 0<|λ (y:((List Ae)×(List<|List Int)))=>Jgu y.1 y.2
def HZ:((List Ae)×(List<|List Int)×(List<|Ae×Int)×Int)->St:=(λ (x:((List Ae)×(List<|List Int)×(List<|Ae×Int)×Int))=>Jgt f x.1 x.2.1 x.2.2.1 x.2.2.2)
variable {f o p A u B K a g b L C M J q w E h c r G}
theorem Mv (x:((List Ae)×(List (List Int))×(List (Ae×Int))×Int)) (z:(((List Ae)×(List (List Int))×(List (Ae×Int))×Int)⊕((List Ae)×(List (List Int))×(List (Ae×Int))))) (H:BT n f u x.1 x.2.1 x.2.2.1 x.2.2.2=some z):WP (cxk 78 0) (AN Try.f63) [1,1,1,1,0,1,0,0,1,0,0,1,0,0] (AP 0 (HY f u) (Nk f u) z) (HY f u x):=by
 obtain⟨a,g,b,L⟩:=x;refine sr<|ck 1<|en<|sq<|cn H (λ H=>?_)<|λ H=>?_
 ·refine sk<|qz<|sj (λ (x:((List Ae)×(List<|List Int)×(List<|Ae×Int)))=>Jgx f u L x.1 x.2.1 x.2.2) (λ (x:((List Ae)×(List<|List Int)×(List<|Ae×Int)))=>CI n L x.1 x.2.1 x.2.2) z ?_ (λ i=>?_)
  ·rintro⟨q,w,E⟩ H;exact rz<|ck 2<|ae (by cases H;exact og<|gP [1,5,6,7,8,29,30] [0,1,2,3]<|po1<|po1<|pn1 (nL 1 A3) w<|po1<|Pl.z)
  refine bk 3<|sr<|ck 2<|en<|sr<|ck 3<|bx H λ x8 T H=>sp (Bv 1 3 T)<|sp (Cp AU 1 0 (ty 79) T)<|ck 1<|bx H λ I Y H=>ca false (N5 Y)<|ck 6<|en<|sq<|sr<|ck 2<|en<|cn H (λ H=>?_)<|λ H=>?_
  ·exact ex 3<|qx<|qH<|qs (gP [1,5,6,7,8,29,30] [0,1,2,3]<|po1<|po1<|pn1 (nL 1 A3) g<|po1<|Pl.z)<|i (a,g,b) H
  ·refine sk<|qz<|sr<|ck 2<|sp (Ux (enc:=A3) (encK:=AU) (k:=3) (e1:=λ x=>.int .i64 x) (m:=b) (l:=[.d<|.int .i64 I.1.Mode,.d<|.int .i64 I.1.Last,.d<|.int .u8 I.1.Need]) (key:=I.1) (z:=0) (vz:=[.int .i64 0]) UC true)<|ck 5<|en<|sj (λ (x:((List Ae)×(List<|List Int)×(List<|Ae×Int)×Int))=>Jgy f u L x.1 x.2.1 x.2.2.1 x.2.2.2) (λ (x:((List Ae)×(List<|List Int)×(List<|Ae×Int)×Int))=>Dw n u L x.1 x.2.1 x.2.2.1 x.2.2.2) z ?_ (λ j=>?_)
   ·rintro⟨h,c,r,G⟩ H;exact bx H λ U O H=>rg (tr (so1 (encN:=(nL 1 A3)) 2 1 O)<|sno (encN:=(nL 1 A3)) (enc:=A3) O [.own 1<|U.map A3] U 1 2 0 1)<|ck 4<|sp (Bv 2 1 O)<|sp (IF (encN:=(nL 1 A3)) (row:=[.osl 4 1 0<|U.length]) (k:=2) (sz:=1) (off:=0) (t:=ty 87) (v:=.osl 4 1 0<|U.length) O)<|ck 2<|bx H λ P Z H=>sp (BJ A3 4 1 Z)<|sp (Bv 2 1 O)<|sp (SR (encN:=(nL 1 A3)) (row:=[.osl 4 1 0<|U.length]) (row':=[.osl 6 1 0<|P.length]) (k:=2) (sz:=1) (off:=0) (t:=ty 87) (v:=.osl 6 1 0<|P.length) O)<|ae<|qN<|qs (tr (tr (tr (tr (tr (sni (encN:=(nL 1 A3)) (xs:=c) (n:=G) (enc:=A3) [.osl 6 1 0<|P.length] P 1 2 0 6 1)<|scl (encN:=(nL 1 A3)) (xss:=c) G [.own 1<|P.map A3] 1 2 P)<|sn 6 2 1<|lsS c G.toNat P)<|sn 65 2 1<|lsS c G.toNat P)<|sn 67 2 1<|lsS c G.toNat P)<|gP [1,5,6,7,8,29,30] [0,1,2,3]<|po1<|po1<|pn1 (nL 1 A3) (List.set c G.toNat P)<|po1<|Pl.z)<|i (h,(List.set c G.toNat P),r) H
   refine sr<|ck 2<|en<|cn H (λ H=>?_)<|λ H=>?_
   ·exact sr<|ck 3<|en<|sr<|ck 3<|sp (SS (enc:=A3) (encK:=AU) (k:=3) (e1:=λ x=>.int .i64 x) (m:=b) (l:=[.d<|.int .i64 I.1.Mode,.d<|.int .i64 I.1.Last,.d<|.int .u8 I.1.Need]) (key:=I.1) (y:=((a.length:Nat):Int)) (v:=.d<|.int .i64 ((a.length:Nat):Int)) (vz:=[.int .i64 0]) UC)<|en<|rz<|ck 3<|bx H λ aa ab H=>sp (BJ AU 1 3 ab)<|ck 1<|sK false<|bx H λ R V H=>sp (JdM (encN:=(nL 1 A3)) (esz:=1) (k:=2) (e:=[.nil]) V)<|ck 2<|ae<|qs (tr (Jfr (encN:=(nL 1 A3)) (xss:=g) (yss:=R) (y:=([]:(List Int))) (row:=[.own 0 []]) (sz:=1) 7 (by kernel_rfl) (JdB V) (by kernel_rfl))<|gP [1,5,6,7,8,12,29,30] [0,6,7,3]<|po1<|po1<|pn1 (nL 1 A3) R<|po1<|Pl.z)<|j (aa,R,(BP I.1 ((a.length:Nat):Int) b),((a.length:Nat):Int)) H
   ·exact sk<|qs (gP [1,5,6,7,8,12,29,30] [0,1,2,3]<|po1<|po1<|pn1 (nL 1 A3) g<|po1<|Pl.z)<|j (a,g,b,(Option.getD (AT I.1 b) 0)) H
 ·exact ex 2<|qx (by cases H;exact xo rfl<|gP [1,5,6,7,8] [0,1,2,3]<|po1<|po1<|pn1 (nL 1 A3) g<|po1<|Pl.z)
theorem Mw (x:((List Ae)×(List (List Int))×(List (Ae×Int))×Int)) (z:(((List Ae)×(List (List Int))×(List (Ae×Int))×Int)⊕((List Ae)×(List (List Int))))) (H:CJ n f x.1 x.2.1 x.2.2.1 x.2.2.2=some z):WP (cxk 78 0) (AN Try.f63) [1,1,1,1,0,1,0,0] (AP 0 (HZ f) (Nl) z) (HZ f x):=by
 obtain⟨o,p,A,u⟩:=x;refine sq<|sr<|ck 4<|en<|cn H (λ H=>?_)<|λ H=>?_
 ·exact sk<|qz<|sq<|bk 1<|sr<|ck 2<|sp (AQ Ar f.Rules)<|ck 1<|en<|bk 2<|bx H λ ac af H=>lX Mv af (gP [1,5,6,7,8,29,30] [0,1,2,3]<|po1<|po1<|pn1 (nL 1 A3) p<|po1<|Pl.z) rfl λ s W=>qH<|qN<|qs (W)<|rz<|ck 3<|ae (by cases H;exact og<|gP [1,5,6,7,8] [0,1,2,3]<|po1<|po1<|pn1 (nL 1 A3) ac.2.1<|po1<|Pl.z)
 ·exact ex 0<|qx (by cases H;exact xo rfl<|gP [5,6] [1,2]<|po1<|pn1 (nL 1 A3) p<|Pl.z)
theorem PY {z} (H:G8 n f=some z):AE Try.prog 63 [.agg (A0 f)] (.tup [.own 3 (z.1.map AU),.d (.sl (z.2.map (eL A3)))]):=by
 exact fO 78 (Jgs f) Try.func63<|sr<|ck 3<|en<|sr<|bx H λ Q ag H=>ca false (Ta ag)<|ck 2<|en<|sr<|ck 2<|sK true<|ck 2<|en<|sq<|rg (Jfq (sz:=1) (es:=[[.nil]]) 3 (List.map (nL 1 A3) ([[]]:List (List Int))) (by kernel_rfl) (by kernel_rfl))<|ck 2<|sp (SS (enc:=A3) (encK:=AU) (k:=4) (e1:=λ x=>.int .i64 x) (m:=[]) (l:=[.d<|.int .i64 Q.Mode,.d<|.int .i64 Q.Last,.d<|.int .u8 Q.Need]) (key:=Q) (y:=0) (v:=.d<|.int .i64 0) (vz:=[.int .i64 0]) UC)<|ck 2<|en<|sq<|sr<|ck 1<|en<|bk 0<|bx H λ S ah H=>lX Mw ah (gP [1,5,6,7,8] [0,2,3,4]<|po1<|po1<|pn1 (nL 1 A3) ([[]]:List (List Int))<|po1<|Pl.z) rfl λ s X=>qH<|qs (X)<|sr<|ck 4<|ae<|qs (JdD (encN:=(nL 1 A3)) (encD:=(eL A3)) (xss:=S.2) (k:=1) (sz:=1) 3 (by kernel_rfl) (λ _=>rfl)<|λ _=>rfl)<|re (by cases H;exact pr<|rT (vs:=[.osl 0 3 0<|S.1.length,.d<|.sl<|S.2.map<|eL A3]) [0]<|t1 (ao vo)<|t1 (ad vd)<|t0)
end
section
variable (a:Aa)
def Jgz:St:=⟨(0,.agg [.d<|.int .i64 a.Modes,.d<|.int .u8 a.Accept,.d<|.sl<|a.Rules.map Ar])::[],[]⟩
variable {a}
theorem QR {z} (H:Lq n a=some z):AE Try.prog 53 [.agg (A0 a)] (.own 3 (z.map AU)):=by
 exact fO 11 (Jgz a) Try.func53<|sr<|ck 2<|en<|sr<|ck 1<|bx H λ b c H=>cl [List.length b.1] (PY c)<|ck 5<|en<|sr<|ck 2<|en<|re (by cases H;exact pr<|rO (v:=.osl 1 3 0<|b.1.length) [1]<|ao vo)
end
section
variable (a:Aa) (b:Ae)
def JgA:St:=⟨(0,.agg [.d<|.int .i64 a.Modes,.d<|.int .u8 a.Accept,.d<|.sl<|a.Rules.map Ar])::(1,.agg [.d<|.int .i64 b.Mode,.d<|.int .i64 b.Last,.d<|.int .u8 b.Need])::[],[]⟩
variable {a b}
theorem PZ {z} (H:G9 n a b=some z):AE Try.prog 54 [.agg (A0 a),.agg (Hw b)] (.d (.bool z)):=by
 exact fO 22 (JgA a b) Try.func54<|sr<|ck 3<|en<|sr<|ck 7<|gc 1 (decide<|b.Mode<a.Modes)<|ck 1<|gc 1 (decide<|b.Mode<a.Modes)<|bx H λ c e H=>cG false (leZ) rfl (λ hg=>IP<|Dk e hg) (Or.inl rfl) (Dj (λ hh=>hh)<|Dj (λ hh=>hh)<|GT) rfl<|pA<|ck 2<|gc 1 ((decide<|b.Mode<a.Modes)&&c)<|bx H λ g f H=>cG false (leZ) rfl (λ hg=>IP<|Dk f hg) (Or.inl rfl) (Dj (λ hh=>hh)<|GT) rfl<|pA<|ck 1<|en<|re (by cases H;exact pr rd)
end
section
variable (a:Int)
def JgB:St:=⟨(0,.d<|.int .u8 a)::[],[]⟩
variable {a}
theorem KH {z} (H:CK n a=some z):AE Try.prog 83 [.d (.int .u8 a)] (.d (.int .i64 z)):=by
 exact fO 6 (JgB a) Try.func83<|sr<|ck 1<|en<|sr<|ck 1<|bx H λ c b H=>sp (Fj b)<|ck 2<|en<|re (by cases H;exact pr rd)
end
section
variable (a:AD) (b:Int)
def JgC:St:=⟨(0,.agg [.d<|.int .u8 a.Up,.d<|.int .u8 a.Maybe])::(1,.d<|.int .u8 b)::[],[]⟩
variable {a b}
theorem UE {z} (H:Gv n a b=some z):AE Try.prog 66 [.agg [.d (.int .u8 a.Up),.d (.int .u8 a.Maybe)],.d (.int .u8 b)] (.d (.int .i64 z)):=by
 exact fO 13 (JgC a b) Try.func66<|sr<|ck 2<|en<|sr<|ck 7<|bx H λ e c H=>ca true (KH c)<|ck 1<|en<|re (by cases H;exact pr rd)
end
section
variable (a:Int)
def Jd0:St:=⟨(0,.d<|.int .i64 a)::[],[]⟩
variable {a}
theorem Hk {z} (H:EI n a=some z):AE Try.prog 101 [.d (.int .i64 a)] (.d (.bool z)):=by
 exact fO 6 (Jd0 a) Try.func101<|sr<|ck 1<|en<|sr<|ck 4<|en<|re (by cases H;exact pr rd)
end
section
variable (a:Int) (b:Int)
def JgD:St:=⟨(0,.d<|.int .i64 a)::(1,.d<|.int .i64 b)::[],[]⟩
variable {a b}
theorem KI {z} (H:DD n a b=some z):AE Try.prog 87 [.d (.int .i64 a),.d (.int .i64 b)] (.d (.int .i64 z)):=by
 refine fO 20 (JgD a b) Try.func87<|sr<|ck 1<|en<|sr<|ck 1<|bx H λ f c H=>ca false (Hk c)<|ck 1<|en<|sr<|ck 1<|bx H λ g e H=>ca false (Hk e)<|ck 1<|en<|sq<|sr<|ck 1<|en<|cn H (λ H=>?_)<|λ H=>?_
 ·refine sq<|sr<|ck 1<|en<|cn H (λ H=>?_)<|λ H=>?_
  ·exact sr<|ck 1<|en<|re<|qr<|qr (by cases H;exact pr rd)
  ·exact sk<|qz<|sr<|ck 1<|en<|re<|qr (by cases H;exact pr rd)
 ·refine sk<|qz<|sq<|sr<|ck 1<|en<|cn H (λ H=>?_)<|λ H=>?_
  ·exact sr<|ck 1<|en<|re<|qr (by cases H;exact pr rd)
  ·refine sk<|qz<|sq<|sr<|ck 3<|en<|cn H (λ H=>?_)<|λ H=>?_
   ·exact sr<|ck 1<|en<|re<|qr (by cases H;exact pr rd)
   ·refine sk<|qz<|sq<|sr<|ck 3<|en<|cn H (λ H=>?_)<|λ H=>?_
    ·exact sr<|ck 1<|en<|re<|qr (by cases H;exact pr rd)
    ·exact sk<|qz<|sr<|ck 1<|en<|re (by cases H;exact pr rd)
end
theorem P0 {n:Nat} {a:(List UInt8)} {b:(List UInt8)} {z:Int} (H:JL n a b=some z):AE Try.prog 88 [.d (.str a),.d (.str b)] (.d (.int .i64 z)):=YJ JkG ⟨_,_,Try.func88,rfl,rfl⟩ H
section
variable (a:(List Int)) (b:Int)
def JgE:St:=⟨(0,.d<|.sl<|a.map A3)::[],[]⟩
def JgF:St:=⟨(3,.d<|.int .i64 0)::(6,.d<|.sl<|a.map A3)::(7,.d<|.int .i64 ((a.length:Nat):Int))::(8,.d<|.int .i64 b)::[],[]⟩
def JgG:St:=⟨(3,.d<|.int .i64 0)::[],[]⟩
def Nm:(Unit⊕Int)->Ex->St->Prop:=xS (xX 0 0<|λ (_:Unit)=>JgG)<|xR ty Try.f86<|λ (y:Int)=>.d<|.int .i64 y
def H1:Int->St:=(λ (x:Int)=>JgF a x)
variable {a b}
theorem Hl (x:Int) (z:(Int⊕(Unit⊕Int))) (H:Gw n a x=some z):WP (cxk 18 0) (AN Try.f86) [1,1,0,1,0,0] (AP 0 (H1 a) (Nm) z) (H1 a x):=by
 revert H;generalize x=b;intro H;refine sr<|ck 1<|en<|sq<|cn H (λ H=>?_)<|λ H=>?_
 ·refine sk<|qz<|sq<|bk 1<|sr<|bx H λ i g H=>sp (AF A3 g)<|ck 2<|en<|sr<|ck 3<|en<|cn H (λ H=>?_)<|λ H=>?_
  ·exact sr<|ck 2<|en<|re<|qR<|qr (by cases H;exact ro rfl rd)
  ·exact sk<|qN<|qz<|rz<|ck 2<|ae (by cases H;exact og<|sg [3,6,7,8])
 ·exact ex 0<|qx (by cases H;exact xo rfl<|sg [3])
theorem P1 {z} (H:Ha n a=some z):AE Try.prog 86 [.d (.sl (a.map A3))] (.d (.int .i64 z)):=by
 refine fO 18 (JgE a) Try.func86<|sr<|ck 1<|en<|sr<|ck 1<|en<|sq<|sr<|ck 1<|sp (AQ A3 a)<|ck 1<|en<|bk 0<|bx H λ h c H=>?_;rcases h with j|k
 ·exact lX Hl c (sg [3,6,7,8]) rfl λ s e=>qH<|qs (e)<|sr<|ck 2<|en<|re (by cases H;exact pr rd)
 ·exact lR Hl c (sg [3,6,7,8]) rfl λ s f=>qR<|qr (by cases H;exact pr f)
end
section
variable (a:Ag) (b:Ag)
def JgH:St:=⟨(0,.agg [.d<|.int .i64 a.Cost,.d<|.str a.Text,.d<|.str a.Cells])::(1,.agg [.d<|.int .i64 b.Cost,.d<|.str b.Text,.d<|.str b.Cells])::[],[]⟩
variable {a b}
theorem DQ {z} (H:AW n a b=some z):AE Try.prog 76 [.agg (JeT a),.agg (JeT b)] (.d (.int .i64 z)):=by
 exact fO 17 (JgH a b) Try.func76<|sr<|ck 3<|en<|sr<|ck 4<|bx H λ c f H=>ca false (KI f)<|ck 4<|bx H λ e g H=>ca false (P0 g)<|ck 1<|bx H λ i h H=>cb (ks:=[2]) (obl:=[(0+List.length [c,e],List.length<|List.map A3 [c,e])]) true (leK leM<|leZ) (G5 PI rfl) (P1 h) (Or.inr trivial) rfl<|ck 1<|en<|re (by cases H;exact pr rd)
end
section
variable (a:Ai) (b:Ai)
def JgI:St:=⟨(0,.agg [.d<|.str a.Arc.Print,.d<|.str a.Arc.Cells,.d<|.int .i64 a.Arc.To,.d<|.int .i64 a.More,.d<|.sl<|a.List.map Au,.d<|.int .i64 a.First.Cost,.d<|.str a.First.Text,.d<|.str a.First.Cells])::(1,.agg [.d<|.str b.Arc.Print,.d<|.str b.Arc.Cells,.d<|.int .i64 b.Arc.To,.d<|.int .i64 b.More,.d<|.sl<|b.List.map Au,.d<|.int .i64 b.First.Cost,.d<|.str b.First.Text,.d<|.str b.First.Cells])::[],[]⟩
variable {a b}
theorem KJ {z} (H:HU n a b=some z):AE Try.prog 71 [.agg (DK a),.agg (DK b)] (.d (.int .i64 z)):=by
 exact fO 10 (JgI a b) Try.func71<|sr<|ck 3<|en<|sr<|ck 4<|bx H λ e c H=>ca true (DQ c)<|ck 1<|en<|re (by cases H;exact pr rd)
end
section
variable (b:Aa) (q:(List AD)) (r:Int) (u:Int) (P:Ab) (c:(List Ae)) (j:(List (Ae×Int))) (I:Int) (C:(List (Ae×Int))) (f:(List (Ae×Int))) (G:Ab) (a:Int) (K:Ab) (i:Ae) (e:Ab) (h:Int) (L:Ab) (J:Ab) (w:Az) (o:(Ae×Bool)) (p:(List Int)) (M:Int) (A:(List Int))
def JaX:St:=⟨(0,.agg [.d<|.int .i64 b.Modes,.d<|.int .u8 b.Accept,.d<|.sl<|b.Rules.map Ar])::(1,.d<|.sl<|q.map Bk)::(2,.d<|.int .i64 r)::(3,.d<|.int .i64 u)::[],[]⟩
def JaY:St:=⟨(8,.ptr 0 0)::[],[some<|.box<|Kx P<|.osl 1 1 0<|P.Accepts.length,some<|.arr 1<|P.Accepts.map eB]⟩
def JaZ:St:=⟨(1,.d<|.sl<|q.map Bk)::(2,.d<|.int .i64 r)::(3,.d<|.int .i64 u)::(4,.ptr 0 0)::(9,.d<|.sl<|c.map AU)::(10,.mp 1)::(28,.d<|.sl<|c.map AU)::(29,.d<|.int .i64 ((c.length:Nat):Int))::(30,.d<|.int .i64 I)::[],[some<|.box<|A0 b,some<|.map true false<|Bt AU A3 j]⟩
def Ja0:St:=⟨(1,.d<|.sl<|q.map Bk)::(2,.d<|.int .i64 r)::(3,.d<|.int .i64 u)::(4,.ptr 0 0)::(9,.d<|.sl<|c.map AU)::(10,.mp 1)::[],[some<|.box<|A0 b,some<|.map true false<|Bt AU A3 C]⟩
def Ls:(List<|Ae×Int)->Ex->St->Prop:=xX 0 0<|λ (y:(List<|Ae×Int))=>Ja0 b q r u c y
def GB:((List<|Ae×Int)×Int)->St:=(λ (x:((List<|Ae×Int)×Int))=>JaZ b q r u c x.1 x.2)
def Ja1:St:=⟨(4,.ptr 0 0)::(10,.mp 1)::(13,.ptr 2 0)::(50,.d<|.sl<|c.map AU)::(51,.d<|.int .i64 ((c.length:Nat):Int))::(52,.d<|.int .i64 a)::[],[some<|.box<|A0 b,some<|.map true false<|Bt AU A3 f,some<|.box<|DA G (.osl 3 1 0<|G.Arcs.length)<|.osl 4 1 0<|G.Accepts.length,some<|.narr 1<|G.Arcs.map<|nL 3 BD,some<|.arr 1<|G.Accepts.map eB]⟩
def Ja2:St:=⟨(13,.ptr 0 0)::[],[some<|.box<|DA K (.osl 1 1 0<|K.Arcs.length)<|.osl 2 1 0<|K.Accepts.length,some<|.narr 1<|K.Arcs.map<|nL 3 BD,some<|.arr 1<|K.Accepts.map eB]⟩
def Ja3:St:=⟨(4,.ptr 0 0)::(10,.mp 1)::(13,.ptr 2 0)::(14,.d<|.int .i64 a)::(15,.ptr 3 0)::(50,.d<|.sl<|c.map AU)::(51,.d<|.int .i64 ((c.length:Nat):Int))::(52,.d<|.int .i64 a)::(67,.d<|.sl<|b.Rules.map Ar)::(68,.d<|.int .i64 ((b.Rules.length:Nat):Int))::(69,.d<|.int .i64 h)::[],[some<|.box<|A0 b,some<|.map true false<|Bt AU A3 f,some<|.box<|DA e (.osl 4 1 0<|e.Arcs.length)<|.osl 5 1 0<|e.Accepts.length,some<|.box<|Hw i,some<|.narr 1<|e.Arcs.map<|nL 3 BD,some<|.arr 1<|e.Accepts.map eB]⟩
def Ja4:St:=⟨(4,.ptr 0 0)::(10,.mp 1)::(13,.ptr 2 0)::(50,.d<|.sl<|c.map AU)::(51,.d<|.int .i64 ((c.length:Nat):Int))::(52,.d<|.int .i64 a)::[],[some<|.box<|A0 b,some<|.map true false<|Bt AU A3 f,some<|.box<|DA L (.osl 3 1 0<|L.Arcs.length)<|.osl 4 1 0<|L.Accepts.length,some<|.narr 1<|L.Arcs.map<|nL 3 BD,some<|.arr 1<|L.Accepts.map eB]⟩
def Ja5:St:=⟨(4,.ptr 0 0)::(10,.mp 1)::(13,.ptr 2 0)::(14,.d<|.int .i64 a)::(15,.ptr 3 0)::(50,.d<|.sl<|c.map AU)::(51,.d<|.int .i64 ((c.length:Nat):Int))::(52,.d<|.int .i64 a)::(67,.d<|.sl<|b.Rules.map Ar)::(68,.d<|.int .i64 ((b.Rules.length:Nat):Int))::(69,.d<|.int .i64 h)::[],[some<|.box<|A0 b,some<|.map true false<|Bt AU A3 f,some<|.box<|DA J (.osl 4 1 0<|J.Arcs.length)<|.osl 5 1 0<|J.Accepts.length,some<|.box<|Hw i,some<|.narr 1<|J.Arcs.map<|nL 3 BD,some<|.arr 1<|J.Accepts.map eB]⟩
def YO:St:=⟨(4,.ptr 0 0)::(10,.mp 1)::(13,.ptr 2 0)::(14,.d<|.int .i64 a)::(15,.ptr 3 0)::(17,.ptr 4 0)::(18,.ptr 5 0)::(20,.osl 6 1 0<|p.length)::(50,.d<|.sl<|c.map AU)::(51,.d<|.int .i64 ((c.length:Nat):Int))::(52,.d<|.int .i64 a)::(67,.d<|.sl<|b.Rules.map Ar)::(68,.d<|.int .i64 ((b.Rules.length:Nat):Int))::(69,.d<|.int .i64 h)::(84,.d<|.sl<|w.Cells.map eU8)::(85,.d<|.int .i64 ((w.Cells.length:Nat):Int))::(86,.d<|.int .i64 M)::[],[some<|.box<|A0 b,some<|.map true false<|Bt AU A3 f,some<|.box<|DA e (.osl 7 1 0<|e.Arcs.length)<|.osl 8 1 0<|e.Accepts.length,some<|.box<|Hw i,some<|.box<|HX w,some<|.box<|Hw o.1,some<|.arr 1<|p.map eU8,some<|.narr 1<|e.Arcs.map<|nL 3 BD,some<|.arr 1<|e.Accepts.map eB]⟩
def YP:St:=⟨(4,.ptr 0 0)::(10,.mp 1)::(13,.ptr 2 0)::(14,.d<|.int .i64 a)::(15,.ptr 3 0)::(17,.ptr 4 0)::(18,.ptr 5 0)::(20,.osl 6 1 0<|A.length)::(50,.d<|.sl<|c.map AU)::(51,.d<|.int .i64 ((c.length:Nat):Int))::(52,.d<|.int .i64 a)::(67,.d<|.sl<|b.Rules.map Ar)::(68,.d<|.int .i64 ((b.Rules.length:Nat):Int))::(69,.d<|.int .i64 h)::[],[some<|.box<|A0 b,some<|.map true false<|Bt AU A3 f,some<|.box<|DA e (.osl 7 1 0<|e.Arcs.length)<|.osl 8 1 0<|e.Accepts.length,some<|.box<|Hw i,some<|.box<|HX w,some<|.box<|Hw o.1,some<|.arr 1<|A.map eU8,some<|.narr 1<|e.Arcs.map<|nL 3 BD,some<|.arr 1<|e.Accepts.map eB]⟩
def Lt:(List Int)->Ex->St->Prop:=xX 0 6<|λ (y:(List Int))=>YP b c f a i e h w o y
def GC:((List Int)×Int)->St:=(λ (x:((List Int)×Int))=>YO b c f a i e h w o x.1 x.2)
def Lu:Ab->Ex->St->Prop:=xX 0 4<|λ (y:Ab)=>Ja4 b c f a y
def GD:(Ab×Int)->St:=(λ (x:(Ab×Int))=>Ja3 b c f a i x.1 x.2)
def Lv:Ab->Ex->St->Prop:=xX 0 2<|λ (y:Ab)=>Ja2 y
def GE:(Ab×Int)->St:=(λ (x:(Ab×Int))=>Ja1 b c f x.1 x.2)
variable {b q r u P c j I C f G a K i e h L J w o p M A}
theorem KK (x:((List (Ae×Int))×Int)) (z:(((List (Ae×Int))×Int)⊕(List (Ae×Int)))) (H:CL n b q r u c x.1 x.2=some z):WP (cxk 121 0) (AN Try.f40) [1,1,1,0,1,0,0] (AP 0 (GB b q r u c) (Ls b q r u c) z) (GB b q r u c x):=by
 obtain⟨j,I⟩:=x;refine sr<|ck 1<|en<|sq<|cn H (λ H=>?_)<|λ H=>?_
 ·exact sk<|qz<|sq<|bk 1<|sr<|ck 1<|bx H λ Q ai H=>sp (AF AU ai)<|ck 4<|en<|rz<|ck 3<|sp (SS (enc:=A3) (encK:=AU) (k:=1) (e1:=λ x=>.int .i64 x) (m:=j) (l:=[.d<|.int .i64 Q.Mode,.d<|.int .i64 Q.Last,.d<|.int .u8 Q.Need]) (key:=Q) (y:=I) (v:=.d<|.int .i64 I) (vz:=[.int .i64 0]) UC)<|ae<|qN<|qz<|rz<|ck 2<|ae (by cases H;exact og<|sg [1,2,3,4,9,10,28,29,30])
 ·exact ex 0<|qx (by cases H;exact xo rfl<|sg [1,2,3,4,9,10])
theorem KL (x:((List Int)×Int)) (z:(((List Int)×Int)⊕(List Int))) (H:Cj n b c f a i e h w o x.1 x.2=some z):WP (cxk 121 0) (AN Try.f40) [1,1,1,1,1,0,1,0,0,1,1,0,0,1,1,1,0,0,1,1,0,0,1,1,1,1,0,1,0,0] (AP 0 (GC b c f a i e h w o) (Lt b c f a i e h w o) z) (GC b c f a i e h w o x):=by
 obtain⟨p,M⟩:=x;refine sr<|ck 1<|en<|sq<|cn H (λ H=>?_)<|λ H=>?_
 ·exact sk<|qz<|sq<|bk 7<|sr<|bx H λ ay T H=>sp (AF eU8 T)<|ck 2<|en<|rz<|ck 3<|bx H λ az U H=>sp (BJ eU8 6 1 U)<|ck 1<|ae<|qN<|qz<|rz<|ck 2<|ae (by cases H;exact og<|gP [4,10,13,14,15,17,18,20,50,51,52,67,68,69,84,85,86] [0,1,2,3,4,5,10,7,8]<|po1<|po1<|po1<|po1<|po1<|po1<|po1<|pn1 (nL 3 BD) e.Arcs<|po1<|Pl.z)
 ·exact ex 6<|qx (by cases H;exact xo rfl<|gP [4,10,13,14,15,17,18,20,50,51,52,67,68,69] [0,1,2,3,4,5,6,7,8]<|po1<|po1<|po1<|po1<|po1<|po1<|po1<|pn1 (nL 3 BD) e.Arcs<|po1<|Pl.z)
theorem KN (x:(Ab×Int)) (z:((Ab×Int)⊕Ab)) (H:Ck n b c f a i x.1 x.2=some z):WP (cxk 121 0) (AN Try.f40) [1,1,1,1,1,0,1,0,0,1,1,0,0,1,1,1,0,0] (AP 0 (GD b c f a i) (Lu b c f a) z) (GD b c f a i x):=by
 obtain⟨e,h⟩:=x;refine sr<|ck 1<|en<|sq<|cn H (λ H=>?_)<|λ H=>?_
 ·refine sk<|qz<|sj (λ (x:Ab)=>Ja5 b c f a i h x) (λ (x:Ab)=>DE n h x) z ?_ (λ g=>?_)
  ·intro J H;exact rz<|ck 2<|ae (by cases H;exact og<|gP [4,10,13,14,15,50,51,52,67,68,69] [0,1,2,3,4,5]<|po1<|po1<|po1<|po1<|pn1 (nL 3 BD) J.Arcs<|po1<|Pl.z)
  refine bk 5<|sr<|ck 1<|bx H λ w aj H=>sp (AF Ar aj)<|ck 4<|en<|sr<|ck 3<|bx H λ o V H=>ca false (N5 V)<|ck 6<|en<|sq<|sr<|ck 2<|en<|cn H (λ H=>?_)<|λ H=>?_
  ·exact ex 5<|qx<|qH<|qs (gP [4,10,13,14,15,50,51,52,67,68,69] [0,1,2,3,4,5]<|po1<|po1<|po1<|po1<|pn1 (nL 3 BD) e.Arcs<|po1<|Pl.z)<|g e H
  ·exact sk<|qz<|sr<|ck 1<|en<|sq<|sr<|ck 2<|sp (AQ eU8 w.Cells)<|ck 1<|en<|bk 6<|bx H λ ak W H=>lX KL W (tr (Ao.nilo 20 1 (by kernel_rfl))<|gP [4,10,13,14,15,17,18,20,50,51,52,67,68,69,84,85,86] [0,1,2,3,6,7,8,4,5]<|po1<|po1<|po1<|po1<|po1<|po1<|po1<|pn1 (nL 3 BD) e.Arcs<|po1<|Pl.z) rfl λ s X=>qH<|qs (X)<|bx H λ O E H=>rg (tr (tr (so1 (encN:=(nL 3 BD)) 7 1 E)<|sno (encN:=(nL 3 BD)) (enc:=BD) E [.own 3<|O.map BD] O 1 7 0 3)<|fz (enc:=eU8) (xs:=ak) 20 6 1)<|ck 10<|sp (Bv 7 1 E)<|sp (IF (encN:=(nL 3 BD)) (row:=[.osl 9 3 0<|O.length]) (k:=7) (sz:=1) (off:=0) (t:=ty 122) (v:=.osl 9 3 0<|O.length) E)<|ck 3<|bx H λ s1 Y H=>sp (JdL Y)<|ck 2<|sp (Ux (enc:=A3) (encK:=AU) (k:=1) (e1:=λ x=>.int .i64 x) (m:=f) (l:=[.d<|.int .i64 o.1.Mode,.d<|.int .i64 o.1.Last,.d<|.int .u8 o.1.Need]) (key:=o.1) (z:=0) (vz:=[.int .i64 0]) UC false)<|ck 2<|bx H λ B Z H=>sp (BJ BD 9 3 Z)<|sp (Bv 7 1 E)<|sp (SR (encN:=(nL 3 BD)) (row:=[.osl 9 3 0<|O.length]) (row':=[.osl 11 3 0<|B.length]) (k:=7) (sz:=1) (off:=0) (t:=ty 122) (v:=.osl 11 3 0<|B.length) E)<|ae<|qN<|qs (tr (tr (tr (tr (tr (sni (encN:=(nL 3 BD)) (xs:=e.Arcs) (n:=a) (enc:=BD) [.osl 11 3 0<|B.length] B 1 7 0 11 3)<|scl (encN:=(nL 3 BD)) (xss:=e.Arcs) a [.own 3<|B.map BD] 1 7 B)<|sn 98 7 1<|lsS e.Arcs a.toNat B)<|sn 103 7 1<|lsS e.Arcs a.toNat B)<|snc 2 3 7 1<|lsS e.Arcs a.toNat B)<|gP [4,10,13,14,15,50,51,52,67,68,69] [0,1,2,3,7,8]<|po1<|po1<|po1<|po1<|pn1 (nL 3 BD) (List.set e.Arcs a.toNat B)<|po1<|Pl.z)<|g ({ Felt:=e.Felt,Budget:=e.Budget,Most:=e.Most,Arcs:=List.set e.Arcs a.toNat B,Accepts:=e.Accepts,Before:=e.Before }:Ab) H
 ·exact ex 4<|qx (by cases H;exact xo rfl<|gP [4,10,13,50,51,52] [0,1,2,4,5]<|po1<|po1<|po1<|pn1 (nL 3 BD) e.Arcs<|po1<|Pl.z)
theorem KO (x:(Ab×Int)) (z:((Ab×Int)⊕Ab)) (H:CM n b c f x.1 x.2=some z):WP (cxk 121 0) (AN Try.f40) [1,1,1,1,1,0,1,0,0] (AP 0 (GE b c f) (Lv) z) (GE b c f x):=by
 obtain⟨G,a⟩:=x;refine sr<|ck 1<|en<|sq<|cn H (λ H=>?_)<|λ H=>?_
 ·exact sk<|qz<|sq<|bk 3<|sr<|ck 1<|bx H λ i al H=>sp (AF AU al)<|ck 4<|en<|sr<|ck 7<|bx H λ a0 am H=>ca false (PZ am)<|bx H λ a2 aa H=>sp (Bv 4 1 aa)<|bx H λ a3 S H=>stA eB 4 0 (ty 4) aa S<|en<|sq<|rg (tr (sn 60 4 1<|IE S)<|snc 2 4 4 1<|IE S)<|ck 2<|sp (AQ Ar b.Rules)<|ck 1<|en<|bk 4<|bx H λ ap ab H=>lX KN ab (gP [4,10,13,14,15,50,51,52,67,68,69] [0,1,2,5,3,4]<|po1<|po1<|po1<|po1<|pn1 (nL 3 BD) G.Arcs<|po1<|Pl.z) rfl λ s ac=>qH<|qN<|qs (ac)<|rz<|ck 2<|ae (by cases H;exact og<|gP [4,10,13,50,51,52] [0,1,2,3,4]<|po1<|po1<|po1<|pn1 (nL 3 BD) ap.Arcs<|po1<|Pl.z)
 ·exact ex 2<|qx (by cases H;exact xo rfl<|gP [13] [2,3,4]<|po1<|pn1 (nL 3 BD) G.Arcs<|po1<|Pl.z)
theorem Nn {z} (H:Fm n b q r u=some z):Bz Try.prog 40 [.agg (A0 b),.d (.sl (q.map Bk)),.d (.int .i64 r),.d (.int .i64 u)] [] 0 (.ptr 0 0) [some (.box (Kx z (.osl 1 1 0 (z.Accepts.length)))),some (.arr 1 (z.Accepts.map eB))]:=by
 exact fL 121 0 (JaX b q r u) Try.func40<|sr<|ck 2<|en<|sr<|ck 1<|bx H λ c ar H=>ca false (QR ar)<|ck 1<|en<|sr<|ck 1<|sp (AQ AU c)<|ck 2<|en<|sq<|sr<|ck 1<|sp (AQ AU c)<|ck 1<|en<|bk 0<|bx H λ f au H=>lX KK au (sg [1,2,3,4,9,10,28,29,30]) rfl λ s af=>qH<|qs (af)<|sr<|ck 4<|sp (AQ AU c)<|bx H λ av R H=>sp (Jas 1 (ez:=[.nil]) R)<|ck 1<|sp (AQ AU c)<|bx H λ a4 aw H=>sp (JiD eB 1 aw)<|ck 3<|en<|sq<|sq<|rg (tr (tr (Jfy (encN:=(nL 3 BD)) (sz:=1) (z:=[.nil]) (n:=((c.length:Nat):Int)) 2 (ST R) (by kernel_rfl) (by kernel_rfl))<|sn 44 2 1<|Oz R)<|snc 4 3 2 1<|Oz R)<|ck 1<|sp (AQ AU c)<|ck 1<|en<|bk 2<|bx H λ a5 ag H=>lX KO ag (tr (Jaf 4 5 (by kernel_rfl))<|gP [4,10,13,50,51,52] [0,1,4,2,3]<|po1<|po1<|po1<|pn1 (nL 3 BD) av<|po1<|Pl.z) rfl λ s ah=>qH<|qs (ah)<|sr<|ck 2<|en<|re (by cases H;exact pL<|rl (s':=JaY z)<|tr (Jan (encN:=(nL 3 BD)) (encD:=(eL BD)) (xss:=z.Arcs) (sz:=1) 0 3 1 (by kernel_rfl) (by kernel_rfl) (λ _=>rfl)<|λ _=>rfl)<|sg [8])
end
section
variable (c:Int) (b:(List UInt8)) (a:Ab) (h:Int) (i:Bool) (e:Int) (f:Int) (g:Int)
def Ja6:St:=⟨(0,.ptr 0 0)::(1,.d<|.int .i64 c)::(2,.d<|.str b)::[],[some<|.box<|An a (.osl 1 1 0<|a.Accepts.length)<|.osl 2 1 0<|a.Before.length,some<|.arr 1<|a.Accepts.map eB,some<|.narr 1<|List.map (eMr (λ k=>.int .i64 k)<|λ v=>.int .i64 v) a.Before]⟩
def UF:St:=⟨(6,.d<|.int .i64 h)::(7,.d<|.bool i)::[],[some<|.box<|An a (.osl 1 1 0<|a.Accepts.length)<|.osl 2 1 0<|a.Before.length,some<|.arr 1<|a.Accepts.map eB,some<|.narr 1<|List.map (eMr (λ k=>.int .i64 k)<|λ v=>.int .i64 v) a.Before]⟩
def Ja7:St:=⟨(0,.ptr 0 0)::(1,.d<|.int .i64 c)::(2,.d<|.str b)::(8,.d<|.int .i64 e)::(21,.d<|.int .i64 ((b.length:Nat):Int))::(22,.d<|.int .i64 f)::[],[some<|.box<|An a (.osl 1 1 0<|a.Accepts.length)<|.osl 2 1 0<|a.Before.length,some<|.arr 1<|a.Accepts.map eB,some<|.narr 1<|List.map (eMr (λ k=>.int .i64 k)<|λ v=>.int .i64 v) a.Before]⟩
def Ja8:St:=⟨(8,.d<|.int .i64 g)::[],[some<|.box<|An a (.osl 1 1 0<|a.Accepts.length)<|.osl 2 1 0<|a.Before.length,some<|.arr 1<|a.Accepts.map eB,some<|.narr 1<|List.map (eMr (λ k=>.int .i64 k)<|λ v=>.int .i64 v) a.Before]⟩
def JV:Int->Ex->St->Prop:=xX 3 0<|λ (y:Int)=>Ja8 a y
def FN:(Int×Int)->St:=(λ (x:(Int×Int))=>Ja7 c b a x.1 x.2)
variable {c b a h i e f g}
theorem Jj (x:(Int×Int)) (z:((Int×Int)⊕Int)) (H:Cq n c b a x.1 x.2=some z):WP (cxk 42 3) (AN Try.f56) [1,1,1,0,1,0,0] (AP 3 (FN c b a) (JV a) z) (FN c b a x):=by
 obtain⟨e,f⟩:=x;refine sr<|ck 1<|en<|sq<|cn H (λ H=>?_)<|λ H=>?_
 ·exact sk<|qz<|sq<|bk 1<|sr<|ck 2<|en<|rz<|ck 8<|bx H λ r j H=>sp (AF Bk j)<|ck 3<|bx H λ u l H=>sp (Fj l)<|bx H λ t m H=>ca false (UE m)<|ck 2<|ae<|qN<|qz<|rz<|ck 2<|ae (by cases H;exact og<|gP [0,1,2,8,21,22] [0,1,2]<|po1<|po1<|pn1 (eMr (λ k=>.int .i64 k)<|λ v=>.int .i64 v) a.Before<|Pl.z)
 ·exact ex 0<|qx (by cases H;exact xo rfl<|gP [8] [0,1,2]<|po1<|po1<|pn1 (eMr (λ k=>.int .i64 k)<|λ v=>.int .i64 v) a.Before<|Pl.z)
theorem GG {z} (H:Db n c b a=some z):Bz Try.prog 56 [.ptr 0 0,.d (.int .i64 c),.d (.str b)] [some (.box (An a (.osl 1 1 0 (a.Accepts.length)) (.osl 2 1 0 (a.Before.length)))),some (.arr 1 (a.Accepts.map eB)),some (.narr 1 (List.map (eMr (λ k=>.int .i64 k) (λ v=>.int .i64 v)) a.Before))] 3 (.tup [.d (.int .i64 z.1),.d (.bool z.2)]) [some (.box (An a (.osl 1 1 0 (a.Accepts.length)) (.osl 2 1 0 (a.Before.length)))),some (.arr 1 (a.Accepts.map eB)),some (.narr 1 (List.map (eMr (λ k=>.int .i64 k) (λ v=>.int .i64 v)) a.Before))]:=by
 refine fL 42 3 (Ja6 c b a) Try.func56<|sr<|ck 2<|en<|sq<|sr<|ck 6<|sp (AQ Bk a.Felt)<|ck 3<|en<|cn H (λ H=>?_)<|λ H=>?_
 ·exact sr<|ck 2<|en<|re<|qr (by cases H;exact pL<|rl (s':=UF a 0 false)<|gP [6,7] [0,1,2]<|po1<|po1<|pn1 (eMr (λ k=>.int .i64 k)<|λ v=>.int .i64 v) a.Before<|Pl.z)
 ·exact sk<|qz<|sr<|ck 1<|en<|sq<|sr<|ck 3<|en<|bk 0<|bx H λ q o H=>lX Jj o (gP [0,1,2,8,21,22] [0,1,2]<|po1<|po1<|pn1 (eMr (λ k=>.int .i64 k)<|λ v=>.int .i64 v) a.Before<|Pl.z) rfl λ s p=>qH<|qs (p)<|sr<|ck 3<|en<|re (by cases H;exact pL<|rl (s':=UF a q true)<|gP [6,7] [0,1,2]<|po1<|po1<|pn1 (eMr (λ k=>.int .i64 k)<|λ v=>.int .i64 v) a.Before<|Pl.z)
end
section
variable (L:Ab) (r:Ab) (J:(List (Option (Bool×(List (Int×Int)))))) (l:Ab) (s:Int) (K:Ab) (h:Ab) (G:(List (Int×Int))) (C:Ab) (c:Int) (u:Ab) (M:(List (Int×Int))) (E:Ab) (o:Ab) (e1:(Int×Int)) (l19:(List (Int×Int))) (l20:(List (Int×Int))) (q:(List Hu)) (b:Ab) (w:Int) (p:Ab) (i:Ab)
def Ja9:St:=⟨(0,.ptr 0 0)::[],[some<|.box<|Kx L<|.osl 1 1 0<|L.Accepts.length,some<|.arr 1<|L.Accepts.map eB]⟩
def Jba:St:=⟨[],[some<|.box<|An r (.osl 1 1 0<|r.Accepts.length)<|.osl 2 1 0<|r.Before.length,some<|.arr 1<|r.Accepts.map eB,some<|.narr 1<|List.map (eMr (λ k=>.int .i64 k)<|λ v=>.int .i64 v) r.Before]⟩
def Jbb:St:=⟨(0,.ptr 0 0)::(28,.d<|.int .i64 ((J.length:Nat):Int))::(29,.d<|.int .i64 s)::[],[some<|.box<|An l (.osl 1 1 0<|l.Accepts.length)<|.osl 2 1 0<|l.Before.length,some<|.arr 1<|l.Accepts.map eB,some<|.narr 1<|List.map (eMr (λ k=>.int .i64 k)<|λ v=>.int .i64 v) l.Before]⟩
def Jbc:St:=⟨(0,.ptr 0 0)::[],[some<|.box<|An K (.osl 1 1 0<|K.Accepts.length)<|.osl 2 1 0<|K.Before.length,some<|.arr 1<|K.Accepts.map eB,some<|.narr 1<|List.map (eMr (λ k=>.int .i64 k)<|λ v=>.int .i64 v) K.Before]⟩
def H2:Ab->Ex->St->Prop:=xX 2 0<|λ (y:Ab)=>Jbc y
def Et:(Ab×Int)->St:=(λ (x:(Ab×Int))=>Jbb J x.1 x.2)
def Jbd:St:=⟨(0,.ptr 0 0)::(49,.osl 2 1 0<|C.Before.length)::(50,.d<|.int .i64 ((List.length (List.set h.Before (Int.toNat 0)<|some (false,B8<|BP 0 0 G)):Nat):Int))::(51,.d<|.int .i64 c)::[],[some<|.box<|An C (.osl 1 1 0<|C.Accepts.length)<|.osl 2 1 0<|C.Before.length,some<|.arr 1<|C.Accepts.map eB,some<|.narr 1<|List.map (eMr (λ k=>.int .i64 k)<|λ v=>.int .i64 v) C.Before]⟩
def Jbe:St:=⟨[],[some<|.box<|An u (.osl 1 1 0<|u.Accepts.length)<|.osl 2 1 0<|u.Before.length,some<|.arr 1<|u.Accepts.map eB,some<|.narr 1<|List.map (eMr (λ k=>.int .i64 k)<|λ v=>.int .i64 v) u.Before]⟩
def Jbf:St:=⟨(0,.ptr 0 0)::(3,.d<|.int .i64 c)::(49,.osl 2 1 0<|E.Before.length)::(50,.d<|.int .i64 ((List.length (List.set h.Before (Int.toNat 0)<|some (false,B8<|BP 0 0 G)):Nat):Int))::(51,.d<|.int .i64 c)::(57,.ptr 3 0)::[],[some<|.box<|An E (.osl 1 1 0<|E.Accepts.length)<|.osl 2 1 0<|E.Before.length,some<|.arr 1<|E.Accepts.map eB,some<|.narr 1<|List.map (eMr (λ k=>.int .i64 k)<|λ v=>.int .i64 v) E.Before,some<|.iter false false none<|Bt A3 A3 M]⟩
def Jbg:St:=⟨(0,.ptr 0 0)::(49,.osl 2 1 0<|o.Before.length)::(50,.d<|.int .i64 ((List.length (List.set h.Before (Int.toNat 0)<|some (false,B8<|BP 0 0 G)):Nat):Int))::(51,.d<|.int .i64 c)::[],[some<|.box<|An o (.osl 1 1 0<|o.Accepts.length)<|.osl 2 1 0<|o.Before.length,some<|.arr 1<|o.Accepts.map eB,some<|.narr 1<|List.map (eMr (λ k=>.int .i64 k)<|λ v=>.int .i64 v) o.Before]⟩
def Jbh:St:=⟨(0,.ptr 0 0)::(3,.d<|.int .i64 c)::(6,.d<|.int .i64 e1.2)::(49,.osl 2 1 0<|b.Before.length)::(50,.d<|.int .i64 ((List.length (List.set h.Before (Int.toNat 0)<|some (false,B8<|BP 0 0 G)):Nat):Int))::(51,.d<|.int .i64 c)::(57,.ptr 3 0)::(69,.d<|.sl<|q.map BD)::(70,.d<|.int .i64 ((q.length:Nat):Int))::(71,.d<|.int .i64 w)::[],[some<|.box<|An b (.osl 1 1 0<|b.Accepts.length)<|.osl 2 1 0<|b.Before.length,some<|.arr 1<|b.Accepts.map eB,some<|.narr 1<|List.map (eMr (λ k=>.int .i64 k)<|λ v=>.int .i64 v) b.Before,some<|.iter false false none<|Bt A3 A3<|l19++l20]⟩
def YQ:St:=⟨(0,.ptr 0 0)::(3,.d<|.int .i64 c)::(49,.osl 2 1 0<|p.Before.length)::(50,.d<|.int .i64 ((List.length (List.set h.Before (Int.toNat 0)<|some (false,B8<|BP 0 0 G)):Nat):Int))::(51,.d<|.int .i64 c)::(57,.ptr 3 0)::[],[some<|.box<|An p (.osl 1 1 0<|p.Accepts.length)<|.osl 2 1 0<|p.Before.length,some<|.arr 1<|p.Accepts.map eB,some<|.narr 1<|List.map (eMr (λ k=>.int .i64 k)<|λ v=>.int .i64 v) p.Before,some<|.iter false false none<|Bt A3 A3<|l19++l20]⟩
def YR:St:=⟨(0,.ptr 0 0)::(3,.d<|.int .i64 c)::(6,.d<|.int .i64 e1.2)::(49,.osl 2 1 0<|i.Before.length)::(50,.d<|.int .i64 ((List.length (List.set h.Before (Int.toNat 0)<|some (false,B8<|BP 0 0 G)):Nat):Int))::(51,.d<|.int .i64 c)::(57,.ptr 3 0)::(69,.d<|.sl<|q.map BD)::(70,.d<|.int .i64 ((q.length:Nat):Int))::(71,.d<|.int .i64 w)::[],[some<|.box<|An i (.osl 1 1 0<|i.Accepts.length)<|.osl 2 1 0<|i.Before.length,some<|.arr 1<|i.Accepts.map eB,some<|.narr 1<|List.map (eMr (λ k=>.int .i64 k)<|λ v=>.int .i64 v) i.Before,some<|.iter false false none<|Bt A3 A3<|l19++l20]⟩
def H3:Ab->Ex->St->Prop:=xX 2 6<|λ (y:Ab)=>YQ h G c l19 l20 y
def Eu:(Ab×Int)->St:=(λ (x:(Ab×Int))=>Jbh h G c e1 l19 l20 q x.1 x.2)
def Ew:Empty->Ex->St->Prop:=(λ (_:Empty) _ _=>False)
variable {L r J l s K h G C c u M E o e1 l19 l20 q b w p i}
theorem Hx (x:(Ab×Int)) (z:((Ab×Int)⊕Ab)) (H:B3 n J x.1 x.2=some z):WP (cxk 130 2) (AN Try.f41) [1,0,1,0,0] (AP 2 (Et J) (H2) z) (Et J x):=by
 obtain⟨l,s⟩:=x;refine sr<|ck 1<|en<|sq<|cn H (λ H=>?_)<|λ H=>?_
 ·exact sk<|qz<|sq<|bk 1<|sr<|ck 2<|en<|bx H λ Q I H=>rg (so1 (encN:=(eMr (λ k=>.int .i64 k)<|λ v=>.int .i64 v)) 2 1 I)<|ck 6<|sp (Bv 2 1 I)<|sp (SR (encN:=(eMr (λ k=>.int .i64 k)<|λ v=>.int .i64 v)) (row:=[JaD (λ k=>.int .i64 k) (λ v=>.int .i64 v) Q]) (row':=[.mp 3]) (k:=2) (sz:=1) (off:=0) (t:=ty 125) (v:=.mp 3) I)<|ae<|qN<|qz<|rg (tr (tr (JJ (ek:=(λ k=>.int .i64 k)) (ev:=(λ v=>.int .i64 v)) 2 3 ([]:(List<|Int×Int)) I (by kernel_rfl) (by kernel_rfl))<|sn 35 2 1<|lsS l.Before s.toNat<|some (false,([]:(List<|Int×Int))))<|snc 0 5 2 1<|lsS l.Before s.toNat<|some (false,([]:(List<|Int×Int))))<|ck 2<|ae (by cases H;exact og<|gP [0,28,29] [0,1,2]<|po1<|po1<|pn1 (eMr (λ k=>.int .i64 k)<|λ v=>.int .i64 v) (List.set l.Before s.toNat<|some (false,([]:(List<|Int×Int))))<|Pl.z)
 ·exact ex 0<|qx (by cases H;exact xo rfl<|gP [0] [0,1,2]<|po1<|po1<|pn1 (eMr (λ k=>.int .i64 k)<|λ v=>.int .i64 v) l.Before<|Pl.z)
theorem Hy (x:(Ab×Int)) (z:((Ab×Int)⊕Ab)) (H:BF n h G c e1 q x.1 x.2=some z):WP (cxk 130 2) (AN Try.f41) [1,1,1,1,0,0,1,1,0,0,1,1,0,0,1,1,0,1,1,0,0] (AP 2 (Eu h G c e1 l19 l20 q) (H3 h G c l19 l20) z) (Eu h G c e1 l19 l20 q x):=by
 obtain⟨b,w⟩:=x;refine sr<|ck 1<|en<|sq<|cn H (λ H=>?_)<|λ H=>?_
 ·refine sk<|qz<|sj (λ (x:Ab)=>YR h G c e1 l19 l20 q w x) (λ (x:Ab)=>B4 n w x) z ?_ (λ e=>?_)
  ·intro i H;exact rz<|ck 2<|ae (by cases H;exact og<|gP [0,3,6,49,50,51,57,69,70,71] [0,1,2,3]<|po1<|po1<|pn1 (eMr (λ k=>.int .i64 k)<|λ v=>.int .i64 v) i.Before<|po1<|Pl.z)
  refine bk 7<|sr<|bx H λ g O H=>sp (AF BD O)<|ck 3<|en<|sr<|ck 4<|bx H λ j P H=>ltP [0,1,2] (GG P) (po1<|po1<|pn1 (eMr (λ k=>.int .i64 k)<|λ v=>.int .i64 v) b.Before<|Pl.z)<|tb (f:=ES<|CA [0,1,2] 5 3) [some<|.box<|An b (.osl 1 1 0<|b.Accepts.length)<|.osl 2 1 0<|b.Before.length,some<|.arr 1<|b.Accepts.map eB,some<|.narr 1<|List.map (eMr (λ k=>.int .i64 k)<|λ v=>.int .i64 v) b.Before,some<|.iter false false none<|Bt A3 A3<|l19++l20,some<|.box<|Jjo g] (po1<|po1<|pn1 (eMr (λ k=>.int .i64 k)<|λ v=>.int .i64 v) b.Before<|po1<|po1<|Pl.z)<|ck 5<|en<|sq<|sr<|ck 5<|gc 1 (!(!j.2))<|ck 1<|gc 4 (!(!j.2))<|pO<|en<|cn H (λ H=>?_)<|λ H=>?_
  ·exact ex 7<|qx<|qH<|qs (gP [0,3,6,49,50,51,57,69,70,71] [0,1,2,3]<|po1<|po1<|pn1 (eMr (λ k=>.int .i64 k)<|λ v=>.int .i64 v) b.Before<|po1<|Pl.z)<|e b H
  ·refine sk<|qz<|sq<|bx H λ A B H=>rg (PO (ek:=(λ k=>.int .i64 k)) (ev:=(λ v=>.int .i64 v)) 2 (B2 B) (by kernel_rfl))<|ck 9<|sp (Bv 2 1<|B2 B)<|sp (IF (encN:=(eMr (λ k=>.int .i64 k)<|λ v=>.int .i64 v)) (row:=[.mp 5]) (k:=2) (sz:=1) (off:=0) (t:=ty 125) (v:=.mp 5)<|B2 B)<|ck 1<|en<|sr<|ck 3<|sp (Mg (enc:=A3) (encK:=A3) (ka:=false) (va:=false) (k:=5) (m:=A) (a:=.d<|.int .i64 g.To) (key:=g.To) (z:=(0:Int)) (vz:=[.int .i64 0]) YN true)<|ck 5<|en<|sr<|ck 5<|gc 1 (!(!(Option.isSome<|AT g.To A)))<|ck 1<|gc 1 (!(!(Option.isSome<|AT g.To A)))<|pO<|en<|cn H (λ H=>?_)<|λ H=>?_
   ·exact rz<|ck 6<|sp (OE (enc:=A3) (encK:=A3) (ka:=false) (va:=false) (k:=5) (m:=A) (a:=.d<|.int .i64 g.To) (key:=g.To) (y:=AX .i64 e1.2 j.1) (v:=.d<|.int .i64<|AX .i64 e1.2 j.1) (vz:=[.int .i64 0]) YN)<|ae<|qN<|qs (tr (tr (tr (tr (tr (Wj (ka:=false) (va:=false) (e2:=Bt A3 A3<|B8<|BP g.To (AX .i64 e1.2 j.1) A) 5 (Nb (Ef<|BP g.To (AX .i64 e1.2 j.1) A).symm) (by kernel_rfl))<|JJ (ek:=(λ k=>.int .i64 k)) (ev:=(λ v=>.int .i64 v)) 2 5 (B8<|BP g.To (AX .i64 e1.2 j.1) A) (B2 B) (by kernel_rfl) (by kernel_rfl))<|sn 49 2 1<|lsS b.Before (Int.toNat<|AX .i64 c ((g.Cells.length:Nat):Int))<|some (false,B8<|BP g.To (AX .i64 e1.2 j.1) A))<|sn 98 2 1<|lsS b.Before (Int.toNat<|AX .i64 c ((g.Cells.length:Nat):Int))<|some (false,B8<|BP g.To (AX .i64 e1.2 j.1) A))<|snc 0 5 2 1<|lsS b.Before (Int.toNat<|AX .i64 c ((g.Cells.length:Nat):Int))<|some (false,B8<|BP g.To (AX .i64 e1.2 j.1) A))<|gP [0,3,6,49,50,51,57,69,70,71] [0,1,2,3]<|po1<|po1<|pn1 (eMr (λ k=>.int .i64 k)<|λ v=>.int .i64 v) (List.set b.Before (Int.toNat<|AX .i64 c ((g.Cells.length:Nat):Int))<|some (false,B8<|BP g.To (AX .i64 e1.2 j.1) A))<|po1<|Pl.z)<|e ({ Felt:=b.Felt,Budget:=b.Budget,Most:=b.Most,Arcs:=b.Arcs,Accepts:=b.Accepts,Before:=List.set b.Before (Int.toNat<|AX .i64 c ((g.Cells.length:Nat):Int)) (some (false,B8<|BP g.To (AX .i64 e1.2 j.1) A)) }:Ab) H
   ·exact sk<|qN<|qs (tr (tr (tr (tr (JJ (ek:=(λ k=>.int .i64 k)) (ev:=(λ v=>.int .i64 v)) 2 5 A (B2 B) (by kernel_rfl) (by kernel_rfl))<|sn 49 2 1<|lsS b.Before (Int.toNat<|AX .i64 c ((g.Cells.length:Nat):Int))<|some (false,A))<|sn 98 2 1<|lsS b.Before (Int.toNat<|AX .i64 c ((g.Cells.length:Nat):Int))<|some (false,A))<|snc 0 5 2 1<|lsS b.Before (Int.toNat<|AX .i64 c ((g.Cells.length:Nat):Int))<|some (false,A))<|gP [0,3,6,49,50,51,57,69,70,71] [0,1,2,3]<|po1<|po1<|pn1 (eMr (λ k=>.int .i64 k)<|λ v=>.int .i64 v) (List.set b.Before (Int.toNat<|AX .i64 c ((g.Cells.length:Nat):Int))<|some (false,A))<|po1<|Pl.z)<|e ({ Felt:=b.Felt,Budget:=b.Budget,Most:=b.Most,Arcs:=b.Arcs,Accepts:=b.Accepts,Before:=List.set b.Before (Int.toNat<|AX .i64 c ((g.Cells.length:Nat):Int)) (some (false,A)) }:Ab) H
 ·exact ex 6<|qx (by cases H;exact xo rfl<|gP [0,3,49,50,51,57] [0,1,2,3]<|po1<|po1<|pn1 (eMr (λ k=>.int .i64 k)<|λ v=>.int .i64 v) b.Before<|po1<|Pl.z)
end
def D1 (b:Ab) (c:(List<|Int×Int)) (a:Int):Ab->Ex->St->Prop:=(λ (x:Ab)=>xX 2 4 (λ (y:Ab)=>Jbg b c a y) x)
section
variable (c:Ab) (f:(List (Int×Int))) (b:Int) (g:Ab)
def Ey:(List<|Int×Int)->Ab->St:=(λ (l:(List<|Int×Int)) (x:Ab)=>Jbf c f b l x)
def H4:Ab->Ex->St->Prop:=xX 2 2<|λ (y:Ab)=>Jbe y
def Ez:(Ab×Int)->St:=(λ (x:(Ab×Int))=>Jbd c f x.1 x.2)
variable {c f b g}
theorem Hz (q:(List (Int×Int))) (x:Ab) (hz:∀ e,e∈q->∃ z,Bd n c f b e x=some z):WP (cxk 130 2) (AN Try.f41) [1,1,1,1,0,0,1,1,0,0,1,1,0,0] (YI 2 (Ey c f b) (D1 c f b) (Ew) (λ (e:(Int×Int)) (x:Ab)=>Bd n c f b e x) q x) (Ey c f b q x):=by
 revert hz;generalize x=u;intro hz;refine sq<|rn 0 (.refl _)<|nd0<|nxt (yok _ _) (encK:=A3) (enc:=A3) (ka:=false) (va:=false) 3 (λ hl=>?_)<|λ e1 l19 l20 hl1=>bE (hz e1<|JfD hl1) λ z hF=>?_
 ·exact ck 1<|en<|sq<|cF<|ex 4<|qx<|mE hl rfl<|gP [0,49,50,51] [0,1,2]<|po1<|po1<|pn1 (eMr (λ k=>.int .i64 k)<|λ v=>.int .i64 v) u.Before<|Pl.z
 ·have H:=hF;exact ck 1<|en<|sq<|cT<|sk<|qz<|bk 5<|sr<|xr (xok _ _)<|ck 4<|en<|sr<|ck 5<|bx H λ M w H=>sp (AF (eL BD) w)<|ck 1<|sp (AQ BD M)<|ck 1<|en<|bk 6<|bx H λ O A H=>lX (Hy (l19:=l19) (l20:=l20)) A (tr (Xh 3 (by kernel_rfl))<|gP [0,3,6,49,50,51,57,69,70,71] [0,1,2,3]<|po1<|po1<|pn1 (eMr (λ k=>.int .i64 k)<|λ v=>.int .i64 v) u.Before<|po1<|Pl.z) rfl λ s B=>qH<|qN (by cases H;exact mg hl1 hF<|tr (B)<|gP [0,3,49,50,51,57] [0,1,2,3]<|po1<|po1<|pn1 (eMr (λ k=>.int .i64 k)<|λ v=>.int .i64 v) O.Before<|po1<|Pl.z)
theorem HA (x:(Ab×Int)) (z:((Ab×Int)⊕Ab)) (H:BG n c f x.1 x.2=some z):WP (cxk 130 2) (AN Try.f41) [1,1,1,1,0,0] (AP 2 (Ez c f) (H4) z) (Ez c f x):=by
 obtain⟨j,b⟩:=x;refine sr<|ck 1<|en<|sq<|cn H (λ H=>?_)<|λ H=>?_
 ·refine sk<|qz<|sq<|bk 3<|sq<|bx H λ p o H=>rg (JaE (ek:=(λ k=>.int .i64 k)) (ev:=(λ v=>.int .i64 v)) 2 (HT o) (by kernel_rfl))<|ck 1<|sp (Bv 2 1<|HT o)<|sp (IF (encN:=(eMr (λ k=>.int .i64 k)<|λ v=>.int .i64 v)) (row:=[.fmp<|Gu (λ k=>.int .i64 k) (λ v=>.int .i64 v) p.2]) (k:=2) (sz:=1) (off:=0) (t:=ty 125) (v:=.fmp<|Gu (λ k=>.int .i64 k) (λ v=>.int .i64 v) p.2)<|HT o)<|ck 2<|en<|sq<|rg (tr (tr (scl (encN:=(eMr (λ k=>.int .i64 k)<|λ v=>.int .i64 v)) (xss:=j.Before) b [.fmp<|Gu (λ k=>.int .i64 k) (λ v=>.int .i64 v) p.2] 1 2<|some (true,p.2))<|sn 49 2 1<|lsS j.Before b.toNat<|some (true,p.2))<|snc 0 5 2 1<|lsS j.Before b.toNat<|some (true,p.2))<|ck 1<|xr (xok _ _)<|xri (ek:=(λ k=>.int .i64 k)) (ev:=(λ v=>.int .i64 v)) (m:=p.2) 3<|en<|bk 4 ?_;have hD:=SU H;refine lM (F:=(λ (e:(Int×Int)) (x:Ab)=>Bd n c f b e x)) (E:=Ew) (E0:=D1 c f b) Hz (gP [0,3,49,50,51,57] [0,1,2,3]<|po1<|po1<|pn1 (eMr (λ k=>.int .i64 k)<|λ v=>.int .i64 v) (List.set j.Before b.toNat<|some (true,p.2))<|po1<|Pl.z) (λ ord ho=>bI<|hD ord ho) (λ ord P ho hy e s hE=>xQ hE<|λ he C=>?_)<|λ ord r ho hy e s hE=>?_
  ·subst he;have H:=bK (hD ord ho) hy;exact qH<|qN<|qs (C)<|rz<|ck 2<|ae (by cases H;exact og<|gP [0,49,50,51] [0,1,2]<|po1<|po1<|pn1 (eMr (λ k=>.int .i64 k)<|λ v=>.int .i64 v) P.Before<|Pl.z)
  ·cases r
 ·exact ex 2<|qx (by cases H;exact xo rfl<|gP [] [0,1,2]<|po1<|po1<|pn1 (eMr (λ k=>.int .i64 k)<|λ v=>.int .i64 v) j.Before<|Pl.z)
theorem Jk {z} (H:C2 n g=some z):Bz Try.prog 41 [.ptr 0 0] [some (.box (Kx g (.osl 1 1 0 (g.Accepts.length)))),some (.arr 1 (g.Accepts.map eB))] 2 (.tup []) [some (.box (An z (.osl 1 1 0 (z.Accepts.length)) (.osl 2 1 0 (z.Before.length)))),some (.arr 1 (z.Accepts.map eB)),some (.narr 1 (List.map (eMr (λ k=>.int .i64 k) (λ v=>.int .i64 v)) z.Before))]:=by
 exact fL 130 2 (Ja9 g) Try.func41<|sr<|ck 5<|sp (AQ Bk g.Felt)<|ck 1<|bx H λ G h H=>sp (Jas 1 (ez:=[.nilm]) h)<|ck 3<|en<|sq<|sq<|rg (tr (tr (JfF (ek:=(λ k=>.int .i64 k)) (ev:=(λ v=>.int .i64 v)) (zs:=G) 2 (Int.toNat<|AX .i64 ((g.Felt.length:Nat):Int) 1) (ST h) (by kernel_rfl))<|sn 21 2 1<|Oz h)<|snc 0 5 2 1<|Oz h)<|ck 6<|en<|bk 0<|bx H λ c I H=>lX Hx I (gP [0,28,29] [0,1,2]<|po1<|po1<|pn1 (eMr (λ k=>.int .i64 k)<|λ v=>.int .i64 v) G<|Pl.z) rfl λ s J=>qH<|qs (J)<|sq<|bx H λ f i H=>rg (PO (ek:=(λ k=>.int .i64 k)) (ev:=(λ v=>.int .i64 v)) 2 (B2 i) (by kernel_rfl))<|ck 4<|sp (Bv 2 1<|B2 i)<|sp (IF (encN:=(eMr (λ k=>.int .i64 k)<|λ v=>.int .i64 v)) (row:=[.mp 3]) (k:=2) (sz:=1) (off:=0) (t:=ty 125) (v:=.mp 3)<|B2 i)<|sp (OE (enc:=A3) (encK:=A3) (ka:=false) (va:=false) (k:=3) (m:=f) (a:=.d<|.int .i64 0) (key:=0) (y:=0) (v:=.d<|.int .i64 0) (vz:=[.int .i64 0]) YN)<|en<|sq<|rg (tr (tr (tr (Wj (ka:=false) (va:=false) (e2:=Bt A3 A3<|B8<|BP 0 0 f) 3 (Nb (Ef<|BP 0 0 f).symm) (by kernel_rfl))<|JJ (ek:=(λ k=>.int .i64 k)) (ev:=(λ v=>.int .i64 v)) 2 3 (B8<|BP 0 0 f) (B2 i) (by kernel_rfl) (by kernel_rfl))<|sn 43 2 1<|lsS c.Before (Int.toNat 0)<|some (false,B8<|BP 0 0 f))<|snc 0 5 2 1<|lsS c.Before (Int.toNat 0)<|some (false,B8<|BP 0 0 f))<|ck 6<|en<|bk 2<|bx H λ Q K H=>lX HA K (gP [0,49,50,51] [0,1,2]<|po1<|po1<|pn1 (eMr (λ k=>.int .i64 k)<|λ v=>.int .i64 v) (List.set c.Before (Int.toNat 0)<|some (false,B8<|BP 0 0 f))<|Pl.z) rfl λ s L=>qH (by cases H;exact pL'<|rl (s':=Jba z)<|tr (L)<|gP [] [0,1,2]<|po1<|po1<|pn1 (eMr (λ k=>.int .i64 k)<|λ v=>.int .i64 v) z.Before<|Pl.z)
end
section
variable (a:Ai)
def Jbi:St:=⟨(0,.agg [.d<|.str a.Arc.Print,.d<|.str a.Arc.Cells,.d<|.int .i64 a.Arc.To,.d<|.int .i64 a.More,.d<|.sl<|a.List.map Au,.d<|.int .i64 a.First.Cost,.d<|.str a.First.Text,.d<|.str a.First.Cells])::[],[]⟩
def Jbj:St:=⟨(2,.d<|.bool<|((a.List.length:Nat):Int)==0)::[],[]⟩
variable {a}
theorem EO {z} (H:DP n a=some z):Bz Try.prog 68 [.agg (DK a)] [] 0 (.d (.bool (((a.List.length:Nat):Int)==0))) []:=by
 exact fL 7 0 (Jbi a) Try.func68<|sr<|ck 2<|en<|sr<|ck 2<|sp (AQ Au a.List)<|ck 2<|en<|re (by cases H;exact pL<|rl (s':=Jbj a)<|sg [2])
end
section
variable (a:(List Ai)) (c:Int) (b:Int)
def Jbk:St:=⟨(0,.osl 0 8 0<|a.length)::(1,.clo 68 [])::[],[some<|.arr 8<|a.map AK]⟩
def UG:St:=⟨(4,.d<|.int .i64 c)::[],[some<|.arr 8<|a.map AK]⟩
def Jbl:St:=⟨(0,.osl 0 8 0<|a.length)::(1,.clo 68 [])::(7,.d<|.int .i64 ((a.length:Nat):Int))::(8,.d<|.int .i64 b)::[],[some<|.arr 8<|a.map AK]⟩
def Jbm:St:=⟨[],[some<|.arr 8<|a.map AK]⟩
def QS:(Unit⊕Int)->Ex->St->Prop:=xS (xX 1 0<|λ (_:Unit)=>Jbm a)<|xL 1 ty Try.f72 (λ (y:Int)=>.d<|.int .i64 y)<|λ (_:Int)=>[some<|.arr 8<|a.map AK]
def KZ:Int->St:=(λ (x:Int)=>Jbl a x)
variable {a c b}
theorem JW (x:Int) (z:(Int⊕(Unit⊕Int))) (H:FD n a x=some z):WP (cxk 19 1) (AN Try.f72) [1,0,1,0,0] (AP 1 (KZ a) (QS a) z) (KZ a x):=by
 revert H;generalize x=b;intro H;refine sr<|ck 1<|en<|sq<|cn H (λ H=>?_)<|λ H=>?_
 ·refine sk<|qz<|sq<|bk 1<|sr<|ck 2<|en<|sr<|ck 3<|bx H λ k e H=>sp (Bv 0 8 e)<|sp (Cp AK 0 0 (ty 132) e)<|bx H λ l g H=>xc (xok _ _) [] (EO g)<|en<|cn H (λ H=>?_)<|λ H=>?_
  ·exact sr<|ck 2<|en<|re<|qR<|qr (by cases H;exact lo rfl<|rl (s':=UG a b)<|sg [4])
  ·exact sk<|qN<|qz<|rz<|ck 2<|ae (by cases H;exact og<|sg [0,1,7,8])
 ·exact ex 0<|qx (by cases H;exact xo rfl<|sg [])
theorem UH {z} (H:Mi n a=some z):Bz Try.prog 72 [.osl 0 8 0 (a.length),.clo 68 []] [some (.arr 8 (a.map AK))] 1 (.d (.int .i64 z)) [some (.arr 8 (a.map AK))]:=by
 refine fL 19 1 (Jbk a) Try.func72<|sr<|ck 1<|en<|sq<|sr<|ck 3<|en<|bk 0<|bx H λ j f H=>?_;rcases j with m|o
 ·exact lX JW f (sg [0,1,7,8]) rfl λ s h=>qH<|qs (h)<|sr<|ck 1<|en<|re (by cases H;exact pL<|rl (s':=UG a (-1))<|sg [4])
 ·exact lL JW f (sg [0,1,7,8]) rfl λ s i=>qR<|qr (by cases H;exact pL i)
end
section
variable (b:(List Ai)) (i:(List Ai)) (c:(List Ai)) (j:Int) (h:Int) (l:(List Ai)) (t:Int) (f:(List Ai)) (q:Int)
def Jbn:St:=⟨(0,.osl 0 8 0<|b.length)::(1,.clo 68 [])::[],[some<|.arr 8<|b.map AK]⟩
def UI:St:=⟨(4,.osl 1 8 0<|i.length)::[],[none,some<|.arr 8<|i.map AK]⟩
def Jbo:St:=⟨(0,.osl 0 8 0<|c.length)::(1,.clo 68 [])::(5,.d<|.int .i64 j)::(6,.d<|.int .i64 h)::[],[some<|.arr 8<|c.map AK]⟩
def Jbp:St:=⟨(0,.osl 0 8 0<|l.length)::(5,.d<|.int .i64 t)::[],[some<|.arr 8<|l.map AK]⟩
def Jbq:St:=⟨(0,.osl 0 8 0<|f.length)::(1,.clo 68 [])::(5,.d<|.int .i64 q)::(6,.d<|.int .i64 h)::[],[some<|.arr 8<|f.map AK]⟩
def P2:((List Ai)×Int)->Ex->St->Prop:=xX 1 0<|λ (y:((List Ai)×Int))=>Jbp y.1 y.2
def JX:((List Ai)×Int×Int)->St:=(λ (x:((List Ai)×Int×Int))=>Jbo x.1 x.2.1 x.2.2)
variable {b i c j h l t f q}
theorem Oh (x:((List Ai)×Int×Int)) (z:(((List Ai)×Int×Int)⊕((List Ai)×Int))) (H:F8 n x.1 x.2.1 x.2.2=some z):WP (cxk 42 1) (AN Try.f67) [1,1,1,0,1,0,0] (AP 1 (JX) (P2) z) (JX x):=by
 obtain⟨c,j,h⟩:=x;refine sq<|sr<|ck 4<|en<|cn H (λ H=>?_)<|λ H=>?_
 ·refine sk<|qz<|sj (λ (x:((List Ai)×Int))=>Jbq h x.1 x.2) (λ (x:((List Ai)×Int))=>IH n h x.1 x.2) z ?_ (λ a=>?_)
  ·rintro⟨f,q⟩ H;exact rz<|ck 3<|ae (by cases H;exact og<|sg [0,1,5,6])
  refine bk 1<|sr<|ck 2<|bx H λ E o H=>sp (Bv 0 8 o)<|sp (Cp AK 0 0 (ty 132) o)<|ck 2<|en<|sr<|ck 2<|bx H λ G u H=>xc (xok _ _) [] (EO u)<|ck 1<|en<|cn H (λ H=>?_)<|λ H=>?_
  ·exact sr<|ck 3<|bx H λ I p H=>sp (Bv 0 8 p)<|bx H λ C e H=>stA AK 0 0 (ty 132) p e<|en<|rg (tr (tr (tr (sn 0 0 8<|IE e)<|sn 17 0 8<|IE e)<|sn 22 0 8<|IE e)<|sn 30 0 8<|IE e)<|ck 3<|ae<|qN<|qs (sg [0,1,5,6])<|a (C,(AX .i64 j 1)) H
  ·exact sk<|qN<|qs (sg [0,1,5,6])<|a (c,j) H
 ·exact ex 0<|qx (by cases H;exact xo rfl<|sg [0,5])
theorem Tb {z} (H:Ks n b=some z):Bz Try.prog 67 [.osl 0 8 0 (b.length),.clo 68 []] [some (.arr 8 (b.map AK))] 1 (.osl 1 8 0 (z.length)) [none,some (.arr 8 (z.map AK))]:=by
 refine fL 42 1 (Jbn b) Try.func67<|sr<|ck 1<|en<|sr<|ck 2<|bx H λ J v H=>lt [0] (UH v)<|ck 1<|en<|sq<|sr<|ck 2<|en<|cn H (λ H=>?_)<|λ H=>?_
 ·exact sr<|ck 2<|en<|re<|qr (by cases H;exact pL<|rl (s':=UI b)<|tr (Jag (k:=0) (sz:=8) 4 (b.map AK) (b.length) (by kernel_rfl) Gs leM rfl)<|sg [4])
 ·exact sk<|qz<|sq<|sr<|ck 3<|en<|bk 0<|bx H λ r w H=>lX Oh w (sg [0,1,5,6]) rfl λ s A=>qH<|qs (A)<|sr<|ck 2<|bx H λ K B H=>sp (Wb 0 8 B)<|bx H λ L m H=>xzP (xok _ _) AK 0 8 (0+Int.toNat r.2) (Int.toNat ((r.1.length:Nat):Int)-Int.toNat r.2) m<|en<|sq<|rg (tr (sn 0 0 8<|Uy m)<|sn 36 0 8<|Uy m)<|ck 2<|bx H λ M g H=>sp (Wb 0 8 g)<|ck 1<|en<|re (by cases H;exact pL<|rl (s':=UI z)<|tr (Jag (k:=0) (sz:=8) 4 (z.map AK) (z.length) (by kernel_rfl) (W9 g) (Jaj (enc:=AK) g)<|Xa g)<|sg [4])
end
end Go.AI
end
section
namespace Go.AI
open Go.Proofs
set_option maxRecDepth 10000
variable {n:Nat}
section
variable (a:Int) (b:(List Ai)) (c:(List Ai))
def Jbr:St:=⟨(0,.eptr 0 8 (0+Int.toNat a) 0)::[],[some<|.arr 8<|b.map AK]⟩
def Jbs:St:=⟨[],[some<|.arr 8<|c.map AK]⟩
variable {a b c}
theorem H5 {z} (H:DU n a b=some z):Bz Try.prog 69 [.eptr 0 8 (0+Int.toNat a) 0] [some (.arr 8 (b.map AK))] 1 (.tup []) [some (.arr 8 (z.map AK))]:=by
 exact fL 31 1 (Jbr a b) Try.func69<|rz<|ck 4<|bx H λ m d H=>sp (Cp AK 0 3 (ty 3) d)<|ck 3<|bx H λ o e H=>sp (Cp AK 0 4 (ty 99) e)<|bx H λ p f H=>sp (AF Au f)<|ck 7<|bx H λ q g H=>sp (Cp AK 0 0 (ty 9) g)<|ck 3<|bx H λ r h H=>sp (Cp AK 0 4 (ty 99) h)<|bx H λ s i H=>sp (AF Au i)<|ck 2<|bx H λ v j H=>sp (SQ j)<|ck 3<|bx H λ t k H=>bx H λ u l H=>stA AK 0 5 (ty 102) k l<|ae (by cases H;exact pL'<|rl (s':=Jbs z)<|sg [])
end
section
variable (a:Ai) (b:Ai) (c:Int)
def Jbt:St:=⟨(0,.agg [.d<|.str a.Arc.Print,.d<|.str a.Arc.Cells,.d<|.int .i64 a.Arc.To,.d<|.int .i64 a.More,.d<|.sl<|a.List.map Au,.d<|.int .i64 a.First.Cost,.d<|.str a.First.Text,.d<|.str a.First.Cells])::(1,.agg [.d<|.str b.Arc.Print,.d<|.str b.Arc.Cells,.d<|.int .i64 b.Arc.To,.d<|.int .i64 b.More,.d<|.sl<|b.List.map Au,.d<|.int .i64 b.First.Cost,.d<|.str b.First.Text,.d<|.str b.First.Cells])::[],[]⟩
def Jbu:St:=⟨(4,.d<|.int .i64 c)::[],[]⟩
variable {a b c}
theorem JY {z} (H:EJ n a b=some z):Bz Try.prog 71 [.agg (DK a),.agg (DK b)] [] 0 (.d (.int .i64 z)) []:=by
 exact fL 10 0 (Jbt a b) Try.func71<|sr<|ck 3<|en<|sr<|ck 4<|bx H λ f e H=>ca true (DQ e)<|ck 1<|en<|re (by cases H;exact pL<|rl (s':=Jbu z)<|sg [4])
end
section
variable (a:(List Ai)) (f:Ai) (e:Ai) (c:Int) (k:Ai) (j:Ai)
def Jbv:St:=⟨(0,.osl 0 8 0<|a.length)::(1,.clo 71 [])::[],[some<|.arr 8<|a.map AK]⟩
def Jbw:St:=⟨(4,.ptr 1 0)::[],[some<|.arr 8<|a.map AK,some<|.box<|DK f]⟩
def Jbx:St:=⟨(0,.osl 0 8 0<|a.length)::(1,.clo 71 [])::(4,.ptr 1 0)::(5,.ptr 2 0)::(6,.d<|.int .i64 c)::[],[some<|.arr 8<|a.map AK,some<|.box [.d<|.str [],.d<|.str [],.d<|.int .i64 0,.d<|.int .i64 0,.osl 3 3 0<|List.length ([]:List Ag),.d<|.int .i64 0,.d<|.str [],.d<|.str []],some<|.box<|DK e,some<|.arr 3<|List.map Au ([]:List Ag)]⟩
def Jby:St:=⟨(4,.ptr 1 0)::(5,.ptr 2 0)::[],[some<|.arr 8<|a.map AK,some<|.box [.d<|.str [],.d<|.str [],.d<|.int .i64 0,.d<|.int .i64 0,.osl 3 3 0<|List.length ([]:List Ag),.d<|.int .i64 0,.d<|.str [],.d<|.str []],some<|.box<|DK k,some<|.arr 3<|List.map Au ([]:List Ag)]⟩
def Jbz:St:=⟨(0,.osl 0 8 0<|a.length)::(1,.clo 71 [])::(4,.ptr 1 0)::(5,.ptr 2 0)::(6,.d<|.int .i64 c)::[],[some<|.arr 8<|a.map AK,some<|.box [.d<|.str [],.d<|.str [],.d<|.int .i64 0,.d<|.int .i64 0,.osl 3 3 0<|List.length ([]:List Ag),.d<|.int .i64 0,.d<|.str [],.d<|.str []],some<|.box<|DK j,some<|.arr 3<|List.map Au ([]:List Ag)]⟩
def Oi:Ai->Ex->St->Prop:=xX 1 0<|λ (y:Ai)=>Jby a y
def I8:(Ai×Int)->St:=(λ (x:(Ai×Int))=>Jbx a x.1 x.2)
variable {a f e c k j}
theorem No (x:(Ai×Int)) (z:((Ai×Int)⊕Ai)) (H:Fp n a x.1 x.2=some z):WP (cxk 33 1) (AN Try.f70) [1,1,1,0,1,0,0] (AP 1 (I8 a) (Oi a) z) (I8 a x):=by
 obtain⟨e,c⟩:=x;refine sq<|sr<|ck 4<|en<|cn H (λ H=>?_)<|λ H=>?_
 ·refine sk<|qz<|sj (λ (x:Ai)=>Jbz a c x) (λ (x:Ai)=>Fn n c x) z ?_ (λ b=>?_)
  ·intro j H;exact rz<|ck 3<|ae (by cases H;exact og<|sg [0,1,4,5,6])
  refine bk 1<|sq<|rx 8 6 (.refl _)<|ck 3<|bx H λ q g H=>sp (Bv 0 8 g)<|sp (Cp AK 0 0 (ty 132) g)<|ck 1<|mx<|bx H λ r l H=>xc (xok _ _) [] (JY l)<|nx 8 7<|mx<|ck 1<|nz<|qz<|cn H (λ H=>?_)<|λ H=>?_
  ·exact rz<|ck 2<|bx H λ p h H=>sp (Bv 0 8 h)<|sp (Cp AK 0 0 (ty 132) h)<|ck 1<|ae<|qN<|qs (sg [0,1,4,5,6])<|b p H
  ·exact sk<|qN<|qs (sg [0,1,4,5,6])<|b e H
 ·exact ex 0<|qx (by cases H;exact xo rfl<|sg [4,5])
theorem QT {z} (H:II n a=some z):Bz Try.prog 70 [.osl 0 8 0 (a.length),.clo 71 []] [some (.arr 8 (a.map AK))] 1 (.agg [.d (.str z.Arc.Print),.d (.str z.Arc.Cells),.d (.int .i64 z.Arc.To),.d (.int .i64 z.More),.d (.sl (z.List.map Au)),.d (.int .i64 z.First.Cost),.d (.str z.First.Text),.d (.str z.First.Cells)]) [some (.arr 8 (a.map AK)),some (.box (DK z))]:=by
 refine fL 33 1 (Jbv a) Try.func70<|sr<|ck 1<|en<|sq<|sr<|ck 3<|en<|cn H (λ H=>?_)<|λ H=>?_
 ·cases H
 ·exact sk<|qz<|sr<|ck 1<|bx H λ t i H=>sp (Bv 0 8 i)<|sp (Cp AK 0 0 (ty 132) i)<|ck 2<|en<|sq<|sr<|ck 1<|en<|bk 0<|bx H λ u m H=>lX No m (tr (F4 1 4 3 (by kernel_rfl))<|sg [0,1,4,5,6]) rfl λ s o=>qH<|qs (o)<|sr<|ck 2<|en<|re (by cases H;exact pL<|rl (s':=Jbw a z)<|sg [4])
end
section
variable (a:Ai) (b:Ai) (c:Bool)
def JbA:St:=⟨(0,.agg [.d<|.str a.Arc.Print,.d<|.str a.Arc.Cells,.d<|.int .i64 a.Arc.To,.d<|.int .i64 a.More,.d<|.sl<|a.List.map Au,.d<|.int .i64 a.First.Cost,.d<|.str a.First.Text,.d<|.str a.First.Cells])::(1,.ptr 0 0)::[],[some<|.box<|DK b]⟩
def JbB:St:=⟨(3,.d<|.bool c)::[],[some<|.box<|DK b]⟩
variable {a b c}
theorem Jl {z} (H:Eg n a b=some z):Bz Try.prog 73 [.agg (DK a),.ptr 0 0] [some (.box (DK b))] 1 (.d (.bool z)) [some (.box (DK b))]:=by
 exact fL 8 1 (JbA a b) Try.func73<|sr<|ck 2<|en<|sr<|ck 2<|bx H λ f e H=>ca false (KJ e)<|ck 2<|en<|re (by cases H;exact pL<|rl (s':=JbB b<|f==0)<|sg [3])
end
section
variable (b:Ai) (a:(List Ai)) (e:Int) (c:Int)
def JbC:St:=⟨(0,.osl 0 8 0<|a.length)::(1,.clo 73 [.ptr 1 0])::[],[some<|.arr 8<|a.map AK,some<|.box<|DK b]⟩
def UJ:St:=⟨(4,.d<|.int .i64 e)::[],[some<|.arr 8<|a.map AK,some<|.box<|DK b]⟩
def JbD:St:=⟨(0,.osl 0 8 0<|a.length)::(1,.clo 73 [.ptr 1 0])::(7,.d<|.int .i64 ((a.length:Nat):Int))::(8,.d<|.int .i64 c)::[],[some<|.arr 8<|a.map AK,some<|.box<|DK b]⟩
def JbE:St:=⟨[],[some<|.arr 8<|a.map AK,some<|.box<|DK b]⟩
def Np:(Unit⊕Int)->Ex->St->Prop:=xS (xX 2 0<|λ (_:Unit)=>JbE b a)<|xL 2 ty Try.f72 (λ (y:Int)=>.d<|.int .i64 y)<|λ (_:Int)=>[some<|.arr 8<|a.map AK,some<|.box<|DK b]
def H6:Int->St:=(λ (x:Int)=>JbD b a x)
variable {b a e c}
theorem Hm (x:Int) (z:(Int⊕(Unit⊕Int))) (H:EK n b a x=some z):WP (cxk 19 2) (AN Try.f72) [1,0,1,0,0] (AP 2 (H6 b a) (Np b a) z) (H6 b a x):=by
 revert H;generalize x=c;intro H;refine sr<|ck 1<|en<|sq<|cn H (λ H=>?_)<|λ H=>?_
 ·refine sk<|qz<|sq<|bk 1<|sr<|ck 2<|en<|sr<|ck 3<|bx H λ l f H=>sp (Bv 0 8 f)<|sp (Cp AK 0 0 (ty 132) f)<|bx H λ m h H=>xc (xok _ _) [1] (Jl h)<|en<|cn H (λ H=>?_)<|λ H=>?_
  ·exact sr<|ck 2<|en<|re<|qR<|qr (by cases H;exact lo rfl<|rl (s':=UJ b a c)<|sg [4])
  ·exact sk<|qN<|qz<|rz<|ck 2<|ae (by cases H;exact og<|sg [0,1,7,8])
 ·exact ex 0<|qx (by cases H;exact xo rfl<|sg [])
theorem P3 {z} (H:Hb n b a=some z):Bz Try.prog 72 [.osl 0 8 0 (a.length),.clo 73 [.ptr 1 0]] [some (.arr 8 (a.map AK)),some (.box (DK b))] 2 (.d (.int .i64 z)) [some (.arr 8 (a.map AK)),some (.box (DK b))]:=by
 refine fL 19 2 (JbC b a) Try.func72<|sr<|ck 1<|en<|sq<|sr<|ck 3<|en<|bk 0<|bx H λ k g H=>?_;rcases k with o|p
 ·exact lX Hm g (sg [0,1,7,8]) rfl λ s i=>qH<|qs (i)<|sr<|ck 1<|en<|re (by cases H;exact pL<|rl (s':=UJ b a (-1))<|sg [4])
 ·exact lL Hm g (sg [0,1,7,8]) rfl λ s j=>qR<|qr (by cases H;exact pL j)
end
theorem YS {n:Nat} {b c:Int} {a:(List Ai)} {z:(List Ai)} (H:S2 n b c a=some z):Bz Try.prog 74 [.osl 0 8 0 (a.length),.d (.int .i64 b),.d (.int .i64 c)] [some (.arr 8 (a.map AK))] 1 (.osl 1 8 0 (z.length)) [none,some (.arr 8 (z.map AK))]:=JaU (λ _=>rfl) H
theorem UK {n:Nat} {a:(List Ag)} {z:(List Ag)} (H:JM n a=some z):Bz Try.prog 75 [.osl 0 3 0 (a.length),.clo 76 []] [some (.arr 3 (a.map Au))] 1 (.tup []) [some (.arr 3 (z.map Au))]:=Ws JkE (by decide) Try.isAgg102 Try.sizeOf102 (enc:=Au) (λ _=>rfl) (λ x d hd=>by simp only[Au,List.mem_cons,List.not_mem_nil,or_false]at hd;rcases hd with rfl|rfl|rfl<;>rfl) (S1 Try.func76) (λ h=>DQ h) ⟨_,_,Try.func75,rfl,rfl⟩ H
section
variable (l:Int) (f:Ab) (I:(List Ai)) (B:(List Ag)) (w:(List Ai)) (o:(List Ai)) (C:Int) (r:(List Ai)) (j:(List Ai)) (e:(List ((List UInt8)×Ag))) (t:(List ((List UInt8)×Ag))) (A:Int) (s:(List ((List UInt8)×Ag))) (J:(List ((List UInt8)×Ag))) (p:(List Ag)) (q:(List Ag))
def JbF:St:=⟨(0,.ptr 0 0)::(1,.osl 1 8 0<|I.length)::(2,.d<|.int .i64 l)::[],[some<|.box<|An f (.osl 2 1 0<|f.Accepts.length)<|.osl 3 1 0<|f.Before.length,some<|.arr 8<|I.map AK,some<|.arr 1<|f.Accepts.map eB,some<|.narr 1<|List.map (eMr (λ k=>.int .i64 k)<|λ v=>.int .i64 v) f.Before]⟩
def JbG:St:=⟨(6,.osl 4 3 0<|B.length)::[],[some<|.box<|An f (.osl 2 1 0<|f.Accepts.length)<|.osl 3 1 0<|f.Before.length,none,some<|.arr 1<|f.Accepts.map eB,some<|.narr 1<|List.map (eMr (λ k=>.int .i64 k)<|λ v=>.int .i64 v) f.Before,some<|.arr 3<|B.map Au]⟩
def JbH:St:=⟨(0,.ptr 0 0)::(1,.osl 4 8 0<|o.length)::(2,.d<|.int .i64 l)::(21,.d<|.int .i64 ((w.length:Nat):Int))::(22,.d<|.int .i64 C)::[],[some<|.box<|An f (.osl 2 1 0<|f.Accepts.length)<|.osl 3 1 0<|f.Before.length,none,some<|.arr 1<|f.Accepts.map eB,some<|.narr 1<|List.map (eMr (λ k=>.int .i64 k)<|λ v=>.int .i64 v) f.Before,some<|.arr 8<|o.map AK]⟩
def JbI:St:=⟨(0,.ptr 0 0)::(1,.osl 4 8 0<|r.length)::(2,.d<|.int .i64 l)::[],[some<|.box<|An f (.osl 2 1 0<|f.Accepts.length)<|.osl 3 1 0<|f.Before.length,none,some<|.arr 1<|f.Accepts.map eB,some<|.narr 1<|List.map (eMr (λ k=>.int .i64 k)<|λ v=>.int .i64 v) f.Before,some<|.arr 8<|r.map AK]⟩
def Jm:(List Ai)->Ex->St->Prop:=xX 4 0<|λ (y:(List Ai))=>JbI l f y
def ET:((List Ai)×Int)->St:=(λ (x:((List Ai)×Int))=>JbH l f w x.1 x.2)
def JbJ:St:=⟨(0,.ptr 0 0)::(1,.osl 4 8 0<|j.length)::(2,.d<|.int .i64 l)::(8,.mp 5)::[],[some<|.box<|An f (.osl 2 1 0<|f.Accepts.length)<|.osl 3 1 0<|f.Before.length,none,some<|.arr 1<|f.Accepts.map eB,some<|.narr 1<|List.map (eMr (λ k=>.int .i64 k)<|λ v=>.int .i64 v) f.Before,some<|.arr 8<|j.map AK,some<|.map false true<|Bt eS Au e]⟩
def JbK:St:=⟨(8,.mp 4)::[],[some<|.box<|An f (.osl 2 1 0<|f.Accepts.length)<|.osl 3 1 0<|f.Before.length,none,some<|.arr 1<|f.Accepts.map eB,some<|.narr 1<|List.map (eMr (λ k=>.int .i64 k)<|λ v=>.int .i64 v) f.Before,some<|.map false true<|Bt eS Au t]⟩
def JbL:St:=⟨(0,.ptr 0 0)::(1,.osl 4 8 0<|j.length)::(2,.d<|.int .i64 l)::(8,.mp 5)::(10,.d<|.int .i64 A)::(11,.eptr 4 8 (0+Int.toNat A) 0)::[],[some<|.box<|An f (.osl 2 1 0<|f.Accepts.length)<|.osl 3 1 0<|f.Before.length,none,some<|.arr 1<|f.Accepts.map eB,some<|.narr 1<|List.map (eMr (λ k=>.int .i64 k)<|λ v=>.int .i64 v) f.Before,some<|.arr 8<|j.map AK,some<|.map false true<|Bt eS Au s]⟩
def Jn:(List<|(List UInt8)×Ag)->Ex->St->Prop:=xX 4 2<|λ (y:(List<|(List UInt8)×Ag))=>JbK f y
def EU:((List Ai)×(List<|(List UInt8)×Ag))->St:=(λ (x:((List Ai)×(List<|(List UInt8)×Ag)))=>JbJ l f x.1 x.2)
def JbM:St:=⟨(15,.osl 4 3 0<|p.length)::(126,.ptr 5 0)::[],[some<|.box<|An f (.osl 2 1 0<|f.Accepts.length)<|.osl 3 1 0<|f.Before.length,none,some<|.arr 1<|f.Accepts.map eB,some<|.narr 1<|List.map (eMr (λ k=>.int .i64 k)<|λ v=>.int .i64 v) f.Before,some<|.arr 3<|p.map Au,some<|.iter false true none<|Bt eS Au J]⟩
def JbN:St:=⟨(15,.osl 4 3 0<|q.length)::[],[some<|.box<|An f (.osl 2 1 0<|f.Accepts.length)<|.osl 3 1 0<|f.Before.length,none,some<|.arr 1<|f.Accepts.map eB,some<|.narr 1<|List.map (eMr (λ k=>.int .i64 k)<|λ v=>.int .i64 v) f.Before,some<|.arr 3<|q.map Au]⟩
def EV:Empty->Ex->St->Prop:=(λ (_:Empty) _ _=>False)
variable {l f I B w o C r j e t A s J p q}
theorem IQ (x:((List Ai)×Int)) (z:(((List Ai)×Int)⊕(List Ai))) (H:BX n l f w x.1 x.2=some z):WP (cxk 138 4) (AN Try.f57) [1,1,0,1,0,0] (AP 4 (ET l f w) (Jm l f) z) (ET l f w x):=by
 obtain⟨o,C⟩:=x;refine sr<|ck 1<|en<|sq<|cn H (λ H=>?_)<|λ H=>?_
 ·exact sk<|qz<|sq<|bk 1<|sr<|ck 2<|en<|rz<|ck 2<|bx H λ aa K H=>sp (Bv 4 8 K)<|bx H λ ab L H=>lt [4] (H5 L)<|bx H λ _ E H=>ae<|qN<|qz<|rg (tr (sn 1 4 8<|HS E)<|sn 25 4 8<|HS E)<|ck 2<|ae (by cases H;exact og<|gP [0,1,2,21,22] [0,1,2,3,4]<|po1<|po1<|po1<|pn1 (eMr (λ k=>.int .i64 k)<|λ v=>.int .i64 v) f.Before<|po1<|Pl.z)
 ·exact ex 0<|qx (by cases H;exact xo rfl<|gP [0,1,2] [0,1,2,3,4]<|po1<|po1<|po1<|pn1 (eMr (λ k=>.int .i64 k)<|λ v=>.int .i64 v) f.Before<|po1<|Pl.z)
theorem IR (x:((List Ai)×(List ((List UInt8)×Ag)))) (z:(((List Ai)×(List ((List UInt8)×Ag)))⊕(List ((List UInt8)×Ag)))) (H:Ch n l f x.1 x.2=some z):WP (cxk 138 4) (AN Try.f57) [1,1,1,1,0,0,0] (AP 4 (EU l f) (Jn f) z) (EU l f x):=by
 obtain⟨j,e⟩:=x;refine sq<|sr<|ck 3<|en<|cn H (λ H=>?_)<|λ H=>?_
 ·refine sk<|qz<|bk 3<|sr<|ck 1<|bx H λ ac M H=>lt [4] (QT M)<|ck 2<|en<|sr<|ck 1<|xm (xok _ _)<|bx H λ A O H=>lt [4,7] (P3 O)<|ck 1<|en<|sr<|ck 2<|bx H λ h u H=>sp (Bv 4 8 u)<|ck 1<|en<|sr<|ck 3<|sp (Cp AK 4 5 (ty 102) u)<|ck 2<|en<|sr<|ck 3<|sp (Mg (enc:=Au) (encK:=eS) (ka:=false) (va:=true) (k:=5) (m:=e) (a:=.d<|.str h.First.Text) (key:=h.First.Text) (z:=(⟨0,[],[]⟩:Ag)) (vz:=[.int .i64 0,.str [],.str []]) Jjp true)<|ck 6<|en<|sq<|sr<|ck 6<|gc 2 (!(decide<|h.First.Cost>l))<|ck 1<|sE (g:=((!(decide<|h.First.Cost>l))&&(!(Option.isSome<|AT h.First.Text e)))) (λ hg=>JdZ eS Au e)<|ck 1<|gc 4 ((!(decide<|h.First.Cost>l))&&(!(Option.isSome<|AT h.First.Text e)))<|pG (g:=(!(decide<|h.First.Cost>l))) (v:=.d<|.bool<|(!(Option.isSome<|AT h.First.Text e))&&(((e.length:Nat):Int)==f.Most)) (λ hg=>HR (c:=.gv (!(decide<|h.First.Cost>l))<|.d<|.bool<|!(Option.isSome<|AT h.First.Text e)) (a:=.gv ((!(decide<|h.First.Cost>l))&&(!(Option.isSome<|AT h.First.Text e)))<|.d<|.bool<|((e.length:Nat):Int)==f.Most) (b:=.d<|.bool false) rfl rfl rfl ((λ hh=>hh) hg) (λ ht=>by rw[(λ hh=>hh) hg,ht];rfl) trivial)<|pO<|en<|cn H (λ H=>?_)<|λ H=>?_
  ·exact ex 2<|qx<|qX rfl (by cases H;exact xo rfl<|gP [8] [0,1,2,3,5]<|po1<|po1<|po1<|pn1 (eMr (λ k=>.int .i64 k)<|λ v=>.int .i64 v) f.Before<|po1<|Pl.z)
  ·refine sk<|qz<|sr<|ck 4<|sp (Cp AK 4 1 (ty 9) u)<|ck 3<|sp (Cp AK 4 4 (ty 99) u)<|bx H λ af P H=>sp (AF Au P)<|ck 2<|bx H λ Q R H=>sp (SQ R)<|ck 2<|en<|sj (λ (x:(List<|(List UInt8)×Ag))=>JbL l f j A x) (λ (x:(List<|(List UInt8)×Ag))=>BY n j A x) z ?_ (λ i=>?_)
   ·intro s H;refine sr<|ck 4<|bx H λ ag S H=>sp (Cp AK 4 4 (ty 99) S)<|bx H λ ah T H=>sp (JdR Au 3 T)<|ck 2<|bx H λ ai U H=>bx H λ aj G H=>stA AK 4 4 (ty 99) U G<|en<|sq<|rg (sn 1 4 8<|IE G)<|ck 3<|bx H λ Z V H=>sp (Cp AK 4 4 (ty 99) V)<|sp (AQ Au Z.List)<|ck 1<|en<|cn H (λ H=>?_)<|λ H=>?_
    ·exact rz<|ck 1<|bx H λ ak W H=>lt [4] (H5 W)<|bx H λ _ X H=>ae<|qN (by cases H;exact og<|tr (sn 1 4 8<|HS X)<|gP [0,1,2,8] [0,1,2,3,4,5]<|po1<|po1<|po1<|pn1 (eMr (λ k=>.int .i64 k)<|λ v=>.int .i64 v) f.Before<|po1<|po1<|Pl.z)
    ·exact rz<|ck 4<|bx H λ al Y H=>lt [4] (YS Y)<|ck 1<|ae<|qN (by cases H;exact og<|gP [0,1,2,8] [0,1,2,3,6,5]<|po1<|po1<|po1<|pn1 (eMr (λ k=>.int .i64 k)<|λ v=>.int .i64 v) f.Before<|po1<|po1<|Pl.z)
   refine sr<|ck 4<|gc 1 (!(!(Option.isSome<|AT h.First.Text e)))<|ck 1<|gc 3 (!(!(Option.isSome<|AT h.First.Text e)))<|ck 1<|gc 1 ((!(!(Option.isSome<|AT h.First.Text e)))&&(((Option.getD (AT h.First.Text e) (⟨0,[],[]⟩:Ag)).Cost)==h.First.Cost))<|ck 1<|gc 2 ((!(!(Option.isSome<|AT h.First.Text e)))&&(((Option.getD (AT h.First.Text e) (⟨0,[],[]⟩:Ag)).Cost)==h.First.Cost))<|pG (g:=(!(!(Option.isSome<|AT h.First.Text e)))) (v:=.d<|.bool<|(((Option.getD (AT h.First.Text e) (⟨0,[],[]⟩:Ag)).Cost)==h.First.Cost)&&(Op.bytesLess Q<|(Option.getD (AT h.First.Text e) (⟨0,[],[]⟩:Ag)).Cells)) (λ hg=>HR (c:=.gv (!(!(Option.isSome<|AT h.First.Text e)))<|.d<|.bool<|((Option.getD (AT h.First.Text e) (⟨0,[],[]⟩:Ag)).Cost)==h.First.Cost) (a:=.gv ((!(!(Option.isSome<|AT h.First.Text e)))&&(((Option.getD (AT h.First.Text e) (⟨0,[],[]⟩:Ag)).Cost)==h.First.Cost))<|.d<|.bool<|Op.bytesLess Q<|(Option.getD (AT h.First.Text e) (⟨0,[],[]⟩:Ag)).Cells) (b:=.d<|.bool false) rfl rfl rfl ((λ hh=>hh) hg) (λ ht=>by rw[(λ hh=>hh) hg,ht];rfl) trivial)<|pO<|en<|cn H (λ H=>?_)<|λ H=>?_
   ·exact rz<|ck 4<|sp (OE (enc:=Au) (encK:=eS) (ka:=false) (va:=true) (k:=5) (m:=e) (a:=.d<|.str h.First.Text) (key:=h.First.Text) (y:=({ Cost:=h.First.Cost,Text:=h.First.Text,Cells:=Q }:Ag)) (v:=.agg [.d<|.int .i64 h.First.Cost,.d<|.str h.First.Text,.d<|.str Q]) (vz:=[.int .i64 0,.str [],.str []]) Jjp)<|ae<|qs (gP [0,1,2,8,10,11] [0,1,2,3,4,5]<|po1<|po1<|po1<|pn1 (eMr (λ k=>.int .i64 k)<|λ v=>.int .i64 v) f.Before<|po1<|po1<|Pl.z)<|i (BP h.First.Text ({ Cost:=h.First.Cost,Text:=h.First.Text,Cells:=Q }:Ag) e) H
   ·exact sk<|qs (gP [0,1,2,8,10,11] [0,1,2,3,4,5]<|po1<|po1<|po1<|pn1 (eMr (λ k=>.int .i64 k)<|λ v=>.int .i64 v) f.Before<|po1<|po1<|Pl.z)<|i e H
 ·exact ex 2<|qx (by cases H;exact xo rfl<|gP [8] [0,1,2,3,5]<|po1<|po1<|po1<|pn1 (eMr (λ k=>.int .i64 k)<|λ v=>.int .i64 v) f.Before<|po1<|Pl.z)
end
def EP (a:Ab):(List Ag)->Ex->St->Prop:=(λ (x:(List Ag))=>xX 4 4 (λ (y:(List Ag))=>JbN a y) x)
section
variable (a:Ab) (c:Int) (b:(List Ai))
def EW:(List<|(List UInt8)×Ag)->(List Ag)->St:=(λ (l:(List<|(List UInt8)×Ag)) (x:(List Ag))=>JbM a l x)
variable {a c b}
theorem IS (g:(List ((List UInt8)×Ag))) (x:(List Ag)) (hz:∀ e,e∈g->∃ z,BA n e x=some z):WP (cxk 138 4) (AN Try.f57) [1,1,1,1,1,1,0,1,0,0] (YI 4 (EW a) (EP a) (EV) (λ (e:((List UInt8)×Ag)) (x:(List Ag))=>BA n e x) g x) (EW a g x):=by
 revert hz;generalize x=h;intro hz;refine sq<|rn 0 (.refl _)<|nd0<|nxt (yok _ _) (encK:=eS) (enc:=Au) (ka:=false) (va:=true) 5 (λ hl=>?_)<|λ e2 w y hl2=>bE (hz e2<|JfD hl2) λ z hF=>?_
 ·exact ck 1<|en<|sq<|cF<|ex 4<|qx<|mE hl rfl<|gP [15] [0,1,2,3,4]<|po1<|po1<|po1<|pn1 (eMr (λ k=>.int .i64 k)<|λ v=>.int .i64 v) a.Before<|po1<|Pl.z
 ·have H:=hF;exact ck 1<|en<|sq<|cT<|sk<|qz<|bk 5<|sr<|xr (xok _ _)<|ck 3<|en<|rz<|ck 3<|bx H λ A i H=>sp (BJ Au 4 3 i)<|ck 1<|ae<|qN (by cases H;exact mg hl2 hF<|tr (Xh 5 (by kernel_rfl))<|gP [15,126] [0,1,2,3,8,5]<|po1<|po1<|po1<|pn1 (eMr (λ k=>.int .i64 k)<|λ v=>.int .i64 v) a.Before<|po1<|po1<|Pl.z)
theorem KP {z} (H:CN n c a b=some z):Bz Try.prog 57 [.ptr 0 0,.osl 1 8 0 (b.length),.d (.int .i64 c)] [some (.box (An a (.osl 2 1 0 (a.Accepts.length)) (.osl 3 1 0 (a.Before.length)))),some (.arr 8 (b.map AK)),some (.arr 1 (a.Accepts.map eB)),some (.narr 1 (List.map (eMr (λ k=>.int .i64 k) (λ v=>.int .i64 v)) a.Before))] 4 (.osl 4 3 0 (z.length)) [some (.box (An a (.osl 2 1 0 (a.Accepts.length)) (.osl 3 1 0 (a.Before.length)))),none,some (.arr 1 (a.Accepts.map eB)),some (.narr 1 (List.map (eMr (λ k=>.int .i64 k) (λ v=>.int .i64 v)) a.Before)),some (.arr 3 (z.map Au))]:=by
 refine fL 138 4 (JbF c a b) Try.func57<|sr<|ck 1<|en<|sr<|ck 1<|bx H λ B j H=>lt [1] (Tb j)<|ck 1<|en<|sq<|sr<|ck 3<|en<|bk 0<|bx H λ C m H=>lX IQ m (gP [0,1,2,21,22] [0,1,2,3,4]<|po1<|po1<|po1<|pn1 (eMr (λ k=>.int .i64 k)<|λ v=>.int .i64 v) a.Before<|po1<|Pl.z) rfl λ s o=>qH<|qs (o)<|sr<|ck 2<|en<|sq<|bk 2<|bx H λ G p H=>lX IR p (gP [0,1,2,8] [0,1,2,3,4,5]<|po1<|po1<|po1<|pn1 (eMr (λ k=>.int .i64 k)<|λ v=>.int .i64 v) a.Before<|po1<|po1<|Pl.z) rfl λ s q=>qH<|qs (q)<|sr<|ck 1<|en<|sq<|sr<|ck 1<|xr (xok _ _)<|en<|bk 4 ?_;have hD:=SU H;refine lM (F:=(λ (e:((List UInt8)×Ag)) (x:(List Ag))=>BA n e x)) (E:=EV) (E0:=EP a) IS (tr (Ao.nilo 15 3 (by kernel_rfl))<|gP [15,126] [0,1,2,3,6,5]<|po1<|po1<|po1<|pn1 (eMr (λ k=>.int .i64 k)<|λ v=>.int .i64 v) a.Before<|po1<|po1<|Pl.z) (λ ord ho=>bI<|hD ord ho) (λ ord I ho hy e s hE=>xQ hE<|λ he t=>?_)<|λ ord r ho hy e s hE=>?_
 ·subst he;have H:=bK (hD ord ho) hy;exact qH<|qs (t)<|sr<|ck 1<|bx H λ J u H=>lt [4] (UK u)<|bx H λ _ f H=>en<|sq<|rg (tr (sn 15 4 3<|HS f)<|sn 135 4 3<|HS f)<|ck 2<|en<|re (by cases H;exact pL<|rl (s':=JbG a z)<|gP [6] [0,1,2,3,4]<|po1<|po1<|po1<|pn1 (eMr (λ k=>.int .i64 k)<|λ v=>.int .i64 v) a.Before<|po1<|Pl.z)
 ·cases r
end
section
variable (J:Ab) (s:Ab) (M:(List Ag)) (u:Ab) (C:(List (Option (Bool×(List (Int×(List Ag))))))) (c:Int) (w:Ab) (E:(List (Option (Bool×(List (Int×(List Ag))))))) (O:(List (Int×Int))) (b:Ab) (o:(List (Option (Bool×(List (Int×(List Ag))))))) (A:Ab) (G:(List (Option (Bool×(List (Int×(List Ag))))))) (e3:(Int×Int)) (l33:(List (Int×Int))) (l34:(List (Int×Int))) (p:(List Ai)) (r:(List Hu)) (g:(List (Option (Bool×(List (Int×(List Ag))))))) (h:(List Ai)) (B:Int) (I:(List (Option (Bool×(List (Int×(List Ag))))))) (q:(List Ai)) (i:(List (Option (Bool×(List (Int×(List Ag))))))) (l:(List Ai))
def JbO:St:=⟨(0,.ptr 0 0)::[],[some<|.box<|An J (.osl 1 1 0<|J.Accepts.length)<|.osl 2 1 0<|J.Before.length,some<|.arr 1<|J.Accepts.map eB,some<|.narr 1<|List.map (eMr (λ k=>.int .i64 k)<|λ v=>.int .i64 v) J.Before]⟩
def JbP:St:=⟨(2,.d<|.sl<|M.map Au)::[],[some<|.box<|An s (.osl 1 1 0<|s.Accepts.length)<|.osl 2 1 0<|s.Before.length,some<|.arr 1<|s.Accepts.map eB,some<|.narr 1<|List.map (eMr (λ k=>.int .i64 k)<|λ v=>.int .i64 v) s.Before]⟩
def JbQ:St:=⟨(0,.ptr 0 0)::(3,.eptr 3 1 0 0)::(4,.d<|.int .i64 c)::[],[some<|.box<|An u (.osl 1 1 0<|u.Accepts.length)<|.osl 2 1 0<|u.Before.length,some<|.arr 1<|u.Accepts.map eB,some<|.narr 1<|List.map (eMr (λ k=>.int .i64 k)<|λ v=>.int .i64 v) u.Before,some<|.narr 1<|List.map (eMr (λ k=>.int .i64 k)<|λ v=>.sl<|List.map Au v) C]⟩
def JbR:St:=⟨(3,.eptr 3 1 0 0)::[],[some<|.box<|An w (.osl 1 1 0<|w.Accepts.length)<|.osl 2 1 0<|w.Before.length,some<|.arr 1<|w.Accepts.map eB,some<|.narr 1<|List.map (eMr (λ k=>.int .i64 k)<|λ v=>.int .i64 v) w.Before,some<|.narr 1<|List.map (eMr (λ k=>.int .i64 k)<|λ v=>.sl<|List.map Au v) E]⟩
def JbS:St:=⟨(0,.ptr 0 0)::(3,.eptr 3 1 0 0)::(4,.d<|.int .i64 c)::(34,.ptr 4 0)::[],[some<|.box<|An b (.osl 1 1 0<|b.Accepts.length)<|.osl 2 1 0<|b.Before.length,some<|.arr 1<|b.Accepts.map eB,some<|.narr 1<|List.map (eMr (λ k=>.int .i64 k)<|λ v=>.int .i64 v) b.Before,some<|.narr 1<|List.map (eMr (λ k=>.int .i64 k)<|λ v=>.sl<|List.map Au v) o,some<|.iter false false none<|Bt A3 A3 O]⟩
def JbT:St:=⟨(0,.ptr 0 0)::(3,.eptr 3 1 0 0)::(4,.d<|.int .i64 c)::[],[some<|.box<|An A (.osl 1 1 0<|A.Accepts.length)<|.osl 2 1 0<|A.Before.length,some<|.arr 1<|A.Accepts.map eB,some<|.narr 1<|List.map (eMr (λ k=>.int .i64 k)<|λ v=>.int .i64 v) A.Before,some<|.narr 1<|List.map (eMr (λ k=>.int .i64 k)<|λ v=>.sl<|List.map Au v) G]⟩
def JbU:St:=⟨(0,.ptr 0 0)::(3,.eptr 3 1 0 0)::(4,.d<|.int .i64 c)::(5,.d<|.int .i64 e3.1)::(6,.d<|.int .i64 e3.2)::(7,.osl 4 8 0<|p.length)::(34,.ptr 5 0)::[],[some<|.box<|An b (.osl 1 1 0<|b.Accepts.length)<|.osl 2 1 0<|b.Before.length,some<|.arr 1<|b.Accepts.map eB,some<|.narr 1<|List.map (eMr (λ k=>.int .i64 k)<|λ v=>.int .i64 v) b.Before,some<|.narr 1<|List.map (eMr (λ k=>.int .i64 k)<|λ v=>.sl<|List.map Au v) o,some<|.arr 8<|p.map AK,some<|.iter false false none<|Bt A3 A3<|l33++l34]⟩
def JbV:St:=⟨(0,.ptr 0 0)::(3,.eptr 3 1 0 0)::(4,.d<|.int .i64 c)::(5,.d<|.int .i64 e3.1)::(6,.d<|.int .i64 e3.2)::(7,.osl 4 8 0<|h.length)::(34,.ptr 5 0)::(68,.d<|.sl<|r.map BD)::(69,.d<|.int .i64 ((r.length:Nat):Int))::(70,.d<|.int .i64 B)::[],[some<|.box<|An b (.osl 1 1 0<|b.Accepts.length)<|.osl 2 1 0<|b.Before.length,some<|.arr 1<|b.Accepts.map eB,some<|.narr 1<|List.map (eMr (λ k=>.int .i64 k)<|λ v=>.int .i64 v) b.Before,some<|.narr 1<|List.map (eMr (λ k=>.int .i64 k)<|λ v=>.sl<|List.map Au v) g,some<|.arr 8<|h.map AK,some<|.iter false false none<|Bt A3 A3<|l33++l34]⟩
def JbW:St:=⟨(0,.ptr 0 0)::(3,.eptr 3 1 0 0)::(4,.d<|.int .i64 c)::(5,.d<|.int .i64 e3.1)::(6,.d<|.int .i64 e3.2)::(7,.osl 4 8 0<|q.length)::(34,.ptr 5 0)::[],[some<|.box<|An b (.osl 1 1 0<|b.Accepts.length)<|.osl 2 1 0<|b.Before.length,some<|.arr 1<|b.Accepts.map eB,some<|.narr 1<|List.map (eMr (λ k=>.int .i64 k)<|λ v=>.int .i64 v) b.Before,some<|.narr 1<|List.map (eMr (λ k=>.int .i64 k)<|λ v=>.sl<|List.map Au v) I,some<|.arr 8<|q.map AK,some<|.iter false false none<|Bt A3 A3<|l33++l34]⟩
def YT:St:=⟨(0,.ptr 0 0)::(3,.eptr 3 1 0 0)::(4,.d<|.int .i64 c)::(5,.d<|.int .i64 e3.1)::(6,.d<|.int .i64 e3.2)::(7,.osl 4 8 0<|l.length)::(34,.ptr 5 0)::(68,.d<|.sl<|r.map BD)::(69,.d<|.int .i64 ((r.length:Nat):Int))::(70,.d<|.int .i64 B)::[],[some<|.box<|An b (.osl 1 1 0<|b.Accepts.length)<|.osl 2 1 0<|b.Before.length,some<|.arr 1<|b.Accepts.map eB,some<|.narr 1<|List.map (eMr (λ k=>.int .i64 k)<|λ v=>.int .i64 v) b.Before,some<|.narr 1<|List.map (eMr (λ k=>.int .i64 k)<|λ v=>.sl<|List.map Au v) i,some<|.arr 8<|l.map AK,some<|.iter false false none<|Bt A3 A3<|l33++l34]⟩
def HB:((List<|Option<|Bool×(List<|Int×(List Ag)))×(List Ai))->Ex->St->Prop:=xX 3 4<|λ (y:((List<|Option<|Bool×(List<|Int×(List Ag)))×(List Ai)))=>JbW c b e3 l33 l34 y.1 y.2
def D2:((List<|Option<|Bool×(List<|Int×(List Ag)))×(List Ai)×Int)->St:=(λ (x:((List<|Option<|Bool×(List<|Int×(List Ag)))×(List Ai)×Int))=>JbV c b e3 l33 l34 r x.1 x.2.1 x.2.2)
def D3:Empty->Ex->St->Prop:=(λ (_:Empty) _ _=>False)
variable {J s M u C c w E O b o A G e3 l33 l34 p r g h B I q i l}
theorem GU (x:((List (Option (Bool×(List (Int×(List Ag))))))×(List Ai)×Int)) (z:(((List (Option (Bool×(List (Int×(List Ag))))))×(List Ai)×Int)⊕((List (Option (Bool×(List (Int×(List Ag))))))×(List Ai)))) (H:Bw n c b e3 r x.1 x.2.1 x.2.2=some z):WP (cxk 123 3) (AN Try.f42) [1,1,0,1,0,0,1,0,0,1,1,0,0,1,1,0,1,1,1,0,1,0,0] (AP 3 (D2 c b e3 l33 l34 r) (HB c b e3 l33 l34) z) (D2 c b e3 l33 l34 r x):=by
 obtain⟨g,h,B⟩:=x;refine sr<|ck 1<|en<|sq<|cn H (λ H=>?_)<|λ H=>?_
 ·refine sk<|qz<|sj (λ (x:((List<|Option<|Bool×(List<|Int×(List Ag)))×(List Ai)))=>YT c b e3 l33 l34 r B x.1 x.2) (λ (x:((List<|Option<|Bool×(List<|Int×(List Ag)))×(List Ai)))=>C3 n B x.1 x.2) z ?_ (λ e=>?_)
  ·rintro⟨i,l⟩ H;exact rz<|ck 2<|ae (by cases H;exact og<|gP [0,3,4,5,6,7,34,68,69,70] [0,1,2,3,4,5]<|po1<|po1<|pn1 (eMr (λ k=>.int .i64 k)<|λ v=>.int .i64 v) b.Before<|pn1 (eMr (λ k=>.int .i64 k)<|λ v=>.sl<|List.map Au v) i<|po1<|po1<|Pl.z)
  refine bk 5<|sr<|bx H λ K P H=>sp (AF BD P)<|ck 3<|en<|sr<|ck 4<|bx H λ V Q H=>ltP [0,1,2] (GG Q) (po1<|po1<|pn1 (eMr (λ k=>.int .i64 k)<|λ v=>.int .i64 v) b.Before<|Pl.z)<|tb (f:=ES<|CA [0,1,2] 7 3) [some<|.box<|An b (.osl 1 1 0<|b.Accepts.length)<|.osl 2 1 0<|b.Before.length,some<|.arr 1<|b.Accepts.map eB,some<|.narr 1<|List.map (eMr (λ k=>.int .i64 k)<|λ v=>.int .i64 v) b.Before,some<|.narr 1<|List.map (eMr (λ k=>.int .i64 k)<|λ v=>.sl<|List.map Au v) g,some<|.arr 8<|h.map AK,some<|.iter false false none<|Bt A3 A3<|l33++l34,some<|.box<|Jjo K] (po1<|po1<|pn1 (eMr (λ k=>.int .i64 k)<|λ v=>.int .i64 v) b.Before<|po1<|po1<|po1<|po1<|Pl.z)<|ck 5<|en<|sr<|ck 1<|en<|cn H (λ H=>?_)<|λ H=>?_
  ·exact sq<|bx H λ T L H=>rg (PO (ek:=(λ k=>.int .i64 k)) (ev:=(λ v=>.sl<|List.map Au v)) 3 (B2 L) (by kernel_rfl))<|ck 6<|bx H λ W R H=>sp (OB 3 1 0 5 (j:=0) R)<|sp (IF (encN:=(eMr (λ k=>.int .i64 k)<|λ v=>.sl<|List.map Au v)) (row:=[.mp 7]) (k:=3) (sz:=1) (off:=0) (t:=ty 128) (v:=.mp 7)<|B2 L)<|ck 2<|sp (Mg (enc:=(eL Au)) (encK:=A3) (ka:=false) (va:=false) (k:=7) (m:=T) (a:=.d<|.int .i64 K.To) (key:=K.To) (z:=([]:(List Ag))) (vz:=[.nil]) YN false)<|ck 1<|en<|rg (JJ (ek:=(λ k=>.int .i64 k)) (ev:=(λ v=>.sl<|List.map Au v)) 3 7 T (B2 L) (by kernel_rfl) (by kernel_rfl))<|ck 6<|bx H λ U S H=>sp (BJ AK 4 8 S)<|ck 1<|ae<|qN<|qs (gP [0,3,4,5,6,7,34,68,69,70] [0,1,2,3,9,5]<|po1<|po1<|pn1 (eMr (λ k=>.int .i64 k)<|λ v=>.int .i64 v) b.Before<|pn1 (eMr (λ k=>.int .i64 k)<|λ v=>.sl<|List.map Au v) (List.set g (Int.toNat<|Bj (AX .i64 c ((K.Cells.length:Nat):Int)) 5)<|some (false,T))<|po1<|po1<|Pl.z)<|e ((List.set g (Int.toNat<|Bj (AX .i64 c ((K.Cells.length:Nat):Int)) 5)<|some (false,T)),U) H
  ·exact sk<|qN<|qs (gP [0,3,4,5,6,7,34,68,69,70] [0,1,2,3,4,5]<|po1<|po1<|pn1 (eMr (λ k=>.int .i64 k)<|λ v=>.int .i64 v) b.Before<|pn1 (eMr (λ k=>.int .i64 k)<|λ v=>.sl<|List.map Au v) g<|po1<|po1<|Pl.z)<|e (g,h) H
 ·exact ex 4<|qx (by cases H;exact xo rfl<|gP [0,3,4,5,6,7,34] [0,1,2,3,4,5]<|po1<|po1<|pn1 (eMr (λ k=>.int .i64 k)<|λ v=>.int .i64 v) b.Before<|pn1 (eMr (λ k=>.int .i64 k)<|λ v=>.sl<|List.map Au v) g<|po1<|po1<|Pl.z)
end
def DL (a:Int):(Ab×(List<|Option<|Bool×(List<|Int×(List Ag))))->Ex->St->Prop:=(λ (x:(Ab×(List<|Option<|Bool×(List<|Int×(List Ag)))))=>xX 3 2 (λ (y:(Ab×(List<|Option<|Bool×(List<|Int×(List Ag)))))=>JbT a y.1 y.2) (x.1,x.2))
section
variable (b:Int) (o:Ab)
def D4:(List<|Int×Int)->(Ab×(List<|Option<|Bool×(List<|Int×(List Ag))))->St:=(λ (l:(List<|Int×Int)) (x:(Ab×(List<|Option<|Bool×(List<|Int×(List Ag)))))=>JbS b l x.1 x.2)
def HC:(Ab×(List<|Option<|Bool×(List<|Int×(List Ag))))->Ex->St->Prop:=xX 3 0<|λ (y:(Ab×(List<|Option<|Bool×(List<|Int×(List Ag)))))=>JbR y.1 y.2
def D5:(Ab×(List<|Option<|Bool×(List<|Int×(List Ag)))×Int)->St:=(λ (x:(Ab×(List<|Option<|Bool×(List<|Int×(List Ag)))×Int))=>JbQ x.1 x.2.1 x.2.2)
variable {b o}
theorem GV (J:(List (Int×Int))) (x:(Ab×(List (Option (Bool×(List (Int×(List Ag)))))))) (hz:∀ e,e∈J->∃ z,Ba n b e x.1 x.2=some z):WP (cxk 123 3) (AN Try.f42) [1,1,0,1,0,0,1,0,0,1,1,0,0] (YI 3 (D4 b) (DL b) (D3) (λ (e:(Int×Int)) (x:(Ab×(List (Option (Bool×(List (Int×(List Ag))))))))=>Ba n b e x.1 x.2) J x) (D4 b J x):=by
 obtain⟨h,i⟩:=x;refine sq<|rn 0 (.refl _)<|nd0<|nxt (yok _ _) (encK:=A3) (enc:=A3) (ka:=false) (va:=false) 4 (λ hl=>?_)<|λ e3 l33 l34 hl3=>bE (hz e3<|JfD hl3) λ z hF=>?_
 ·exact ck 1<|en<|sq<|cF<|ex 2<|qx<|mE hl rfl<|gP [0,3,4] [0,1,2,3]<|po1<|po1<|pn1 (eMr (λ k=>.int .i64 k)<|λ v=>.int .i64 v) h.Before<|pn1 (eMr (λ k=>.int .i64 k)<|λ v=>.sl<|List.map Au v) i<|Pl.z
 ·have H:=hF;refine ck 1<|en<|sq<|cT<|sk<|qz<|bk 3<|sr<|xr (xok _ _)<|ck 4<|en<|sr<|ck 1<|en<|sj (λ (x:(List Ai))=>JbU b h i e3 l33 l34 x) (λ (x:(List Ai))=>BU n b h i e3 x) z ?_ (λ c=>?_)
  ·intro L H;refine sq<|sr<|ck 5<|bx H λ ab M H=>sp (AF (eL BD) M)<|ck 1<|sp (AQ BD ab)<|ck 1<|en<|bk 4<|bx H λ K O H=>lX (GU (l33:=l33) (l34:=l34)) O (gP [0,3,4,5,6,7,34,68,69,70] [0,1,2,3,4,5]<|po1<|po1<|pn1 (eMr (λ k=>.int .i64 k)<|λ v=>.int .i64 v) h.Before<|pn1 (eMr (λ k=>.int .i64 k)<|λ v=>.sl<|List.map Au v) i<|po1<|po1<|Pl.z) rfl λ s P=>qH<|qs (P)<|sr<|ck 8<|bx H λ p Q H=>ltP [0,4,1,2] (KP Q) (po1<|po1<|po1<|pn1 (eMr (λ k=>.int .i64 k)<|λ v=>.int .i64 v) h.Before<|Pl.z)<|tb (f:=ES<|CA [0,4,1,2] 6 4) [some<|.box<|An h (.osl 1 1 0<|h.Accepts.length)<|.osl 2 1 0<|h.Before.length,some<|.arr 1<|h.Accepts.map eB,some<|.narr 1<|List.map (eMr (λ k=>.int .i64 k)<|λ v=>.int .i64 v) h.Before,some<|.narr 1<|List.map (eMr (λ k=>.int .i64 k)<|λ v=>.sl<|List.map Au v) K.1,none,some<|.iter false false none<|Bt A3 A3<|l33++l34,some<|.arr 3<|p.map Au] (po1<|po1<|pn1 (eMr (λ k=>.int .i64 k)<|λ v=>.int .i64 v) h.Before<|po1<|po1<|po1<|po1<|Pl.z)<|ck 1<|en<|sr<|ck 3<|en<|cn H (λ H=>?_)<|λ H=>?_
   ·exact bx H λ R w H=>rg (tr (PO (ek:=(λ k=>.int .i64 k)) (ev:=(λ v=>.sl<|List.map Au v)) 3 (B2 w) (by kernel_rfl))<|fz (enc:=Au) (xs:=p) 13 6 3)<|ck 2<|bx H λ ah S H=>sp (OB 3 1 0 5 (j:=0) S)<|sp (IF (encN:=(eMr (λ k=>.int .i64 k)<|λ v=>.sl<|List.map Au v)) (row:=[.mp 7]) (k:=3) (sz:=1) (off:=0) (t:=ty 128) (v:=.mp 7)<|B2 w)<|ck 2<|sp (OE (enc:=(eL Au)) (encK:=A3) (ka:=false) (va:=false) (k:=7) (m:=R) (a:=.d<|.int .i64 e3.1) (key:=e3.1) (y:=p) (v:=.d<|.sl<|p.map Au) (vz:=[.nil]) YN)<|ae<|qN (by cases H;exact mg hl3 hF<|tr (tr (Wj (ka:=false) (va:=false) (e2:=Bt A3 (eL Au)<|B8<|BP e3.1 p R) 7 (Nb (Ef<|BP e3.1 p R).symm) (by kernel_rfl))<|JJ (ek:=(λ k=>.int .i64 k)) (ev:=(λ v=>.sl<|List.map Au v)) 3 7 (B8<|BP e3.1 p R) (B2 w) (by kernel_rfl) (by kernel_rfl))<|gP [0,3,4,34] [0,1,2,3,5]<|po1<|po1<|pn1 (eMr (λ k=>.int .i64 k)<|λ v=>.int .i64 v) h.Before<|pn1 (eMr (λ k=>.int .i64 k)<|λ v=>.sl<|List.map Au v) (List.set K.1 (Int.toNat<|Bj b 5)<|some (false,B8<|BP e3.1 p R))<|po1<|Pl.z)
   ·exact sk<|qN (by cases H;exact mg hl3 hF<|gP [0,3,4,34] [0,1,2,3,5]<|po1<|po1<|pn1 (eMr (λ k=>.int .i64 k)<|λ v=>.int .i64 v) h.Before<|pn1 (eMr (λ k=>.int .i64 k)<|λ v=>.sl<|List.map Au v) K.1<|po1<|Pl.z)
  refine sr<|ck 5<|sp (AQ Bk h.Felt)<|ck 3<|gc 3 (b==((h.Felt.length:Nat):Int))<|ck 1<|bx H λ ai G H=>sE (λ hg=>Bv 1 1<|Dk G hg)<|sE (g:=(b==((h.Felt.length:Nat):Int))) (λ hg=>Cp eB 1 0 (ty 4)<|Dk G hg)<|pA<|en<|cn H (λ H=>?_)<|λ H=>?_
  ·exact rz<|ck 2<|sF<|ck 2<|bx H λ ac T H=>sp (Jao AK 8 T)<|ck 1<|ae<|qs (tr (Xh 4 (by kernel_rfl))<|gP [0,3,4,5,6,7,34] [0,1,2,3,6,4]<|po1<|po1<|pn1 (eMr (λ k=>.int .i64 k)<|λ v=>.int .i64 v) h.Before<|pn1 (eMr (λ k=>.int .i64 k)<|λ v=>.sl<|List.map Au v) i<|po1<|po1<|Pl.z)<|c ac H
  ·exact sk<|qs (tr (tr (Xh 4 (by kernel_rfl))<|Ao.nilo 7 8 (by kernel_rfl))<|gP [0,3,4,5,6,7,34] [0,1,2,3,5,4]<|po1<|po1<|pn1 (eMr (λ k=>.int .i64 k)<|λ v=>.int .i64 v) h.Before<|pn1 (eMr (λ k=>.int .i64 k)<|λ v=>.sl<|List.map Au v) i<|po1<|po1<|Pl.z)<|c ([]:List Ai) H
theorem GW (x:(Ab×(List (Option (Bool×(List (Int×(List Ag))))))×Int)) (z:((Ab×(List (Option (Bool×(List (Int×(List Ag))))))×Int)⊕(Ab×(List (Option (Bool×(List (Int×(List Ag))))))))) (H:Bx n x.1 x.2.1 x.2.2=some z):WP (cxk 123 3) (AN Try.f42) [1,1,0,1,0,0] (AP 3 (D5) (HC) z) (D5 x):=by
 obtain⟨q,u,b⟩:=x;refine sq<|sr<|ck 2<|en<|cn H (λ H=>?_)<|λ H=>?_
 ·refine sk<|qz<|sq<|bk 1<|sq<|bx H λ af A H=>rg (so1 (encN:=(eMr (λ k=>.int .i64 k)<|λ v=>.sl<|List.map Au v)) 3 1 A)<|ck 3<|bx H λ aj U H=>sp (OB 3 1 0 5 (j:=0) U)<|sp (SR (encN:=(eMr (λ k=>.int .i64 k)<|λ v=>.sl<|List.map Au v)) (row:=[JaD (λ k=>.int .i64 k) (λ v=>.sl<|List.map Au v) af]) (row':=[.mp 4]) (k:=3) (sz:=1) (off:=0) (t:=ty 128) (v:=.mp 4) A)<|en<|sq<|bx H λ I B H=>rg (tr (JJ (ek:=(λ k=>.int .i64 k)) (ev:=(λ v=>.sl<|List.map Au v)) 3 4 ([]:(List<|Int×(List Ag))) A (by kernel_rfl) (by kernel_rfl))<|JaE (ek:=(λ k=>.int .i64 k)) (ev:=(λ v=>.int .i64 v)) 2 (HT B) (by kernel_rfl))<|ck 5<|sp (Bv 2 1<|HT B)<|sp (IF (encN:=(eMr (λ k=>.int .i64 k)<|λ v=>.int .i64 v)) (row:=[.fmp<|Gu (λ k=>.int .i64 k) (λ v=>.int .i64 v) I.2]) (k:=2) (sz:=1) (off:=0) (t:=ty 125) (v:=.fmp<|Gu (λ k=>.int .i64 k) (λ v=>.int .i64 v) I.2)<|HT B)<|xr (xok _ _)<|xri (ek:=(λ k=>.int .i64 k)) (ev:=(λ v=>.int .i64 v)) (m:=I.2) 5<|en<|bk 2 ?_;have hD:=SU H;refine lM (F:=(λ (e:(Int×Int)) (x:(Ab×(List<|Option<|Bool×(List<|Int×(List Ag)))))=>Ba n b e x.1 x.2)) (E:=D3) (E0:=DL b) GV (tr (tr (tr (scl (encN:=(eMr (λ k=>.int .i64 k)<|λ v=>.int .i64 v)) (xss:=q.Before) b [.fmp<|Gu (λ k=>.int .i64 k) (λ v=>.int .i64 v) I.2] 1 2<|some (true,I.2))<|sn 30 2 1<|lsS q.Before b.toNat<|some (true,I.2))<|snc 0 5 2 1<|lsS q.Before b.toNat<|some (true,I.2))<|gP [0,3,4,34] [0,1,2,3,5]<|po1<|po1<|pn1 (eMr (λ k=>.int .i64 k)<|λ v=>.int .i64 v) (List.set q.Before b.toNat<|some (true,I.2))<|pn1 (eMr (λ k=>.int .i64 k)<|λ v=>.sl<|List.map Au v) (List.set u (Int.toNat<|Bj b 5)<|some (false,([]:(List<|Int×(List Ag)))))<|po1<|Pl.z) (λ ord ho=>bI<|hD ord ho) (λ ord V ho hy e s hE=>xQ hE<|λ he W=>?_)<|λ ord r ho hy e s hE=>?_
  ·subst he;have H:=bK (hD ord ho) hy;exact qH<|qN<|qs (W)<|rz<|ck 3<|ae (by cases H;exact og<|gP [0,3,4] [0,1,2,3]<|po1<|po1<|pn1 (eMr (λ k=>.int .i64 k)<|λ v=>.int .i64 v) V.1.Before<|pn1 (eMr (λ k=>.int .i64 k)<|λ v=>.sl<|List.map Au v) V.2<|Pl.z)
  ·cases r
 ·exact ex 0<|qx (by cases H;exact xo rfl<|gP [3] [0,1,2,3]<|po1<|po1<|pn1 (eMr (λ k=>.int .i64 k)<|λ v=>.int .i64 v) q.Before<|pn1 (eMr (λ k=>.int .i64 k)<|λ v=>.sl<|List.map Au v) u<|Pl.z)
theorem IT {z} (H:CG n o=some z):Bz Try.prog 42 [.ptr 0 0] [some (.box (An o (.osl 1 1 0 (o.Accepts.length)) (.osl 2 1 0 (o.Before.length)))),some (.arr 1 (o.Accepts.map eB)),some (.narr 1 (List.map (eMr (λ k=>.int .i64 k) (λ v=>.int .i64 v)) o.Before))] 3 (.d (.sl (z.2.map Au))) [some (.box (An z.1 (.osl 1 1 0 (z.1.Accepts.length)) (.osl 2 1 0 (z.1.Before.length)))),some (.arr 1 (z.1.Accepts.map eB)),some (.narr 1 (List.map (eMr (λ k=>.int .i64 k) (λ v=>.int .i64 v)) z.1.Before))]:=by
 exact fL 123 3 (JbO o) Try.func42<|sr<|ck 1<|en<|sr<|ck 1<|en<|sq<|sq<|rg (tr (JfG (ek:=(λ k=>.int .i64 k)) (ev:=(λ v=>.sl<|List.map Au v)) 3 5 (by kernel_rfl))<|JiA 3 3 1 (by kernel_rfl))<|ck 4<|sp (AQ Bk o.Felt)<|ck 1<|en<|bk 0<|bx H λ X Y H=>lX GW Y (gP [0,3,4] [0,1,2,3]<|po1<|po1<|pn1 (eMr (λ k=>.int .i64 k)<|λ v=>.int .i64 v) o.Before<|pn1 (eMr (λ k=>.int .i64 k)<|λ v=>.sl<|List.map Au v) (List.replicate 5 (none:(Option<|Bool×(List<|Int×(List Ag)))))<|Pl.z) rfl λ s Z=>qH<|qs (Z)<|sq<|bx H λ m7 C H=>rg (PO (ek:=(λ k=>.int .i64 k)) (ev:=(λ v=>.sl<|List.map Au v)) 3 (B2 C) (by kernel_rfl))<|bx H λ ak aa H=>sp (OB 3 1 0 5 (j:=0) aa)<|sp (IF (encN:=(eMr (λ k=>.int .i64 k)<|λ v=>.sl<|List.map Au v)) (row:=[.mp 4]) (k:=3) (sz:=1) (off:=0) (t:=ty 128) (v:=.mp 4)<|B2 C)<|sp (Mg (enc:=(eL Au)) (encK:=A3) (ka:=false) (va:=false) (k:=4) (m:=m7) (a:=.d<|.int .i64 0) (key:=0) (z:=([]:(List Ag))) (vz:=[.nil]) YN false)<|ck 1<|en<|re (by cases H;exact pL<|rl (s':=JbP X.1<|Option.getD (AT 0 m7) ([]:(List Ag)))<|tr (JJ (ek:=(λ k=>.int .i64 k)) (ev:=(λ v=>.sl<|List.map Au v)) 3 4 m7 (B2 C) (by kernel_rfl) (by kernel_rfl))<|gP [2] [0,1,2]<|po1<|po1<|pn1 (eMr (λ k=>.int .i64 k)<|λ v=>.int .i64 v) X.1.Before<|Pl.z)
end
section
variable (e:Aa) (h:(List AD)) (i:Int) (j:Int) (b:(Ab×(List Ag))) (a:(List AZ)) (l:Int) (c:(List AZ))
def JgJ:St:=⟨(0,.agg [.d<|.int .i64 e.Modes,.d<|.int .u8 e.Accept,.d<|.sl<|e.Rules.map Ar])::(1,.d<|.sl<|h.map Bk)::(2,.d<|.int .i64 i)::(3,.d<|.int .i64 j)::[],[]⟩
def JgK:St:=⟨(10,.osl 0 3 0<|a.length)::(24,.d<|.sl<|b.2.map Au)::(25,.d<|.int .i64 ((b.2.length:Nat):Int))::(26,.d<|.int .i64 l)::[],[some<|.arr 3<|a.map Bi]⟩
def JgL:St:=⟨(10,.osl 0 3 0<|c.length)::[],[some<|.arr 3<|c.map Bi]⟩
def QU:(List AZ)->Ex->St->Prop:=xX 0 0<|λ (y:(List AZ))=>JgL y
def K0:((List AZ)×Int)->St:=(λ (x:((List AZ)×Int))=>JgK b x.1 x.2)
variable {e h i j b a l c}
theorem P4 (x:((List AZ)×Int)) (z:(((List AZ)×Int)⊕(List AZ))) (H:FE n b x.1 x.2=some z):WP (cxk 43 0) (AN Try.f23) [1,1,1,1,1,0,1,0,0] (AP 0 (K0 b) (QU) z) (K0 b x):=by
 obtain⟨a,l⟩:=x;refine sr<|ck 1<|en<|sq<|cn H (λ H=>?_)<|λ H=>?_
 ·exact sk<|qz<|sq<|bk 1<|sr<|bx H λ A m H=>sp (AF Au m)<|ck 3<|en<|rz<|ck 5<|xsb (xok _ _) A.Cells<|ck 4<|bx H λ B o H=>sp (BJ Bi 0 3 o)<|ck 1<|ae<|qN<|qz<|rz<|ck 2<|ae (by cases H;exact og<|sg [10,24,25,26])
 ·exact ex 0<|qx (by cases H;exact xo rfl<|sg [10])
theorem N6 {z} (H:JN n e h i j=some z):AE Try.prog 23 [.agg (A0 e),.d (.sl (h.map Bk)),.d (.int .i64 i),.d (.int .i64 j)] (.own 3 (z.map Bi)):=by
 refine fO 43 (JgJ e h i j) Try.func23<|sr<|ck 2<|en<|sq<|sr<|ck 1<|bx H λ C p H=>ca false (S9 p)<|ck 1<|en<|cn H (λ H=>?_)<|λ H=>?_
 ·exact sr<|ck 1<|en<|re<|qr (by cases H;exact pr<|rO (v:=.d<|.nil) []<|ad vz)
 ·exact sk<|qz<|sr<|ck 4<|bx H λ E q H=>lt [] (Nn q)<|ck 1<|en<|sr<|ck 1<|bx H λ g r H=>lt [1,2] (Jk r)<|tb (f:=ES<|CA [1,2] 3 2) [some<|.box<|A0 e,some<|.box<|An g (.osl 2 1 0<|g.Accepts.length)<|.osl 3 1 0<|g.Before.length,some<|.arr 1<|g.Accepts.map eB,some<|.narr 1<|List.map (eMr (λ k=>.int .i64 k)<|λ v=>.int .i64 v) g.Before] (po1<|po1<|po1<|pn1 (eMr (λ k=>.int .i64 k)<|λ v=>.int .i64 v) g.Before<|Pl.z)<|en<|sr<|ck 1<|en<|sq<|sr<|ck 1<|bx H λ b t H=>ltP [1,2,3] (IT t) (po1<|po1<|pn1 (eMr (λ k=>.int .i64 k)<|λ v=>.int .i64 v) g.Before<|Pl.z)<|tb (f:=ES<|CA [1,2,3] 4 3) [some<|.box<|A0 e,some<|.box<|An b.1 (.osl 2 1 0<|b.1.Accepts.length)<|.osl 3 1 0<|b.1.Before.length,some<|.arr 1<|b.1.Accepts.map eB,some<|.narr 1<|List.map (eMr (λ k=>.int .i64 k)<|λ v=>.int .i64 v) b.1.Before] (po1<|po1<|po1<|pn1 (eMr (λ k=>.int .i64 k)<|λ v=>.int .i64 v) b.1.Before<|Pl.z)<|sp (AQ Au b.2)<|ck 1<|en<|bk 0<|bx H λ G u H=>lX P4 u (tr (Ao.nilo 10 3 (by kernel_rfl))<|sg [10,24,25,26]) rfl λ s w=>qH<|qs (w)<|sr<|ck 2<|en<|re (by cases H;exact pr<|rO (v:=.osl 0 3 0<|z.length) [0]<|ao vo)
end
section
variable (a:Aa) (b:(List AD)) (c:Int)
def JgM:St:=⟨(0,.agg [.d<|.int .i64 a.Modes,.d<|.int .u8 a.Accept,.d<|.sl<|a.Rules.map Ar])::(1,.d<|.sl<|b.map Bk)::(2,.d<|.int .i64 c)::[],[]⟩
variable {a b c}
theorem Ct {z} (H:BC n a b c=some z):AE Try.prog 10 [.agg (A0 a),.d (.sl (b.map Bk)),.d (.int .i64 c)] (.tup [.own 3 (z.1.map Bi),.d (.int .i64 z.2)]):=by
 refine fO 19 (JgM a b c) Try.func10<|sr<|ck 3<|en<|sq<|sr<|ck 2<|en<|cn H (λ H=>?_)<|λ H=>?_
 ·exact sr<|ck 2<|en<|re<|qr (by cases H;exact pr<|rT (vs:=[.d<|.nil,.d<|.int .i64 1]) []<|t1 (ad vz)<|t1 (ad vd)<|t0)
 ·refine sk<|qz<|sr<|ck 3<|bx H λ e f H=>cl [List.length e] (N6 f)<|ck 1<|en<|sq<|sr<|ck 3<|en<|cn H (λ H=>?_)<|λ H=>?_
  ·exact sr<|ck 2<|en<|re<|qr (by cases H;exact pr<|rT (vs:=[.d<|.nil,.d<|.int .i64 2]) []<|t1 (ad vz)<|t1 (ad vd)<|t0)
  ·exact sk<|qz<|sr<|ck 3<|en<|re (by cases H;exact pr<|rT (vs:=[.osl 1 3 0<|e.length,.d<|.int .i64 0]) [1]<|t1 (ao vo)<|t1 (ad vd)<|t0)
end
section
variable (a:Aa) (b:(List AD)) (c:Int)
def JgN:St:=⟨(0,.agg [.d<|.int .i64 a.Modes,.d<|.int .u8 a.Accept,.d<|.sl<|a.Rules.map Ar])::(1,.d<|.sl<|b.map Bk)::(2,.d<|.int .i64 c)::[],[]⟩
variable {a b c}
theorem N7 {z} (H:Gx n a b c=some z):AE Try.prog 11 [.agg (A0 a),.d (.sl (b.map Bk)),.d (.int .i64 c)] (.tup [.agg [.d (.str z.1.Text),.d (.sl (z.1.Cells.map eU8)),.d (.int .i64 z.1.Cost)],.d (.bool z.2)]):=by
 refine fO 23 (JgN a b c) Try.func11<|sr<|ck 3<|en<|sq<|sr<|ck 2<|en<|cn H (λ H=>?_)<|λ H=>?_
 ·exact sr<|ck 3<|en<|re<|qr (by cases H;exact pr<|rT (vs:=[.agg [.d<|.str [],.d<|.nil,.d<|.int .i64 0],.d<|.bool false]) []<|t1 (a1<|c1 vd<|c1 vn<|c1 vd<|c0)<|t1 (ad vd)<|t0)
 ·refine sk<|qz<|sr<|ck 3<|bx H λ g e H=>ca false (N6 e)<|ck 1<|en<|sq<|sr<|ck 1<|sp (AQ Bi g)<|ck 1<|en<|cn H (λ H=>?_)<|λ H=>?_
  ·exact sr<|ck 3<|en<|re<|qr (by cases H;exact pr<|rT (vs:=[.agg [.d<|.str [],.d<|.nil,.d<|.int .i64 0],.d<|.bool false]) []<|t1 (a1<|c1 vd<|c1 vn<|c1 vd<|c0)<|t1 (ad vd)<|t0)
  ·exact sk<|qz<|sr<|ck 1<|bx H λ h f H=>sp (AF Bi f)<|ck 3<|en<|re (by cases H;exact pr rdT)
end
section
variable (a:(List Int)) (b:(List Int)) (e:Int)
def JgO:St:=⟨(0,.d<|.sl<|a.map eU8)::(1,.d<|.sl<|b.map eU8)::[],[]⟩
def JgP:St:=⟨(0,.d<|.sl<|a.map eU8)::(1,.d<|.sl<|b.map eU8)::(5,.d<|.int .i64 e)::[],[]⟩
def JgQ:St:=⟨[],[]⟩
def Lw:(Unit⊕Bool)->Ex->St->Prop:=xS (xX 0 0<|λ (_:Unit)=>JgQ)<|xR ty Try.f24<|λ (y:Bool)=>.d<|.bool y
def GH:Int->St:=(λ (x:Int)=>JgP a b x)
variable {a b e}
theorem FW (x:Int) (z:(Int⊕(Unit⊕Bool))) (H:DF n a b x=some z):WP (cxk 26 0) (AN Try.f24) [1,1,0,1,0,0] (AP 0 (GH a b) (Lw) z) (GH a b x):=by
 revert H;generalize x=e;intro H;refine sq<|sr<|ck 2<|sp (AQ eU8 a)<|ck 1<|en<|cn H (λ H=>?_)<|λ H=>?_
 ·refine sk<|qz<|sq<|bk 1<|sr<|ck 2<|bx H λ k f H=>sp (AF eU8 f)<|ck 3<|bx H λ l g H=>sp (AF eU8 g)<|ck 2<|en<|cn H (λ H=>?_)<|λ H=>?_
  ·exact sr<|ck 1<|en<|re<|qR<|qr (by cases H;exact ro rfl rd)
  ·exact sk<|qN<|qz<|rz<|ck 3<|ae (by cases H;exact og<|sg [0,1,5])
 ·exact ex 0<|qx (by cases H;exact xo rfl<|sg [])
theorem H7 {z} (H:DV n a b=some z):AE Try.prog 24 [.d (.sl (a.map eU8)),.d (.sl (b.map eU8))] (.d (.bool z)):=by
 refine fO 26 (JgO a b) Try.func24<|sr<|ck 1<|en<|sq<|sr<|ck 1<|sp (AQ eU8 a)<|ck 1<|sp (AQ eU8 b)<|ck 1<|en<|cn H (λ H=>?_)<|λ H=>?_
 ·exact sr<|ck 1<|en<|re<|qr (by cases H;exact pr rd)
 ·refine sk<|qz<|sq<|sr<|ck 1<|en<|bk 0<|bx H λ j c H=>?_;rcases j with m|o
  ·exact lX FW c (sg [0,1,5]) rfl λ s h=>qH<|qs (h)<|sr<|ck 1<|en<|re (by cases H;exact pr rd)
  ·exact lR FW c (sg [0,1,5]) rfl λ s i=>qR<|qr (by cases H;exact pr i)
end
section
variable (a:AZ) (b:AZ)
def JgR:St:=⟨(0,.agg [.d<|.str a.Text,.d<|.sl<|a.Cells.map eU8,.d<|.int .i64 a.Cost])::(1,.agg [.d<|.str b.Text,.d<|.sl<|b.Cells.map eU8,.d<|.int .i64 b.Cost])::[],[]⟩
variable {a b}
theorem UL {z} (H:Mj n a b=some z):AE Try.prog 12 [.agg (S3 a),.agg (S3 b)] (.d (.bool z)):=by
 exact fO 24 (JgR a b) Try.func12<|sr<|ck 3<|en<|sr<|ck 7<|gc 1 (a.Text==b.Text)<|ck 1<|gc 2 (a.Text==b.Text)<|pA<|ck 2<|gc 1 ((a.Text==b.Text)&&(a.Cost==b.Cost))<|ck 1<|gc 1 ((a.Text==b.Text)&&(a.Cost==b.Cost))<|bx H λ e c H=>cG false (leZ) rfl (λ hg=>H7<|Dk c hg) (Or.inl rfl) (Dj (λ hh=>hh)<|Dj (λ hh=>hh)<|GT) rfl<|pA<|ck 1<|en<|re (by cases H;exact pr rd)
end
section
variable (a:(List AZ)) (b:(List AZ)) (e:Int)
def JgS:St:=⟨(0,.d<|.sl<|a.map Bi)::(1,.d<|.sl<|b.map Bi)::[],[]⟩
def JgT:St:=⟨(0,.d<|.sl<|a.map Bi)::(1,.d<|.sl<|b.map Bi)::(5,.d<|.int .i64 e)::[],[]⟩
def JgU:St:=⟨[],[]⟩
def Nq:(Unit⊕Bool)->Ex->St->Prop:=xS (xX 0 0<|λ (_:Unit)=>JgU)<|xR ty Try.f14<|λ (y:Bool)=>.d<|.bool y
def H8:Int->St:=(λ (x:Int)=>JgT a b x)
variable {a b e}
theorem Hn (x:Int) (z:(Int⊕(Unit⊕Bool))) (H:Dx n a b x=some z):WP (cxk 27 0) (AN Try.f14) [1,1,0,1,0,0] (AP 0 (H8 a b) (Nq) z) (H8 a b x):=by
 revert H;generalize x=e;intro H;refine sq<|sr<|ck 2<|sp (AQ Bi a)<|ck 1<|en<|cn H (λ H=>?_)<|λ H=>?_
 ·refine sk<|qz<|sq<|bk 1<|sr<|ck 2<|bx H λ l f H=>sp (AF Bi f)<|ck 3<|bx H λ m g H=>sp (AF Bi g)<|ck 1<|bx H λ o h H=>ca false (UL h)<|ck 1<|en<|cn H (λ H=>?_)<|λ H=>?_
  ·exact sr<|ck 1<|en<|re<|qR<|qr (by cases H;exact ro rfl rd)
  ·exact sk<|qN<|qz<|rz<|ck 3<|ae (by cases H;exact og<|sg [0,1,5])
 ·exact ex 0<|qx (by cases H;exact xo rfl<|sg [])
theorem GI {z} (H:Em n a b=some z):AE Try.prog 14 [.d (.sl (a.map Bi)),.d (.sl (b.map Bi))] (.d (.bool z)):=by
 refine fO 27 (JgS a b) Try.func14<|sr<|ck 1<|en<|sq<|sr<|ck 1<|sp (AQ Bi a)<|ck 1<|sp (AQ Bi b)<|ck 1<|en<|cn H (λ H=>?_)<|λ H=>?_
 ·exact sr<|ck 1<|en<|re<|qr (by cases H;exact pr rd)
 ·refine sk<|qz<|sq<|sr<|ck 1<|en<|bk 0<|bx H λ k c H=>?_;rcases k with p|q
  ·exact lX Hn c (sg [0,1,5]) rfl λ s i=>qH<|qs (i)<|sr<|ck 1<|en<|re (by cases H;exact pr rd)
  ·exact lR Hn c (sg [0,1,5]) rfl λ s j=>qR<|qr (by cases H;exact pr j)
end
section
variable (f:Aa) (c:(List AD)) (o:Int) (i:(List AD))
def Jjq:St:=⟨[],[]⟩
def Jjr:St:=⟨(1,.ptr 0 0)::(2,.osl 1 2 0<|List.length [({ Up:=3,Maybe:=0 }:AD)])::(3,.osl 2 2 0<|c.length)::(4,.d<|.int .i64 o)::[],[some<|.box<|A0 f,some<|.arr 2<|List.map Bk [({ Up:=3,Maybe:=0 }:AD)],some<|.arr 2<|c.map Bk]⟩
def Jjs:St:=⟨(1,.ptr 0 0)::(2,.osl 1 2 0<|List.length [({ Up:=3,Maybe:=0 }:AD)])::(3,.osl 2 2 0<|i.length)::[],[some<|.box<|A0 f,some<|.arr 2<|List.map Bk [({ Up:=3,Maybe:=0 }:AD)],some<|.arr 2<|i.map Bk]⟩
def Oj:(List AD)->Ex->St->Prop:=xX 0 0<|λ (y:(List AD))=>Jjs f y
def I9:((List AD)×Int)->St:=(λ (x:((List AD)×Int))=>Jjr f x.1 x.2)
variable {f c o i}
theorem Nr (x:((List AD)×Int)) (z:(((List AD)×Int)⊕(List AD))) (H:DW n f x.1 x.2=some z):WP (cxk 148 0) (AN Try.f7) [1,1,1,0,1,0,0] (AP 0 (I9 f) (Oj f) z) (I9 f x):=by
 obtain⟨c,o⟩:=x;refine sq<|sr<|ck 2<|en<|cn H (λ H=>?_)<|λ H=>?_
 ·exact sk<|qz<|sq<|bk 1<|rz<|ck 3<|bx H λ P p H=>sp (BJ Bk 2 2 p)<|ck 1<|ae<|qN<|qz<|rz<|ck 3<|ae (by cases H;exact og<|sg [1,2,3,4])
 ·exact ex 0<|qx (by cases H;exact xo rfl<|sg [1,2,3])
theorem QV {z} (H:IJ n=some z):AE Try.prog 7 [] (.d (.bool z)):=by
 exact fO 148 Jjq Try.func7<|sr<|ck 1<|en<|sr<|bx H λ f q H=>ca false (N4 q)<|ck 2<|en<|sr<|ck 5<|en<|sq<|sr<|ck 1<|en<|bk 0<|bx H λ M r H=>lX Nr r (sg [1,2,3,4]) rfl λ s t=>qH<|qs (t)<|sr<|ck 8<|en<|sq<|rg (fz (enc:=Bk) (xs:=([({ Up:=3,Maybe:=0 }:AD)])) 2 1 2)<|ck 2<|bx H λ b u H=>ca false (Ct u)<|ck 5<|en<|sr<|ck 2<|bx H λ h v H=>ca false (Ct v)<|ck 5<|en<|sr<|ck 2<|sF<|bx H λ a w H=>ca false (Ct w)<|ck 5<|en<|sq<|rg (fz (enc:=Bk) (xs:=M) 3 2 2)<|ck 2<|bx H λ l A H=>ca false (Ct A)<|ck 5<|en<|sr<|ck 2<|bx H λ m B H=>ca false (Ct B)<|ck 5<|en<|sr<|ck 2<|bx H λ k C H=>ca false (N7 C)<|ck 6<|en<|sr<|ck 2<|sF<|bx H λ E G H=>ca false (N7 G)<|ck 6<|en<|sr<|ck 1<|bx H λ O I H=>ca false (Ct I)<|ck 5<|en<|sq<|rg (tr (fzc (enc:=eU8) (xs:=[3]) 5 1 3 1)<|fzc (enc:=eU8) (xs:=[1]) 6 1 4 1)<|ck 5<|gc 1 (b.2==0)<|bx H λ e J H=>cG (ks:=[9]) (obl:=[(0+List.length ([({ Text:=[98],Cells:=[3],Cost:=0 }:AZ)]),List.length<|List.map Bi<|[({ Text:=[98],Cells:=[3],Cost:=0 }:AZ)])]) false (leK leM<|leZ) (G5 rfl<|G5 PI rfl) (λ hg=>GI<|Dk J hg) (Or.inr trivial) (Dj (λ hh=>hh)<|Dj (λ hh=>hh)<|GT) rfl<|pA<|ck 2<|gc 1 ((b.2==0)&&e)<|pA<|ck 4<|gc 1 (((b.2==0)&&e)&&(h.2==0))<|bx H λ j K H=>cG (ks:=[10]) (obl:=[(0+List.length ([({ Text:=[98],Cells:=[3],Cost:=0 }:AZ),({ Text:=[97],Cells:=[1],Cost:=1 }:AZ)]),List.length<|List.map Bi<|[({ Text:=[98],Cells:=[3],Cost:=0 }:AZ),({ Text:=[97],Cells:=[1],Cost:=1 }:AZ)])]) false (leK leM<|leZ) (G5 rfl<|G5 PI rfl) (λ hg=>GI<|Dk K hg) (Or.inr trivial) (Dj (λ hh=>hh)<|Dj (λ hh=>hh)<|GT) rfl<|pA<|ck 2<|gc 1 ((((b.2==0)&&e)&&(h.2==0))&&j)<|pA<|ck 2<|sE (g:=(((((b.2==0)&&e)&&(h.2==0))&&j)&&(a.2==0))) (λ hg=>AQ Bi a.1)<|gc 1 (((((b.2==0)&&e)&&(h.2==0))&&j)&&(a.2==0))<|pA<|ck 1<|en<|sr<|ck 3<|gc 1 ((((((b.2==0)&&e)&&(h.2==0))&&j)&&(a.2==0))&&(((a.1.length:Nat):Int)==3))<|pA<|ck 2<|gc 1 (((((((b.2==0)&&e)&&(h.2==0))&&j)&&(a.2==0))&&(((a.1.length:Nat):Int)==3))&&(l.2==2))<|pA<|ck 2<|pA<|ck 2<|gc 2 (((((((((b.2==0)&&e)&&(h.2==0))&&j)&&(a.2==0))&&(((a.1.length:Nat):Int)==3))&&(l.2==2))&&(m.2==1))&&k.2)<|pA<|ck 2<|gc 1 ((((((((((b.2==0)&&e)&&(h.2==0))&&j)&&(a.2==0))&&(((a.1.length:Nat):Int)==3))&&(l.2==2))&&(m.2==1))&&k.2)&&(k.1.Text==[97,97,97,97,97]))<|pA<|ck 2<|gc 1 (((((((((((b.2==0)&&e)&&(h.2==0))&&j)&&(a.2==0))&&(((a.1.length:Nat):Int)==3))&&(l.2==2))&&(m.2==1))&&k.2)&&(k.1.Text==[97,97,97,97,97]))&&(!E.2))<|pA<|ck 3<|gc 1 ((((((((((((b.2==0)&&e)&&(h.2==0))&&j)&&(a.2==0))&&(((a.1.length:Nat):Int)==3))&&(l.2==2))&&(m.2==1))&&k.2)&&(k.1.Text==[97,97,97,97,97]))&&(!E.2))&&(O.2==0))<|bx H λ Q L H=>cG (ks:=[11]) (obl:=[(0+List.length ([({ Text:=[],Cells:=[],Cost:=0 }:AZ)]),List.length<|List.map Bi<|[({ Text:=[],Cells:=[],Cost:=0 }:AZ)])]) false (leK leM<|leZ) (G5 rfl<|G5 PI rfl) (λ hg=>GI<|Dk L hg) (Or.inr trivial) (Dj (λ hh=>hh)<|Dj (λ hh=>hh)<|GT) rfl<|pA<|ck 1<|en<|re (by cases H;exact pr rd)
end
section
variable (a:CD) (g:Int) (b:Az) (h:Int) (e:Az) (c:Az) (i:Int) (f:Az)
def JgV:St:=⟨(0,.agg [.d<|.sl<|a.P.map eU8,.d<|.sl<|a.C.map eU8,.d<|.int .u8 a.L,.d<|.int .u8 a.R,.d<|.int .u8 a.W.a0,.d<|.int .u8 a.W.a1])::(1,.d<|.int .i64 g)::[],[]⟩
def JgW:St:=⟨(2,.ptr 0 0)::(4,.ptr 1 0)::(5,.d<|.str [97,98,99,65,66,49,50,45,46])::(7,.ptr 2 0)::(8,.d<|.int .i64 h)::[],[some<|.box<|Mr a,some<|.box [.d<|.str [],.osl 3 1 0<|List.length ([]:List Int),.d<|.int .u8 0,.d<|.int .u8 0,.d<|.int .i64 0,.d<|.int .i64 0],some<|.box<|OG b<|.osl 4 1 0<|b.Cells.length,some<|.arr 1<|List.map eU8 ([]:List Int),some<|.arr 1<|b.Cells.map eU8]⟩
def JgX:St:=⟨(2,.ptr 0 0)::(4,.ptr 1 0)::(7,.ptr 2 0)::[],[some<|.box<|Mr a,some<|.box [.d<|.str [],.osl 3 1 0<|List.length ([]:List Int),.d<|.int .u8 0,.d<|.int .u8 0,.d<|.int .i64 0,.d<|.int .i64 0],some<|.box<|OG e<|.osl 4 1 0<|e.Cells.length,some<|.arr 1<|List.map eU8 ([]:List Int),some<|.arr 1<|e.Cells.map eU8]⟩
def QX:Az->Ex->St->Prop:=xX 0 0<|λ (y:Az)=>JgX a y
def K1:(Az×Int)->St:=(λ (x:(Az×Int))=>JgW a x.1 x.2)
def JgY:St:=⟨(2,.ptr 0 0)::(4,.ptr 1 0)::(7,.ptr 2 0)::(10,.osl 3 1 0<|List.length [1,3,9,5,7,32,44,60])::(11,.d<|.int .i64 i)::[],[some<|.box<|Mr a,some<|.box [.d<|.str [],.osl 4 1 0<|List.length ([]:List Int),.d<|.int .u8 0,.d<|.int .u8 0,.d<|.int .i64 0,.d<|.int .i64 0],some<|.box<|OG c<|.osl 5 1 0<|c.Cells.length,some<|.arr 1<|List.map eU8 [1,3,9,5,7,32,44,60],some<|.arr 1<|List.map eU8 ([]:List Int),some<|.arr 1<|c.Cells.map eU8]⟩
def JgZ:St:=⟨(4,.ptr 0 0)::(7,.ptr 1 0)::[],[some<|.box [.d<|.str [],.osl 2 1 0<|List.length ([]:List Int),.d<|.int .u8 0,.d<|.int .u8 0,.d<|.int .i64 0,.d<|.int .i64 0],some<|.box<|OG f<|.osl 3 1 0<|f.Cells.length,some<|.arr 1<|List.map eU8 ([]:List Int),some<|.arr 1<|f.Cells.map eU8]⟩
def QY:Az->Ex->St->Prop:=xX 0 2<|λ (y:Az)=>JgZ y
def K2:(Az×Int)->St:=(λ (x:(Az×Int))=>JgY a x.1 x.2)
variable {a g b h e c i f}
theorem P5 (x:(Az×Int)) (z:((Az×Int)⊕Az)) (H:Eo n a x.1 x.2=some z):WP (cxk 101 0) (AN Try.f21) [1,1,1,0,1,0,0] (AP 0 (K1 a) (QX a) z) (K1 a x):=by
 obtain⟨b,h⟩:=x;refine sq<|sr<|ck 3<|sp (AQ eU8 a.P)<|ck 3<|gc 1 (decide<|h<((a.P.length:Nat):Int))<|pA<|en<|cn H (λ H=>?_)<|λ H=>?_
 ·exact sk<|qz<|sq<|bk 1<|sr<|ck 3<|bx H λ I o H=>sp (AF eU8 o)<|ck 4<|en<|rz<|ck 6<|bx H λ Y p H=>sp (JdK p)<|bx H λ Z q H=>sp (SQ q)<|ck 2<|ae<|qN<|qz<|rz<|ck 3<|ae (by cases H;exact og<|sg [2,4,5,7,8])
 ·exact ex 0<|qx (by cases H;exact xo rfl<|sg [2,4,7])
theorem P6 (x:(Az×Int)) (z:((Az×Int)⊕Az)) (H:CU n a x.1 x.2=some z):WP (cxk 101 0) (AN Try.f21) [1,1,1,1,1,1,0,1,0,0] (AP 0 (K2 a) (QY) z) (K2 a x):=by
 obtain⟨c,i⟩:=x;refine sq<|sr<|ck 3<|sp (AQ eU8 a.C)<|ck 3<|gc 1 (decide<|i<((a.C.length:Nat):Int))<|pA<|en<|cn H (λ H=>?_)<|λ H=>?_
 ·exact sk<|qz<|sq<|bk 3<|rz<|ck 6<|bx H λ J r H=>sp (AF eU8 r)<|ck 2<|bx H λ K j H=>sp (Bv 3 1 j)<|sp (Cp eU8 3 0 (ty 60) j)<|ck 1<|bx H λ M t H=>sp (BJ eU8 5 1 t)<|ck 2<|ae<|qN<|qz<|rz<|ck 3<|ae (by cases H;exact og<|sg [2,4,7,10,11])
 ·exact ex 2<|qx (by cases H;exact xo rfl<|sg [4,7])
theorem UM {z} (H:HV n a g=some z):AE Try.prog 21 [.agg (Mr a),.d (.int .i64 g)] (.agg [.d (.str z.Print),.own 1 (z.Cells.map eU8),.d (.int .u8 z.Left),.d (.int .u8 z.Right),.d (.int .i64 z.From),.d (.int .i64 z.To)]):=by
 exact fO 101 (JgV a g) Try.func21<|sr<|ck 2<|en<|sr<|ck 3<|en<|sr<|ck 4<|bx H λ O k H=>sp (Bv 2 1 k)<|sp (Cp eU8 2 0 (ty 5) k)<|ck 4<|bx H λ Q l H=>sp (Bv 2 1 l)<|sp (Cp eU8 2 0 (ty 5) l)<|ck 5<|bx H λ S u H=>so (Uv u)<|ck 5<|bx H λ T w H=>so (Uv w)<|ck 3<|en<|sq<|sr<|ck 1<|en<|bk 0<|bx H λ U A H=>lX P5 A (tr (tr (F4 1 1 1 (by kernel_rfl))<|F4 3 1 1 (by kernel_rfl))<|sg [2,4,5,7,8]) rfl λ s B=>qH<|qs (B)<|sr<|ck 2<|en<|sr<|ck 5<|bx H λ V m H=>sp (Bv 5 1 m)<|sp (Cp eU8 5 0 (ty 60) m)<|ck 3<|en<|sq<|sr<|ck 1<|en<|bk 2<|bx H λ X E H=>lX P6 E (sg [2,4,7,10,11]) rfl λ s G=>qH<|qs (G)<|sr<|ck 2<|en<|re (by cases H;exact pr<|rO (v:=.agg [.d<|.str z.Print,.osl 3 1 0<|z.Cells.length,.d<|.int .u8 z.Left,.d<|.int .u8 z.Right,.d<|.int .i64 z.From,.d<|.int .i64 z.To]) [3]<|a1<|c1 vd<|c1 vo<|c1 vd<|c1 vd<|c1 vd<|c1 vd<|c0)
end
section
variable (a:Int)
def Jg0:St:=⟨(0,.d<|.int .u8 a)::[],[]⟩
variable {a}
theorem Ns {z} (H:Hv n a=some z):AE Try.prog 89 [.d (.int .u8 a)] (.d (.bool z)):=by
 exact fO 11 (Jg0 a) Try.func89<|sr<|ck 1<|en<|sr<|ck 5<|gc 2 (decide<|Ca .u8 a 127>=32)<|pA<|ck 1<|en<|re (by cases H;exact pr rd)
end
section
variable (a:(List UInt8)) (b:Int)
def Jg1:St:=⟨(0,.d<|.str a)::[],[]⟩
def Jg2:St:=⟨(0,.d<|.str a)::(4,.d<|.int .i64 b)::[],[]⟩
def Jg3:St:=⟨(0,.d<|.str a)::[],[]⟩
def QZ:(Unit⊕(Int×Int))->Ex->St->Prop:=xS (xX 0 0<|λ (_:Unit)=>Jg3 a)<|xR ty Try.f77<|λ (y:(Int×Int))=>.tup [.d<|.int .i64 y.1,.d<|.int .i64 y.2]
def K3:Int->St:=(λ (x:Int)=>Jg2 a x)
variable {a b}
theorem JZ (x:Int) (z:(Int⊕(Unit⊕(Int×Int)))) (H:Hc n a x=some z):WP (cxk 19 0) (AN Try.f77) [1,0,1,0,0] (AP 0 (K3 a) (QZ a) z) (K3 a x):=by
 revert H;generalize x=b;intro H;refine sq<|sr<|ck 4<|en<|cn H (λ H=>?_)<|λ H=>?_
 ·refine sk<|qz<|sq<|bk 1<|sr<|ck 2<|bx H λ m e H=>sp (Fj e)<|bx H λ j f H=>ca false (Ns f)<|ck 1<|en<|cn H (λ H=>?_)<|λ H=>?_
  ·exact sr<|ck 3<|en<|re<|qR<|qr (by cases H;exact ro rfl rdT)
  ·exact sk<|qN<|qz<|rz<|ck 3<|ae (by cases H;exact og<|sg [0,4])
 ·exact ex 0<|qx (by cases H;exact xo rfl<|sg [0])
theorem UN {z} (H:Mk n a=some z):AE Try.prog 77 [.d (.str a)] (.tup [.d (.int .i64 z.1),.d (.int .i64 z.2)]):=by
 refine fO 19 (Jg1 a) Try.func77<|sr<|ck 2<|en<|sq<|sr<|ck 1<|en<|bk 0<|bx H λ i c H=>?_;rcases i with k|l
 ·exact lX JZ c (sg [0,4]) rfl λ s g=>qH<|qs (g)<|sr<|ck 4<|en<|re (by cases H;exact pr rdT)
 ·exact lR JZ c (sg [0,4]) rfl λ s h=>qR<|qr (by cases H;exact pr h)
end
section
variable (a:(List UInt8))
def Jg4:St:=⟨(0,.d<|.str a)::[],[]⟩
variable {a}
theorem Q0 {z} (H:IK n a=some z):AE Try.prog 59 [.d (.str a)] (.d (.bool z)):=by
 exact fO 12 (Jg4 a) Try.func59<|sr<|ck 1<|en<|sr<|ck 1<|bx H λ c b H=>ca false (UN b)<|ck 5<|en<|sr<|ck 3<|en<|re (by cases H;exact pr rd)
end
section
variable (a:Int)
def Jg5:St:=⟨(0,.d<|.int .u8 a)::[],[]⟩
variable {a}
theorem Tc {z} (H:Ni n a=some z):AE Try.prog 60 [.d (.int .u8 a)] (.d (.bool z)):=by
 exact fO 6 (Jg5 a) Try.func60<|sr<|ck 1<|en<|sr<|ck 4<|en<|re (by cases H;exact pr rd)
end
section
variable (a:Az) (f:Int) (c:Bool) (k:Int) (h:Bool) (e:Bool) (b:Bool) (l:Int) (i:Bool)
def Jg6:St:=⟨(0,.agg [.d<|.str a.Print,.d<|.sl<|a.Cells.map eU8,.d<|.int .u8 a.Left,.d<|.int .u8 a.Right,.d<|.int .i64 a.From,.d<|.int .i64 a.To])::(1,.d<|.int .i64 f)::[],[]⟩
def Jg7:St:=⟨(2,.ptr 0 0)::(5,.d<|.bool c)::(6,.d<|.bool false)::(7,.d<|.int .i64 k)::[],[some<|.box<|HX a]⟩
def Jg8:St:=⟨(2,.ptr 0 0)::(5,.d<|.bool h)::(6,.d<|.bool false)::[],[some<|.box<|HX a]⟩
def P7:Bool->Ex->St->Prop:=xX 0 0<|λ (y:Bool)=>Jg8 a y
def J0:(Bool×Int)->St:=(λ (x:(Bool×Int))=>Jg7 a x.1 x.2)
def Jg9:St:=⟨(2,.ptr 0 0)::(5,.d<|.bool e)::(6,.d<|.bool b)::(8,.d<|.int .i64 l)::[],[some<|.box<|HX a]⟩
def Jha:St:=⟨(2,.ptr 0 0)::(5,.d<|.bool e)::(6,.d<|.bool i)::[],[some<|.box<|HX a]⟩
def P8:(Bool⊕Bool)->Ex->St->Prop:=xS (xX 0 2<|λ (y:Bool)=>Jha a e y)<|xR ty Try.f50<|λ (y:Bool)=>.d<|.bool y
def J1:(Bool×Int)->St:=(λ (x:(Bool×Int))=>Jg9 a e x.1 x.2)
variable {a f c k h e b l i}
theorem Ok (x:(Bool×Int)) (z:((Bool×Int)⊕Bool)) (H:DG n a x.1 x.2=some z):WP (cxk 125 0) (AN Try.f50) [1,1,1,1,0,1,0,0] (AP 0 (J0 a) (P7 a) z) (J0 a x):=by
 obtain⟨c,k⟩:=x;refine sq<|sr<|ck 5<|en<|cn H (λ H=>?_)<|λ H=>?_
 ·exact sk<|qz<|sq<|bk 1<|rz<|ck 3<|gc 1 (!c)<|ck 1<|bx H λ K o H=>sE (λ hg=>Fj<|Dk o hg)<|bx H λ C p H=>cG false (leZ) rfl (λ hg=>Tc<|Dk p hg) (Or.inl rfl) (Dj (λ hh=>hh)<|GT) rfl<|pO<|ck 1<|ae<|qN<|qz<|rz<|ck 3<|ae (by cases H;exact og<|sg [2,5,6,7])
 ·exact ex 0<|qx (by cases H;exact xo rfl<|sg [2,5,6])
theorem Ja (x:(Bool×Int)) (z:((Bool×Int)⊕(Bool⊕Bool))) (H:C4 n a e x.1 x.2=some z):WP (cxk 125 0) (AN Try.f50) [1,1,1,1,1,0,1,0,0] (AP 0 (J1 a e) (P8 a e) z) (J1 a e x):=by
 obtain⟨b,l⟩:=x;refine sq<|sr<|ck 3<|sp (AQ eU8 a.Cells)<|ck 1<|en<|cn H (λ H=>?_)<|λ H=>?_
 ·refine sk<|qz<|sq<|bk 3<|sq<|sr<|ck 3<|bx H λ E q H=>sp (AF eU8 q)<|ck 2<|en<|cn H (λ H=>?_)<|λ H=>?_
  ·exact sr<|ck 1<|en<|re<|qr<|qR<|qr (by cases H;exact ro rfl rd)
  ·exact sk<|qz<|rz<|ck 3<|gc 1 (!b)<|ck 1<|bx H λ G r H=>sE (λ hg=>AF eU8<|Dk r hg)<|gc 2 (!b)<|pO<|ck 1<|ae<|qN<|qz<|rz<|ck 3<|ae (by cases H;exact og<|sg [2,5,6,8])
 ·exact ex 2<|qx (by cases H;exact xo rfl<|sg [2,5,6])
theorem Td {z} (H:Kt n a f=some z):AE Try.prog 50 [.agg (HX a),.d (.int .i64 f)] (.d (.bool z)):=by
 refine fO 125 (Jg6 a f) Try.func50<|sr<|ck 2<|en<|sq<|sr<|ck 2<|bx H λ j t H=>ca false (Q0 t)<|ck 3<|gc 3 (!(!j))<|pO<|ck 2<|gc 1 (!((!j)||(decide<|((a.Print.length:Nat):Int)>4)))<|sE (g:=(!((!j)||(decide<|((a.Print.length:Nat):Int)>4)))) (λ hg=>AQ eU8 a.Cells)<|gc 1 (!((!j)||(decide<|((a.Print.length:Nat):Int)>4)))<|pO<|ck 2<|gc 1 (!(((!j)||(decide<|((a.Print.length:Nat):Int)>4))||(decide<|((a.Cells.length:Nat):Int)<1)))<|sE (g:=(!(((!j)||(decide<|((a.Print.length:Nat):Int)>4))||(decide<|((a.Cells.length:Nat):Int)<1)))) (λ hg=>AQ eU8 a.Cells)<|gc 1 (!(((!j)||(decide<|((a.Print.length:Nat):Int)>4))||(decide<|((a.Cells.length:Nat):Int)<1)))<|pO<|en<|cn H (λ H=>?_)<|λ H=>?_
 ·exact sr<|ck 1<|en<|re<|qr (by cases H;exact pr rd)
 ·refine sk<|qz<|sq<|sr<|ck 5<|gc 2 (!(decide<|a.Left<1))<|pO<|ck 2<|gc 2 (!((decide<|a.Left<1)||(decide<|a.Left>63)))<|pO<|ck 2<|gc 2 (!(((decide<|a.Left<1)||(decide<|a.Left>63))||(decide<|a.Right<1)))<|pO<|ck 2<|gc 2 (!((((decide<|a.Left<1)||(decide<|a.Left>63))||(decide<|a.Right<1))||(decide<|a.Right>63)))<|pO<|ck 2<|gc 1 (!(((((decide<|a.Left<1)||(decide<|a.Left>63))||(decide<|a.Right<1))||(decide<|a.Right>63))||(decide<|a.From<0)))<|ck 1<|gc 1 (!(((((decide<|a.Left<1)||(decide<|a.Left>63))||(decide<|a.Right<1))||(decide<|a.Right>63))||(decide<|a.From<0)))<|pO<|ck 2<|gc 2 (!((((((decide<|a.Left<1)||(decide<|a.Left>63))||(decide<|a.Right<1))||(decide<|a.Right>63))||(decide<|a.From<0))||(decide<|a.From>=f)))<|pO<|ck 2<|gc 1 (!(((((((decide<|a.Left<1)||(decide<|a.Left>63))||(decide<|a.Right<1))||(decide<|a.Right>63))||(decide<|a.From<0))||(decide<|a.From>=f))||(decide<|a.To<0)))<|ck 1<|gc 1 (!(((((((decide<|a.Left<1)||(decide<|a.Left>63))||(decide<|a.Right<1))||(decide<|a.Right>63))||(decide<|a.From<0))||(decide<|a.From>=f))||(decide<|a.To<0)))<|pO<|en<|cn H (λ H=>?_)<|λ H=>?_
  ·exact sr<|ck 1<|en<|re<|qr (by cases H;exact pr rd)
  ·refine sk<|qz<|sr<|ck 2<|en<|sq<|sr<|ck 1<|en<|bk 0<|bx H λ e u H=>lX Ok u (sg [2,5,6,7]) rfl λ s v=>qH<|qs (v)<|sq<|sr<|ck 1<|en<|bk 2<|bx H λ B m H=>?_;rcases B with I|J
   ·refine lX Ja m (sg [2,5,6,8]) rfl λ s w=>qH<|qs (w)<|sq<|sr<|ck 2<|en<|cn H (λ H=>?_)<|λ H=>?_
    ·exact sr<|ck 3<|en<|re<|qr (by cases H;exact pr rd)
    ·exact sk<|qz<|sr<|ck 6<|gc 1 (((a.Print.length:Nat):Int)==1)<|sE (g:=(((a.Print.length:Nat):Int)==1)) (λ hg=>AQ eU8 a.Cells)<|gc 1 (((a.Print.length:Nat):Int)==1)<|pA<|ck 2<|pA<|ck 1<|en<|re (by cases H;exact pr rd)
   ·exact lR Ja m (sg [2,5,6,8]) rfl λ s A=>qR<|qr (by cases H;exact pr A)
end
section
variable (a:Az) (b:Az)
def Jhb:St:=⟨(0,.agg [.d<|.str a.Print,.d<|.sl<|a.Cells.map eU8,.d<|.int .u8 a.Left,.d<|.int .u8 a.Right,.d<|.int .i64 a.From,.d<|.int .i64 a.To])::(1,.agg [.d<|.str b.Print,.d<|.sl<|b.Cells.map eU8,.d<|.int .u8 b.Left,.d<|.int .u8 b.Right,.d<|.int .i64 b.From,.d<|.int .i64 b.To])::[],[]⟩
variable {a b}
theorem Ol {z} (H:F9 n a b=some z):AE Try.prog 51 [.agg (HX a),.agg (HX b)] (.d (.bool z)):=by
 exact fO 45 (Jhb a b) Try.func51<|sr<|ck 3<|en<|sr<|ck 7<|gc 1 (a.Print==b.Print)<|ck 1<|gc 1 (a.Print==b.Print)<|bx H λ c e H=>cG false (leZ) rfl (λ hg=>H7<|Dk e hg) (Or.inl rfl) (Dj (λ hh=>hh)<|Dj (λ hh=>hh)<|GT) rfl<|pA<|ck 2<|gc 1 ((a.Print==b.Print)&&c)<|ck 1<|gc 2 ((a.Print==b.Print)&&c)<|pA<|ck 2<|gc 1 (((a.Print==b.Print)&&c)&&(a.Left==b.Left))<|ck 1<|gc 2 (((a.Print==b.Print)&&c)&&(a.Left==b.Left))<|pA<|ck 2<|gc 1 ((((a.Print==b.Print)&&c)&&(a.Left==b.Left))&&(a.Right==b.Right))<|ck 1<|gc 2 ((((a.Print==b.Print)&&c)&&(a.Left==b.Left))&&(a.Right==b.Right))<|pA<|ck 2<|gc 1 (((((a.Print==b.Print)&&c)&&(a.Left==b.Left))&&(a.Right==b.Right))&&(a.From==b.From))<|ck 1<|gc 2 (((((a.Print==b.Print)&&c)&&(a.Left==b.Left))&&(a.Right==b.Right))&&(a.From==b.From))<|pA<|ck 1<|en<|re (by cases H;exact pr rd)
end
section
variable (a:Aa) (b:Int) (f:Int)
def Jhc:St:=⟨(0,.agg [.d<|.int .i64 a.Modes,.d<|.int .u8 a.Accept,.d<|.sl<|a.Rules.map Ar])::[],[]⟩
def Jhd:St:=⟨(1,.ptr 0 0)::(4,.d<|.int .i64 b)::[],[some<|.box<|A0 a]⟩
def Jhe:St:=⟨[],[]⟩
def Jhf:St:=⟨(1,.ptr 0 0)::(4,.d<|.int .i64 b)::(5,.d<|.int .i64 f)::[],[some<|.box<|A0 a]⟩
def Jhg:St:=⟨(1,.ptr 0 0)::(4,.d<|.int .i64 b)::[],[some<|.box<|A0 a]⟩
def P9:(Unit⊕(Int×Int))->Ex->St->Prop:=xS (xX 0 2<|λ (_:Unit)=>Jhg a b)<|xR ty Try.f38<|λ (y:(Int×Int))=>.tup [.d<|.int .i64 y.1,.d<|.int .i64 y.2]
def J2:Int->St:=(λ (x:Int)=>Jhf a b x)
def Qa:(Unit⊕(Int×Int))->Ex->St->Prop:=xS (xX 0 0<|λ (_:Unit)=>Jhe)<|xR ty Try.f38<|λ (y:(Int×Int))=>.tup [.d<|.int .i64 y.1,.d<|.int .i64 y.2]
def J3:Int->St:=(λ (x:Int)=>Jhd a x)
variable {a b f}
theorem Jb (x:Int) (z:(Int⊕(Unit⊕(Int×Int)))) (H:EL n a b x=some z):WP (cxk 74 0) (AN Try.f38) [1,1,0,1,0,0,1,0,0,1,1,0,0] (AP 0 (J2 a b) (P9 a b) z) (J2 a b x):=by
 revert H;generalize x=f;intro H;refine sq<|sr<|ck 3<|en<|cn H (λ H=>?_)<|λ H=>?_
 ·refine sk<|qz<|sq<|bk 3<|sr<|ck 3<|bx H λ w h H=>sp (AF Ar h)<|ck 4<|bx H λ A i H=>sp (AF Ar i)<|ck 1<|bx H λ B j H=>ca false (Ol j)<|en<|cn H (λ H=>?_)<|λ H=>?_
  ·exact sr<|ck 3<|en<|re<|qR<|qr (by cases H;exact ro rfl rdT)
  ·exact sk<|qN<|qz<|rz<|ck 3<|ae (by cases H;exact og<|sg [1,4,5])
 ·exact ex 2<|qx (by cases H;exact xo rfl<|sg [1,4])
theorem Jc (x:Int) (z:(Int⊕(Unit⊕(Int×Int)))) (H:EM n a x=some z):WP (cxk 74 0) (AN Try.f38) [1,1,0,1,0,0] (AP 0 (J3 a) (Qa) z) (J3 a x):=by
 revert H;generalize x=b;intro H;refine sq<|sr<|ck 3<|sp (AQ Ar a.Rules)<|ck 1<|en<|cn H (λ H=>?_)<|λ H=>?_
 ·refine sk<|qz<|sq<|bk 1<|sq<|sr<|ck 3<|bx H λ C k H=>sp (AF Ar k)<|ck 3<|bx H λ E l H=>ca false (Td l)<|ck 1<|en<|cn H (λ H=>?_)<|λ H=>?_
  ·exact sr<|ck 3<|en<|re<|qr<|qR<|qr (by cases H;exact ro rfl rdT)
  ·refine sk<|qz<|sr<|ck 1<|en<|bk 2<|bx H λ t c H=>?_;rcases t with G|I
   ·exact lX Jb c (sg [1,4,5]) rfl λ s m=>qH<|qN<|qs (m)<|rz<|ck 3<|ae (by cases H;exact og<|sg [1,4])
   ·exact lR Jb c (sg [1,4,5]) rfl λ s o=>qR<|qR<|qr (by cases H;exact ro rfl o)
 ·exact ex 0<|qx (by cases H;exact xo rfl<|sg [])
theorem Te {z} (H:Ku n a=some z):AE Try.prog 38 [.agg (A0 a)] (.tup [.d (.int .i64 z.1),.d (.int .i64 z.2)]):=by
 refine fO 74 (Jhc a) Try.func38<|sr<|ck 3<|en<|sq<|sr<|ck 5<|gc 2 (!(decide<|a.Modes<1))<|pO<|ck 2<|gc 2 (!((decide<|a.Modes<1)||(decide<|a.Modes>8)))<|pO<|ck 2<|gc 2 (!(((decide<|a.Modes<1)||(decide<|a.Modes>8))||(a.Accept==0)))<|ck 1<|gc 1 (!(((decide<|a.Modes<1)||(decide<|a.Modes>8))||(a.Accept==0)))<|bx H λ v p H=>soG (λ hg=>Gt<|Dk p hg) (Dj (λ hh=>hh)<|GT)<|gc 1 (!(((decide<|a.Modes<1)||(decide<|a.Modes>8))||(a.Accept==0)))<|pO<|ck 2<|gc 1 (!((((decide<|a.Modes<1)||(decide<|a.Modes>8))||(a.Accept==0))||(decide<|IntKind.i64.wrap a.Accept>=PA .i64 1 a.Modes)))<|sE (g:=(!((((decide<|a.Modes<1)||(decide<|a.Modes>8))||(a.Accept==0))||(decide<|IntKind.i64.wrap a.Accept>=PA .i64 1 a.Modes)))) (λ hg=>AQ Ar a.Rules)<|gc 1 (!((((decide<|a.Modes<1)||(decide<|a.Modes>8))||(a.Accept==0))||(decide<|IntKind.i64.wrap a.Accept>=PA .i64 1 a.Modes)))<|pO<|ck 2<|gc 1 (!(((((decide<|a.Modes<1)||(decide<|a.Modes>8))||(a.Accept==0))||(decide<|IntKind.i64.wrap a.Accept>=PA .i64 1 a.Modes))||(decide<|((a.Rules.length:Nat):Int)<1)))<|sE (g:=(!(((((decide<|a.Modes<1)||(decide<|a.Modes>8))||(a.Accept==0))||(decide<|IntKind.i64.wrap a.Accept>=PA .i64 1 a.Modes))||(decide<|((a.Rules.length:Nat):Int)<1)))) (λ hg=>AQ Ar a.Rules)<|gc 1 (!(((((decide<|a.Modes<1)||(decide<|a.Modes>8))||(a.Accept==0))||(decide<|IntKind.i64.wrap a.Accept>=PA .i64 1 a.Modes))||(decide<|((a.Rules.length:Nat):Int)<1)))<|pO<|en<|cn H (λ H=>?_)<|λ H=>?_
 ·exact sr<|ck 2<|en<|re<|qr (by cases H;exact pr rdT)
 ·refine sk<|qz<|sq<|sr<|ck 1<|en<|bk 0<|bx H λ u e H=>?_;rcases u with J|K
  ·exact lX Jc e (sg [1,4]) rfl λ s q=>qH<|qs (q)<|sr<|ck 2<|en<|re (by cases H;exact pr rdT)
  ·exact lR Jc e (sg [1,4]) rfl λ s r=>qR<|qr (by cases H;exact pr r)
end
section
variable (a:Aa)
def Jhh:St:=⟨(0,.agg [.d<|.int .i64 a.Modes,.d<|.int .u8 a.Accept,.d<|.sl<|a.Rules.map Ar])::[],[]⟩
variable {a}
theorem Tf {z} (H:Nj n a=some z):AE Try.prog 22 [.agg (A0 a)] (.d (.bool z)):=by
 exact fO 12 (Jhh a) Try.func22<|sr<|ck 2<|en<|sr<|ck 1<|bx H λ c b H=>ca false (Te b)<|ck 5<|en<|sr<|ck 3<|en<|re (by cases H;exact pr rd)
end
section
variable (b:Ji) (a:Aa) (j:Aa) (h:Int) (q:Aa) (m:Aa) (i:Aa) (g:Int) (r:Aa) (o:Aa) (p:Aa)
def Jjt:St:=⟨(0,.agg [.d<|.int .u8 b.Base,.d<|.int .u8 b.Drop,.d<|.sl<|b.More.map Es])::[],[]⟩
def Jju:St:=⟨(1,.ptr 0 0)::(2,.ptr 1 0)::(3,.ptr 2 0)::(4,.osl 3 6 0<|a.Rules.length)::(5,.d<|.int .i64 h)::[],[some<|.box<|Wu b,some<|.box [.d<|.int .i64 0,.d<|.int .u8 0,.osl 4 6 0<|List.length ([]:List Az)],some<|.box<|Gz j<|.osl 5 6 0<|j.Rules.length,some<|.arr 6<|a.Rules.map Ar,some<|.arr 6<|List.map Ar ([]:List Az),some<|.arr 6<|j.Rules.map Ar]⟩
def Jjv:St:=⟨(1,.ptr 0 0)::(2,.ptr 1 0)::(3,.ptr 2 0)::(4,.osl 3 6 0<|a.Rules.length)::[],[some<|.box<|Wu b,some<|.box [.d<|.int .i64 0,.d<|.int .u8 0,.osl 4 6 0<|List.length ([]:List Az)],some<|.box<|Gz q<|.osl 5 6 0<|q.Rules.length,some<|.arr 6<|a.Rules.map Ar,some<|.arr 6<|List.map Ar ([]:List Az),some<|.arr 6<|q.Rules.map Ar]⟩
def Jjw:St:=⟨(1,.ptr 0 0)::(2,.ptr 1 0)::(3,.ptr 2 0)::(4,.osl 3 6 0<|a.Rules.length)::(5,.d<|.int .i64 h)::[],[some<|.box<|Wu b,some<|.box [.d<|.int .i64 0,.d<|.int .u8 0,.osl 4 6 0<|List.length ([]:List Az)],some<|.box<|Gz m<|.osl 5 6 0<|m.Rules.length,some<|.arr 6<|a.Rules.map Ar,some<|.arr 6<|List.map Ar ([]:List Az),some<|.arr 6<|m.Rules.map Ar]⟩
def Q2:Aa->Ex->St->Prop:=xX 0 0<|λ (y:Aa)=>Jjv b a y
def K4:(Aa×Int)->St:=(λ (x:(Aa×Int))=>Jju b a x.1 x.2)
def Jjx:St:=⟨(1,.ptr 0 0)::(2,.ptr 1 0)::(3,.ptr 2 0)::(4,.osl 3 6 0<|a.Rules.length)::(6,.d<|.int .i64 g)::[],[some<|.box<|Wu b,some<|.box [.d<|.int .i64 0,.d<|.int .u8 0,.osl 4 6 0<|List.length ([]:List Az)],some<|.box<|Gz i<|.osl 5 6 0<|i.Rules.length,some<|.arr 6<|a.Rules.map Ar,some<|.arr 6<|List.map Ar ([]:List Az),some<|.arr 6<|i.Rules.map Ar]⟩
def Jjy:St:=⟨(2,.ptr 0 0)::(3,.ptr 1 0)::(4,.osl 2 6 0<|a.Rules.length)::[],[some<|.box [.d<|.int .i64 0,.d<|.int .u8 0,.osl 3 6 0<|List.length ([]:List Az)],some<|.box<|Gz r<|.osl 4 6 0<|r.Rules.length,some<|.arr 6<|a.Rules.map Ar,some<|.arr 6<|List.map Ar ([]:List Az),some<|.arr 6<|r.Rules.map Ar]⟩
def Jjz:St:=⟨(1,.ptr 0 0)::(2,.ptr 1 0)::(3,.ptr 2 0)::(4,.osl 3 6 0<|a.Rules.length)::(6,.d<|.int .i64 g)::[],[some<|.box<|Wu b,some<|.box [.d<|.int .i64 0,.d<|.int .u8 0,.osl 4 6 0<|List.length ([]:List Az)],some<|.box<|Gz o<|.osl 5 6 0<|o.Rules.length,some<|.arr 6<|a.Rules.map Ar,some<|.arr 6<|List.map Ar ([]:List Az),some<|.arr 6<|o.Rules.map Ar]⟩
def Q3:Aa->Ex->St->Prop:=xX 0 2<|λ (y:Aa)=>Jjy a y
def K5:(Aa×Int)->St:=(λ (x:(Aa×Int))=>Jjx b a x.1 x.2)
def JjA:St:=⟨(2,.ptr 0 0)::(3,.ptr 1 0)::[],[some<|.box [.d<|.int .i64 0,.d<|.int .u8 0,.osl 2 6 0<|List.length ([]:List Az)],some<|.box<|Gz p<|.osl 3 6 0<|p.Rules.length,some<|.arr 6<|List.map Ar ([]:List Az),some<|.arr 6<|p.Rules.map Ar]⟩
variable {b a j h q m i g r o p}
theorem Qb (x:(Aa×Int)) (z:((Aa×Int)⊕Aa)) (H:CW n b a x.1 x.2=some z):WP (cxk 77 0) (AN Try.f8) [1,1,1,1,0,1,0,0] (AP 0 (K4 b a) (Q2 b a) z) (K4 b a x):=by
 obtain⟨j,h⟩:=x;refine sq<|sr<|ck 4<|en<|cn H (λ H=>?_)<|λ H=>?_
 ·refine sk<|qz<|sj (λ (x:Aa)=>Jjw b a h x) (λ (x:Aa)=>Dy n h x) z ?_ (λ c=>?_)
  ·intro m H;exact rz<|ck 3<|ae (by cases H;exact og<|sg [1,2,3,4,5])
  refine bk 1<|sr<|ck 3<|bx H λ R B H=>so (Gt B)<|ck 2<|en<|cn H (λ H=>?_)<|λ H=>?_
  ·exact rz<|ck 4<|bx H λ U t H=>sp (Bv 3 6 t)<|sp (Cp Ar 3 0 (ty 66) t)<|ck 1<|bx H λ Q C H=>sp (BJ Ar 5 6 C)<|ck 2<|ae<|qN<|qs (sg [1,2,3,4,5])<|c ({ Modes:=j.Modes,Accept:=j.Accept,Rules:=Q }:Aa) H
  ·exact sk<|qN<|qs (sg [1,2,3,4,5])<|c j H
 ·exact ex 0<|qx (by cases H;exact xo rfl<|sg [1,2,3,4])
theorem Qc (x:(Aa×Int)) (z:((Aa×Int)⊕Aa)) (H:CX n b a x.1 x.2=some z):WP (cxk 77 0) (AN Try.f8) [1,1,1,1,1,0,1,0,0] (AP 0 (K5 b a) (Q3 a) z) (K5 b a x):=by
 obtain⟨i,g⟩:=x;refine sq<|sr<|ck 3<|sp (AQ Es b.More)<|ck 3<|gc 1 (decide<|g<((b.More.length:Nat):Int))<|pA<|en<|cn H (λ H=>?_)<|λ H=>?_
 ·refine sk<|qz<|sj (λ (x:Aa)=>Jjz b a g x) (λ (x:Aa)=>Dz n g x) z ?_ (λ e=>?_)
  ·intro o H;exact rz<|ck 3<|ae (by cases H;exact og<|sg [1,2,3,4,6])
  refine bk 3<|sr<|ck 5<|bx H λ V E H=>sp (AF Es E)<|ck 3<|bx H λ S G H=>ca false (UM G)<|ck 1<|bx H λ u I H=>sp (BJ Ar 5 6 I)<|ck 2<|en<|sr<|ck 1<|bx H λ T J H=>cb (ks:=[7]) (obl:=[(0+List.length u,List.length<|u.map Ar)]) false (leK leM<|leZ) (G5 (JjV<|G5 rfl<|G5 rfl<|G5 PI rfl) rfl) (Tf J) (Or.inr trivial) rfl<|ck 1<|en<|cn H (λ H=>?_)<|λ H=>?_
  ·exact rz<|ck 6<|bx H λ w l H=>sp (Wb 7 6 l)<|ck 2<|ae<|qN<|qs (tr (Jdr (k:=7) (sz:=6) 2 2 (w.map Ar) (w.length) (by kernel_rfl) (W9 l) (Jaj (enc:=Ar) l)<|Xa l)<|sg [1,2,3,4,6])<|e ({ Modes:=i.Modes,Accept:=i.Accept,Rules:=w }:Aa) H
  ·exact sk<|qN<|qs (sg [1,2,3,4,6])<|e ({ Modes:=i.Modes,Accept:=i.Accept,Rules:=u }:Aa) H
 ·exact ex 2<|qx (by cases H;exact xo rfl<|sg [2,3,4])
theorem UO {z} (H:FF n b=some z):AE Try.prog 8 [.agg (Wu b)] (.agg [.d (.int .i64 z.Modes),.d (.int .u8 z.Accept),.own 6 (z.Rules.map Ar)]):=by
 refine fO 77 (Jjt b) Try.func8<|sr<|ck 2<|en<|sr<|ck 2<|bx H λ a K H=>cl [List.length a.Rules] (N4 K)<|ck 2<|en<|sr<|ck 3<|en<|sr<|ck 3<|en<|sq<|sr<|ck 1<|en<|bk 0<|bx H λ W L H=>lX Qb L (tr (F4 1 2 6 (by kernel_rfl))<|sg [1,2,3,4,5]) rfl λ s M=>qH<|qs (M)<|sq<|sr<|ck 1<|en<|bk 2<|bx H λ A O H=>lX Qc O (sg [1,2,3,4,6]) rfl λ s P=>qH<|qs (P)<|sj (λ (x:Aa)=>JjA x) (λ (x:Aa)=>Ep n x) z ?_ (λ f=>?_)
 ·intro p H;exact sr<|ck 2<|en<|re (by cases H;exact pr<|rO (v:=.agg [.d<|.int .i64 z.Modes,.d<|.int .u8 z.Accept,.osl 3 6 0<|z.Rules.length]) [3]<|a1<|c1 vd<|c1 vd<|c1 vo<|c0)
 refine sr<|ck 4<|en<|cn H (λ H=>?_)<|λ H=>?_
 ·exact rz<|ck 3<|ae<|qs (sg [2,3])<|f ({ Modes:=A.Modes,Accept:=A.Accept,Rules:=a.Rules }:Aa) H
 ·exact sk<|qs (sg [2,3])<|f A H
end
section
variable (a:(List (C1 Int))) (b:(List AD)) (e:Int) (c:(List AD))
def JjB:St:=⟨(0,.d<|.sl<|a.map<|JP eU8)::[],[]⟩
def JjC:St:=⟨(0,.d<|.sl<|a.map<|JP eU8)::(3,.osl 0 2 0<|b.length)::(4,.d<|.int .i64 e)::[],[some<|.arr 2<|b.map Bk]⟩
def JjD:St:=⟨(3,.osl 0 2 0<|c.length)::[],[some<|.arr 2<|c.map Bk]⟩
def Q4:(List AD)->Ex->St->Prop:=xX 0 0<|λ (y:(List AD))=>JjD y
def K6:((List AD)×Int)->St:=(λ (x:((List AD)×Int))=>JjC a x.1 x.2)
variable {a b e c}
theorem Qd (x:((List AD)×Int)) (z:(((List AD)×Int)⊕(List AD))) (H:FG n a x.1 x.2=some z):WP (cxk 33 0) (AN Try.f9) [1,1,0,1,0,0] (AP 0 (K6 a) (Q4) z) (K6 a x):=by
 obtain⟨b,e⟩:=x;refine sq<|sr<|ck 2<|sp (AQ (JP eU8) a)<|ck 3<|gc 1 (decide<|e<((a.length:Nat):Int))<|pA<|en<|cn H (λ H=>?_)<|λ H=>?_
 ·exact sk<|qz<|sq<|bk 1<|rz<|ck 3<|bx H λ k f H=>sp (AF (JP eU8) f)<|ck 5<|bx H λ l g H=>sp (AF (JP eU8) g)<|ck 5<|bx H λ m h H=>sp (BJ Bk 0 2 h)<|ck 1<|ae<|qN<|qz<|rz<|ck 3<|ae (by cases H;exact og<|sg [0,3,4])
 ·exact ex 0<|qx (by cases H;exact xo rfl<|sg [3])
theorem UP {z} (H:Ml n a=some z):AE Try.prog 9 [.d (.sl (a.map (JP eU8)))] (.own 2 (z.map Bk)):=by
 exact fO 33 (JjB a) Try.func9<|sr<|ck 1<|en<|sr<|ck 2<|en<|sq<|sr<|ck 1<|en<|bk 0<|bx H λ o i H=>lX Qd i (sg [0,3,4]) rfl λ s j=>qH<|qs (j)<|sr<|ck 2<|en<|re (by cases H;exact pr<|rO (v:=.osl 0 2 0<|z.length) [0]<|ao vo)
end
def Jhi:St:=⟨[],[]⟩
theorem Tg {z} (H:RQ n=some z):AE Try.prog 26 [] (.agg [.d (.int .i64 z.Mode),.d (.int .i64 z.Last),.d (.int .u8 z.Need)]):=by
 exact fO 2 Jhi Try.func26<|sr<|ck 1<|en<|sr<|ck 2<|en<|re (by cases H;exact pr rd)
section
variable (b:Int) (a:Int)
def Jhj:St:=⟨(0,.d<|.int .u8 b)::(1,.d<|.int .i64 a)::[],[]⟩
variable {b a}
theorem IU {z} (H:IL n b a=some z):AE Try.prog 48 [.d (.int .u8 b),.d (.int .i64 a)] (.d (.bool z)):=by
 exact fO 18 (Jhj b a) Try.func48<|sr<|ck 1<|en<|sr<|ck 4<|gc 1 (decide<|a>=0)<|pA<|ck 3<|bx H λ e c H=>soG (λ hg=>Gt<|Dk c hg) (Dj (λ hh=>hh)<|Dj (λ hh=>hh)<|GT)<|gc 2 ((decide<|a>=0)&&(decide<|a<8))<|pA<|ck 1<|en<|re (by cases H;exact pr rd)
end
end Go.AI
end
section
namespace Go.AI
open Go.Proofs
set_option maxRecDepth 10000
variable {n:Nat}
section
variable (b:Aa) (a:Ae)
def Jhk:St:=⟨(0,.agg [.d<|.int .i64 b.Modes,.d<|.int .u8 b.Accept,.d<|.sl<|b.Rules.map Ar])::(1,.agg [.d<|.int .i64 a.Mode,.d<|.int .i64 a.Last,.d<|.int .u8 a.Need])::[],[]⟩
variable {b a}
theorem Qe {z} (H:Hd n b a=some z):AE Try.prog 32 [.agg (A0 b),.agg (Hw a)] (.d (.bool z)):=by
 exact fO 27 (Jhk b a) Try.func32<|sr<|ck 3<|en<|sr<|ck 5<|gc 1 (decide<|a.Mode>=0)<|ck 1<|gc 2 (decide<|a.Mode>=0)<|pA<|ck 2<|gc 1 ((decide<|a.Mode>=0)&&(decide<|a.Mode<b.Modes))<|ck 1<|gc 1 ((decide<|a.Mode>=0)&&(decide<|a.Mode<b.Modes))<|bx H λ c e H=>cG false (leZ) rfl (λ hg=>IU<|Dk e hg) (Or.inl rfl) (Dj (λ hh=>hh)<|Dj (λ hh=>hh)<|GT) rfl<|pA<|ck 2<|gc 1 (((decide<|a.Mode>=0)&&(decide<|a.Mode<b.Modes))&&c)<|bx H λ g f H=>cG false (leZ) rfl (λ hg=>IU<|Dk f hg) (Or.inl rfl) (Dj (λ hh=>hh)<|GT) rfl<|pA<|ck 1<|en<|re (by cases H;exact pr rd)
end
section
variable (a:Int)
def Jhl:St:=⟨(0,.d<|.int .u8 a)::[],[]⟩
variable {a}
theorem Mx {z} (H:HW n a=some z):AE Try.prog 49 [.d (.int .u8 a)] (.d (.int .i64 z)):=by
 refine fO 26 (Jhl a) Try.func49<|sr<|ck 1<|en<|sr<|ck 3<|en<|sq<|sr<|ck 4<|gc 1 (decide<|Ca .u8 a 127>=97)<|pA<|en<|cn H (λ H=>?_)<|λ H=>?_
 ·exact sr<|ck 1<|en<|re<|qr (by cases H;exact pr rd)
 ·refine sk<|qz<|sq<|sr<|ck 4<|gc 1 (decide<|Ca .u8 a 127>=65)<|pA<|en<|cn H (λ H=>?_)<|λ H=>?_
  ·exact sr<|ck 1<|en<|re<|qr (by cases H;exact pr rd)
  ·refine sk<|qz<|sq<|sr<|ck 4<|gc 1 (decide<|Ca .u8 a 127>=48)<|pA<|en<|cn H (λ H=>?_)<|λ H=>?_
   ·exact sr<|ck 1<|en<|re<|qr (by cases H;exact pr rd)
   ·refine sk<|qz<|sq<|sr<|ck 2<|en<|cn H (λ H=>?_)<|λ H=>?_
    ·exact sr<|ck 1<|en<|re<|qr (by cases H;exact pr rd)
    ·exact sk<|qz<|sr<|ck 1<|en<|re (by cases H;exact pr rd)
end
section
variable (b:Aa) (a:Ae) (c:Int)
def Jhm:St:=⟨(0,.agg [.d<|.int .i64 b.Modes,.d<|.int .u8 b.Accept,.d<|.sl<|b.Rules.map Ar])::(1,.agg [.d<|.int .i64 a.Mode,.d<|.int .i64 a.Last,.d<|.int .u8 a.Need])::(2,.d<|.int .i64 c)::[],[]⟩
variable {b a c}
theorem UQ {z} (H:Mm n b a c=some z):AE Try.prog 33 [.agg (A0 b),.agg (Hw a),.d (.int .i64 c)] (.tup [.agg [.d (.int .i64 z.1.Mode),.d (.int .i64 z.1.Last),.d (.int .u8 z.1.Need)],.d (.bool z.2)]):=by
 refine fO 87 (Jhm b a c) Try.func33<|sr<|ck 4<|en<|sq<|sr<|ck 5<|gc 1 (!(decide<|c<0))<|sE (g:=(!(decide<|c<0))) (λ hg=>AQ Ar b.Rules)<|gc 1 (!(decide<|c<0))<|pO<|en<|cn H (λ H=>?_)<|λ H=>?_
 ·exact sr<|ck 3<|en<|re<|qr (by cases H;exact pr rdT)
 ·refine sk<|qz<|sr<|ck 3<|bx H λ e f H=>sp (AF Ar f)<|ck 3<|en<|sq<|sr<|ck 7<|gc 1 (!(e.From != a.Mode))<|ck 1<|gc 1 (!(e.From != a.Mode))<|bx H λ o h H=>cG false (leZ) rfl (λ hg=>IU<|Dk h hg) (Or.inl rfl) (Dj (λ hh=>hh)<|Dj (λ hh=>hh)<|GT) rfl<|gc 1 (!(e.From != a.Mode))<|pO<|en<|cn H (λ H=>?_)<|λ H=>?_
  ·exact sr<|ck 3<|en<|re<|qr (by cases H;exact pr rdT)
  ·refine sk<|qz<|sq<|sr<|ck 6<|gc 1 (((e.Print.length:Nat):Int)==0)<|ck 1<|gc 3 (((e.Print.length:Nat):Int)==0)<|pA<|en<|cn H (λ H=>?_)<|λ H=>?_
   ·exact sr<|ck 3<|en<|re<|qr (by cases H;exact pr rdT)
   ·refine sk<|qz<|sq<|sr<|ck 4<|en<|cn H (λ H=>?_)<|λ H=>?_
    ·exact sr<|ck 12<|en<|re<|qr (by cases H;exact pr rdT)
    ·refine sk<|qz<|sq<|sr<|ck 4<|bx H λ t i H=>sp (Fj i)<|bx H λ p j H=>ca false (Mx j)<|bx H λ q k H=>ca false (IU k)<|ck 1<|en<|cn H (λ H=>?_)<|λ H=>?_
     ·exact sr<|ck 3<|en<|re<|qr (by cases H;exact pr rdT)
     ·exact sk<|qz<|sr<|ck 8<|bx H λ s l H=>sp (Fj l)<|bx H λ r m H=>ca false (Mx m)<|ck 5<|en<|re (by cases H;exact pr rdT)
end
section
variable (a:Int) (b:Int)
def Jhn:St:=⟨(0,.d<|.int .u8 a)::(1,.d<|.int .i64 b)::[],[]⟩
variable {a b}
theorem Lx {z} (H:Kv n a b=some z):AE Try.prog 44 [.d (.int .u8 a),.d (.int .i64 b)] (.d (.bool z)):=by
 exact fO 11 (Jhn a b) Try.func44<|sr<|ck 1<|en<|sr<|ck 3<|bx H λ e c H=>so (Gt c)<|ck 3<|en<|re (by cases H;exact pr rd)
end
section
variable (a:AD) (c:Int) (f:Int) (e:Int) (i:Int) (h:Int)
def Jho:St:=⟨(0,.agg [.d<|.int .u8 a.Up,.d<|.int .u8 a.Maybe])::(1,.d<|.int .u8 c)::[],[]⟩
def Jhp:St:=⟨(1,.d<|.int .u8 c)::(2,.ptr 0 0)::(5,.d<|.int .i64 f)::(6,.d<|.int .i64 e)::[],[some<|.box [.d<|.int .u8 a.Up,.d<|.int .u8 a.Maybe]]⟩
def Jhq:St:=⟨(5,.d<|.int .i64 i)::[],[]⟩
def Jhr:St:=⟨(1,.d<|.int .u8 c)::(2,.ptr 0 0)::(5,.d<|.int .i64 h)::(6,.d<|.int .i64 e)::[],[some<|.box [.d<|.int .u8 a.Up,.d<|.int .u8 a.Maybe]]⟩
def Q5:Int->Ex->St->Prop:=xX 0 0<|λ (y:Int)=>Jhq y
def K7:(Int×Int)->St:=(λ (x:(Int×Int))=>Jhp a c x.1 x.2)
variable {a c f e i h}
theorem Qf (x:(Int×Int)) (z:((Int×Int)⊕Int)) (H:FH n a c x.1 x.2=some z):WP (cxk 29 0) (AN Try.f28) [1,1,0,1,0,0] (AP 0 (K7 a c) (Q5) z) (K7 a c x):=by
 obtain⟨f,e⟩:=x;refine sq<|sr<|ck 2<|en<|cn H (λ H=>?_)<|λ H=>?_
 ·refine sk<|qz<|sj (λ (x:Int)=>Jhr a c e x) (λ (x:Int)=>He n e x) z ?_ (λ b=>?_)
  ·intro h H;exact rz<|ck 3<|ae (by cases H;exact og<|sg [1,2,5,6])
  refine bk 1<|sr<|ck 3<|bx H λ g j H=>ca false (Lx j)<|ck 3<|gc 1 (!g)<|ck 1<|bx H λ p k H=>cG false (leZ) rfl (λ hg=>Lx<|Dk k hg) (Or.inl rfl) (Dj (λ hh=>hh)<|Dj (λ hh=>hh)<|GT) rfl<|ck 2<|bx H λ q l H=>cG false (leZ) rfl (λ hg=>Lx<|Dk l hg) (Or.inl rfl) (Dj (λ hh=>hh)<|Dj (λ hh=>hh)<|GT) rfl<|gc 1 (!g)<|pA<|en<|cn H (λ H=>?_)<|λ H=>?_
  ·exact rz<|ck 3<|ae<|qN<|qs (sg [1,2,5,6])<|b (AX .i64 f 1) H
  ·exact sk<|qN<|qs (sg [1,2,5,6])<|b f H
 ·exact ex 0<|qx (by cases H;exact xo rfl<|sg [5])
theorem UR {z} (H:Mn n a c=some z):AE Try.prog 28 [.agg [.d (.int .u8 a.Up),.d (.int .u8 a.Maybe)],.d (.int .u8 c)] (.d (.int .i64 z)):=by
 exact fO 29 (Jho a c) Try.func28<|sr<|ck 2<|en<|sr<|ck 1<|en<|sq<|sr<|ck 1<|en<|bk 0<|bx H λ r m H=>lX Qf m (sg [1,2,5,6]) rfl λ s o=>qH<|qs (o)<|sr<|ck 2<|en<|re (by cases H;exact pr rd)
end
section
variable (a:(List AD)) (b:(List Int)) (e:Int) (c:Int) (f:Int)
def Jhs:St:=⟨(0,.d<|.sl<|a.map Bk)::(1,.d<|.sl<|b.map eU8)::[],[]⟩
def Jht:St:=⟨(0,.d<|.sl<|a.map Bk)::(1,.d<|.sl<|b.map eU8)::(5,.d<|.int .i64 e)::(6,.d<|.int .i64 c)::[],[]⟩
def Jhu:St:=⟨(5,.d<|.int .i64 f)::[],[]⟩
def Q6:Int->Ex->St->Prop:=xX 0 0<|λ (y:Int)=>Jhu y
def K8:(Int×Int)->St:=(λ (x:(Int×Int))=>Jht a b x.1 x.2)
variable {a b e c f}
theorem Qg (x:(Int×Int)) (z:((Int×Int)⊕Int)) (H:FI n a b x.1 x.2=some z):WP (cxk 31 0) (AN Try.f15) [1,1,0,1,0,0] (AP 0 (K8 a b) (Q6) z) (K8 a b x):=by
 obtain⟨e,c⟩:=x;refine sq<|sr<|ck 2<|sp (AQ Bk a)<|ck 4<|sE (g:=decide<|c<((a.length:Nat):Int)) (λ hg=>AQ eU8 b)<|gc 1 (decide<|c<((a.length:Nat):Int))<|pA<|en<|cn H (λ H=>?_)<|λ H=>?_
 ·exact sk<|qz<|sq<|bk 1<|rz<|ck 3<|bx H λ o h H=>sp (AF Bk h)<|ck 3<|bx H λ p i H=>sp (AF eU8 i)<|ck 1<|bx H λ m j H=>ca false (UR j)<|ck 2<|ae<|qN<|qz<|rz<|ck 3<|ae (by cases H;exact og<|sg [0,1,5,6])
 ·exact ex 0<|qx (by cases H;exact xo rfl<|sg [5])
theorem US {z} (H:Mo n a b=some z):AE Try.prog 15 [.d (.sl (a.map Bk)),.d (.sl (b.map eU8))] (.d (.int .i64 z)):=by
 exact fO 31 (Jhs a b) Try.func15<|sr<|ck 1<|en<|sr<|ck 1<|en<|sq<|sr<|ck 1<|en<|bk 0<|bx H λ q k H=>lX Qg k (sg [0,1,5,6]) rfl λ s l=>qH<|qs (l)<|sr<|ck 2<|en<|re (by cases H;exact pr rd)
end
def Jhv:St:=⟨[],[]⟩
theorem Th {z} (H:RR n=some z):AE Try.prog 29 [] (.own 6 (z.map Ax)):=by
 exact fO 4 Jhv Try.func29<|sr<|ck 1<|en<|sr<|bx H λ a b H=>ca false (Tg b)<|ck 3<|en<|re (by cases H;exact pr<|rO (v:=.osl 0 6 0<|List.length<|[({ S:=a,Rule:=(-1),At:=0,Text:=[] }:Af)]) [0]<|ao vo)
section
variable (c:Aa) (b:Af) (e:Af)
def Jhw:St:=⟨(0,.agg [.d<|.int .i64 c.Modes,.d<|.int .u8 c.Accept,.d<|.sl<|c.Rules.map Ar])::(1,.agg [.d<|.int .i64 b.S.Mode,.d<|.int .i64 b.S.Last,.d<|.int .u8 b.S.Need,.d<|.int .i64 b.Rule,.d<|.int .i64 b.At,.d<|.str b.Text])::[],[]⟩
def Jhx:St:=⟨(3,.ptr 0 0)::(4,.ptr 1 0)::[],[some<|.box<|Ms e,some<|.box [.d<|.int .i64 0,.d<|.int .i64 0,.d<|.int .u8 0,.d<|.int .i64 0,.d<|.int .i64 0,.d<|.str []]]⟩
variable {c b e}
theorem N8 {z} (H:JO n c b=some z):AE Try.prog 45 [.agg (A0 c),.agg (Ms b)] (.agg [.d (.int .i64 z.S.Mode),.d (.int .i64 z.S.Last),.d (.int .u8 z.S.Need),.d (.int .i64 z.Rule),.d (.int .i64 z.At),.d (.str z.Text)]):=by
 refine fO 19 (Jhw c b) Try.func45<|sr<|ck 3<|en<|sj (λ (x:Af)=>Jhx x) (λ (x:Af)=>Hg n x) z ?_ (λ a=>?_)
 ·intro e H;exact sr<|ck 2<|en<|re (by cases H;exact pr rd)
 refine sr<|ck 6<|bx H λ g f H=>sp (AF Ar f)<|ck 2<|sp (AQ eU8 g.Cells)<|ck 1<|en<|cn H (λ H=>?_)<|λ H=>?_
 ·exact rz<|ck 4<|ae<|qs (sg [3,4])<|a ({ S:=b.S,Rule:=(-1),At:=0,Text:=b.Text }:Af) H
 ·exact sk<|qs (sg [3,4])<|a b H
end
section
variable (c:(List Af)) (a:(List Af)) (b:Int) (i:(List Af)) (h:(List Af)) (e:Bool) (l:Int) (j:Bool)
def Jhy:St:=⟨(0,.d<|.sl<|c.map Ax)::[],[]⟩
def Jhz:St:=⟨(0,.d<|.sl<|c.map Ax)::(3,.osl 0 6 0<|a.length)::(4,.d<|.int .i64 b)::[],[some<|.arr 6<|a.map Ax]⟩
def JhA:St:=⟨(3,.osl 0 6 0<|i.length)::[],[some<|.arr 6<|i.map Ax]⟩
def JhB:St:=⟨(0,.d<|.sl<|c.map Ax)::(3,.osl 0 6 0<|h.length)::(4,.d<|.int .i64 b)::[],[some<|.arr 6<|h.map Ax]⟩
def JhC:St:=⟨(0,.d<|.sl<|c.map Ax)::(3,.osl 0 6 0<|a.length)::(4,.d<|.int .i64 b)::(5,.d<|.bool e)::(6,.d<|.int .i64 l)::[],[some<|.arr 6<|a.map Ax]⟩
def JhD:St:=⟨(0,.d<|.sl<|c.map Ax)::(3,.osl 0 6 0<|a.length)::(4,.d<|.int .i64 b)::(5,.d<|.bool j)::[],[some<|.arr 6<|a.map Ax]⟩
def Q7:Bool->Ex->St->Prop:=xX 0 2<|λ (y:Bool)=>JhD c a b y
def K9:(Bool×Int)->St:=(λ (x:(Bool×Int))=>JhC c a b x.1 x.2)
def Q8:(List Af)->Ex->St->Prop:=xX 0 0<|λ (y:(List Af))=>JhA y
def La:((List Af)×Int)->St:=(λ (x:((List Af)×Int))=>Jhz c x.1 x.2)
variable {c a b i h e l j}
theorem Qh (x:(Bool×Int)) (z:((Bool×Int)⊕Bool)) (H:FJ n c a b x.1 x.2=some z):WP (cxk 42 0) (AN Try.f46) [1,1,0,1,0,0,1,0,0,1,0,1,0,0] (AP 0 (K9 c a b) (Q7 c a b) z) (K9 c a b x):=by
 obtain⟨e,l⟩:=x;refine sq<|sr<|ck 4<|en<|cn H (λ H=>?_)<|λ H=>?_
 ·exact sk<|qz<|sq<|bk 3<|rz<|ck 4<|bx H λ A k H=>sE (λ hg=>Bv 0 6<|Dk k hg)<|sE (g:=(!e)) (λ hg=>Cp Ax 0 0 (ty 106)<|Dk k hg)<|ck 2<|bx H λ B m H=>sE (λ hg=>AF Ax<|Dk m hg)<|gc 2 (!e)<|pO<|ck 1<|ae<|qN<|qz<|rz<|ck 3<|ae (by cases H;exact og<|sg [0,3,4,5,6])
 ·exact ex 2<|qx (by cases H;exact xo rfl<|sg [0,3,4,5])
theorem Qi (x:((List Af)×Int)) (z:(((List Af)×Int)⊕(List Af))) (H:FK n c x.1 x.2=some z):WP (cxk 42 0) (AN Try.f46) [1,1,0,1,0,0] (AP 0 (La c) (Q8) z) (La c x):=by
 obtain⟨a,b⟩:=x;refine sq<|sr<|ck 2<|sp (AQ Ax c)<|ck 1<|en<|cn H (λ H=>?_)<|λ H=>?_
 ·refine sk<|qz<|sj (λ (x:(List Af))=>JhB c b x) (λ (x:(List Af))=>Hh n b x) z ?_ (λ f=>?_)
  ·intro h H;exact rz<|ck 3<|ae (by cases H;exact og<|sg [0,3,4])
  refine bk 1<|sr<|ck 1<|en<|sq<|sr<|ck 1<|en<|bk 2<|bx H λ C o H=>lX Qh o (sg [0,3,4,5,6]) rfl λ s p=>qH<|qs (p)<|sr<|ck 2<|en<|cn H (λ H=>?_)<|λ H=>?_
  ·exact rz<|ck 3<|bx H λ E q H=>sp (AF Ax q)<|ck 2<|bx H λ w r H=>sp (BJ Ax 0 6 r)<|ck 1<|ae<|qN<|qs (sg [0,3,4])<|f w H
  ·exact sk<|qN<|qs (sg [0,3,4])<|f a H
 ·exact ex 0<|qx (by cases H;exact xo rfl<|sg [3])
theorem UT {z} (H:Mp n c=some z):AE Try.prog 46 [.d (.sl (c.map Ax))] (.own 6 (z.map Ax)):=by
 exact fO 42 (Jhy c) Try.func46<|sr<|ck 1<|en<|sr<|ck 2<|en<|sq<|sr<|ck 1<|en<|bk 0<|bx H λ G t H=>lX Qi t (sg [0,3,4]) rfl λ s u=>qH<|qs (u)<|sr<|ck 2<|en<|re (by cases H;exact pr<|rO (v:=.osl 0 6 0<|z.length) [0]<|ao vo)
end
section
variable (a:Aa) (c:(List Af)) (e:Int) (h:(List Af)) (b:Int) (l:(List Af)) (j:(List Af)) (m:Af) (i:(List Af)) (q:Int) (o:(List Af)) (k:(List Af))
def JhE:St:=⟨(0,.agg [.d<|.int .i64 a.Modes,.d<|.int .u8 a.Accept,.d<|.sl<|a.Rules.map Ar])::(1,.d<|.sl<|c.map Ax)::(2,.d<|.int .u8 e)::[],[]⟩
def JhF:St:=⟨(1,.d<|.sl<|c.map Ax)::(2,.d<|.int .u8 e)::(3,.ptr 0 0)::(7,.osl 1 6 0<|h.length)::(8,.d<|.int .i64 b)::[],[some<|.box<|A0 a,some<|.arr 6<|h.map Ax]⟩
def JhG:St:=⟨(7,.osl 0 6 0<|l.length)::[],[some<|.arr 6<|l.map Ax]⟩
def JhH:St:=⟨(1,.d<|.sl<|c.map Ax)::(2,.d<|.int .u8 e)::(3,.ptr 0 0)::(7,.osl 1 6 0<|j.length)::(8,.d<|.int .i64 b)::[],[some<|.box<|A0 a,some<|.arr 6<|j.map Ax]⟩
def JhI:St:=⟨(1,.d<|.sl<|c.map Ax)::(2,.d<|.int .u8 e)::(3,.ptr 0 0)::(7,.osl 1 6 0<|i.length)::(8,.d<|.int .i64 b)::(9,.ptr 2 0)::(11,.d<|.int .i64 q)::[],[some<|.box<|A0 a,some<|.arr 6<|i.map Ax,some<|.box<|Ms m]⟩
def JhJ:St:=⟨(1,.d<|.sl<|c.map Ax)::(2,.d<|.int .u8 e)::(3,.ptr 0 0)::(7,.osl 1 6 0<|o.length)::(8,.d<|.int .i64 b)::[],[some<|.box<|A0 a,some<|.arr 6<|o.map Ax]⟩
def JhK:St:=⟨(1,.d<|.sl<|c.map Ax)::(2,.d<|.int .u8 e)::(3,.ptr 0 0)::(7,.osl 1 6 0<|k.length)::(8,.d<|.int .i64 b)::(9,.ptr 2 0)::(11,.d<|.int .i64 q)::[],[some<|.box<|A0 a,some<|.arr 6<|k.map Ax,some<|.box<|Ms m]⟩
def Q9:(List Af)->Ex->St->Prop:=xX 0 2<|λ (y:(List Af))=>JhJ a c e b y
def Lc:((List Af)×Int)->St:=(λ (x:((List Af)×Int))=>JhI a c e b m x.1 x.2)
def Ra:(List Af)->Ex->St->Prop:=xX 0 0<|λ (y:(List Af))=>JhG y
def Ld:((List Af)×Int)->St:=(λ (x:((List Af)×Int))=>JhF a c e x.1 x.2)
variable {a c e h b l j m i q o k}
theorem Qj (x:((List Af)×Int)) (z:(((List Af)×Int)⊕(List Af))) (H:Er n a c e b m x.1 x.2=some z):WP (cxk 104 0) (AN Try.f30) [1,1,0,1,0,0,1,0,0,1,1,1,0,0] (AP 0 (Lc a c e b m) (Q9 a c e b) z) (Lc a c e b m x):=by
 obtain⟨i,q⟩:=x;refine sq<|sr<|ck 3<|sp (AQ Ar a.Rules)<|ck 1<|en<|cn H (λ H=>?_)<|λ H=>?_
 ·refine sk<|qz<|sj (λ (x:(List Af))=>JhK a c e b m q x) (λ (x:(List Af))=>Hi n q x) z ?_ (λ g=>?_)
  ·intro k H;exact rz<|ck 3<|ae (by cases H;exact og<|sg [1,2,3,7,8,9,11])
  refine bk 3<|sr<|ck 4<|bx H λ p r H=>ca false (UQ r)<|ck 6<|en<|sr<|ck 3<|gc 1 p.2<|ck 1<|bx H λ Y t H=>sE (λ hg=>AF Ar<|Dk t hg)<|gc 2 p.2<|bx H λ Z u H=>sE (λ hg=>AF eU8<|Dk u hg)<|gc 1 p.2<|ck 1<|gc 1 p.2<|pA<|en<|cn H (λ H=>?_)<|λ H=>?_
  ·exact rz<|ck 9<|bx H λ aa w H=>sp (AF Ar w)<|ck 2<|bx H λ s7 A H=>sp (SQ A)<|ck 1<|bx H λ W B H=>ca false (N8 B)<|ck 1<|bx H λ T C H=>sp (BJ Ax 1 6 C)<|ck 1<|ae<|qN<|qs (sg [1,2,3,7,8,9,11])<|g T H
  ·exact sk<|qN<|qs (sg [1,2,3,7,8,9,11])<|g i H
 ·exact ex 2<|qx (by cases H;exact xo rfl<|sg [1,2,3,7,8])
theorem Qk (x:((List Af)×Int)) (z:(((List Af)×Int)⊕(List Af))) (H:FM n a c e x.1 x.2=some z):WP (cxk 104 0) (AN Try.f30) [1,1,0,1,0,0] (AP 0 (Ld a c e) (Ra) z) (Ld a c e x):=by
 obtain⟨h,b⟩:=x;refine sq<|sr<|ck 2<|sp (AQ Ax c)<|ck 1<|en<|cn H (λ H=>?_)<|λ H=>?_
 ·refine sk<|qz<|sj (λ (x:(List Af))=>JhH a c e b x) (λ (x:(List Af))=>FL n b x) z ?_ (λ f=>?_)
  ·intro j H;exact rz<|ck 3<|ae (by cases H;exact og<|sg [1,2,3,7,8])
  refine bk 1<|sr<|ck 2<|bx H λ m E H=>sp (AF Ax E)<|ck 3<|en<|sq<|sr<|ck 3<|en<|cn H (λ H=>?_)<|λ H=>?_
  ·refine sr<|ck 4<|bx H λ ab G H=>sp (AF Ar G)<|ck 3<|en<|sq<|sr<|ck 3<|bx H λ ac I H=>sp (AF eU8 I)<|ck 3<|en<|cn H (λ H=>?_)<|λ H=>?_
   ·exact rz<|ck 12<|bx H λ X J H=>ca false (N8 J)<|ck 1<|bx H λ U K H=>sp (BJ Ax 1 6 K)<|ck 1<|en<|ex 1<|qx<|qH<|qs (sg [1,2,3,7,8])<|f U H
   ·exact sk<|qz<|ex 1<|qx<|qH<|qs (sg [1,2,3,7,8])<|f h H
  ·exact sk<|qz<|sr<|ck 1<|en<|bk 2<|bx H λ V L H=>lX Qj L (sg [1,2,3,7,8,9,11]) rfl λ s M=>qH<|qN<|qs (tr (M)<|sg [1,2,3,7,8])<|f V H
 ·exact ex 0<|qx (by cases H;exact xo rfl<|sg [7])
theorem UU {z} (H:Mq n a c e=some z):AE Try.prog 30 [.agg (A0 a),.d (.sl (c.map Ax)),.d (.int .u8 e)] (.own 6 (z.map Ax)):=by
 exact fO 104 (JhE a c e) Try.func30<|sr<|ck 2<|en<|sr<|ck 2<|en<|sq<|sr<|ck 1<|en<|bk 0<|bx H λ O P H=>lX Qk P (sg [1,2,3,7,8]) rfl λ s Q=>qH<|qs (Q)<|sr<|ck 1<|bx H λ R S H=>cb (ks:=[0]) (obl:=[(0+List.length O,List.length<|O.map Ax)]) (ls:=[List.length R]) true (leK leM<|leZ) (G5 PI rfl) (UT S) (Or.inr<|JiF λ _=>rfl) (JiC rfl)<|ck 1<|en<|re (by cases H;exact pr<|rO (v:=.osl 1 6 0<|z.length) [1]<|ao vo)
end
section
variable (e:(List (List UInt8))) (f:(List UInt8)) (g:(List (List UInt8))) (h:Bool) (i:Int) (m:(List (List UInt8))) (p:Bool) (k:(List (List UInt8))) (o:Bool) (j:(List (List UInt8))) (l:(List (List UInt8)))
def JhL:St:=⟨(0,.d<|.sl<|e.map eS)::(1,.d<|.str f)::[],[]⟩
def JhM:St:=⟨(0,.d<|.sl<|e.map eS)::(1,.d<|.str f)::(5,.osl 0 1 0<|g.length)::(6,.d<|.bool h)::(7,.d<|.int .i64 i)::[],[some<|.arr 1<|g.map eS]⟩
def JhN:St:=⟨(1,.d<|.str f)::(5,.osl 0 1 0<|m.length)::(6,.d<|.bool p)::[],[some<|.arr 1<|m.map eS]⟩
def JhO:St:=⟨(0,.d<|.sl<|e.map eS)::(1,.d<|.str f)::(5,.osl 0 1 0<|k.length)::(6,.d<|.bool o)::(7,.d<|.int .i64 i)::[],[some<|.arr 1<|k.map eS]⟩
def JhP:St:=⟨(0,.d<|.sl<|e.map eS)::(1,.d<|.str f)::(5,.osl 0 1 0<|j.length)::(7,.d<|.int .i64 i)::[],[some<|.arr 1<|j.map eS]⟩
def Om:((List<|List UInt8)×Bool)->Ex->St->Prop:=xX 0 0<|λ (y:((List<|List UInt8)×Bool))=>JhN f y.1 y.2
def Jd:((List<|List UInt8)×Bool×Int)->St:=(λ (x:((List<|List UInt8)×Bool×Int))=>JhM e f x.1 x.2.1 x.2.2)
def JhQ:St:=⟨(5,.osl 0 1 0<|l.length)::[],[some<|.arr 1<|l.map eS]⟩
variable {e f g h i m p k o j l}
theorem Nt (x:((List (List UInt8))×Bool×Int)) (z:(((List (List UInt8))×Bool×Int)⊕((List (List UInt8))×Bool))) (H:D0 n e f x.1 x.2.1 x.2.2=some z):WP (cxk 49 0) (AN Try.f47) [1,1,0,1,0,0] (AP 0 (Jd e f) (Om f) z) (Jd e f x):=by
 obtain⟨g,h,i⟩:=x;refine sq<|sr<|ck 2<|sp (AQ eS e)<|ck 1<|en<|cn H (λ H=>?_)<|λ H=>?_
 ·refine sk<|qz<|sq<|bk 1<|sj (λ (x:((List<|List UInt8)×Bool))=>JhO e f i x.1 x.2) (λ (x:((List<|List UInt8)×Bool))=>DY n e i x.1 x.2) z ?_ (λ a=>?_)
  ·rintro⟨k,o⟩ H;exact rz<|ck 3<|bx H λ J q H=>sp (AF eS q)<|ck 2<|bx H λ K r H=>sp (BJ eS 0 1 r)<|ck 1<|ae<|qN<|qz<|rz<|ck 3<|ae (by cases H;exact og<|sg [0,1,5,6,7])
  refine sr<|ck 5<|bx H λ L t H=>sE (λ hg=>AF eS<|Dk t hg)<|gc 1 (!h)<|ck 1<|gc 1 (!h)<|pA<|en<|cn H (λ H=>?_)<|λ H=>?_
  ·refine sj (λ (x:(List<|List UInt8))=>JhP e f i x) (λ (x:(List<|List UInt8))=>DZ n e i x) z ?_ (λ b=>?_)
   ·intro j H;exact rz<|ck 1<|ae<|qs (sg [0,1,5,6,7])<|a (j,true) H
   refine sr<|ck 2<|bx H λ M u H=>sp (AF eS u)<|ck 3<|en<|cn H (λ H=>?_)<|λ H=>?_
   ·exact rz<|ck 3<|bx H λ E w H=>sp (BJ eS 0 1 w)<|ck 1<|ae<|qs (sg [0,1,5,7])<|b E H
   ·exact sk<|qs (sg [0,1,5,7])<|b g H
  ·exact sk<|qs (sg [0,1,5,6,7])<|a (g,h) H
 ·exact ex 0<|qx (by cases H;exact xo rfl<|sg [1,5,6])
theorem Rb {z} (H:IM n e f=some z):AE Try.prog 47 [.d (.sl (e.map eS)),.d (.str f)] (.own 1 (z.map eS)):=by
 refine fO 49 (JhL e f) Try.func47<|sr<|ck 1<|en<|sr<|ck 3<|en<|sq<|sr<|ck 1<|en<|bk 0<|bx H λ G A H=>lX Nt A (sg [0,1,5,6,7]) rfl λ s B=>qH<|qs (B)<|sj (λ (x:(List<|List UInt8))=>JhQ x) (λ (x:(List<|List UInt8))=>Fq n x) z ?_ (λ c=>?_)
 ·intro l H;exact sr<|ck 2<|en<|re (by cases H;exact pr<|rO (v:=.osl 0 1 0<|z.length) [0]<|ao vo)
 refine sr<|ck 2<|en<|cn H (λ H=>?_)<|λ H=>?_
 ·exact rz<|ck 3<|bx H λ I C H=>sp (BJ eS 0 1 C)<|ck 1<|ae<|qs (sg [5])<|c I H
 ·exact sk<|qs (sg [5])<|c G.1 H
end
section
variable (c:Aa) (e:(List Af)) (a:(List (List UInt8))) (g:Int) (h:(List (List UInt8))) (f:(List (List UInt8)))
def JhR:St:=⟨(0,.agg [.d<|.int .i64 c.Modes,.d<|.int .u8 c.Accept,.d<|.sl<|c.Rules.map Ar])::(1,.d<|.sl<|e.map Ax)::[],[]⟩
def JhS:St:=⟨(1,.d<|.sl<|e.map Ax)::(2,.ptr 0 0)::(5,.osl 1 1 0<|a.length)::(6,.d<|.int .i64 g)::[],[some<|.box<|A0 c,some<|.arr 1<|a.map eS]⟩
def JhT:St:=⟨(5,.osl 0 1 0<|h.length)::[],[some<|.arr 1<|h.map eS]⟩
def JhU:St:=⟨(1,.d<|.sl<|e.map Ax)::(2,.ptr 0 0)::(5,.osl 1 1 0<|f.length)::(6,.d<|.int .i64 g)::[],[some<|.box<|A0 c,some<|.arr 1<|f.map eS]⟩
def Ql:(List<|List UInt8)->Ex->St->Prop:=xX 0 0<|λ (y:(List<|List UInt8))=>JhT y
def J4:((List<|List UInt8)×Int)->St:=(λ (x:((List<|List UInt8)×Int))=>JhS c e x.1 x.2)
variable {c e a g h f}
theorem On (x:((List (List UInt8))×Int)) (z:(((List (List UInt8))×Int)⊕(List (List UInt8)))) (H:EN n c e x.1 x.2=some z):WP (cxk 37 0) (AN Try.f31) [1,1,0,1,0,0] (AP 0 (J4 c e) (Ql) z) (J4 c e x):=by
 obtain⟨a,g⟩:=x;refine sq<|sr<|ck 2<|sp (AQ Ax e)<|ck 1<|en<|cn H (λ H=>?_)<|λ H=>?_
 ·refine sk<|qz<|sj (λ (x:(List<|List UInt8))=>JhU c e g x) (λ (x:(List<|List UInt8))=>Ga n g x) z ?_ (λ b=>?_)
  ·intro f H;exact rz<|ck 3<|ae (by cases H;exact og<|sg [1,2,5,6])
  refine bk 1<|sr<|ck 2<|bx H λ r j H=>sp (AF Ax j)<|ck 7<|bx H λ t k H=>sE (λ hg=>AF Ax<|Dk k hg)<|gc 2 (decide<|r.Rule<0)<|bx H λ u l H=>cG false (leZ) rfl (λ hg=>Qe<|Dk l hg) (Or.inl rfl) (Dj (λ hh=>hh)<|Dj (λ hh=>hh)<|GT) rfl<|pA<|en<|cn H (λ H=>?_)<|λ H=>?_
  ·exact rz<|ck 3<|bx H λ w m H=>sp (AF Ax m)<|ck 2<|bx H λ i o H=>cb (ks:=[1]) (obl:=[(0+List.length a,List.length<|a.map eS)]) (ls:=[List.length i]) true (leK leM<|leZ) (G5 PI<|G5 rfl rfl) (Rb o) (Or.inr<|JiF λ _=>rfl) (JiC rfl)<|ck 1<|ae<|qN<|qs (sg [1,2,5,6])<|b i H
  ·exact sk<|qN<|qs (sg [1,2,5,6])<|b a H
 ·exact ex 0<|qx (by cases H;exact xo rfl<|sg [5])
theorem Ti {z} (H:Kw n c e=some z):AE Try.prog 31 [.agg (A0 c),.d (.sl (e.map Ax))] (.own 1 (z.map eS)):=by
 exact fO 37 (JhR c e) Try.func31<|sr<|ck 2<|en<|sr<|ck 2<|en<|sq<|sr<|ck 1<|en<|bk 0<|bx H λ A p H=>lX On p (sg [1,2,5,6]) rfl λ s q=>qH<|qs (q)<|sr<|ck 2<|en<|re (by cases H;exact pr<|rO (v:=.osl 0 1 0<|z.length) [0]<|ao vo)
end
section
variable (a:Aa) (b:(List Int)) (e:(List Af)) (c:Int) (f:(List Af))
def JhV:St:=⟨(0,.agg [.d<|.int .i64 a.Modes,.d<|.int .u8 a.Accept,.d<|.sl<|a.Rules.map Ar])::(1,.d<|.sl<|b.map eU8)::[],[]⟩
def JhW:St:=⟨(1,.d<|.sl<|b.map eU8)::(2,.ptr 0 0)::(5,.d<|.sl<|e.map Ax)::(6,.d<|.int .i64 c)::[],[some<|.box<|A0 a]⟩
def JhX:St:=⟨(2,.ptr 0 0)::(5,.d<|.sl<|f.map Ax)::[],[some<|.box<|A0 a]⟩
def Tj:(List Af)->Ex->St->Prop:=xX 0 0<|λ (y:(List Af))=>JhX a y
def My:((List Af)×Int)->St:=(λ (x:((List Af)×Int))=>JhW a b x.1 x.2)
variable {a b e c f}
theorem Rc (x:((List Af)×Int)) (z:(((List Af)×Int)⊕(List Af))) (H:Gy n a b x.1 x.2=some z):WP (cxk 24 0) (AN Try.f16) [1,1,0,1,0,0] (AP 0 (My a b) (Tj a) z) (My a b x):=by
 obtain⟨e,c⟩:=x;refine sq<|sr<|ck 2<|sp (AQ eU8 b)<|ck 1<|en<|cn H (λ H=>?_)<|λ H=>?_
 ·exact sk<|qz<|sq<|bk 1<|rz<|ck 4<|bx H λ o g H=>sp (AF eU8 g)<|ck 1<|bx H λ p h H=>ca false (UU h)<|ck 1<|ae<|qN<|qz<|rz<|ck 3<|ae (by cases H;exact og<|sg [1,2,5,6])
 ·exact ex 0<|qx (by cases H;exact xo rfl<|sg [2,5])
theorem Wv {z} (H:OF n a b=some z):AE Try.prog 16 [.agg (A0 a),.d (.sl (b.map eU8))] (.own 1 (z.map eS)):=by
 exact fO 24 (JhV a b) Try.func16<|sr<|ck 2<|en<|sr<|bx H λ q i H=>ca false (Th i)<|ck 1<|en<|sq<|sr<|ck 1<|en<|bk 0<|bx H λ r j H=>lX Rc j (sg [1,2,5,6]) rfl λ s k=>qH<|qs (k)<|sr<|ck 2<|bx H λ l m H=>cl [List.length l] (Ti m)<|ck 1<|en<|re (by cases H;exact pr<|rO (v:=.osl 1 1 0<|z.length) [1]<|ao vo)
end
section
variable (w:Ji) (A:(List (C1 Int))) (m:Int) (i:Bool) (k:Aa) (h:(List AD)) (j:((List AZ)×Int)) (f:Int) (e:AZ) (r:(List (List UInt8))) (p:Bool) (B:Int) (u:Bool)
def JjE:St:=⟨(0,.agg [.d<|.int .u8 w.Base,.d<|.int .u8 w.Drop,.d<|.sl<|w.More.map Es])::(1,.d<|.sl<|A.map<|JP eU8)::(2,.d<|.int .u8 m)::[],[]⟩
def JjF:St:=⟨(7,.d<|.bool i)::(8,.ptr 0 0)::(9,.d<|.sl<|h.map Bk)::(10,.d<|.int .i64<|IntKind.i64.wrap<|Bj m 7)::(11,.d<|.sl<|j.1.map Bi)::(13,.d<|.int .i64 f)::[],[some<|.box<|A0 k]⟩
def JjG:St:=⟨(7,.d<|.bool i)::[],[]⟩
def JjH:St:=⟨(7,.d<|.bool i)::(8,.ptr 0 0)::(9,.d<|.sl<|h.map Bk)::(10,.d<|.int .i64<|IntKind.i64.wrap<|Bj m 7)::(11,.d<|.sl<|j.1.map Bi)::(13,.d<|.int .i64 f)::(14,.ptr 1 0)::(15,.d<|.sl<|r.map eS)::(16,.d<|.bool p)::(17,.d<|.int .i64 B)::[],[some<|.box<|A0 k,some<|.box<|S3 e]⟩
def JjI:St:=⟨(7,.d<|.bool i)::(8,.ptr 0 0)::(9,.d<|.sl<|h.map Bk)::(10,.d<|.int .i64<|IntKind.i64.wrap<|Bj m 7)::(11,.d<|.sl<|j.1.map Bi)::(13,.d<|.int .i64 f)::(14,.ptr 1 0)::(16,.d<|.bool u)::[],[some<|.box<|A0 k,some<|.box<|S3 e]⟩
def J5:Bool->Ex->St->Prop:=xX 0 2<|λ (y:Bool)=>JjI m i k h j f e y
def FO:(Bool×Int)->St:=(λ (x:(Bool×Int))=>JjH m i k h j f e r x.1 x.2)
def J6:(Unit⊕Bool)->Ex->St->Prop:=xS (xX 0 0<|λ (_:Unit)=>JjG i)<|xR ty Try.f4<|λ (y:Bool)=>.d<|.bool y
def FP:Int->St:=(λ (x:Int)=>JjF m i k h j x)
variable {w A m i k h j f e r p B u}
theorem Jo (x:(Bool×Int)) (z:((Bool×Int)⊕Bool)) (H:Cr n m i k h j f e r x.1 x.2=some z):WP (cxk 134 0) (AN Try.f4) [1,1,1,1,1,1,0,1,0,0,1,0,0,1,1,1,1,0,1,0,0] (AP 0 (FO m i k h j f e r) (J5 m i k h j f e) z) (FO m i k h j f e r x):=by
 obtain⟨p,B⟩:=x;refine sq<|sr<|ck 2<|sp (AQ eS r)<|ck 1<|en<|cn H (λ H=>?_)<|λ H=>?_
 ·exact sk<|qz<|sq<|bk 3<|rz<|ck 4<|bx H λ X E H=>sE (λ hg=>AF eS<|Dk E hg)<|gc 1 (!p)<|ck 1<|gc 2 (!p)<|pO<|ck 1<|ae<|qN<|qz<|rz<|ck 3<|ae (by cases H;exact og<|sg [7,8,9,10,11,13,14,15,16,17])
 ·exact ex 2<|qx (by cases H;exact xo rfl<|sg [7,8,9,10,11,13,14,16])
theorem EX (x:Int) (z:(Int⊕(Unit⊕Bool))) (H:Cs n m i k h j x=some z):WP (cxk 134 0) (AN Try.f4) [1,1,1,1,1,1,0,1,0,0] (AP 0 (FP m i k h j) (J6 i) z) (FP m i k h j x):=by
 revert H;generalize x=f;intro H;refine sq<|sr<|ck 2<|sp (AQ Bi j.1)<|ck 1<|en<|cn H (λ H=>?_)<|λ H=>?_
 ·refine sk<|qz<|sq<|bk 1<|sr<|ck 2<|bx H λ e G H=>sp (AF Bi G)<|ck 3<|en<|sq<|sr<|ck 2<|sp (AQ eU8 e.Cells)<|ck 1<|sp (AQ Bk h)<|ck 3<|gc 1 (!(((e.Cells.length:Nat):Int) != ((h.length:Nat):Int)))<|ck 1<|gc 1 (!(((e.Cells.length:Nat):Int) != ((h.length:Nat):Int)))<|pO<|ck 3<|gc 1 (!((((e.Cells.length:Nat):Int) != ((h.length:Nat):Int))||(decide<|e.Cost>IntKind.i64.wrap (Bj m 7))))<|bx H λ Y I H=>cG false (leZ) rfl (λ hg=>US<|Dk I hg) (Or.inl rfl) (Dj (λ hh=>hh)<|Dj (λ hh=>hh)<|GT) rfl<|ck 1<|gc 2 (!((((e.Cells.length:Nat):Int) != ((h.length:Nat):Int))||(decide<|e.Cost>IntKind.i64.wrap (Bj m 7))))<|pO<|en<|cn H (λ H=>?_)<|λ H=>?_
  ·exact sr<|ck 1<|en<|re<|qr<|qR<|qr (by cases H;exact ro rfl rd)
  ·refine sk<|qz<|sr<|ck 3<|bx H λ r J H=>ca false (Wv J)<|ck 1<|en<|sr<|ck 1<|en<|sq<|sr<|ck 1<|en<|bk 2<|bx H λ o K H=>lX Jo K (sg [7,8,9,10,11,13,14,15,16,17]) rfl λ s L=>qH<|qs (L)<|sr<|ck 4<|gc 2 (!(!o))<|ck 2<|gc 1 ((!(!o))&&(decide<|f>0))<|bx H λ l M H=>sE (λ hg=>AF Bi<|Dk M hg)<|gc 2 ((!(!o))&&(decide<|f>0))<|ck 1<|gc 3 ((!(!o))&&(decide<|f>0))<|ck 2<|gc 1 (((!(!o))&&(decide<|f>0))&&!(decide<|l.Cost>e.Cost))<|bx H λ q O H=>sE (λ hg=>AF Bi<|Dk O hg)<|gc 2 (((!(!o))&&(decide<|f>0))&&!(decide<|l.Cost>e.Cost))<|ck 1<|gc 3 (((!(!o))&&(decide<|f>0))&&!(decide<|l.Cost>e.Cost))<|ck 2<|gc 1 ((((!(!o))&&(decide<|f>0))&&!(decide<|l.Cost>e.Cost))&&(q.Cost==e.Cost))<|bx H λ t P H=>sE (λ hg=>AF Bi<|Dk P hg)<|gc 2 ((((!(!o))&&(decide<|f>0))&&!(decide<|l.Cost>e.Cost))&&(q.Cost==e.Cost))<|ck 1<|gc 2 ((((!(!o))&&(decide<|f>0))&&!(decide<|l.Cost>e.Cost))&&(q.Cost==e.Cost))<|pG (g:=(((!(!o))&&(decide<|f>0))&&!(decide<|l.Cost>e.Cost))) (v:=.d<|.bool<|(q.Cost==e.Cost)&&(!(Op.bytesLess t.Text e.Text))) (λ hg=>HR (c:=.gv (((!(!o))&&(decide<|f>0))&&!(decide<|l.Cost>e.Cost))<|.d<|.bool<|q.Cost==e.Cost) (a:=.gv ((((!(!o))&&(decide<|f>0))&&!(decide<|l.Cost>e.Cost))&&(q.Cost==e.Cost))<|.d<|.bool<|!(Op.bytesLess t.Text e.Text)) (b:=.d<|.bool false) rfl rfl rfl ((λ hh=>hh) hg) (λ ht=>by rw[(λ hh=>hh) hg,ht];rfl) trivial)<|pG (g:=((!(!o))&&(decide<|f>0))) (v:=.d<|.bool<|(decide<|l.Cost>e.Cost)||((q.Cost==e.Cost)&&(!(Op.bytesLess t.Text e.Text)))) (λ hg=>HR (c:=.gv ((!(!o))&&(decide<|f>0))<|.d<|.bool<|decide<|l.Cost>e.Cost) (a:=.d<|.bool true) (b:=.gv (((!(!o))&&(decide<|f>0))&&!(decide<|l.Cost>e.Cost))<|.d<|.bool<|(q.Cost==e.Cost)&&(!(Op.bytesLess t.Text e.Text))) rfl rfl rfl ((λ hh=>hh) hg) trivial (λ ht=>by rw[(λ hh=>hh) hg,ht];rfl))<|pG (g:=(!(!o))) (v:=.d<|.bool<|(decide<|f>0)&&((decide<|l.Cost>e.Cost)||((q.Cost==e.Cost)&&(!(Op.bytesLess t.Text e.Text))))) (λ hg=>HR (c:=.gv (!(!o))<|.d<|.bool<|decide<|f>0) (a:=.gv ((!(!o))&&(decide<|f>0))<|.d<|.bool<|(decide<|l.Cost>e.Cost)||((q.Cost==e.Cost)&&(!(Op.bytesLess t.Text e.Text)))) (b:=.d<|.bool false) rfl rfl rfl ((λ hh=>hh) hg) (λ ht=>by rw[(λ hh=>hh) hg,ht];rfl) trivial)<|pO<|en<|cn H (λ H=>?_)<|λ H=>?_
   ·exact sr<|ck 1<|en<|re<|qR<|qr (by cases H;exact ro rfl rd)
   ·exact sk<|qN<|qz<|rz<|ck 3<|ae (by cases H;exact og<|sg [7,8,9,10,11,13])
 ·exact ex 0<|qx (by cases H;exact xo rfl<|sg [7])
theorem Ly {z} (H:Ea n w A m=some z):AE Try.prog 4 [.agg (Wu w),.d (.sl (A.map (JP eU8))),.d (.int .u8 m)] (.d (.bool z)):=by
 refine fO 134 (JjE w A m) Try.func4<|sr<|ck 2<|en<|sr<|bx H λ i Q H=>ca true (QV Q)<|ck 1<|en<|sr<|ck 1<|bx H λ k R H=>ca false (UO R)<|ck 1<|bx H λ h S H=>ca false (UP S)<|ck 7<|en<|sr<|ck 3<|bx H λ j T H=>ca false (Ct T)<|ck 5<|en<|sq<|sr<|ck 2<|en<|cn H (λ H=>?_)<|λ H=>?_
 ·exact sr<|ck 4<|pA<|ck 1<|en<|re<|qr (by cases H;exact pr rd)
 ·refine sk<|qz<|sq<|sr<|ck 1<|sp (AQ Bi j.1)<|ck 1<|en<|cn H (λ H=>?_)<|λ H=>?_
  ·exact sr<|ck 1<|en<|re<|qr (by cases H;exact pr rd)
  ·refine sk<|qz<|sq<|sr<|ck 1<|en<|bk 0<|bx H λ W C H=>?_;rcases W with Z|aa
   ·exact lX EX C (sg [7,8,9,10,11,13]) rfl λ s U=>qH<|qs (U)<|sr<|ck 2<|en<|re (by cases H;exact pr rd)
   ·exact lR EX C (sg [7,8,9,10,11,13]) rfl λ s V=>qR<|qr (by cases H;exact pr V)
end
end Go.AI
end
section
namespace Go.AI
def CRd (F:Nat->Option Obj) (l:List D) (cs:List Value):Prop:=l.length=cs.length/\∀ (i:Nat) (y:D) (v:Value),l[i]?=some y->cs[i]?=some v->A8 F y v
def FX {α:Type} (P:Program) (t:TypeId) (enc:α->List D) (ok:α->Prop):Prop:=
 ∀ (H:Type) (e:TypeId×Value->H) (w:World) (base:Nat) (spare:Nat->Bool) (held:Bool) (fuel:Nat) (cs:List Value) (x:DataW H×List MemPlace),DataW.trod e P w base spare held fuel t cs=some x->∃ a:α,ok a/\CRd (λ b=>w.heap[b]?) (enc a) cs
theorem Tk {F:Nat->Option Obj} {y:D} {v:Value} (h:A8 F y v):CRd F [y] [v]:=by
 refine⟨rfl,λ i a b ha hb=>?_⟩;cases i with
 | zero=>simp at ha hb;subst ha;subst hb;exact h
 | succ i=>simp at ha
theorem YU {P:Program} {t:TypeId} {k:IntKind} (ht:P.underlying t=some (.int k)):FX P t (λ n=>[.int k n]) (λ n=>(Lit.int k n).wf=true):=by
 intro H e w base spare held fuel cs x h;obtain⟨n,rfl,_,hw⟩:=DataW.trod_int ht h;exact⟨n,hw,Tk (.int k n)⟩
theorem UV {α:Type} {Q:Nat->α->Prop}:∀ n,(∀ i,i<n->∃ a,Q i a)->∃ l:List α,l.length=n/\∀ i a,l[i]?=some a->Q i a:=by
 intro n;induction n with
 | zero=>intro _;exact⟨[],rfl,λ i a h=>by simp at h⟩
 | succ n ih=>
  intro h;obtain⟨l,hl,hq⟩:=ih λ i hi=>h i (by omega);obtain⟨a,ha⟩:=h n (by omega);refine⟨l++[a],by simp[hl],λ i b hb=>?_⟩;rcases JkZ i l.length with hlt|hge
  ·rw[Jlh hlt]at hb;exact hq i b hb
  ·rw[Jlr hge]at hb;have:i-l.length=0:=by have:=Ad hb;simp at this;omega
   rw[this]at hb;simp at hb;subst hb;have:i=n:=by omega
   subst this;exact ha
theorem UW {α β:Type} {f:α->Option β}:∀ {l:List α} {r:List β},l.mapM f=some r->r.length=l.length/\∀ (i:Nat) (a:α),l[i]?=some a->r[i]?=f a:=by
 intro l;induction l with
 | nil=>intro r h;simp at h;subst h;exact⟨rfl,λ i a h=>by simp at h⟩
 | cons a l ih=>
  intro r h;rw[List.mapM_cons]at h;simp only[Option.bind_eq_bind,Option.bind_eq_some_iff,Option.pure_def,Jlj]at h;obtain⟨b,hb,r',hr',rfl⟩:=h;obtain⟨h1,h2⟩:=ih hr';refine⟨by simp[h1],λ i x hx=>?_⟩;cases i with
  | zero=>simp at hx;subst hx;simp[hb]
  | succ i=>simpa using h2 i x (by simpa using hx)
theorem Tl {α:Type} {P:Program} {t e:TypeId} {enc:α->List D} {ok:α->Prop} {sz:Nat} (ht:P.underlying t=some (.slice e)) (hsz:P.cellsOf e=sz) (h1:Nat.ble 1 sz=true) (hl:∀ a,(enc a).length=sz) (he:FX P e enc ok):FX P t (eL enc) (λ l=>l.length<=9223372036854775807/\∀ a∈l,ok a):=by
 intro H en w base spare held fuel cs x h;have h1:=Jlo h1;rcases DataW.trod_slice ht h with⟨rfl,_⟩|⟨a,len,cap,elems,rest,n,_,rfl,_,_,hcap,hmx,hel,hget,_,_⟩
 ·exact⟨[],⟨by simp,λ a h=>by simp at h⟩,Tk (.sl0 _ _)⟩
 ·rw[hsz]at hget;have hex:∀ i,i<len->∃ y:α,ok y/\∃ ci,w.cells? base (a.add (i*sz)) sz=some ci/\CRd (λ b=>w.heap[b]?) (enc y) ci:=λ i hi=>by
   have hg:=hget i hi;rw[Jk9 (show i<elems.length by omega)]at hg;simp only[Option.bind_eq_some_iff]at hg;obtain⟨ci,hc,htr⟩:=hg;obtain⟨y,hy,hcr⟩:=he H en w base spare held n ci _ htr;exact⟨y,hy,ci,hc,hcr⟩
  obtain⟨l,hll,hq⟩:=UV len hex;refine⟨l,⟨by unfold maxLen at hmx;omega,λ y hy=>?_⟩,Tk ?_⟩
  ·obtain⟨i,hi⟩:=List.mem_iff_getElem?.1 hy;exact(hq i y hi).1
  ·rcases Nat.eq_zero_or_pos len with h0|hpos
   ·have:l=[]:=List.length_eq_zero_iff.1 (by omega);subst this;subst h0;exact .sl0 _ _
   ·
    have hcell:∀ i y,l[i]?=some y->∀ j,j<sz->∃ v,w.cell? ((a.add (i*sz)).add j)=some v/\∀ d,(enc y)[j]?=some d->A8 (λ b=>w.heap[b]?) d v:=λ i y hy j hj=>by
     obtain⟨_,ci,hc,hcr⟩:=hq i y hy;unfold World.cells? at hc;split at hc
     ·obtain⟨g1,g2⟩:=UW hc;have:=g2 j j (by simp[hj]);have hjc:j<ci.length:=by rw[g1];simpa using hj
      rw[Jk9 hjc]at this;exact⟨ci[j],this.symm,λ d hd=>hcr.2 j d _ hd (Jk9 hjc)⟩
     ·cases hc
    have h0:l[0]?=some l[0]:=Jk9 (by omega);obtain⟨v0,hv0,_⟩:=hcell 0 _ h0 0 (by omega);have ha0:(a.add (0*sz)).add 0=a:=by simp[Addr.add]
    rw[ha0]at hv0;obtain⟨b,off,spot⟩:=a;unfold World.cell? at hv0;simp only at hv0;split at hv0
    ·rename_i c ty fr hblk;cases spot with
     | some s=>simp at hv0
     | none=>
      have hcell':∀ i y,l[i]?=some y->∀ j d,(enc y)[j]?=some d->∃ v,c[off+i*sz+j]?=some v/\A8 (λ b=>w.heap[b]?) d v:=λ i y hy j d hd=>by
       have hj:j<sz:=by rw[← hl y];exact Ad hd
       obtain⟨v,hv,hr⟩:=hcell i y hy j hj;rw[BO,BO,Ju hblk]at hv;exact⟨v,hv,hr d hd⟩
      have hlen:(l.map enc).length=len:=by simp[hll]
      have:=A8.sl (F:=λ b=>w.heap[b]?) (l.map enc) b off cap sz c ty fr (λ i j=>(c[off+i*sz+j]?).getD undef) hblk (λ e he=>by
        simp only[Jk1]at he;obtain⟨y,_,rfl⟩:=he;exact hl y) (by omega) (λ i e hi j d hd=>by
        simp only[Jld,Jlc]at hi;obtain⟨y,hy,rfl⟩:=hi;obtain⟨v,hv,_⟩:=hcell' i y hy j d hd;simp only[hv,JkU]) (λ i e hi j d hd=>by
        simp only[Jld,Jlc]at hi;obtain⟨y,hy,rfl⟩:=hi;obtain⟨v,hv,hr⟩:=hcell' i y hy j d hd;simp only[hv,JkU];exact hr)
      rw[hlen]at this;exact this
    ·cases hv0
theorem J7 {α:Type} {P:Program} {t e:TypeId} {enc:α->List D} {ok:α->Prop} {sz:Nat} (ht:P.underlying t=some (.slice e)) (hsz:P.cellsOf e=sz) (h1:Nat.ble 1 sz=true) (hl:∀ a,(enc a).length=sz) (he:FX P e enc ok):FX P t (eL enc) (λ l=>∀ a∈l,ok a):=by
 intro H en w base spare held fuel cs x h;obtain⟨l,h1,h2⟩:=Tl ht hsz h1 hl he H en w base spare held fuel cs x h;exact⟨l,h1.2,h2⟩
theorem D6 {F:Nat->Option Obj} {l m:List D} {cs:List Value} {o n:Nat} (h:CRd F l ((cs.drop o).take n)) (hn:Nat.beq l.length n=true) (h':CRd F m (cs.drop (o+n))):CRd F (l++m) (cs.drop o):=by
 have hn:=Jlg hn;have e:cs.drop o=(cs.drop o).take n++cs.drop (o+n):=by rw[← List.drop_drop,List.take_append_drop]
 rw[e];refine⟨by simp only[List.length_append,h.1,h'.1],λ i y v hy hv=>?_⟩;rcases JkZ i l.length with hlt|hge
 ·rw[Jlh hlt]at hy;rw[Jlh (by rw[← h.1];exact hlt)]at hv;exact h.2 i y v hy hv
 ·rw[Jlr hge]at hy;rw[Jlr (by rw[← h.1];exact hge),← h.1]at hv;exact h'.2 _ y v hy hv
theorem Tm {F:Nat->Option Obj} {cs:List Value} {o:Nat} (h:cs.length<=o):CRd F [] (cs.drop o):=by
 rw[List.drop_eq_nil_of_le h];exact⟨rfl,λ i y v hy=>by simp at hy⟩
theorem Ww {H:Type} {enc:TypeId×Value->H} {P:Program} {w:World} {base:Nat} {spare:Nat->Bool} {held:Bool} {fuel:Nat} {t e:TypeId} {n:Nat} {cs:List Value} {x:DataW H×List MemPlace} (ht:P.underlying t=some (.array n e)) (h:DataW.trod enc P w base spare held fuel t cs=some x) :
  ∃ m,cs.length=P.cellsOf t/\∀ i,i<n->∃ y,DataW.trod enc P w base spare held m e ((cs.drop (i*P.cellsOf e)).take (P.cellsOf e))=some y:=by
 cases fuel with
 | zero=>simp[DataW.trod]at h
 | succ m=>
  unfold DataW.trod at h;rw[ht]at h;split at h<;>simp_all;obtain⟨xs,hp,_⟩:=h.2;refine⟨m,λ i hi=>?_⟩;obtain⟨g1,g2⟩:=UW hp;have:=g2 i i (by simp[hi]);have hlt:i<xs.length:=by rw[g1];simpa using hi
  rw[Jk9 hlt]at this;exact⟨_,_,this.symm⟩
end Go.AI
end
section
namespace Go.AI
open Go.ChangeShapes Go.WideShapes Go.ChangeAt Go.RowKit
variable {P:Program} {H:Type} {en:TypeId×Value->H} {W W':World} {base:Nat} {spare:Nat->Bool} {held:Bool} {t e:TypeId} {v:Value} {d:DataW H} {ps:List MemPlace} {α:Type} {enc:α->List D} {ok:α->Prop}
theorem Jd1 {cs:Array Value} (hv:v=.agg cs) (hd:DataW.Trod en P W base spare held t v d ps) (hr:FX P t enc ok):∃ a,ok a/\Ah (λ b=>W.heap[b]?) noR (.agg ((enc a).map .d)) v:=by
 subst hv;obtain⟨fuel,hf⟩:=hd;obtain⟨a,h1,h2,h3⟩:=hr H en W base spare held fuel _ _ hf;refine⟨a,h1,.agg _ _ (by simpa [Value.cells]using h2) λ i x u hx hu=>?_⟩;simp only[Jld,Jlc]at hx;obtain⟨y,hy,rfl⟩:=hx;exact .d _ _ (h3 i y u hy (by simpa [Value.cells]using hu))
theorem Xn {y:α->D} (hc:v.cells=#[v]) (hd:DataW.Trod en P W base spare held t v d ps) (hr:FX P t enc ok) (he:∀ a,enc a=[y a]):∃ a,ok a/\Ah (λ b=>W.heap[b]?) noR (.d (y a)) v:=by
 obtain⟨fuel,hf⟩:=hd;obtain⟨a,h1,h2,h3⟩:=hr H en W base spare held fuel _ _ hf;refine⟨a,h1,.d _ _ (h3 0 (y a) v (by rw[he];rfl) (by rw[hc];rfl))⟩
theorem JhY {F:Nat->Option Obj} {ρ:Nat->Option Loc}:CR F ρ [] []:=⟨rfl,λ i a v h=>by simp at h⟩
theorem Tn {F:Nat->Option Obj} {ρ:Nat->Option Loc} {a:AV} {v:Value} {l:List AV} {vs:List Value} (h:Ah F ρ a v) (h':CR F ρ l vs):CR F ρ (a::l) (v::vs):=by
 refine⟨by simp[h'.1],λ i x u hx hu=>?_⟩;cases i with
 | zero=>simp at hx hu;subst hx;subst hu;exact h
 | succ i=>exact h'.2 i x u (by simpa using hx) (by simpa using hu)
theorem fld {w:World} {fuel:Nat} {cs:List Value} {fs:Array Field} {xs:List (DataW H×List MemPlace)} (hg:∀ (i:Nat) (f:Field),fs[i]?=some f->DataW.trod en P w base spare held fuel f.type ((cs.drop f.offset).take (P.cellsOf f.type))=xs[i]?) (hxl:xs.length=fs.size) (i:Nat) {f:Field} (hf:fs[i]?=some f) (u o n:Nat) (hu:f.type=u) (ho:f.offset=o) (hn:P.cellsOf u=n) (hr:FX P u enc ok) :
  ∃ a,ok a/\CRd (λ b=>w.heap[b]?) (enc a) ((cs.drop o).take n):=by
 have:=hg i f hf;have hi:i<xs.length:=by rw[hxl];exact Ak hf
 rw[Jk9 hi,hu,ho,hn]at this;exact hr H en w base spare held fuel _ _ this
theorem JjJ {w:World} {fuel:Nat} {cs:List Value} {m:Nat} (hg:∀ i,i<m->∃ y,DataW.trod en P w base spare held fuel e ((cs.drop (i*P.cellsOf e)).take (P.cellsOf e))=some y) (i:Nat) (hi:Nat.ble (i+1) m=true) (o n:Nat) (hn:P.cellsOf e=n) (ho:i*n=o) (hr:FX P e enc ok) :
  ∃ a,ok a/\CRd (λ b=>w.heap[b]?) (enc a) ((cs.drop o).take n):=by
 obtain⟨y,hy⟩:=hg i (Jlo hi);rw[hn,ho]at hy;exact hr H en w base spare held fuel _ _ hy
theorem JbX {f:FuncId} {args:List AV} {vs:Array Value} (hc:AE P f args (.d (.bool true))) (hcr:CR (λ b=>W.heap[b]?) noR args vs.toList):Calls P f vs W λ e W'=>e=.returned (.bool true)/\(∀ before:List MemPlace,W.keptBut W' (·∈before))/\∀ b,b<W.heap.size->W'.heap[b]?=W.heap[b]? := by
 refine(hc.2 (λ b=>W.heap[b]?) W vs hcr λ b o h=>h).mono λ e W' h=>?_;obtain⟨v,F',ρ,rfl,hS,hr,hmu⟩:=h;have hv:v=.bool true:=by
  have:(BQ true 0 (.d (.bool true))).1=.d (.bool true):=rfl;rw[this]at hr;exact hr.bool
 subst hv;have hold:∀ b,b<W.heap.size->W'.heap[b]?=W.heap[b]? := λ b hb=>hS.old b (by omega);refine⟨rfl,λ before=>World.keptBut_mono (λ p hp=>hp.elim) (?_:W.keptBut W' λ _=>False),hold⟩;refine⟨hmu.os,hmu.out,λ i hi=>?_⟩;rw[hold i hi];cases hh:W.heap[i]? with
 | none=>rfl
 | some o=>cases o<;>first|exact⟨rfl,rfl,rfl,λ _ _=>rfl⟩|exact .inr ⟨rfl,rfl⟩|rfl
theorem YV {f:Func} {s:ChangeSpec} {apart fresh handsOn again:Bool} {args:Array Value} {ds gs:List (DataW H)} {before pa pv:List MemPlace}
  (hW:DataW.Whole en P f.params.toList s.vars apart W args.toList ds gs before)
  (hres:∀ (b:Nat) (sp:Nat->Bool) (hd:Bool),DataW.TrodAll en P W' b sp hd f.resultTypes.toList (v.resultList f.resultTypes.size) (s.fn H (ds++gs)).results [])
  (hargs:∀ sp:Nat->Bool,(∀ p∈before,sp p.block=true)->DataW.TrodAll en P W' 0 sp true f.params.toList args.toList (s.fn H (ds++gs)).args pa)
  (hvars:∀ sp:Nat->Bool,(∀ p∈before,sp p.block=true)->DataW.TrodVars en P W' sp s.vars (s.fn H (ds++gs)).vars pv)
  (hps:before=pa++pv) (hk:W.keptBut W' (·∈before)) (hold:∀ b,b<W.heap.size->W'.heap[b]?=W.heap[b]?)
  (hok:∀ (j:Nat) (t:TypeId) (r:Value),f.resultTypes[j]?=some t->(v.resultList f.resultTypes.size)[j]?=some r->Value.okWide P W' .any 0 t r) :
  s.post en P f apart fresh handsOn again W args v W':=by
 have hin:∀ p∈before,(λ b=>decide (b<W.heap.size)) p.block=true:=λ p hp=>by simpa using hW.lt p hp
 have hlt:=hW.lt;refine⟨ds,gs,before,[],pa,pv,hW,hres _ _ _,hargs _ hin,hvars _ hin,World.keptBut_mono (λ p hp=>⟨hp,?_⟩) hk,λ _=>?_⟩
 ·rw[hps,List.mem_append]at hp;exact Or.inr hp
 ·obtain⟨_,_,_,_,_,hz,hn⟩:=hW;refine⟨hok,_,_,([]++pa)++pv,⟨[]++pa,pv,trodAll_append (hargs _ (λ _ _=>rfl)) (hres _ _ _),hvars _ (λ _ _=>rfl),rfl,?_,?_⟩,?_⟩
  ·intro b off hp;have hp:MemPlace.cell b off∈before:=by rw[hps];simpa using hp
   have:=hz b off hp;simp only[World.frozen?,hold b (hlt _ hp)]at this⊢;exact this
  ·intro ha;have:=hn ha;rw[hps]at this;simpa using this
  ·intro p hp _;rw[hps];simpa using hp
theorem JbY (hl:laidOutB P=true) (hr:P.readableRec t=true) (hrow:t<P.types.size) (h:DataW.Trod en P W 0 (λ _=>true) true t v d ps) (hb:∀ p∈ps,p.block<W.heap.size) {sp:Nat->Bool} (hs:∀ p∈ps,sp p.block=true) (hold:∀ b,b<W.heap.size->W'.heap[b]?=W.heap[b]?):DataW.Trod en P W' 0 sp true t v d ps:=by
 refine WideElems.Trod_stays hl hr hrow h (λ p hp=>?_) hs;have:=hb p hp;cases p with
 | cell b o=>exact World.cell?_of_block (w:=W) (hold b this)
 | map b=>exact hold b this
end Go.AI
end
section
namespace Go.AI
open Go.Proofs Go.ChangeShapes Go.WideShapes Go.ChangeAt Go.RowKit
def okI (k:IntKind) (n:Int):Prop:=(Lit.int k n).wf=true
theorem rd5:FX Try.prog 5 eU8 (okI .u8):=YU Try.underlying5
theorem JjK:FX Try.prog 52 (eL eU8) (λ l=>∀ a∈l,okI .u8 a):=J7 (sz:=1) Try.underlying52 (by kernel_rfl) rfl (λ _=>rfl) rd5
theorem JjL:FX Try.prog 68 (JP eU8) (λ x=>okI .u8 x.a0/\okI .u8 x.a1):=by
 intro H e w base spare held fuel cs x h;obtain⟨m,hcl,hg⟩:=Ww Try.underlying68 h;have hcl:cs.length=2:=hcl.trans (by kernel_rfl);obtain⟨a0,k0,c0⟩:=JjJ hg 0 rfl 0 1 (by kernel_rfl) rfl rd5;obtain⟨a1,k1,c1⟩:=JjJ hg 1 rfl 1 1 (by kernel_rfl) rfl rd5;refine⟨⟨a0,a1⟩,⟨k0,k1⟩,?_⟩;have:=D6 c0 rfl (D6 c1 rfl (Tm (Nat.le_of_eq hcl)));exact this
def IV (x:CD):Prop:=(∀ a∈x.P,okI .u8 a)/\(∀ a∈x.C,okI .u8 a)/\okI .u8 x.L/\okI .u8 x.R/\(okI .u8 x.W.a0/\okI .u8 x.W.a1)
theorem Jks:FX Try.prog 70 Es IV:=by
 intro H e w base spare held fuel cs x h;obtain⟨xs,n,_,_,hcl,hxl,hg⟩:=DataW.trod_struct Try.underlying70 h;have hcl:cs.length=6:=hcl.trans (by kernel_rfl);obtain⟨a0,k0,c0⟩:=fld hg hxl 0 rfl 52 0 1 rfl rfl (by kernel_rfl) JjK;obtain⟨a1,k1,c1⟩:=fld hg hxl 1 rfl 52 1 1 rfl rfl (by kernel_rfl) JjK;obtain⟨a2,k2,c2⟩:=fld hg hxl 2 rfl 5 2 1 rfl rfl (by kernel_rfl) rd5;obtain⟨a3,k3,c3⟩:=fld hg hxl 3 rfl 5 3 1 rfl rfl (by kernel_rfl) rd5;obtain⟨a4,k4,c4⟩:=fld hg hxl 4 rfl 68 4 2 rfl rfl (by kernel_rfl) JjL;refine⟨⟨a0,a1,a2,a3,a4⟩,⟨k0,k1,k2,k3,k4⟩,?_⟩;have:=D6 c0 rfl (D6 c1 rfl (D6 c2 rfl (D6 c3 rfl (D6 c4 rfl (Tm (Nat.le_of_eq hcl))))));exact this
theorem Jkt:FX Try.prog 22 (eL Es) (λ l=>∀ a∈l,IV a):=J7 (sz:=6) Try.underlying22 (by kernel_rfl) rfl (λ _=>rfl) Jks
def Wx (x:Ji):Prop:=okI .u8 x.Base/\okI .u8 x.Drop/\(∀ a∈x.More,IV a)
theorem Jku:FX Try.prog 24 Jjn Wx:=by
 intro H e w base spare held fuel cs x h;obtain⟨xs,n,_,_,hcl,hxl,hg⟩:=DataW.trod_struct Try.underlying24 h;have hcl:cs.length=3:=hcl.trans (by kernel_rfl);obtain⟨a0,k0,c0⟩:=fld hg hxl 0 rfl 5 0 1 rfl rfl (by kernel_rfl) rd5;obtain⟨a1,k1,c1⟩:=fld hg hxl 1 rfl 5 1 1 rfl rfl (by kernel_rfl) rd5;obtain⟨a2,k2,c2⟩:=fld hg hxl 2 rfl 22 2 1 rfl rfl (by kernel_rfl) Jkt;refine⟨⟨a0,a1,a2⟩,⟨k0,k1,k2⟩,?_⟩;have:=D6 c0 rfl (D6 c1 rfl (D6 c2 rfl (Tm (Nat.le_of_eq hcl))));exact this
theorem Jkv:FX Try.prog 25 (eL (JP eU8)) (λ l=>∀ a∈l,(okI .u8 a.a0/\okI .u8 a.a1)):=J7 (sz:=2) Try.underlying25 (by kernel_rfl) rfl (λ _=>rfl) JjL
end Go.AI
end
section
namespace Go.AI
def Le {α:Type} (a b:Option α):Prop:=∀ z,a=some z->b=some z
theorem Le.refl {α:Type} (a:Option α):Le a a:=λ _ h=>h
theorem Le.bind {α β:Type} {a a':Option α} {f f':α->Option β} (h:Le a a') (hf:∀ x,Le (f x) (f' x)):Le (a.bind f) (a'.bind f'):=by
 intro z hz;obtain⟨x,h1,h2⟩:=bind_some hz;rw[h x h1];exact hf x z h2
theorem Le.ite {α:Type} {c:Prop} [Decidable c] {a a' b b':Option α} (h:Le a a') (h':Le b b'):Le (if c then a else b) (if c then a' else b'):=by
 split
 ·exact h
 ·exact h'
theorem Le.whl {σ ρ:Type} {body body':σ->Option (σ⊕ρ)} (hb:∀ x,Le (body x) (body' x)):∀ {n m:Nat},n<=m->∀ x,Le (whl body n x) (whl body' m x):=by
 intro n;induction n with
 | zero=>intro m _ x z hz;cases hz
 | succ n ih=>
  intro m hm x z hz;cases m with
  | zero=>omega
  | succ m=>
   simp only[Go.AI.whl]at hz⊢;cases hx:body x with
   | none=>rw[hx]at hz;cases hz
   | some y=>
    rw[hb x y hx];rw[hx]at hz;cases y with
    | inl y=>exact ih (by omega) y z hz
    | inr r=>exact hz
theorem Le.sum {α β γ:Type} {y:α⊕β} {f f':α->Option γ} {g g':β->Option γ} (hf:∀ a,Le (f a) (f' a)) (hg:∀ b,Le (g b) (g' b)):Le (match y with | .inl a=>f a | .inr b=>g b) (match y with | .inl a=>f' a | .inr b=>g' b):=by
 cases y with
 | inl a=>exact hf a
 | inr b=>exact hg b
def Ev {α:Type} (f:Nat->Option α) (z:α):Prop:=∃ n,∀ m,n<=m->f m=some z
theorem Ev.const {α:Type} {z:α}:Ev (λ _=>some z) z:=⟨0,λ _ _=>rfl⟩
theorem Ev.of {α:Type} {f:Nat->Option α} {z:α} (hm:∀ n m,n<=m->Le (f n) (f m)) {n:Nat} (h:f n=some z):Ev f z:=⟨n,λ m hnm=>hm n m hnm z h⟩
theorem Ev.all {α:Type} {f:Nat->Option α} {z:α} (h:∀ n,f n=some z):Ev f z:=⟨0,λ m _=>h m⟩
theorem Ev.bind {α β:Type} {f:Nat->Option α} {g:Nat->α->Option β} {x:α} {z:β} (h:Ev f x) (hg:Ev (λ n=>g n x) z):Ev (λ n=>(f n).bind (g n)) z:=by
 obtain⟨n,hn⟩:=h;obtain⟨m,hm⟩:=hg;refine⟨max n m,λ k hk=>?_⟩;show(f k).bind (g k)=_;rw[hn k (by omega)];exact hm k (by omega)
theorem Ev.out {α:Type} {f:Nat->Option α} {z:α} (h:Ev f z):∃ n,f n=some z:=by
 obtain⟨n,hn⟩:=h;exact⟨n,hn n (JkY n)⟩
theorem Ev.congr {α:Type} {f g:Nat->Option α} {z:α} (h:Ev f z) (e:∀ n,g n=f n):Ev g z:=by
 obtain⟨n,hn⟩:=h;exact⟨n,λ m hm=>by rw[e m];exact hn m hm⟩
theorem Ev.whl {σ ρ:Type} {body:Nat->σ->Option (σ⊕ρ)} {r:ρ} (I:Nat->σ->Prop) (h:∀ k x,I k x->(∃ y j,j<k/\I j y/\Ev (λ n=>body n x) (.inl y))\/Ev (λ n=>body n x) (.inr r)):∀ (k:Nat) (x:σ),I k x->Ev (λ n=>Go.AI.whl (body n) n x) r:=by
 have key:∀ (k:Nat) (x:σ),I k x->∃ N c,∀ n fuel,N<=n->c<=fuel->Go.AI.whl (body n) fuel x=some r:=by
  intro k;induction k using Nat.strongRecOn with
  | _ k ih=>
   intro x hx;rcases h k x hx with⟨y,j,hj,hy,N1,h1⟩|⟨N1,h1⟩
   ·obtain⟨N2,c,h2⟩:=ih j hj y hy;refine⟨max N1 N2,c+1,λ n fuel hn hf=>?_⟩;cases fuel with
    | zero=>omega
    | succ fuel=>
     have e:=h1 n (by omega);simp only at e;simp only[Go.AI.whl,e];exact h2 n fuel (by omega) (by omega)
   ·refine⟨N1,1,λ n fuel hn hf=>?_⟩;cases fuel with
    | zero=>omega
    | succ fuel=>
     have e:=h1 n hn;simp only at e;simp only[Go.AI.whl,e]
 intro k x hx;obtain⟨N,c,hh⟩:=key k x hx;exact⟨max N c,λ m hm=>hh m m (by omega) (by omega)⟩
end Go.AI
end
section
namespace Go.AI
variable {α ε σ ρ ζ β:Type}
theorem Le.dem {S:α->Prop} {k k':α->Option ζ} (h:∀ a,Le (k a) (k' a)):Le (dem S k) (dem S k'):=by
 intro z hz;have h1:=SU hz;have h0:∃ a,S a:=by
  unfold Go.AI.dem at hz;split at hz
  ·rename_i hx;exact hx.choose_spec.1
  ·cases hz
 exact Jaz h0 λ a ha=>h a _ (h1 a ha)
theorem Le.mapW {F F':ε->σ->Option (σ⊕ρ)} (h:∀ e x,Le (F e x) (F' e x)) (l:List ε) (x:σ):Le (mapW F l x) (mapW F' l x):=by
 induction l generalizing x with
 | nil=>intro z hz;exact hz
 | cons e l ih=>
  intro z hz;unfold Go.AI.mapW at hz⊢;split at hz
  ·cases hz
  ·rename_i y hy;rw[h e x _ hy];exact ih y z hz
  ·rename_i r hy;rw[h e x _ hy];exact hz
theorem Le.sortC {c c':β->β->Option Int} (h:∀ x y,Le (c x y) (c' x y)) {xs:List β}:Le (sortC c xs) (sortC c' xs):=by
 intro z hz;obtain⟨hc,hz⟩:=PS hz;have e:c'=c:=by
  funext x y;have:=hc.1.tot x y;rw[Option.isSome_iff_exists]at this;obtain⟨n,hn⟩:=this;rw[hn,h x y _ hn]
 rw[e];unfold Go.AI.sortC;rw[if_pos hc];exact hz
end Go.AI
end
section
namespace Go.AI
theorem Wy (a:Int):IntKind.i64.wrap a=if decide (a % 18446744073709551616>=9223372036854775808)=true then a % 18446744073709551616-18446744073709551616 else a % 18446744073709551616:=rfl
theorem RT (a:Int):IntKind.u8.wrap a=a % 256:=rfl
theorem Qm {a:Int} (h:-9223372036854775808<=a) (h':a<9223372036854775808):IntKind.i64.wrap a=a:=by
 rw[Wy];split
 ·rename_i hc;simp at hc;omega
 ·rename_i hc;simp at hc;omega
theorem Qn {a b:Int} (h:-9223372036854775808<=a+b) (h':a+b<9223372036854775808):AX .i64 a b=a+b:=Qm h h'
theorem JbZ {a b:Int} (h:-9223372036854775808<=a-b) (h':a-b<9223372036854775808):IC .i64 a b=a-b:=Qm h h'
theorem JjM {a:Int} (h:0<=a) (h':a<256):IntKind.u8.wrap a=a:=by
 rw[RT];omega
theorem UX (a:Int):0<=IntKind.u8.wrap a/\IntKind.u8.wrap a<256:=by
 rw[RT];omega
def KQ (m k:Int):Bool:=decide (0<=k)&&decide (k<8)&&(Ca .u8 (Ys .u8 m k) 1==1)
theorem Jb0 (n:Nat) (m k:Int):IG n m k=some (KQ m k):=by
 unfold IG KQ;by_cases h:0<=k
 ·by_cases h':k<8<;>simp[h,h',Cd]
 ·simp[h]
theorem Jb1 (n:Nat) (m k:Int):IL n m k=some (KQ m k):=by
 unfold IL KQ;by_cases h:0<=k
 ·by_cases h':k<8<;>simp[h,h',Cd]
 ·simp[h]
def Fa (b:Int):Int:=
 if(decide (97<=Ca .u8 b 127)&&decide (Ca .u8 b 127<=122))=true then 1
 else if(decide (65<=Ca .u8 b 127)&&decide (Ca .u8 b 127<=90))=true then 2
 else if(decide (48<=Ca .u8 b 127)&&decide (Ca .u8 b 127<=57))=true then 3
 else if(Ca .u8 b 127==32)=true then 4 else 5
theorem UY (n:Nat) (b:Int):Gc n b=some (Fa b):=by
 unfold Gc Fa;split
 ·rfl
 ·split
  ·rfl
  ·split
   ·rfl
   ·split<;>rfl
theorem YW (n:Nat) (b:Int):HW n b=some (Fa b):=by
 unfold HW Fa;simp only[ge_iff_le];split
 ·rfl
 ·split
  ·rfl
  ·split
   ·rfl
   ·split<;>rfl
theorem UZ (b:Int):1<=Fa b/\Fa b<=5:=by
 unfold Fa;split
 ·omega
 ·split
  ·omega
  ·split
   ·omega
   ·split<;>omega
def RU (s:List UInt8) (i:Nat):Int:=(s[i]?.getD 0).toNat
theorem Mz {s:List UInt8} {i:Nat} (h:i<s.length):Jh s (i:Int)=some (RU s i):=by
 unfold Jh RU;rw[if_pos (by omega)];simp
def Xo:Ae:=⟨0,0,0⟩
def Xp (r:Az) (s:Ae):Ae×Bool:=
 if((r.From != s.Mode)||!KQ r.Left s.Last)=true then(Xo,false)
 else if(r.Print==[])=true then
  (if(Ca .u8 s.Need r.Right==0)=true then(Xo,false)else(⟨r.To,s.Last,Ca .u8 s.Need r.Right⟩,true))
 else if(!KQ s.Need (Fa (RU r.Print 0)))=true then(Xo,false)
 else(⟨r.To,Fa (RU r.Print (r.Print.length-1)),r.Right⟩,true)
def Bl (t:Aa) (s:Ae) (k:Int):Ae×Bool:=
 if(decide (k<0)||decide (k>=(t.Rules.length:Int)))=true then(Xo,false)else Xp (t.Rules[k.toNat]?.getD default) s
def Jb2 (t:Aa):Prop:=∀ r∈t.Rules,r.Print.length<9223372036854775808
theorem Qo {α:Type} [Inhabited α] {l:List α} {k:Int} (h:0<=k) (h':k<l.length):idx l k=some (l[k.toNat]?.getD default):=by
 unfold idx;rw[if_pos h];have:k.toNat<l.length:=by omega
 simp[this]
theorem OH {t:Aa} (ht:Jb2 t) (n:Nat) (s:Ae) (k:Int):JK n t s k=some (Bl t s k):=by
 unfold JK Bl;by_cases hk:(decide (k<0)||decide (k>=(t.Rules.length:Int)))=true
 ·rw[if_pos hk,if_pos hk];rfl
 ·rw[if_neg hk,if_neg hk];simp only[Jls,decide_eq_true_eq,not_or,Int.not_lt,ge_iff_le,Int.not_le]at hk;rw[Qo hk.1 hk.2];have hmem:(t.Rules[k.toNat]?.getD default)∈t.Rules:=by
   have:k.toNat<t.Rules.length:=by omega
   simp[this]
  have hlen:=ht _ hmem;generalize t.Rules[k.toNat]?.getD default=r at hlen⊢;simp only[JkP,Jb0,UY];unfold Xp;by_cases h1:r.From=s.Mode
  ·simp only[h1,bne_self_eq_false,Bool.not_false,if_true,JkP,Bool.false_or];by_cases h2:KQ r.Left s.Last=true
   ·simp only[h2,JkW,Jll,if_false];by_cases h3:r.Print=[]
    ·simp only[h3,beq_self_eq_true,if_true];split<;>rfl
    ·have h3':(r.Print==[])=false:=by simpa using h3
     have hpos:0<r.Print.length:=List.length_pos_iff.2 h3;simp only[h3',Jll,if_false];have e0:=Mz (s:=r.Print) (i:=0) hpos;simp only[Int.natCast_zero]at e0;rw[e0];have e1:IC .i64 ((r.Print.length:Nat):Int) 1=((r.Print.length-1:Nat):Int):=by rw[JbZ (by omega) (by omega)];omega
     rw[e1,Mz (by omega)];simp only[JkP];split<;>rfl
   ·have h2:KQ r.Left s.Last=false:=by simpa using h2
    simp only[h2,Bool.not_false,if_true];rfl
  ·have h1':(r.From != s.Mode)=true:=by simpa using h1
   simp only[h1',JkW,Jll,if_false,JkP,Bool.true_or,if_true];rfl
end Go.AI
end
section
namespace Go.AI
theorem AC {α:Type} {l:List α} {i:Nat} {x:α} (h:l[i]?=some x):i<l.length:=(List.getElem?_eq_some_iff.1 h).1
theorem Jb3 {t:Aa} (ht:Jb2 t) (n:Nat) (s:Ae) (k:Int):Mm n t s k=some (Bl t s k):=by
 unfold Mm Bl;by_cases hk:(decide (k<0)||decide (k>=(t.Rules.length:Int)))=true
 ·rw[if_pos hk,if_pos hk];rfl
 ·rw[if_neg hk,if_neg hk];simp only[Jls,decide_eq_true_eq,not_or,Int.not_lt,ge_iff_le,Int.not_le]at hk;rw[Qo hk.1 hk.2];have hmem:(t.Rules[k.toNat]?.getD default)∈t.Rules:=by
   have:k.toNat<t.Rules.length:=by omega
   simp[this]
  have hlen:=ht _ hmem;generalize t.Rules[k.toNat]?.getD default=r at hlen⊢;simp only[JkP,Jb1,YW];unfold Xp;by_cases h1:r.From=s.Mode
  ·simp only[h1,bne_self_eq_false,Bool.not_false,if_true,JkP,Bool.false_or];by_cases h2:KQ r.Left s.Last=true
   ·simp only[h2,JkW,Jll,if_false];by_cases h3:r.Print=[]
    ·simp only[h3,List.length_nil,Int.natCast_zero,beq_self_eq_true,Bool.true_and,if_true];split<;>rfl
    ·have h3':(r.Print==[])=false:=by simpa using h3
     have hpos:0<r.Print.length:=List.length_pos_iff.2 h3;have h4:(((r.Print.length:Nat):Int)==0)=false:=by simp;omega
     simp only[h3',h4,Bool.false_and,Jll,if_false];have e0:=Mz (s:=r.Print) (i:=0) hpos;simp only[Int.natCast_zero]at e0;rw[e0];have e1:IC .i64 ((r.Print.length:Nat):Int) 1=((r.Print.length-1:Nat):Int):=by rw[JbZ (by omega) (by omega)];omega
     rw[e1,Mz (by omega)];simp only[JkP];split<;>rfl
   ·have h2:KQ r.Left s.Last=false:=by simpa using h2
    simp only[h2,Bool.not_false,if_true];rfl
  ·have h1':(r.From != s.Mode)=true:=by simpa using h1
   simp only[h1',JkW,Jll,if_false,JkP,Bool.true_or,if_true];rfl
def A2 (t:Aa) (s:Ae):Bool:=decide (s.Mode<t.Modes)&&KQ t.Accept s.Mode&&KQ s.Need 0
theorem Wz (n:Nat) (t:Aa) (s:Ae):G9 n t s=some (A2 t s):=by
 unfold G9 A2;simp only[Jb0];by_cases h1:s.Mode<t.Modes
 ·cases h2:KQ t.Accept s.Mode<;>simp[h1]
 ·simp[h1]
theorem U0 (n:Nat) (t:Aa) (s:Ae):Hd n t s=some (A2 t s):=by
 unfold Hd A2;simp only[Jb1];have h0:¬ (0<=s.Mode)->KQ t.Accept s.Mode=false:=λ h=>by simp[KQ,h]
 by_cases h:0<=s.Mode
 ·by_cases h1:s.Mode<t.Modes
  ·cases h2:KQ t.Accept s.Mode<;>simp[h,h1]
  ·simp[h1]
 ·simp[h,h0 h]
end Go.AI
end
section
namespace Go.AI
theorem WA (a b:Int) (h:0<=b) (h':b<256):0<=Ca .u8 a b/\Ca .u8 a b<=b:=by
 unfold Ca;have hb:(BitVec.ofInt 8 b).toNat=b.toNat:=by
  rw[BitVec.toNat_ofInt];omega
 have hle:(BitVec.ofInt 8 a &&& BitVec.ofInt 8 b).toNat<=b.toNat:=by
  rw[BitVec.toNat_and,hb];exact Nat.and_le_right
 have e:(BitVec.ofInt IntKind.u8.bits a &&& BitVec.ofInt IntKind.u8.bits b).toNat=(BitVec.ofInt 8 a &&& BitVec.ofInt 8 b).toNat:=rfl;rw[e,JjM (by omega) (by omega)];omega
def Lz (r:Az):Prop:=0<=r.To/\r.To<2/\0<=r.Right/\r.Right<=63/\r.Print.length<=3
def H9 (t:Aa):Prop:=t.Rules.length<=11/\∀ r∈t.Rules,Lz r
theorem H9.short {t:Aa} (h:H9 t):Jb2 t:=λ r hr=>by have:=(h.2 r hr).2.2.2.2;omega
def InU (s:Ae):Prop:=0<=s.Mode/\s.Mode<2/\0<=s.Last/\s.Last<=5/\0<=s.Need/\s.Need<=63
def JhZ:List Ae:=(List.range 768).map λ i=>⟨(i / 384:Nat),(i / 64 % 6:Nat),(i % 64:Nat)⟩
theorem Jb4 {s:Ae} (h:InU s):s∈JhZ:=by
 obtain⟨h1,h2,h3,h4,h5,h6⟩:=h;obtain⟨m,l,d⟩:=s;simp only at h1 h2 h3 h4 h5 h6;simp only[JhZ,Jk1,List.mem_range];refine⟨m.toNat*384+l.toNat*64+d.toNat,by omega,?_⟩;have e1:(m.toNat*384+l.toNat*64+d.toNat) / 384=m.toNat:=by omega
 have e2:(m.toNat*384+l.toNat*64+d.toNat) / 64 % 6=l.toNat:=by omega
 have e3:(m.toNat*384+l.toNat*64+d.toNat) % 64=d.toNat:=by omega
 rw[e1,e2,e3];congr 1<;>omega
theorem Jb5 {l m:List Ae} (h:l.Nodup) (hs:∀ x∈l,x∈m):l.length<=m.length:=by
 induction l generalizing m with
 | nil=>simp
 | cons a l ih=>
  rw[List.nodup_cons]at h;have ha:=hs a (by simp);have hlen:(m.erase a).length=m.length-1:=List.length_erase_of_mem ha;have hpos:0<m.length:=List.length_pos_of_mem ha;have:=ih (m:=m.erase a) h.2 λ x hx=>by
   have hne:x≠a:=λ e=>h.1 (e▸hx);exact(List.mem_erase_of_ne hne).2 (hs x (by simp[hx]))
  simp;omega
theorem Jb6 {l:List Ae} (h:l.Nodup) (hs:∀ x∈l,InU x):l.length<=768:=by
 have:=Jb5 h λ x hx=>Jb4 (hs x hx);simpa [JhZ]using this
theorem Jb7 {t:Aa} (ht:H9 t) {s:Ae} (hs:InU s) {k:Int} (h:(Bl t s k).2=true):InU (Bl t s k).1:=by
 unfold Bl at h⊢;split at h
 ·cases h
 ·rename_i hk;rw[if_neg hk];simp only[Jls,decide_eq_true_eq,not_or,Int.not_lt,ge_iff_le,Int.not_le]at hk;have hmem:(t.Rules[k.toNat]?.getD default)∈t.Rules:=by
   have:k.toNat<t.Rules.length:=by omega
   simp[this]
  have hr:=ht.2 _ hmem;generalize t.Rules[k.toNat]?.getD default=r at hr h⊢;obtain⟨a1,a2,a3,a4,a5⟩:=hr;obtain⟨b1,b2,b3,b4,b5,b6⟩:=hs;unfold Xp at h⊢;split at h
  ·cases h
  ·rename_i h1;rw[if_neg h1];split at h
   ·rename_i h2;rw[if_pos h2];split at h
    ·cases h
    ·rename_i h3;rw[if_neg h3];have:=WA s.Need r.Right a3 (by omega);exact⟨a1,a2,b3,b4,this.1,by show Ca .u8 s.Need r.Right<=63;omega⟩
   ·rename_i h2;rw[if_neg h2];split at h
    ·cases h
    ·rename_i h3;rw[if_neg h3];have:=UZ (RU r.Print (r.Print.length-1));exact⟨a1,a2,by show 0<=Fa _;omega,by show Fa _<=5;omega,a3,a4⟩
def B5:Ae:=⟨0,0,63⟩
def KR (t:Aa) (s:Ae) (st:List Ae) (k:Nat):List Ae:=if(Bl t s k).2=true/\(Bl t s k).1 ∉ st then st++[(Bl t s k).1]else st
def Oo (t:Aa) (s:Ae) (m:Nat) (st:List Ae):List Ae:=(List.range m).foldl (KR t s) st
theorem Ky (t:Aa) (s:Ae) (m:Nat) (st:List Ae):Oo t s (m+1) st=KR t s (Oo t s m st) m:=by
 simp[Oo,List.range_succ]
def U1 (t:Aa):Nat->Nat->List Ae->List Ae
 | 0,_,st=>st
 | f+1,i,st=>match st[i]? with
  | some s=>U1 t f (i+1) (Oo t s t.Rules.length st)
  | none=>st
def AB (t:Aa):List Ae:=U1 t 800 0 [B5]
structure GJ (t:Aa) (st:List Ae):Prop where
 nodup:st.Nodup
 inU:∀ s∈st,InU s
 first:st[0]?=some B5
 origin:∀ (j:Nat) (s:Ae),st[j]?=some s->0<j->∃ (i:Nat) (s':Ae) (k:Nat),i<j/\st[i]?=some s'/\k<t.Rules.length/\Bl t s' k=(s,true)
theorem GJ.len {t:Aa} {st:List Ae} (h:GJ t st):st.length<=768:=Jb6 h.nodup h.inU
theorem GJ.add {t:Aa} (ht:H9 t) {st:List Ae} (h:GJ t st) {i:Nat} {s:Ae} (hi:st[i]?=some s) {k:Nat} (hk:k<t.Rules.length):GJ t (KR t s st k):=by
 unfold KR;split
 ·rename_i hc;have hil:=AC hi;refine⟨?_,λ x hx=>?_,?_,λ j x hj h0=>?_⟩
  ·rw[List.nodup_append];refine⟨h.nodup,by simp,λ a ha b hb=>?_⟩;simp at hb;subst hb;exact λ e=>hc.2 (e▸ha)
  ·simp only[List.mem_append,List.mem_singleton]at hx;rcases hx with hx|rfl
   ·exact h.inU x hx
   ·exact Jb7 ht (h.inU s (Jlb hi)) hc.1
  ·rw[Jlh (by omega)];exact h.first
  ·rcases JkZ j st.length with hlt|hge
   ·rw[Jlh hlt]at hj;obtain⟨i',s',k',a1,a2,a3,a4⟩:=h.origin j x hj h0;exact⟨i',s',k',a1,by rw[Jlh (by omega)];exact a2,a3,a4⟩
   ·rw[Jlr hge]at hj;have:j-st.length=0:=by have:=AC hj;simp at this;omega
    rw[this]at hj;simp at hj;subst hj;refine⟨i,s,k,by omega,by rw[Jlh hil];exact hi,hk,?_⟩;exact Prod.ext rfl hc.1
 ·exact h
theorem U2 (t:Aa) (s:Ae) (st:List Ae) (k:Nat):st <+: KR t s st k:=by
 unfold KR;split
 ·exact List.prefix_append _ _
 ·exact List.prefix_refl _
theorem Ia (t:Aa) (s:Ae) (st:List Ae):∀ m,st <+: Oo t s m st:=by
 intro m;induction m with
 | zero=>exact List.prefix_refl _
 | succ m ih=>rw[Ky];exact ih.trans (U2 _ _ _ _)
theorem OI {α:Type} {l m:List α} (h:l <+: m) {i:Nat} {x:α} (hi:l[i]?=some x):m[i]?=some x:=by
 obtain⟨r,rfl⟩:=h;rw[Jlh (AC hi)];exact hi
theorem GJ.exp {t:Aa} (ht:H9 t) {st:List Ae} (h:GJ t st) {i:Nat} {s:Ae} (hi:st[i]?=some s):∀ m,m<=t.Rules.length->GJ t (Oo t s m st):=by
 intro m;induction m with
 | zero=>intro _;exact h
 | succ m ih=>
  intro hm;rw[Ky];exact(ih (by omega)).add ht (OI (Ia t s st m) hi) (by omega)
theorem Jb8 (t:Aa) (s:Ae) (st:List Ae):∀ m k:Nat,k<m->(Bl t s k).2=true->(Bl t s k).1∈Oo t s m st:=by
 intro m;induction m with
 | zero=>intro k hk;omega
 | succ m ih=>
  intro k hk h;rw[Ky];by_cases e:k=m
  ·subst e;unfold KR;by_cases hc:(Bl t s k).1∈Oo t s k st
   ·rw[if_neg (λ hh=>hh.2 hc)];exact hc
   ·rw[if_pos ⟨h,hc⟩];simp
  ·exact(U2 t s _ m).subset (ih k (by omega) h)
def Jh0 (t:Aa) (i:Nat) (st:List Ae):Prop:=∀ (j:Nat) (s:Ae),j<i->st[j]?=some s->∀ k:Nat,k<t.Rules.length->(Bl t s k).2=true->(Bl t s k).1∈st
theorem Jh1 {t:Aa} (ht:H9 t):∀ (f i:Nat) (st:List Ae),GJ t st->Jh0 t i st->768<f+i->GJ t (U1 t f i st)/\∀ i',Jh0 t i' (U1 t f i st):=by
 intro f;induction f with
 | zero=>
  intro i st h hd hf;have:=h.len;refine⟨h,λ i' j s hj hs=>?_⟩;have hs:st[j]?=some s:=hs;exact hd j s (by have:=AC hs;omega) hs
 | succ f ih=>
  intro i st h hd hf;simp only[U1];cases hi:st[i]? with
  | none=>
   refine⟨h,λ i' j s hj hs=>?_⟩;have hs:st[j]?=some s:=hs;exact hd j s (by have:=AC hs;rw[List.getElem?_eq_none_iff]at hi;omega) hs
  | some s=>
   refine ih (i+1) _ (h.exp ht hi _ (JkY _)) (λ j x hj hx k hk hk2=>?_) (by omega);by_cases e:j=i
   ·subst e;have:=OI (Ia t s st t.Rules.length) hi;rw[this]at hx;cases hx;exact Jb8 t s st _ k hk hk2
   ·have hjl:j<st.length:=by have:=AC hi;omega
    have hxx:st[j]?=some st[j]:=Jk9 hjl;have:=OI (Ia t s st t.Rules.length) hxx;rw[this]at hx;cases hx;exact(Ia t s st t.Rules.length).subset (hd j _ (by omega) hxx k hk hk2)
theorem Cl {t:Aa} (ht:H9 t):GJ t (AB t)/\∀ i,Jh0 t i (AB t):=by
 refine Jh1 ht 800 0 [B5] ⟨by simp,λ s hs=>?_,rfl,λ j s hj h0=>?_⟩ (λ j s hj=>by omega) (by omega)
 ·simp at hs;subst hs;exact⟨by decide,by decide,by decide,by decide,by decide,by decide⟩
 ·cases j with
  | zero=>omega
  | succ j=>simp at hj
end Go.AI
end
section
namespace Go.AI
theorem JkH {σ ρ:Type} {body:Nat->σ->Option (σ⊕ρ)} {R:ρ->Prop} (I:Nat->σ->Prop) (h:∀ k x,I k x->(∃ y j,j<k/\I j y/\Ev (λ n=>body n x) (.inl y))\/∃ r,R r/\Ev (λ n=>body n x) (.inr r)):∀ (k:Nat) (x:σ),I k x->∃ r,R r/\Ev (λ n=>Go.AI.whl (body n) n x) r:=by
 have key:∀ (k:Nat) (x:σ),I k x->∃ r,R r/\∃ N c,∀ n fuel,N<=n->c<=fuel->Go.AI.whl (body n) fuel x=some r:=by
  intro k;induction k using Nat.strongRecOn with
  | _ k ih=>
   intro x hx;rcases h k x hx with⟨y,j,hj,hy,N1,h1⟩|⟨r,hr,N1,h1⟩
   ·obtain⟨r,hr,N2,c,h2⟩:=ih j hj y hy;refine⟨r,hr,max N1 N2,c+1,λ n fuel hn hf=>?_⟩;cases fuel with
    | zero=>omega
    | succ fuel=>
     have e:=h1 n (by omega);simp only at e;simp only[Go.AI.whl,e];exact h2 n fuel (by omega) (by omega)
   ·refine⟨r,hr,N1,1,λ n fuel hn hf=>?_⟩;cases fuel with
    | zero=>omega
    | succ fuel=>
     have e:=h1 n hn;simp only at e;simp only[Go.AI.whl,e]
 intro k x hx;obtain⟨r,hr,N,c,hh⟩:=key k x hx;exact⟨r,hr,max N c,λ m hm=>hh m m (by omega) (by omega)⟩
def Je (st:List Ae) (nb:List (Ae×Int)):Prop:=∀ s,AT s nb=(st.findIdx? λ x=>decide (x=s)).map λ i=>(i:Int)
theorem C5 {st:List Ae} {s:Ae} {i:Nat} (hn:st.Nodup) (h:st[i]?=some s):(st.findIdx? λ x=>decide (x=s))=some i:=by
 have hi:=AC h;rw[List.findIdx?_eq_some_iff_getElem];have he:st[i]=s:=by rw[Jk9 hi]at h;exact Option.some.inj h
 refine⟨hi,by simpa using he,λ j hj=>?_⟩;simp only[JkX,decide_eq_false_iff_not];intro e;have:=(List.getElem_inj (i:=j) (j:=i) (h₀:=by omega) (h₁:=hi) hn).1 (by rw[e,he]);omega
theorem IW {st:List Ae} {s:Ae} (h:s ∉ st):(st.findIdx? λ x=>decide (x=s))=none:=by
 rw[List.findIdx?_eq_none_iff];intro y hy;simp only[decide_eq_false_iff_not];exact λ e=>h (e▸hy)
theorem Ib {κ α:Type} [DecidableEq κ] (k k':κ) (v:α) (m:List (κ×α)):AT k' (BP k v m)=if k'=k then some v else AT k' m:=by
 induction m with
 | nil=>simp[BP,AT]
 | cons p m ih=>
  simp only[BP];by_cases h:k=p.1
  ·rw[if_pos h];simp only[AT];by_cases h':k'=k
   ·simp[h']
   ·have:k'≠p.1:=λ e=>h' (e.trans h.symm);simp[h',this]
  ·rw[if_neg h];simp only[AT];by_cases h':k'=p.1
   ·have:k'≠k:=λ e=>h (e▸h');rw[if_pos h',if_neg this,if_pos h']
   ·rw[if_neg h',if_neg h',ih]
theorem Je.snoc {st:List Ae} {nb:List (Ae×Int)} (h:Je st nb) (hn:st.Nodup) {p:Ae} (hp:p ∉ st):Je (st++[p]) (BP p (st.length:Nat) nb):=by
 intro s;rw[Ib];have hnd:(st++[p]).Nodup:=by
  rw[List.nodup_append];exact⟨hn,by simp,λ a ha b hb=>by simp at hb;subst hb;exact λ e=>hp (e▸ha)⟩
 by_cases e:s=p
 ·subst e;rw[if_pos rfl,C5 hnd (i:=st.length) (by simp)];rfl
 ·rw[if_neg e,h s];by_cases hs:s∈st
  ·obtain⟨i,hi⟩:=List.mem_iff_getElem?.1 hs;rw[C5 hn hi,C5 hnd (i:=i) (by rw[Jlh (AC hi)];exact hi)]
  ·rw[IW hs,IW (by simp[hs,e])]
def GK (i m j k:Nat):Prop:=j<i\/(j=i/\k<m)
structure CO (t:Aa) (st:List Ae) (fr:List (List Int)) (i m:Nat):Prop where
 len:fr.length=st.length
 cov:∀ j s k,GK i m j k->st[j]?=some s->k<t.Rules.length->(Bl t s (k:Nat)).2=true->(Bl t s (k:Nat)).1∈st
 sound:∀ (n:Nat) l,fr[n]?=some l->∀ x∈l,∃ (j:Nat) (s:Ae) (k:Nat) (s':Ae),x=(j:Int)/\st[j]?=some s/\k<t.Rules.length/\st[n]?=some s'/\Bl t s (k:Nat)=(s',true)
 compl:∀ (n:Nat) l,fr[n]?=some l->∀ (j:Nat) (s:Ae) (k:Nat) (s':Ae),GK i m j k->st[j]?=some s->k<t.Rules.length->st[n]?=some s'->Bl t s (k:Nat)=(s',true)->(j:Int)∈l
 small:∀ (n:Nat) l,fr[n]?=some l->l.length<=i*11+m
theorem CO.snoc {t:Aa} {st:List Ae} {fr:List (List Int)} {i m:Nat} (h:CO t st fr i m) {p:Ae} (hp:p ∉ st) (hi:i<st.length):CO t (st++[p]) (fr++[[]]) i m:=by
 have hget:∀ (j:Nat) s,GK i m j 0\/j<=i->(st++[p])[j]?=some s->st[j]?=some s:=λ j s hj hs=>by
  rcases JkZ j st.length with hlt|hge
  ·rwa[Jlh hlt]at hs
  ·rcases hj with (h1|⟨h1,_⟩)|h1<;>omega
 have hle:∀ {j k},GK i m j k->j<=i:=λ h=>by rcases h with h|⟨h,_⟩<;>omega
 refine⟨by simp[h.len],λ j s k ht hs hk h2=>?_,λ n l hl x hx=>?_,λ n l hl j s k s' ht hs hk hs' he=>?_,λ n l hl=>?_⟩
 ·exact List.mem_append_left _ (h.cov j s k ht (hget j s (.inr (hle ht)) hs) hk h2)
 ·rcases JkZ n fr.length with hlt|hge
  ·rw[Jlh hlt]at hl;obtain⟨j,s,k,s',a1,a2,a3,a4,a5⟩:=h.sound n l hl x hx;exact⟨j,s,k,s',a1,by rw[Jlh (AC a2)];exact a2,a3,by rw[Jlh (AC a4)];exact a4,a5⟩
  ·rw[Jlr hge]at hl;have:n-fr.length=0:=by have:=AC hl;simp at this;omega
   rw[this]at hl;simp at hl;subst hl;simp at hx
 ·have hs0:=hget j s (.inr (hle ht)) hs;have hmem:s'∈st:=by have:=h.cov j s k ht hs0 hk (by rw[he]);rwa[he]at this
  rcases JkZ n fr.length with hlt|hge
  ·rw[Jlh hlt]at hl;rw[Jlh (by rw[← h.len];exact hlt)]at hs';exact h.compl n l hl j s k s' ht hs0 hk hs' he
  ·have hn:n=st.length:=by have:=AC hs';simp at this;rw[h.len]at hge;omega
   subst hn;simp at hs';subst hs';exact absurd hmem hp
 ·rcases JkZ n fr.length with hlt|hge
  ·rw[Jlh hlt]at hl;exact h.small n l hl
  ·rw[Jlr hge]at hl;have:n-fr.length=0:=by have:=AC hl;simp at this;omega
   rw[this]at hl;simp at hl;subst hl;simp
theorem CO.put {t:Aa} {st:List Ae} {fr:List (List Int)} {i m:Nat} (h:CO t st fr i m) (hnd:st.Nodup) {s p:Ae} {q:Nat} {l:List Int} (hs:st[i]?=some s) (hm:m<t.Rules.length) (hst:Bl t s (m:Nat)=(p,true)) (hq:st[q]?=some p) (hl:fr[q]?=some l):CO t st (fr.set q (l++[(i:Int)])) i (m+1):=by
 have htk:∀ {j k},GK i (m+1) j k->GK i m j k\/(j=i/\k=m):=λ {j k} h=>by
  unfold GK at *;omega
 have hql:=AC hl;refine⟨by simp[h.len],λ j x k ht hx hk h2=>?_,λ n l' hl' x hx=>?_,λ n l' hl' j x k x' ht hx hk hx' he=>?_,λ n l' hl'=>?_⟩
 ·rcases htk ht with ht|⟨rfl,rfl⟩
  ·exact h.cov j x k ht hx hk h2
  ·rw[hs]at hx;cases hx;rw[hst];exact Jlb hq
 ·by_cases e:n=q
  ·subst e;rw[Jlk hql]at hl';cases hl';simp only[List.mem_append,List.mem_singleton]at hx;rcases hx with hx|rfl
   ·exact h.sound n l hl x hx
   ·exact⟨i,s,m,p,rfl,hs,hm,hq,hst⟩
  ·rw[Jlp (Ne.symm e)]at hl';exact h.sound n l' hl' x hx
 ·rcases htk ht with ht|⟨rfl,rfl⟩
  ·by_cases e:n=q
   ·subst e;rw[Jlk hql]at hl';cases hl';exact List.mem_append_left _ (h.compl n l hl j x k x' ht hx hk hx' he)
   ·rw[Jlp (Ne.symm e)]at hl';exact h.compl n l' hl' j x k x' ht hx hk hx' he
  ·rw[hs]at hx;cases hx;rw[hst]at he;cases he;have e:n=q:=by
    have h1:=AC hx';have h2:=AC hq;rw[Jk9 h1]at hx';rw[Jk9 h2]at hq;exact(List.getElem_inj (h₀:=h1) (h₁:=h2) hnd).1 ((Option.some.inj hx').trans (Option.some.inj hq).symm)
   subst e;rw[Jlk hql]at hl';cases hl';simp
 ·by_cases e:n=q
  ·subst e;rw[Jlk hql]at hl';cases hl';have:=h.small n l hl;simp;omega
  ·rw[Jlp (Ne.symm e)]at hl';have:=h.small n l' hl';omega
theorem CO.skip {t:Aa} {st:List Ae} {fr:List (List Int)} {i m:Nat} (h:CO t st fr i m) {s:Ae} (hs:st[i]?=some s) (hst:(Bl t s (m:Nat)).2=false):CO t st fr i (m+1):=by
 have htk:∀ {j k},GK i (m+1) j k->GK i m j k\/(j=i/\k=m):=λ {j k} h=>by
  unfold GK at *;omega
 refine⟨h.len,λ j x k ht hx hk h2=>?_,h.sound,λ n l hl j x k x' ht hx hk hx' he=>?_,λ n l hl=>by have:=h.small n l hl;omega⟩
 ·rcases htk ht with ht|⟨rfl,rfl⟩
  ·exact h.cov j x k ht hx hk h2
  ·rw[hs]at hx;cases hx;rw[hst]at h2;cases h2
 ·rcases htk ht with ht|⟨rfl,rfl⟩
  ·exact h.compl n l hl j x k x' ht hx hk hx' he
  ·rw[hs]at hx;cases hx;rw[he]at hst;cases hst
end Go.AI
end
section
namespace Go.AI
theorem IX {α:Type} {l:List α} {i:Nat} {x:α} (h:l[i]?=some x):idx l (i:Int)=some x:=by
 unfold idx;rw[if_pos (by omega)];simpa using h
theorem Eh {α:Type} {eb:Nat} {xs ys:List α} (h:(xs.length+ys.length)*eb<=70368744177664):app eb xs ys=some (xs++ys):=by
 unfold app;rw[if_pos h]
theorem U3 {t:Aa} (ht:H9 t) {i m:Nat} {s:Ae} {st:List Ae} {fr:List (List Int)} {nb:List (Ae×Int)} (hF:GJ t st) (hi:st[i]?=some s) (hN:Je st nb) (hR:CO t st fr i m) (hm:m<t.Rules.length) :
  ∃ fr' nb',Je (KR t s st m) nb'/\CO t (KR t s st m) fr' i (m+1)/\∀ n,BT n t (i:Int) st fr nb (m:Int)=some (.inl (KR t s st m,fr',nb',((m+1:Nat):Int))):=by
 have hil:=AC hi;have hlen:=hF.len;have hrl:=ht.1;have hinc:AX .i64 (m:Int) 1=((m+1:Nat):Int):=by rw[Qn (by omega) (by omega)];rfl
 have hcond:decide ((m:Int)<((t.Rules.length:Nat):Int))=true:=by simpa using hm
 cases hp:(Bl t s (m:Nat)).2 with
 | false=>
  have ha:KR t s st m=st:=by unfold KR;rw[if_neg (by rw[hp];simp)]
  refine⟨fr,nb,by rw[ha];exact hN,by rw[ha];exact hR.skip hi hp,λ n=>?_⟩;unfold BT;rw[if_pos hcond,IX hi];simp only[JkP,OH ht.short,hp,Bool.not_false,if_true,CI,hinc,ha]
 | true=>
  have hpe:Bl t s (m:Nat)=((Bl t s (m:Nat)).1,true):=Prod.ext rfl hp;generalize hpp:(Bl t s (m:Nat)).1=p at hpe;by_cases hmem:p∈st
  ·have ha:KR t s st m=st:=by unfold KR;rw[if_neg (by rw[hpp];exact λ hh=>hh.2 hmem)]
   obtain⟨q,hq⟩:=List.mem_iff_getElem?.1 hmem;have hql:=AC hq;obtain⟨lq,hfq⟩:∃ lq,fr[q]?=some lq:=⟨_,Jk9 (by rw[hR.len];exact hql)⟩;have hsm:=hR.small q _ hfq;have hget:AT p nb=some (q:Int):=by rw[hN p,C5 hF.nodup hq];rfl
   have hiv:i<768:=by omega
   refine⟨fr.set q (lq++[(i:Int)]),nb,by rw[ha];exact hN,by rw[ha];exact hR.put hF.nodup hi hm hpe hq hfq,λ n=>?_⟩;unfold BT;rw[if_pos hcond,IX hi];simp only[JkP,OH ht.short,hpe,hget,Option.isSome_some,JkW,Jll,if_false,JkU,Dw];rw[IX hfq];simp only[JkP];rw[Eh (by simp;omega)];simp only[JkP,CI,hinc,ha,Jli]
  ·have ha:KR t s st m=st++[p]:=by unfold KR;rw[if_pos ⟨hp,by rw[hpp];exact hmem⟩,hpp]
   have hnd:(st++[p]).Nodup:=by have:=(hF.add ht hi hm).nodup;rwa[ha]at this
   have hget:AT p nb=none:=by rw[hN p,IW hmem];rfl
   have hR':=hR.snoc hmem hil;have hfq:(fr++[[]])[st.length]?=some ([]:List Int):=by rw[← hR.len];simp
   refine⟨(fr++[[]]).set st.length ([]++[(i:Int)]),BP p (st.length:Nat) nb,by rw[ha];exact hN.snoc hF.nodup hmem,by rw[ha];exact hR'.put hnd (by rw[Jlh hil];exact hi) hm hpe (by simp) hfq,λ n=>?_⟩;unfold BT;rw[if_pos hcond,IX hi];simp only[JkP,OH ht.short,hpe,hget,Option.isSome_none,Bool.not_false,JkW,Jll,if_true,if_false];rw[Eh (by simp;omega),JkP,Eh (by simp[hR.len];omega),JkP];simp only[Dw];rw[IX hfq];simp only[JkP];rw[Eh (by simp)];simp only[JkP,CI,hinc,ha,Jli]
theorem CO.next {t:Aa} {st:List Ae} {fr:List (List Int)} {i:Nat} (h:CO t st fr i t.Rules.length) (hr:t.Rules.length<=11):CO t st fr (i+1) 0:=by
 have htk:∀ {j k},k<t.Rules.length->GK (i+1) 0 j k->GK i t.Rules.length j k:=λ {j k} hk h=>by
  unfold GK at *;omega
 exact⟨h.len,λ j s k ht hs hk=>h.cov j s k (htk hk ht) hs hk,h.sound,λ n l hl j s k s' ht hs hk=>h.compl n l hl j s k s' (htk hk ht) hs hk,λ n l hl=>by have:=h.small n l hl;omega⟩
theorem Jb9 {t:Aa} (ht:H9 t) {i:Nat} {s:Ae} {st:List Ae} {fr:List (List Int)} {nb:List (Ae×Int)} (hF:GJ t st) (hi:st[i]?=some s) (hN:Je st nb) (hR:CO t st fr i 0) :
  ∃ r:List Ae×List (List Int)×List (Ae×Int),(r.1=Oo t s t.Rules.length st/\Je r.1 r.2.2/\CO t r.1 r.2.1 (i+1) 0) /\
   Ev (λ n=>whl (λ (x:((List Ae)×(List (List Int))×(List (Ae×Int))×Int))=>BT n t (i:Int) x.1 x.2.1 x.2.2.1 x.2.2.2) n (st,fr,nb,0)) r:=by
 refine JkH (body:=λ n x=>BT n t (i:Int) x.1 x.2.1 x.2.2.1 x.2.2.2) (λ k x=>∃ m:Nat,m<=t.Rules.length/\k=t.Rules.length-m/\x.1=Oo t s m st/\x.2.2.2=(m:Int)/\Je x.1 x.2.2.1/\CO t x.1 x.2.1 i m) ?_ t.Rules.length (st,fr,nb,0) ⟨0,by omega,by omega,rfl,rfl,hN,hR⟩;rintro k ⟨st',fr',nb',m'⟩ ⟨m,hm,rfl,h1,h2,h3,h4⟩;simp only at h1 h2 h3 h4;subst h1;subst h2;rcases JkZ m t.Rules.length with hlt|hge
 ·left;have hi':(Oo t s m st)[i]?=some s:=OI (Ia t s st m) hi;obtain⟨fr2,nb2,g1,g2,g3⟩:=U3 ht (hF.exp ht hi m hm) hi' h3 h4 hlt;exact⟨_,t.Rules.length-(m+1),by omega,⟨m+1,hlt,rfl,(Ky t s m st).symm,rfl,g1,g2⟩,Ev.all g3⟩
 ·right;have e:m=t.Rules.length:=by omega
  subst e;refine⟨(Oo t s t.Rules.length st,fr',nb'),⟨rfl,h3,h4.next ht.1⟩,Ev.all λ n=>?_⟩;unfold BT;rw[if_neg (by simp)]
theorem WB {t:Aa} (ht:H9 t):∃ fr,CO t (AB t) fr (AB t).length 0/\Ev (λ n=>G8 n t) (AB t,fr):=by
 have h0:GJ t [B5]:=⟨by simp,λ s hs=>by simp at hs;subst hs;exact⟨by decide,by decide,by decide,by decide,by decide,by decide⟩,rfl,λ j s hj h0=>by cases j with|zero=>omega|succ j=>simp at hj⟩;have loop:∃ r:List Ae×List (List Int),(r.1=AB t/\CO t r.1 r.2 r.1.length 0) /\
   Ev (λ n=>whl (λ (x:((List Ae)×(List (List Int))×(List (Ae×Int))×Int))=>CJ n t x.1 x.2.1 x.2.2.1 x.2.2.2) n ([B5],([[]]:List (List Int)),(BP B5 0 []),0)) r:=by
  refine JkH (body:=λ n x=>CJ n t x.1 x.2.1 x.2.2.1 x.2.2.2) (λ k x=>∃ i:Nat,i<=x.1.length/\k=800-i/\U1 t (800-i) i x.1=AB t/\x.2.2.2=(i:Int)/\GJ t x.1/\Je x.1 x.2.2.1/\CO t x.1 x.2.1 i 0) ?_ 800 _ ⟨0,by simp,by omega,rfl,rfl,h0,?_,?_⟩
  ·rintro k ⟨st,fr,nb,i'⟩ ⟨i,hil,rfl,hb,hi',hF,hN,hR⟩;simp only at hil hb hi' hF hN hR;subst hi';have hlen:=hF.len;rcases JkZ i st.length with hlt|hge
   ·left;have hi:st[i]?=some st[i]:=Jk9 hlt;obtain⟨r,⟨g1,g2,g3⟩,g4⟩:=Jb9 ht hF hi hN hR;have hexp:=hF.exp ht hi _ (JkY _);refine⟨(r.1,r.2.1,r.2.2,((i+1:Nat):Int)),800-(i+1),by omega,⟨i+1,?_,rfl,?_,rfl,by rw[g1];exact hexp,g2,g3⟩,?_⟩
    ·simp only[g1];have:=(Ia t st[i] st t.Rules.length).length_le;omega
    ·simp only[g1];rw[← hb];have e:800-i=(800-(i+1))+1:=by omega
     rw[e];simp only[U1,hi]
    ·refine(Ev.bind g4 (g:=λ _ y2=>some (.inl (y2.1,y2.2.1,y2.2.2,((i+1:Nat):Int)))) Ev.const).congr λ n=>?_;unfold CJ;rw[if_pos (by simpa using hlt)];have hinc:AX .i64 (i:Int) 1=((i+1:Nat):Int):=by rw[Qn (by omega) (by omega)];rfl
     rw[hinc]
   ·right;have e:i=st.length:=by omega
    subst e;have hst:st=AB t:=by
     rw[← hb];have e:800-st.length=(800-(st.length+1))+1:=by omega
     rw[e];simp[U1]
    refine⟨(st,fr),⟨hst,hR⟩,Ev.all λ n=>?_⟩;unfold CJ;rw[if_neg (by simp)]
  ·intro s;simp only[BP,AT];by_cases e:s=B5
   ·subst e;simp
   ·have:¬ B5=s:=λ h=>e h.symm;simp[e,this]
  ·refine⟨rfl,λ j s k ht=>?_,λ n l hl x hx=>?_,λ n l hl j s k s' ht=>?_,λ n l hl=>?_⟩
   ·unfold GK at ht;omega
   ·cases n with
    | zero=>simp at hl;subst hl;simp at hx
    | succ n=>simp at hl
   ·unfold GK at ht;omega
   ·cases n with
    | zero=>simp at hl;subst hl;simp
    | succ n=>simp at hl
 obtain⟨⟨st,fr⟩,⟨g1,g2⟩,g3⟩:=loop;simp only at g1 g2;subst g1;refine⟨fr,g2,?_⟩;have hs:∀ n,Nh n=some B5:=λ n=>rfl;refine(Ev.bind g3 (g:=λ _ y3=>some (y3.1,y3.2)) Ev.const).congr λ n=>?_;unfold G8;rw[hs,JkP]
theorem WC {t:Aa} (ht:H9 t):Ev (λ n=>Lq n t) (AB t):=by
 obtain⟨fr,_,h⟩:=WB ht;exact(Ev.bind h (g:=λ _ r=>some r.1) Ev.const).congr λ n=>rfl
end Go.AI
end
section
namespace Go.AI
def Tot {α:Type} (f:Nat->Option α) (P:α->Prop):Prop:=∃ z,P z/\Ev f z
def Rd2 {σ ρ:Type} (I:σ->Prop) (P:ρ->Prop):σ⊕ρ->Prop
 | .inl y=>I y
 | .inr r=>P r
variable {α β σ ρ:Type} {P R:α->Prop}
theorem Tot.ev {f:Nat->Option α} {z:α} (h:Tot f (λ x=>x=z)):Ev f z:=by obtain⟨_,rfl,h⟩:=h;exact h
theorem Ev.tot {f:Nat->Option α} {z:α} (h:Ev f z) (hp:P z):Tot f P:=⟨z,hp,h⟩
theorem JkI {z:α} (h:P z):Tot (λ _=>some z) P:=⟨z,h,Ev.const⟩
theorem Tot.all {f:Nat->Option α} {z:α} (h:∀ n,f n=some z) (hp:P z):Tot f P:=⟨z,hp,Ev.all h⟩
theorem Tot.mono {f:Nat->Option α} (h:Tot f R) (hp:∀ x,R x->P x):Tot f P:=by obtain⟨z,hz,h⟩:=h;exact⟨z,hp z hz,h⟩
theorem Tot.bind {f:Nat->Option β} {g:Nat->β->Option α} {R:β->Prop} (h:Tot f R) (k:∀ x,R x->Tot (λ n=>g n x) P):Tot (λ n=>(f n).bind (g n)) P:=by
 obtain⟨x,hx,h⟩:=h;obtain⟨z,hz,h'⟩:=k x hx;exact⟨z,hz,Ev.bind h h'⟩
theorem JkJ {f:Nat->Option β} {g:Nat->β->Option α} {x:β} (h:Ev f x) (k:Tot (λ n=>g n x) P):Tot (λ n=>(f n).bind (g n)) P:=by
 obtain⟨z,hz,h'⟩:=k;exact⟨z,hz,Ev.bind h h'⟩
theorem Tot.bindC {x:Option β} {y:β} {g:Nat->β->Option α} (h:x=some y) (k:Tot (λ n=>g n y) P):Tot (λ n=>x.bind (g n)) P:=by subst h;exact k
theorem JkK {f:Nat->Option β} {y:β} {g:Nat->β->Option α} (h:∀ n,f n=some y) (k:Tot (λ n=>g n y) P):Tot (λ n=>(f n).bind (g n)) P:=JkJ (Ev.all h) k
theorem Tot.ite {c:Bool} {a b:Nat->Option α} (h1:c=true->Tot a P) (h2:c=false->Tot b P):Tot (λ n=>if c=true then a n else b n) P:=by
 cases c with
 | true=>exact h1 rfl
 | false=>exact h2 rfl
theorem Tot.iteT {c:Bool} {a b:Nat->Option α} (h:c=true) (k:Tot a P):Tot (λ n=>if c=true then a n else b n) P:=by subst h;exact k
theorem Tot.iteF {c:Bool} {a b:Nat->Option α} (h:c=false) (k:Tot b P):Tot (λ n=>if c=true then a n else b n) P:=by subst h;exact k
theorem Tot.guard {c:Bool} {f:Nat->Option β} {d:β} {g:Nat->β->Option α} {R:β->Prop} (h:c=true->Tot f R) (k:∀ x,(c=true->R x)->Tot (λ n=>g n x) P):Tot (λ n=>(if c=true then f n else some d).bind (g n)) P:=by
 cases c with
 | true=>exact Tot.bind (h rfl) λ x hx=>k x λ _=>hx
 | false=>exact k d λ h=>by cases h
theorem Tot.congr {f g:Nat->Option α} (h:Tot f P) (e:∀ n,g n=f n):Tot g P:=by obtain⟨z,hz,h⟩:=h;exact⟨z,hz,h.congr e⟩
theorem Tot.sum {y:β⊕σ} {f:Nat->β->Option α} {g:Nat->σ->Option α} (h1:∀ b,y=.inl b->Tot (λ n=>f n b) P) (h2:∀ b,y=.inr b->Tot (λ n=>g n b) P):Tot (λ n=>match y with | .inl b=>f n b | .inr b=>g n b) P:=by
 cases y with
 | inl b=>exact h1 b rfl
 | inr b=>exact h2 b rfl
theorem Tot.whl {body:Nat->σ->Option (σ⊕ρ)} {P:ρ->Prop} (I:Nat->σ->Prop) (h:∀ k x,I k x->Tot (λ n=>body n x) (Rd2 (λ y=>∃ j,j<k/\I j y) P)):∀ (k:Nat) (x:σ),I k x->Tot (λ n=>Go.AI.whl (body n) n x) P:=by
 have key:∀ (k:Nat) (x:σ),I k x->∃ r,P r/\∃ N c,∀ n fuel,N<=n->c<=fuel->Go.AI.whl (body n) fuel x=some r:=by
  intro k;induction k using Nat.strongRecOn with
  | _ k ih=>
   intro x hx;obtain⟨z,hz,N1,h1⟩:=h k x hx;cases z with
   | inl y=>
    obtain⟨j,hj,hy⟩:=hz;obtain⟨r,hr,N2,c,h2⟩:=ih j hj y hy;refine⟨r,hr,max N1 N2,c+1,λ n fuel hn hf=>?_⟩;cases fuel with
    | zero=>omega
    | succ fuel=>
     have e:=h1 n (by omega);simp only at e;simp only[Go.AI.whl,e];exact h2 n fuel (by omega) (by omega)
   | inr r=>
    refine⟨r,hz,N1,1,λ n fuel hn hf=>?_⟩;cases fuel with
    | zero=>omega
    | succ fuel=>
     have e:=h1 n hn;simp only at e;simp only[Go.AI.whl,e]
 intro k x hx;obtain⟨r,hr,N,c,hh⟩:=key k x hx;exact⟨r,hr,max N c,λ m hm=>hh m m (by omega) (by omega)⟩
theorem Tot.upto {body:Nat->σ->Option (σ⊕ρ)} {P:ρ->Prop} (N:Nat) (I:Nat->σ->Prop)
  (step:∀ i x,i<N->I i x->Tot (λ n=>body n x) (Rd2 (I (i+1)) P))
  (last:∀ x,I N x->Tot (λ n=>body n x) (Rd2 (λ _=>False) P)) (x:σ) (h0:I 0 x):Tot (λ n=>Go.AI.whl (body n) n x) P:=by
 refine Tot.whl (body:=body) (λ k x=>∃ i,i<=N/\k=N-i/\I i x) ?_ N x ⟨0,by omega,by omega,h0⟩;rintro k x ⟨i,hi,rfl,hx⟩;rcases JkZ i N with hlt|hge
 ·refine(step i x hlt hx).mono λ z hz=>?_;cases z with
  | inl y=>exact⟨N-(i+1),by omega,i+1,by omega,rfl,hz⟩
  | inr r=>exact hz
 ·have:i=N:=by omega
  subst this;refine(last x hx).mono λ z hz=>?_;cases z with
  | inl y=>exact hz.elim
  | inr r=>exact hz
theorem C6 {l:List α} {i:Nat} {x:α} (h:l[i]?=some x):idx l (i:Int)=some x:=by
 unfold idx;rw[if_pos (by omega)];simpa using h
theorem Bf {l:List α} {i:Nat} (h:i<l.length):idx l (i:Int)=some l[i]:=C6 (Jk9 h)
theorem Nu {eb:Nat} {xs ys:List α} (h:(xs.length+ys.length)*eb<=70368744177664):app eb xs ys=some (xs++ys):=by
 unfold app;rw[if_pos h]
theorem Tp {l:List α} {i:Nat} {y:α} (h:i<l.length):put l (i:Int) y=some (l.set i y):=by
 unfold put;rw[if_pos (by omega),Jli]
theorem Tq {x y:List UInt8} (h:x.length+y.length<=9223372036854775807):cat x y=some (x++y):=by
 unfold cat;rw[if_pos h]
end Go.AI
end
section
namespace Go.AI
theorem Jd2 (a:Int):IntKind.i64.wrap a=if decide (a % 18446744073709551616>=9223372036854775808)=true then a % 18446744073709551616-18446744073709551616 else a % 18446744073709551616:=rfl
theorem w64 {a:Int} (h:-9223372036854775808<=a) (h':a<9223372036854775808):IntKind.i64.wrap a=a:=by
 rw[Jd2];simp only[decide_eq_true_eq];split<;>omega
theorem Lf {a b:Int} (h:-9223372036854775808<=a+b) (h':a+b<9223372036854775808):AX .i64 a b=a+b:=w64 h h'
theorem RW {a b:Int} (h:-9223372036854775808<=a-b) (h':a-b<9223372036854775808):IC .i64 a b=a-b:=w64 h h'
theorem Bm {i:Nat} (h:i<9223372036854775807):AX .i64 (i:Int) 1=((i+1:Nat):Int):=by rw[Lf]<;>omega
theorem Jh2 (a:Int):IntKind.u8.wrap a=a % 256:=rfl
theorem Jca (a:Int):0<=IntKind.u8.wrap a/\IntKind.u8.wrap a<256:=by rw[Jh2];omega
theorem RX {a m:Int} (h:0<=a) (hm:0<m):Bj a m=a % m/\0<=Bj a m/\Bj a m<m:=by
 have e:Bj a m=a % m:=by unfold Bj;rw[Int.tmod_eq_emod_of_nonneg h]
 rw[e];exact⟨rfl,Int.emod_nonneg _ (by omega),Int.emod_lt_of_pos _ hm⟩
variable {α β σ ρ:Type}
theorem JjN [Inhabited α] {l:List α} {i:Int} (h:0<=i) (h':i<l.length):idx l i=some (l.getD i.toNat default):=by
 unfold idx;rw[if_pos h,List.getD_eq_getElem?_getD,Jk9 (by omega)];rfl
theorem GL [Inhabited α] {l:List α} {i:Nat} (h:i<l.length):idx l (i:Int)=some (l.getD i default):=by
 rw[JjN (by omega) (by omega),Jli]
theorem Xq {l:List α} {a b:Int} (h:0<=a) (h1:a<=b) (h2:b<=l.length):sub l a b=some ((l.take b.toNat).drop a.toNat):=by
 unfold sub;rw[if_pos ⟨h,h1,h2⟩]
theorem Xr {l:List α} {k:Nat} (h:k<=l.length):sub l 0 (k:Int)=some (l.take k):=by
 rw[Xq (by omega) (by omega) (by omega)];simp
theorem Jcb {eb:Nat} {k:Int} {z:α} (h:0<=k) (h':k.toNat*eb<=70368744177664):mkl eb k z=some (List.replicate k.toNat z):=by
 unfold mkl;rw[if_pos ⟨h,h'⟩]
theorem CP {b:Bool} (h:b=true):Cd b=some ():=by subst h;rfl
theorem WD {body:σ->Option (σ⊕ρ)} {r:ρ} (st:Nat->σ) (k:Nat) (step:∀ i,i<k->body (st i)=some (.inl (st (i+1)))) (last:body (st k)=some (.inr r)):∀ n,k<n->whl body n (st 0)=some r:=by
 have key:∀ (j n i:Nat),i+j=k->j<n->whl body n (st i)=some r:=by
  intro j;induction j with
  | zero=>
   intro n i hi hn;cases n with
   | zero=>omega
   | succ n=>
    have:i=k:=by omega
    subst this;simp only[whl,last]
  | succ j ih=>
   intro n i hi hn;cases n with
   | zero=>omega
   | succ n=>simp only[whl,step i (by omega)];exact ih n (i+1) (by omega) (by omega)
 intro n hn;exact key k n 0 (by omega) hn
theorem Ev.to {body:Nat->σ->Option (σ⊕ρ)} {r:ρ} (st:Nat->σ) (k:Nat) (h:∃ N,∀ n,N<=n->(∀ i,i<k->body n (st i)=some (.inl (st (i+1))))/\body n (st k)=some (.inr r)):Ev (λ n=>Go.AI.whl (body n) n (st 0)) r:=by
 obtain⟨N,h⟩:=h;exact⟨max N (k+1),λ n hn=>WD st k (h n (by omega)).1 (h n (by omega)).2 n (by omega)⟩
def Ho (N:Nat) (stop:Nat->Option ρ) (d:ρ):ρ:=((List.range N).findSome? stop).getD d
theorem YX {N:Nat} {stop:Nat->Option ρ} {d:ρ} (h:∀ i,i<N->stop i=none):Ho N stop d=d:=by
 unfold Ho;rw[List.findSome?_eq_none_iff.2 λ i hi=>h i (List.mem_range.1 hi)];rfl
theorem YY {N:Nat} {stop:Nat->Option ρ} {d r:ρ} (k:Nat) (hk:k<N) (hr:stop k=some r) (h:∀ i,i<k->stop i=none):Ho N stop d=r:=by
 unfold Ho;have:(List.range N).findSome? stop=some r:=by
  have e:List.range N=List.range k++(List.range (N-k)).map (k+·):=by rw[← List.range_add];congr 1;omega
  rw[e,List.findSome?_append,List.findSome?_eq_none_iff.2 λ i hi=>h i (List.mem_range.1 hi)];have:N-k=(N-k-1)+1:=by omega
  rw[this,List.range_succ_eq_map];simp[hr]
 rw[this];rfl
theorem Re (N:Nat) (stop:Nat->Option ρ) (d:ρ):((∀ i,i<N->stop i=none)/\Ho N stop d=d)\/∃ k r,k<N/\stop k=some r/\(∀ i,i<k->stop i=none)/\Ho N stop d=r:=by
 by_cases h:∀ i,i<N->stop i=none
 ·exact .inl ⟨h,YX h⟩
 ·right;have hex:∃ k,k<N/\stop k≠none:=by
   apply Classical.byContradiction;intro hh;exact h λ i hi=>Classical.byContradiction λ hn=>hh ⟨i,hi,hn⟩
  have key:∀ m,(∃ k,k<m/\k<N/\stop k≠none)->∃ k,k<N/\stop k≠none/\∀ i,i<k->stop i=none:=by
   intro m;induction m with
   | zero=>rintro⟨k,hk,_⟩;omega
   | succ m ih=>
    rintro⟨k,hk,h1,h2⟩;by_cases hm:∃ k,k<m/\k<N/\stop k≠none
    ·exact ih hm
    ·refine⟨k,h1,h2,λ i hi=>Classical.byContradiction λ hn=>hm ⟨i,by omega,by omega,hn⟩⟩
  obtain⟨k0,h1,h2⟩:=hex;obtain⟨k,h3,h4,h5⟩:=key (k0+1) ⟨k0,by omega,h1,h2⟩;obtain⟨r,hr⟩:=Option.ne_none_iff_exists'.1 h4;exact⟨k,r,h3,hr,h5,YY k h3 hr h5⟩
theorem YZ {body:Int->Option (Int⊕ρ)} {N:Nat} (stop:Nat->Option ρ) {d:ρ} (h1:∀ i,i<N->body (i:Int)=some (match stop i with|some r=>.inr r|none=>.inl ((i+1:Nat):Int))) (h2:body (N:Int)=some (.inr d)):∀ n,N<n->whl body n 0=some (Ho N stop d):=by
 intro n hn;rcases Re N stop d with⟨h,e⟩|⟨k,r,hk,hr,h,e⟩
 ·rw[e];exact WD (λ i=>(i:Int)) N (λ i hi=>by rw[h1 i hi,h i hi]) h2 n hn
 ·rw[e];exact WD (λ i=>(i:Int)) k (λ i hi=>by rw[h1 i (by omega),h i hi]) (by rw[h1 k hk,hr]) n (by omega)
theorem Ev.first {body:Nat->Int->Option (Int⊕ρ)} {N:Nat} (stop:Nat->Option ρ) {d:ρ} (h:∃ M,∀ n,M<=n->(∀ i,i<N->body n (i:Int)=some (match stop i with|some r=>.inr r|none=>.inl ((i+1:Nat):Int)))/\body n (N:Int)=some (.inr d)):Ev (λ n=>Go.AI.whl (body n) n 0) (Ho N stop d):=by
 obtain⟨M,h⟩:=h;exact⟨max M (N+1),λ n hn=>YZ stop (h n (by omega)).1 (h n (by omega)).2 n (by omega)⟩
theorem JkL {P:α->Prop} {c:Bool} {f:Nat->Option β} {d x:β} {g:Nat->β->Option α} (hc:c=true) (h:Ev f x) (k:Tot (λ n=>g n x) P):Tot (λ n=>(if c=true then f n else some d).bind (g n)) P:=by
 subst hc;exact JkJ h k
theorem JkM {P:α->Prop} {c:Bool} {f:Nat->Option β} {d:β} {g:Nat->β->Option α} (hc:c=false) (k:Tot (λ n=>g n d) P):Tot (λ n=>(if c=true then f n else some d).bind (g n)) P:=by
 subst hc;exact k
theorem JkN {f:Nat->Nat->Option α} {z:Nat->α} (N:Nat) (h:∀ i,i<N->Ev (λ n=>f n i) (z i)):∃ M,∀ n,M<=n->∀ i,i<N->f n i=some (z i):=by
 induction N with
 | zero=>exact⟨0,λ n _ i hi=>by omega⟩
 | succ N ih=>
  obtain⟨M1,h1⟩:=ih λ i hi=>h i (by omega);obtain⟨M2,h2⟩:=h N (by omega);exact⟨max M1 M2,λ n hn i hi=>by
   by_cases e:i=N
   ·subst e;exact h2 n (by omega)
   ·exact h1 n (by omega) i (by omega)⟩
end Go.AI
end
section
namespace Go.AI
def scan {ρ:Type} (N:Nat) (stop:Nat->Option ρ):Unit⊕ρ:=match (List.range N).findSome? stop with
 | some r=>.inr r
 | none=>.inl ()
theorem Fr {ρ:Type} {body:Nat->Int->Option (Int⊕(Unit⊕ρ))} (N:Nat) (stop:Nat->Option ρ)
  (h:∀ i,i<N->Ev (λ n=>body n (i:Int)) (match stop i with|some r=>.inr (.inr r)|none=>.inl ((i+1:Nat):Int)))
  (h2:Ev (λ n=>body n (N:Int)) (.inr (.inl ()))):Ev (λ n=>whl (body n) n 0) (AI.scan N stop):=by
 have key:∀ (k i:Nat),i+k=N->(List.range N).findSome? stop=((List.range k).map (i+·)).findSome? stop->∃ M c,∀ n fuel,M<=n->c<=fuel->whl (body n) fuel (i:Int)=some (AI.scan N stop):=by
  intro k;induction k with
  | zero=>
   intro i hi hf;have:i=N:=by omega
   subst this;obtain⟨M,hM⟩:=h2;refine⟨M,1,λ n fuel hn hfu=>?_⟩;obtain⟨fuel,rfl⟩:∃ f,fuel=f+1:=⟨fuel-1,by omega⟩;have e:=hM n hn;simp only at e;simp only[AI.whl,e];unfold AI.scan;rw[hf];rfl
  | succ k ih=>
   intro i hi hf;obtain⟨M,hM⟩:=h i (by omega);have hs:(List.range (k+1)).map (i+·)=i::(List.range k).map ((i+1)+·):=by
    rw[List.range_succ_eq_map];simp only[Jk5,Nat.add_zero,List.map_map,List.cons.injEq,true_and];apply Jk7;intro a _;simp only[Function.comp];omega
   rw[hs,List.findSome?_cons]at hf;cases hst:stop i with
   | some r=>
    rw[hst]at hf hM;refine⟨M,1,λ n fuel hn hfu=>?_⟩;obtain⟨fuel,rfl⟩:∃ f,fuel=f+1:=⟨fuel-1,by omega⟩;have e:=hM n hn;simp only at e;simp only[AI.whl,e];unfold AI.scan;rw[hf]
   | none=>
    rw[hst]at hf hM;obtain⟨M2,c,h3⟩:=ih (i+1) (by omega) hf;refine⟨max M M2,c+1,λ n fuel hn hfu=>?_⟩;obtain⟨fuel,rfl⟩:∃ f,fuel=f+1:=⟨fuel-1,by omega⟩;have e:=hM n (by omega);simp only at e;simp only[AI.whl,e];exact h3 n fuel (by omega) (by omega)
 obtain⟨M,c,hh⟩:=key N 0 (by omega) (by simp);exact⟨max M c,λ m hm=>hh m m (by omega) (by omega)⟩
theorem Ge {ρ:Type} {N:Nat} {stop:Nat->Option ρ} (h:∀ i,i<N->stop i=none):scan N stop=.inl ():=by
 unfold scan;rw[List.findSome?_eq_none_iff.2 λ i hi=>h i (List.mem_range.1 hi)]
theorem Gf {ρ:Type} {N:Nat} {stop:Nat->Option ρ} {i:Nat} (hi:i<N) (h:(stop i).isSome=true):∃ k r,k<N/\stop k=some r/\scan N stop=.inr r:=by
 unfold scan;cases hf:(List.range N).findSome? stop with
 | none=>rw[List.findSome?_eq_none_iff.1 hf i (List.mem_range.2 hi)]at h;cases h
 | some r=>
  obtain⟨k,hk,hr⟩:=List.exists_of_findSome?_eq_some hf;exact⟨k,r,List.mem_range.1 hk,hr,rfl⟩
def MA (b:UInt8):Int:=(b.toNat:Int)
def FY (b:UInt8):Bool:=decide (Ca .u8 (MA b) 127>=32)&&decide (Ca .u8 (MA b) 127<=126)
def CQ (b:UInt8):Bool:=Ca .u8 (MA b) 127==32
theorem J8 {s:List UInt8} {i:Nat} {b:UInt8} (h:s[i]?=some b):Jh s (i:Int)=some (MA b):=by
 rw[Mz (AC h)];unfold RU MA;rw[h];rfl
theorem GM {i n:Nat} (h:i<n):decide ((i:Int)<((n:Nat):Int))=true:=by simpa using h
theorem Jf (n:Nat):decide (((n:Nat):Int)<((n:Nat):Int))=false:=by simp
def N9 (s:List UInt8):Int×Int:=match scan s.length (λ i=>if FY (s.getD i 0)then none else some ((i:Int),(60:Int)))with
 | .inl _=>(((s.length:Nat):Int),0)
 | .inr p=>p
theorem Cb {α:Type} {l:List α} {i:Nat} {d:α} (h:i<l.length):l.getD i d=l[i]:=by
 rw[List.getD_eq_getElem?_getD,Jk9 h];rfl
theorem Jd3 {s:List UInt8} (hl:s.length<9223372036854775807):Ev (λ n=>Mh n s) (N9 s):=by
 unfold Mh N9;refine Ev.bind (Fr s.length (λ i=>if FY (s.getD i 0)then none else some ((i:Int),(60:Int))) (λ i hi=>Ev.all λ n=>?_) (Ev.all λ n=>?_)) ?_
 ·unfold G7;have hg:s[i]?=some s[i]:=Jk9 hi;rw[if_pos (GM hi),J8 hg,Cb hi];have hc:FT n (MA s[i])=some (FY s[i]):=rfl;simp only[JkP,hc];cases FY s[i]with
  | true=>simp[Bm (show i<9223372036854775807 by omega)]
  | false=>simp
 ·unfold G7;rw[if_neg (by simp)]
 ·generalize scan s.length _=z;cases z<;>exact Ev.const
theorem Jcc {s:List UInt8} (hl:s.length<9223372036854775807):Ev (λ n=>Mk n s) (N9 s):=by
 unfold Mk N9;refine Ev.bind (Fr s.length (λ i=>if FY (s.getD i 0)then none else some ((i:Int),(60:Int))) (λ i hi=>Ev.all λ n=>?_) (Ev.all λ n=>?_)) ?_
 ·unfold Hc;have hg:s[i]?=some s[i]:=Jk9 hi;rw[if_pos (GM hi),J8 hg,Cb hi];have hc:Hv n (MA s[i])=some (FY s[i]):=rfl;simp only[JkP,hc];cases FY s[i]with
  | true=>simp[Bm (show i<9223372036854775807 by omega)]
  | false=>simp
 ·unfold Hc;rw[if_neg (by simp)]
 ·generalize scan s.length _=z;cases z<;>exact Ev.const
theorem U4 {s:List UInt8} (h:s.all FY=true):N9 s=(((s.length:Nat):Int),0):=by
 unfold N9;rw[Ge λ i hi=>by rw[Cb hi,JkT.1 h _ (JkV hi)];rfl]
theorem RY {s:List UInt8} (h:s.all FY=false):(N9 s).2=60:=by
 rw[List.all_eq_false]at h;obtain⟨b,hb,hc⟩:=h;obtain⟨i,hi,e⟩:=List.getElem_of_mem hb;unfold N9;obtain⟨k,r,hk,hr,hs⟩:=Gf (stop:=λ i=>if FY (s.getD i 0)then none else some ((i:Int),(60:Int))) hi (by
  rw[Cb hi,e];simp only[JkX]at hc;rw[hc];rfl)
 rw[hs];simp only at hr⊢;split at hr
 ·cases hr
 ·cases hr;rfl
theorem Y0 {s:List UInt8} (hl:s.length<9223372036854775807):Ev (λ n=>IK n s) (s.all FY):=by
 unfold IK;refine Ev.bind (Jcc hl) ?_;cases h:s.all FY with
 | true=>rw[U4 h];exact Ev.const
 | false=>rw[RY h];exact Ev.const
def B6 (r:Az) (m:Int):Bool:=
 r.Print.all FY&&decide (r.Print.length<=4)&&decide (1<=r.Cells.length)&&decide (r.Cells.length<=4) &&
 (decide (1<=r.Left)&&decide (r.Left<=63)&&decide (1<=r.Right)&&decide (r.Right<=63)&&decide (0<=r.From)&&decide (r.From<m)&&decide (0<=r.To)&&decide (r.To<m)) &&
 r.Cells.all (λ c=>decide (c<63)) &&
 (bif r.Print.any CQ then decide (r.Print.length=1)&&decide (r.Cells.length=1)&&r.Cells.any (λ c=>c==0)else !r.Cells.any (λ c=>c==0))
end Go.AI
end
section
namespace Go.AI
theorem Y1 {r:Az} (hl:r.Print.length<9223372036854775807):Ev (λ n=>whl (λ (x:(Bool×Int))=>DG n r x.1 x.2) n (false,0)) (r.Print.any CQ):=by
 refine Ev.whl (body:=λ n x=>DG n r x.1 x.2) (λ k x=>∃ i:Nat,x.2=(i:Int)/\i<=r.Print.length/\k=r.Print.length-i/\x.1=(r.Print.take i).any CQ) ?_ r.Print.length (false,0) ⟨0,rfl,by omega,by omega,by simp⟩;rintro k ⟨b,i'⟩ ⟨i,h1,hi,rfl,h2⟩;simp only at h1 h2;subst h1;subst h2;rcases JkZ i r.Print.length with hlt|hge
 ·left;have hg:r.Print[i]?=some r.Print[i]:=Jk9 hlt;have hcond:decide ((i:Int)<((r.Print.length:Nat):Int))=true:=by simpa using hlt
  refine⟨((r.Print.take (i+1)).any CQ,((i+1:Nat):Int)),r.Print.length-(i+1),by omega,⟨i+1,rfl,by omega,rfl,rfl⟩,Ev.all λ n=>?_⟩;unfold DG;rw[if_pos hcond];have ht:(r.Print.take (i+1)).any CQ=((r.Print.take i).any CQ||CQ r.Print[i]):=by
   rw[List.take_add_one,hg];simp only[Option.toList_some,List.any_append,List.any_cons,List.any_nil,Bool.or_false]
  have hsp:∀ n,Ni n (MA r.Print[i])=some (CQ r.Print[i]):=λ n=>rfl;rw[ht,Qn (by omega) (by omega),J8 hg];cases (r.Print.take i).any CQ with
  | true=>simp
  | false=>simp[hsp]
 ·right;have e:i=r.Print.length:=by omega
  subst e;refine Ev.all λ n=>?_;unfold DG;rw[if_neg (by simp),List.take_length]
theorem Ev.upto {σ ρ:Type} {body:Nat->σ->Option (σ⊕ρ)} {R:ρ->Prop} (N:Nat) (I:Nat->σ->Prop)
  (step:∀ i x,i<N->I i x->(∃ y,I (i+1) y/\Ev (λ n=>body n x) (.inl y))\/∃ r,R r/\Ev (λ n=>body n x) (.inr r))
  (last:∀ x,I N x->∃ r,R r/\Ev (λ n=>body n x) (.inr r)) (x:σ) (h0:I 0 x):∃ r,R r/\Ev (λ n=>Go.AI.whl (body n) n x) r:=by
 refine JkH (body:=body) (λ k x=>∃ i,i<=N/\k=N-i/\I i x) ?_ N x ⟨0,by omega,by omega,h0⟩;rintro k x ⟨i,hi,rfl,hx⟩;rcases JkZ i N with hlt|hge
 ·rcases step i x hlt hx with⟨y,hy,hE⟩|h
  ·exact .inl ⟨y,N-(i+1),by omega,⟨i+1,by omega,rfl,hy⟩,hE⟩
  ·exact .inr h
 ·have:i=N:=by omega
  subst this;exact .inr (last x hx)
theorem Y2 {r:Az} (hl:r.Cells.length<9223372036854775807) (y:Bool):∃ z:Bool⊕Bool,(if r.Cells.all (λ c=>decide (c<63))=true then z=.inl (r.Cells.any (λ c=>c==0))else z=.inr false)/\Ev (λ n=>whl (λ (x:(Bool×Int))=>C4 n r y x.1 x.2) n (false,0)) z:=by
 refine Ev.upto (body:=λ n x=>C4 n r y x.1 x.2) r.Cells.length (λ i x=>x.2=(i:Int)/\x.1=(r.Cells.take i).any (λ c=>c==0)/\(r.Cells.take i).all (λ c=>decide (c<63))=true) ?_ ?_ (false,0) ⟨rfl,by simp,by simp⟩
 ·rintro i ⟨b,i'⟩ hlt ⟨h1,h2,h3⟩;simp only at h1 h2;subst h1;subst h2;have hg:r.Cells[i]?=some r.Cells[i]:=Jk9 hlt;have hcond:decide ((i:Int)<((r.Cells.length:Nat):Int))=true:=by simpa using hlt
  by_cases hc:r.Cells[i]<63
  ·left;refine⟨((r.Cells.take (i+1)).any (λ c=>c==0),((i+1:Nat):Int)),⟨rfl,rfl,?_⟩,Ev.all λ n=>?_⟩
   ·rw[List.take_add_one,hg];simp only[Option.toList_some,List.all_append,h3,List.all_cons,decide_eq_true hc,List.all_nil,Bool.and_self]
   ·unfold C4;have ht:(r.Cells.take (i+1)).any (λ c=>c==0)=((r.Cells.take i).any (λ c=>c==0)||r.Cells[i]==0):=by
     rw[List.take_add_one,hg];simp only[Option.toList_some,List.any_append,List.any_cons,List.any_nil,Bool.or_false]
    rw[if_pos hcond,IX hg,JkP,if_neg (by simpa using hc),ht,Qn (by omega) (by omega)];cases (r.Cells.take i).any (λ c=>c==0)with
    | true=>simp
    | false=>simp
  ·right;refine⟨.inr false,?_,Ev.all λ n=>?_⟩
   ·rw[if_neg];intro h;rw[JkT]at h;exact hc (by simpa using h r.Cells[i] (JkV hlt))
   ·unfold C4;rw[if_pos hcond,IX hg,JkP,if_pos (by simp;omega)]
 ·rintro⟨b,i'⟩ ⟨h1,h2,h3⟩;simp only at h1 h2;subst h1;subst h2;rw[List.take_length]at h3⊢;refine⟨.inl (r.Cells.any (λ c=>c==0)),by rw[if_pos h3],Ev.all λ n=>?_⟩;unfold C4;rw[if_neg (by simp)]
theorem Jcd {r:Az} (hp:r.Print.length<9223372036854775807) (hc:r.Cells.length<9223372036854775807) (m:Int):Ev (λ n=>Kt n r m) (B6 r m):=by
 obtain⟨z,hz,hE⟩:=Y2 hc (r.Print.any CQ);have h1:=Y0 hp;have h2:=Y1 (r:=r) hp;unfold Kt;refine Ev.bind h1 ?_;unfold B6;generalize r.Print.all FY=a;by_cases g1:((((!a)||(decide (((r.Print.length:Nat):Int)>4)))||(decide (((r.Cells.length:Nat):Int)<1)))||(decide (((r.Cells.length:Nat):Int)>4)))=true
 ·simp only[g1,if_true];have:(a&&decide (r.Print.length<=4)&&decide (1<=r.Cells.length)&&decide (r.Cells.length<=4))=false:=by
   rw[← JkX];intro h;simp only[Jla,decide_eq_true_eq]at h;simp only[Jls,decide_eq_true_eq,Bool.not_eq_true']at g1;rcases g1 with ((g|g)|g)|g
   ·rw[g]at h;simp at h
   all_goals omega
  rw[this];exact Ev.const
 ·simp only[g1];by_cases g2:((((((((decide (r.Left<1))||(decide (r.Left>63)))||(decide (r.Right<1)))||(decide (r.Right>63)))||(decide (r.From<0)))||(decide (r.From>=m)))||(decide (r.To<0)))||(decide (r.To>=m)))=true
  ·simp only[g2,if_true];have:(decide (1<=r.Left)&&decide (r.Left<=63)&&decide (1<=r.Right)&&decide (r.Right<=63)&&decide (0<=r.From)&&decide (r.From<m)&&decide (0<=r.To)&&decide (r.To<m))=false:=by
    rw[← JkX];intro h;simp only[Jla,decide_eq_true_eq]at h;simp only[Jls,decide_eq_true_eq]at g2;omega
   rw[this,Bool.and_false];exact Ev.const
  ·have e1:(a&&decide (r.Print.length<=4)&&decide (1<=r.Cells.length)&&decide (r.Cells.length<=4))=true:=by
    simp only[Jls,decide_eq_true_eq,Bool.not_eq_true',not_or]at g1;simp only[Jla,decide_eq_true_eq];refine⟨⟨⟨by simpa using g1.1.1.1,?_⟩,?_⟩,?_⟩<;>omega
   have e2:(decide (1<=r.Left)&&decide (r.Left<=63)&&decide (1<=r.Right)&&decide (r.Right<=63)&&decide (0<=r.From)&&decide (r.From<m)&&decide (0<=r.To)&&decide (r.To<m))=true:=by
    simp only[Jls,decide_eq_true_eq,not_or]at g2;simp only[Jla,decide_eq_true_eq];omega
   rw[e1,e2];simp only[g2,Jll,if_false];refine Ev.bind h2 (Ev.bind hE ?_);split at hz
   ·rename_i h;subst hz;rw[h];generalize r.Print.any CQ=b;cases b with
    | false=>exact Ev.const
    | true=>
     refine Ev.all λ n=>?_;simp only[JkW,Jll,if_false,Bool.and_true,Bool.true_and,cond_true];congr 3<;>rw[Bool.eq_iff_iff]<;>simp<;>omega
   ·rename_i h;subst hz;rw[JkX]at h;rw[h];exact Ev.const
end Go.AI
end
