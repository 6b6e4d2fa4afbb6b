/- Part 5 of 6 of the proof: lemmas about the model and the program's functions, with no condition beyond those that each states. -/
import Derived.Test.YtlhfdeoeeenapaaLD
import Derived.ChangeArms
import Derived.WalkKit
import Derived.ProofKit
import Derived.OpenShut
import Derived.Carry
import Derived.WideKeyArgs
import Derived.ChangeSame
import Derived.KernelRfl
section
namespace Go.AI
open Go.Proofs
set_option maxRecDepth 10000
theorem xok (n kl:Nat):XOK Try.prog (cxk n kl):=⟨tyOK,rfl⟩
theorem fO (k:Nat) (s:St) {fn:Func} {f:FuncId} {args:List AV} {r:AV} (hf:Try.prog.funcs[f]? = some fn) (h:WP (cxk k 0) (AS fn) [] (Um (cxk k 0).ty fn.results.toList r) s) (hb:fn.body=some (AS fn):=by kernel_rfl) (hnm:(fn.name == "runtime.NumGoroutine")=false:=by kernel_rfl) (hnt:(cxk k 0).nt.n=fn.ntmps:=by kernel_rfl) (hlen:Nat.ble args.length fn.ntmps=true:=by kernel_rfl) (hs:(⟨(List.range args.length).zip args,[]⟩:St)=s:=by kernel_rfl):AJ Try.prog f args r:=fo follows (JeT k 0) hf h hb hnm hnt hlen hs
theorem fL (k nb:Nat) (s:St) {fn:Func} {f:FuncId} {args:List AV} {O0 O1:List (Option Ob)} {r:AV} (hf:Try.prog.funcs[f]? = some fn) (h:WP (cxk k nb) (AS fn) [] (RD nb (cxk k nb).ty fn.results.toList r O1) s) (hb:fn.body=some (AS fn):=by kernel_rfl) (hnm:(fn.name == "runtime.NumGoroutine")=false:=by kernel_rfl) (hnt:(cxk k nb).nt=⟨fn.ntmps,[],nb,qfT⟩:=by kernel_rfl) (hlen:Nat.ble args.length fn.ntmps=true:=by kernel_rfl) (hs:(⟨(List.range args.length).zip args,O0⟩:St)=s:=by kernel_rfl):Bg Try.prog f args O0 nb r O1:=fl follows (JeT k nb) hf h hb hnm hnt hlen hs
theorem yok (n kl:Nat):YOK Try.prog (cxk n kl):=⟨rfl⟩
variable {n:Nat}
def eNM {α:Type} (_:α):List D:=[]
@[reducible] def JS {α:Type} (e:α->List D) (x:Da α):List D:=e x.a0++e x.a1
def Aw (x:AB):List D:=[.str x.Print,.sl<|x.Cells.map eU8,.int .u8 x.Left,.int .u8 x.Right,.int .i64 x.From,.int .i64 x.To]
def AW (x:Af):List D:=[.int .i64 x.Mode,.int .i64 x.Last,.int .u8 x.Need]
def Bt (x:Ay):List D:=[.int .u8 x.Up,.int .u8 x.Maybe]
def BE (x:Hu):List D:=[.str x.Print,.str x.Cells,.int .i64 x.To]
def Ax (x:Ag):List D:=[.int .i64 x.Cost,.str x.Text,.str x.Cells]
def AL (x:Ai):List D:=[.str x.Arc.Print,.str x.Arc.Cells,.int .i64 x.Arc.To,.int .i64 x.More,.sl<|x.List.map Ax,.int .i64 x.First.Cost,.str x.First.Text,.str x.First.Cells]
def Aq (x:An):List D:=[.str x.Text,.sl<|x.Cells.map eU8,.int .i64 x.Cost]
def EC (x:CI):List D:=[.sl<|x.P.map eU8,.sl<|x.C.map eU8,.int .u8 x.L,.int .u8 x.R,.int .u8 x.W.a0,.int .u8 x.W.a1]
def Ji4 (x:Ji):List D:=[.int .u8 x.Base,.int .u8 x.Drop,.sl<|x.More.map EC]
def Hh (x:AB):List AV:=[.d<|.str x.Print,.d<|.sl<|x.Cells.map eU8,.d<|.int .u8 x.Left,.d<|.int .u8 x.Right,.d<|.int .i64 x.From,.d<|.int .i64 x.To]
def Bj (x:Ab):List AV:=[.d<|.int .i64 x.Modes,.d<|.int .u8 x.Accept,.d<|.sl<|x.Rules.map Aw]
def CJ (x:Af):List AV:=[.d<|.int .i64 x.Mode,.d<|.int .i64 x.Last,.d<|.int .u8 x.Need]
def DK (x:Ad) (v3:AV) (v4:AV):List AV:=[.d<|.sl<|x.Felt.map Bt,.d<|.int .i64 x.Budget,.d<|.int .i64 x.Most,v3,v4,.d<|.sl<|x.Before.map eNM]
def DS (x:Ai):List AV:=[.d<|.str x.Arc.Print,.d<|.str x.Arc.Cells,.d<|.int .i64 x.Arc.To,.d<|.int .i64 x.More,.d<|.sl<|x.List.map Ax,.d<|.int .i64 x.First.Cost,.d<|.str x.First.Text,.d<|.str x.First.Cells]
def JeU (x:Ag):List AV:=[.d<|.int .i64 x.Cost,.d<|.str x.Text,.d<|.str x.Cells]
def KC (x:Ad) (v4:AV):List AV:=[.d<|.sl<|x.Felt.map Bt,.d<|.int .i64 x.Budget,.d<|.int .i64 x.Most,.d<|.sl<|x.Arcs.map<|eL BE,v4,.d<|.sl<|x.Before.map eNM]
def Ap (x:Ad) (v4:AV) (v5:AV):List AV:=[.d<|.sl<|x.Felt.map Bt,.d<|.int .i64 x.Budget,.d<|.int .i64 x.Most,.d<|.sl<|x.Arcs.map<|eL BE,v4,v5]
def Ji5 (x:Hu):List AV:=[.d<|.str x.Print,.d<|.str x.Cells,.d<|.int .i64 x.To]
def D0 (x:An):List AV:=[.d<|.str x.Text,.d<|.sl<|x.Cells.map eU8,.d<|.int .i64 x.Cost]
def Mp (x:CI):List AV:=[.d<|.sl<|x.P.map eU8,.d<|.sl<|x.C.map eU8,.d<|.int .u8 x.L,.d<|.int .u8 x.R,.d<|.int .u8 x.W.a0,.d<|.int .u8 x.W.a1]
def OG (x:AB) (v1:AV):List AV:=[.d<|.str x.Print,v1,.d<|.int .u8 x.Left,.d<|.int .u8 x.Right,.d<|.int .i64 x.From,.d<|.int .i64 x.To]
def Wq (x:Ji):List AV:=[.d<|.int .u8 x.Base,.d<|.int .u8 x.Drop,.d<|.sl<|x.More.map EC]
def GD (x:Ab) (v2:AV):List AV:=[.d<|.int .i64 x.Modes,.d<|.int .u8 x.Accept,v2]
def Al (x:Aa) (v6:AV):List AV:=[.d<|.int .i64 x.T.Modes,.d<|.int .u8 x.T.Accept,.d<|.sl<|x.T.Rules.map Aw,.d<|.sl<|x.L.map Bt,.d<|.int .i64 x.Budget,.d<|.int .i64 x.Left,v6]
def UB (x:An) (v1:AV):List AV:=[.d<|.str x.Text,v1,.d<|.int .i64 x.Cost]
theorem YH:∀ a b:Int,Ao [.int .i64] ((A2 a).map .d) ((A2 b).map .d)=some (decide (a=b)):=by
  intro a b;simp[Ao,A2]
  all_goals (first|rfl|(rw[Bool.eq_iff_iff];simp))
theorem Ji6:∀ a b:(List UInt8),Ao [.string] ((eS a).map .d) ((eS b).map .d)=some (decide (a=b)):=by
  intro a b;simp[Ao,eS]
  all_goals (first|rfl|(rw[Bool.eq_iff_iff];simp))
theorem UC:∀ a b:Af,Ao [.int .i64,.int .i64,.int .u8] ((AW a).map .d) ((AW b).map .d)=some (decide (a=b)):=by
  intro a b;cases a;cases b;simp[Ao,AW,Bool.decide_and]
  all_goals (first|rfl|(rw[Bool.eq_iff_iff];simp))
section
variable (b:(List UInt8)) (c:(List Int)) (a:(Da Int))
def Jf0:St:=⟨(0,.d<|.str b)::(1,.d<|.sl<|c.map eU8)::(2,.agg [.d<|.int .i64 a.a0,.d<|.int .i64 a.a1])::[],[]⟩
variable {b c a}
theorem AP {z} (H:A4 n b c a=some z):AJ Try.prog 37 [.d (.str b),.d (.sl (c.map eU8)),.agg [.d (.int .i64 a.a0),.d (.int .i64 a.a1)]] (.agg [.d (.str z.Print),.d (.sl (z.Cells.map eU8)),.d (.int .u8 z.Left),.d (.int .u8 z.Right),.d (.int .i64 z.From),.d (.int .i64 z.To)]):=by
 exact fO 14 (Jf0 b c a) Try.func37<|sr<|ck 2<|en<|sr<|ck 8<|en<|re (by cases H;exact pr rd)
end
def Jf1:St:=⟨[],[]⟩
theorem PU {z} (H:N5 n=some z):AJ Try.prog 35 [] (.own 6 (z.map Aw)):=by
 exact fO 16 Jf1 Try.func35<|sr<|ck 1<|en<|sr<|ck 3<|en<|sr<|sF<|ck 1<|bx H λ a b H=>ca false (AP b)<|sF<|ck 1<|bx H λ c d H=>ca false (AP d)<|sF<|ck 1<|bx H λ e f H=>ca false (AP f)<|sF<|ck 1<|bx H λ g h H=>ca false (AP h)<|ck 2<|en<|re (by cases H;exact pr<|rO (v:=.osl 1 6 0<|List.length [a,c,e,g]) [1]<|ao vo)
section
variable (b:Int) (c:Int) (a:(Da Int))
def Jf2:St:=⟨(0,.d<|.int .u8 b)::(1,.d<|.int .i64 c)::(2,.agg [.d<|.int .i64 a.a0,.d<|.int .i64 a.a1])::[],[]⟩
variable {b c a}
theorem Fm {z} (H:Fy n b c a=some z):AJ Try.prog 36 [.d (.int .u8 b),.d (.int .i64 c),.agg [.d (.int .i64 a.a0),.d (.int .i64 a.a1)]] (.agg [.d (.str z.Print),.d (.sl (z.Cells.map eU8)),.d (.int .u8 z.Left),.d (.int .u8 z.Right),.d (.int .i64 z.From),.d (.int .i64 z.To)]):=by
 exact fO 16 (Jf2 b c a) Try.func36<|sr<|ck 2<|en<|sr<|ck 1<|sF<|ck 1<|bx H λ h e H=>ca false (AP e)<|ck 2<|en<|sr<|ck 1<|bx H λ f g H=>so (Gy g)<|ck 2<|en<|sr<|ck 2<|en<|re (by cases H;exact pr rd)
end
section
variable (b:Int) (c:(List AB))
def Jf3:St:=⟨(0,.d<|.int .u8 b)::[],[]⟩
def Jf4:St:=⟨(2,.ptr 0 0)::(3,.osl 1 6 0<|c.length)::[],[some<|.box [.d<|.int .i64 0,.d<|.int .u8 0,.osl 2 6 0<|List.length ([]:List AB)],some<|.arr 6<|c.map Aw,some<|.arr 6<|List.map Aw ([]:List AB)]⟩
variable {b c}
theorem N6 {z} (H:FN n b=some z):AJ Try.prog 20 [.d (.int .u8 b)] (.agg [.d (.int .i64 z.Modes),.d (.int .u8 z.Accept),.own 6 (z.Rules.map Aw)]):=by
 refine fO 121 (Jf3 b) Try.func20<|sr<|ck 1<|en<|sr<|bx H λ K L H=>cl [List.length K] (PU L)<|ck 13<|en<|sj (λ (x:(List AB))=>Jf4 x) (λ (x:(List AB))=>Ew n x) z ?_ (λ a=>?_)
 ·intro c H;exact sr<|ck 3<|en<|re (by cases H;exact pr<|rO (v:=.agg [.d<|.int .i64 1,.d<|.int .u8 1,.osl 1 6 0<|c.length]) [1]<|a1<|c1 vd<|c1 vd<|c1 vo<|c0)
 refine sr<|ck 2<|en<|bk 0<|sr<|ck 2<|en<|cn H (λ H=>?_)<|λ H=>?_
 ·exact sr<|ck 2<|bx H λ r7 M H=>ca false (Fm M)<|sF<|ck 1<|bx H λ r8 O H=>ca false (AP O)<|sF<|ck 1<|bx H λ r9 e H=>ca false (AP e)<|sF<|ck 1<|bx H λ P f H=>ca false (AP f)<|ck 1<|bx H λ Q g H=>sp (B5 Aw 1 6 g)<|ck 1<|en<|sr<|ck 3<|en<|re<|qR<|qr (by cases H;exact pr<|rO (v:=.agg [.d<|.int .i64 2,.d<|.int .u8 3,.osl 7 6 0<|Q.length]) [7]<|a1<|c1 vd<|c1 vd<|c1 vo<|c0)
 ·refine sr<|ck 2<|en<|cn H (λ H=>?_)<|λ H=>?_
  ·exact sr<|ck 2<|bx H λ R h H=>ca false (Fm h)<|sF<|ck 1<|bx H λ S i H=>ca false (AP i)<|sF<|ck 1<|bx H λ T j H=>ca false (AP j)<|ck 1<|bx H λ U k H=>sp (B5 Aw 1 6 k)<|ck 1<|en<|sr<|ck 3<|en<|re<|qR<|qr (by cases H;exact pr<|rO (v:=.agg [.d<|.int .i64 2,.d<|.int .u8 1,.osl 7 6 0<|U.length]) [7]<|a1<|c1 vd<|c1 vd<|c1 vo<|c0)
  ·refine sr<|ck 2<|en<|cn H (λ H=>?_)<|λ H=>?_
   ·exact rz<|ck 1<|sF<|ck 1<|bx H λ V l H=>ca false (AP l)<|sF<|ck 1<|bx H λ W m H=>ca false (AP m)<|sF<|ck 1<|bx H λ X o H=>ca false (AP o)<|ck 1<|bx H λ Y p H=>sp (B5 Aw 1 6 p)<|ck 1<|ae<|qN<|qs (tr (Fv 0 2 6 (by kernel_rfl))<|sg [2,3])<|a Y H
   ·refine sr<|ck 2<|en<|cn H (λ H=>?_)<|λ H=>?_
    ·exact rz<|ck 1<|sF<|ck 1<|bx H λ Z q H=>ca false (AP q)<|ck 1<|bx H λ l4 r H=>sp (B5 Aw 1 6 r)<|ck 1<|ae<|qN<|qs (tr (Fv 0 2 6 (by kernel_rfl))<|sg [2,3])<|a l4 H
    ·refine sr<|ck 2<|en<|cn H (λ H=>?_)<|λ H=>?_
     ·exact sr<|sF<|ck 1<|bx H λ ab s H=>ca false (AP s)<|sF<|ck 1<|bx H λ ac t H=>ca false (AP t)<|ck 4<|en<|sr<|ck 4<|en<|rz<|ck 3<|sF<|ck 1<|bx H λ af u H=>ca false (AP u)<|ck 1<|bx H λ l5 w H=>sp (B5 Aw 1 6 w)<|ck 1<|ae<|qN<|qs (tr (Fv 0 2 6 (by kernel_rfl))<|sg [2,3])<|a l5 H
     ·refine sr<|ck 2<|en<|cn H (λ H=>?_)<|λ H=>?_
      ·exact sr<|ck 2<|bx H λ ah y H=>ca false (Fm y)<|sF<|ck 1<|bx H λ ai A H=>ca false (AP A)<|sF<|ck 1<|bx H λ aj B H=>ca false (AP B)<|ck 1<|bx H λ l6 C H=>sp (B5 Aw 1 6 C)<|ck 1<|en<|sr<|ck 3<|en<|re<|qR<|qr (by cases H;exact pr<|rO (v:=.agg [.d<|.int .i64 2,.d<|.int .u8 1,.osl 7 6 0<|l6.length]) [7]<|a1<|c1 vd<|c1 vd<|c1 vo<|c0)
      ·refine sr<|ck 2<|en<|cn H (λ H=>?_)<|λ H=>?_
       ·exact rz<|ck 1<|sF<|ck 1<|bx H λ al E H=>ca false (AP E)<|sF<|ck 1<|bx H λ am G H=>ca false (AP G)<|sF<|ck 1<|bx H λ ap I H=>ca false (AP I)<|ck 1<|bx H λ l7 J H=>sp (B5 Aw 1 6 J)<|ck 1<|ae<|qN<|qs (tr (Fv 0 2 6 (by kernel_rfl))<|sg [2,3])<|a l7 H
       ·exact sk<|qN<|qs (tr (Fv 0 2 6 (by kernel_rfl))<|sg [2,3])<|a K H
end
section
variable (a:Int)
def Jf5:St:=⟨(0,.d<|.int .u8 a)::[],[]⟩
variable {a}
theorem Ls {z} (H:F4 n a=some z):AJ Try.prog 90 [.d (.int .u8 a)] (.d (.bool z)):=by
 exact fO 12 (Jf5 a) Try.func90<|sr<|ck 1<|en<|sr<|ck 3<|en<|sr<|ck 4<|gc 1 (decide<|32<=Cg .u8 a 127)<|pA<|ck 1<|en<|re (by cases H;exact pr rd)
end
section
variable (a:(List UInt8)) (b:Int)
def Jf6:St:=⟨(0,.d<|.str a)::[],[]⟩
def Jf7:St:=⟨(0,.d<|.str a)::(6,.d<|.int .i64 ((a.length:Nat):Int))::(7,.d<|.int .i64 b)::[],[]⟩
def Jf8:St:=⟨(0,.d<|.str a)::[],[]⟩
def QR:(Unit⊕(Int×Int))->Ex->St->Prop:=xS (xX 0 0<|λ (_:Unit)=>Jf8 a)<|xR ty Try.f78<|λ (y:(Int×Int))=>.tup [.d<|.int .i64 y.1,.d<|.int .i64 y.2]
def K4:Int->St:=(λ (x:Int)=>Jf7 a x)
variable {a b}
theorem JT (x:Int) (z:(Int⊕(Unit⊕(Int×Int)))) (H:G9 n a x=some z):WP (cxk 19 0) (AS Try.f78) [1,0,1,0,0] (AU 0 (K4 a) (QR a) z) (K4 a x):=by
 revert H;generalize x=b;intro H;refine sr<|ck 1<|en<|sq<|cn H (λ H=>?_)<|λ H=>?_
 ·refine sk<|qz<|sq<|bk 1<|sr<|ck 2<|en<|sr<|ck 2<|bx H λ k e H=>sp (Fw e)<|bx H λ i f H=>ca false (Ls f)<|ck 1<|en<|cn H (λ H=>?_)<|λ H=>?_
  ·exact sr<|ck 3<|en<|re<|qR<|qr (by cases H;exact ro rfl rdT)
  ·exact sk<|qN<|qz<|rz<|ck 2<|ae (by cases H;exact og<|sg [0,6,7])
 ·exact ex 0<|qx (by cases H;exact xo rfl<|sg [0])
theorem UD {z} (H:Ml n a=some z):AJ Try.prog 78 [.d (.str a)] (.tup [.d (.int .i64 z.1),.d (.int .i64 z.2)]):=by
 refine fO 19 (Jf6 a) Try.func78<|sr<|ck 2<|en<|sq<|sr<|ck 3<|en<|bk 0<|bx H λ j c H=>?_;rcases j with l|m
 ·exact lX JT c (sg [0,6,7]) rfl λ s g=>qH<|qs (g)<|sr<|ck 4<|en<|re (by cases H;exact pr rdT)
 ·exact lR JT c (sg [0,6,7]) rfl λ s h=>qR<|qr (by cases H;exact pr h)
end
section
variable (a:Int)
def Jf9:St:=⟨(0,.d<|.int .u8 a)::[],[]⟩
variable {a}
theorem IL {z} (H:Gl n a=some z):AJ Try.prog 65 [.d (.int .u8 a)] (.d (.int .i64 z)):=by
 refine fO 30 (Jf9 a) Try.func65<|sr<|ck 1<|en<|sr<|ck 3<|en<|sq<|bk 0<|sr<|ck 4<|gc 1 (decide<|97<=Cg .u8 a 127)<|pA<|ck 1<|en<|cn H (λ H=>?_)<|λ H=>?_
 ·exact sr<|ck 1<|en<|re<|qR<|qr (by cases H;exact pr rd)
 ·refine sr<|ck 4<|gc 1 (decide<|65<=Cg .u8 a 127)<|pA<|ck 1<|en<|cn H (λ H=>?_)<|λ H=>?_
  ·exact sr<|ck 1<|en<|re<|qR<|qr (by cases H;exact pr rd)
  ·refine sr<|ck 4<|gc 1 (decide<|48<=Cg .u8 a 127)<|pA<|ck 1<|en<|cn H (λ H=>?_)<|λ H=>?_
   ·exact sr<|ck 1<|en<|re<|qR<|qr (by cases H;exact pr rd)
   ·refine sr<|ck 3<|en<|cn H (λ H=>?_)<|λ H=>?_
    ·exact sr<|ck 1<|en<|re<|qR<|qr (by cases H;exact pr rd)
    ·exact sk<|qN<|qz<|sr<|ck 1<|en<|re (by cases H;exact pr rd)
end
section
variable (a:(List UInt8)) (b:Int)
def Jga:St:=⟨(0,.d<|.str a)::[],[]⟩
def Jgb:St:=⟨(0,.d<|.str a)::(5,.d<|.int .i64 ((a.length:Nat):Int))::(6,.d<|.int .i64 b)::[],[]⟩
def Jgc:St:=⟨[],[]⟩
def Mq:(Unit⊕Bool)->Ex->St->Prop:=xS (xX 0 0<|λ (_:Unit)=>Jgc)<|xR ty Try.f79<|λ (y:Bool)=>.d<|.bool y
def Hi:Int->St:=(λ (x:Int)=>Jgb a x)
variable {a b}
theorem GE (x:Int) (z:(Int⊕(Unit⊕Bool))) (H:Ei n a x=some z):WP (cxk 15 0) (AS Try.f79) [1,0,1,0,0] (AU 0 (Hi a) (Mq) z) (Hi a x):=by
 revert H;generalize x=b;intro H;refine sr<|ck 1<|en<|sq<|cn H (λ H=>?_)<|λ H=>?_
 ·refine sk<|qz<|sq<|bk 1<|sr<|ck 2<|en<|sr<|ck 2<|bx H λ k e H=>sp (Fw e)<|bx H λ i f H=>ca false (IL f)<|ck 1<|en<|cn H (λ H=>?_)<|λ H=>?_
  ·exact sr<|ck 1<|en<|re<|qR<|qr (by cases H;exact ro rfl rd)
  ·exact sk<|qN<|qz<|rz<|ck 2<|ae (by cases H;exact og<|sg [0,5,6])
 ·exact ex 0<|qx (by cases H;exact xo rfl<|sg [])
theorem Oh {z} (H:Ge n a=some z):AJ Try.prog 79 [.d (.str a)] (.d (.bool z)):=by
 refine fO 15 (Jga a) Try.func79<|sr<|ck 1<|en<|sq<|sr<|ck 3<|en<|bk 0<|bx H λ j c H=>?_;rcases j with l|m
 ·exact lX GE c (sg [0,5,6]) rfl λ s g=>qH<|qs (g)<|sr<|ck 1<|en<|re (by cases H;exact pr rd)
 ·exact lR GE c (sg [0,5,6]) rfl λ s h=>qR<|qr (by cases H;exact pr h)
end
section
variable (a:Int)
def Jgd:St:=⟨(0,.d<|.int .u8 a)::[],[]⟩
variable {a}
theorem S3 {z} (H:Ni n a=some z):AJ Try.prog 80 [.d (.int .u8 a)] (.d (.bool z)):=by
 exact fO 5 (Jgd a) Try.func80<|sr<|ck 1<|en<|sr<|ck 3<|en<|re (by cases H;exact pr rd)
end
section
variable (a:AB) (b:Int) (c:Int)
def Jge:St:=⟨(0,.agg [.d<|.str a.Print,.d<|.sl<|a.Cells.map eU8,.d<|.int .u8 a.Left,.d<|.int .u8 a.Right,.d<|.int .i64 a.From,.d<|.int .i64 a.To])::(1,.d<|.int .i64 b)::[],[]⟩
def Jgf:St:=⟨(92,.d<|.sl<|a.Cells.map eU8)::(93,.d<|.int .i64 ((a.Cells.length:Nat):Int))::(94,.d<|.int .i64 c)::[],[]⟩
def Jgg:St:=⟨[],[]⟩
def PV:(Unit⊕Bool)->Ex->St->Prop:=xS (xX 0 0<|λ (_:Unit)=>Jgg)<|xR ty Try.f61<|λ (y:Bool)=>.d<|.bool y
def JU:Int->St:=(λ (x:Int)=>Jgf a x)
variable {a b c}
theorem I5 (x:Int) (z:(Int⊕(Unit⊕Bool))) (H:Gf n a x=some z):WP (cxk 110 0) (AS Try.f61) [1,1,1,1,1,1,0,1,0,0] (AU 0 (JU a) (PV) z) (JU a x):=by
 revert H;generalize x=c;intro H;refine sr<|ck 1<|en<|sq<|cn H (λ H=>?_)<|λ H=>?_
 ·refine sk<|qz<|sq<|bk 1<|sr<|bx H λ p h H=>sp (AY eU8 h)<|ck 2<|en<|sr<|ck 1<|bx H λ e i H=>ca false (S3 i)<|ck 3<|gc 1 (!(!e))<|pO<|ck 2<|gc 1 (!((!e)||(p==63)))<|pO<|en<|cn H (λ H=>?_)<|λ H=>?_
  ·exact sr<|ck 1<|en<|re<|qR<|qr (by cases H;exact ro rfl rd)
  ·exact sk<|qN<|qz<|rz<|ck 2<|ae (by cases H;exact og<|sg [92,93,94])
 ·exact ex 0<|qx (by cases H;exact xo rfl<|sg [])
theorem S4 {z} (H:Kv n a b=some z):AJ Try.prog 61 [.agg (Hh a),.d (.int .i64 b)] (.d (.bool z)):=by
 refine fO 110 (Jge a b) Try.func61<|sr<|ck 2<|en<|sq<|sr<|ck 6<|gc 1 (!(decide<|((a.Print.length:Nat):Int)>4))<|sE (g:=(!(decide<|((a.Print.length:Nat):Int)>4))) (λ hg=>AT eU8 a.Cells)<|gc 1 (!(decide<|((a.Print.length:Nat):Int)>4))<|pO<|ck 2<|gc 1 (!((decide<|((a.Print.length:Nat):Int)>4)||(decide<|((a.Cells.length:Nat):Int)<1)))<|sE (g:=(!((decide<|((a.Print.length:Nat):Int)>4)||(decide<|((a.Cells.length:Nat):Int)<1)))) (λ hg=>AT eU8 a.Cells)<|gc 1 (!((decide<|((a.Print.length:Nat):Int)>4)||(decide<|((a.Cells.length:Nat):Int)<1)))<|pO<|en<|cn H (λ H=>?_)<|λ H=>?_
 ·exact sr<|ck 1<|en<|re<|qr (by cases H;exact pr rd)
 ·refine sk<|qz<|sq<|sr<|ck 2<|bx H λ q j H=>ca false (UD j)<|ck 5<|en<|sr<|ck 2<|en<|cn H (λ H=>?_)<|λ H=>?_
  ·exact sr<|ck 1<|en<|re<|qr (by cases H;exact pr rd)
  ·refine sk<|qz<|sq<|sr<|ck 5<|gc 2 (!(decide<|a.Left<1))<|pO<|ck 2<|gc 2 (!((decide<|a.Left<1)||(decide<|a.Left>63)))<|pO<|ck 2<|gc 2 (!(((decide<|a.Left<1)||(decide<|a.Left>63))||(decide<|a.Right<1)))<|pO<|en<|cn H (λ H=>?_)<|λ H=>?_
   ·exact sr<|ck 1<|en<|re<|qr (by cases H;exact pr rd)
   ·refine sk<|qz<|sq<|sr<|ck 5<|gc 1 (!(decide<|a.From<0))<|ck 1<|gc 1 (!(decide<|a.From<0))<|pO<|ck 2<|gc 2 (!((decide<|a.From<0)||(decide<|a.From>=b)))<|pO<|ck 2<|gc 1 (!(((decide<|a.From<0)||(decide<|a.From>=b))||(decide<|a.To<0)))<|ck 1<|gc 1 (!(((decide<|a.From<0)||(decide<|a.From>=b))||(decide<|a.To<0)))<|pO<|en<|cn H (λ H=>?_)<|λ H=>?_
    ·exact sr<|ck 1<|en<|re<|qr (by cases H;exact pr rd)
    ·refine sk<|qz<|sq<|sr<|ck 2<|bx H λ r k H=>ca false (Oh k)<|en<|cn H (λ H=>?_)<|λ H=>?_
     ·exact sr<|ck 6<|gc 1 (((a.Print.length:Nat):Int)==1)<|sE (g:=(((a.Print.length:Nat):Int)==1)) (λ hg=>AT eU8 a.Cells)<|gc 1 (((a.Print.length:Nat):Int)==1)<|pA<|ck 2<|gc 1 ((((a.Print.length:Nat):Int)==1)&&(((a.Cells.length:Nat):Int)==1))<|bx H λ u l H=>sE (λ hg=>AY eU8<|DW l hg)<|gc 2 ((((a.Print.length:Nat):Int)==1)&&(((a.Cells.length:Nat):Int)==1))<|pA<|ck 1<|en<|re<|qr (by cases H;exact pr rd)
     ·refine sk<|qz<|sq<|sr<|ck 2<|sp (AT eU8 a.Cells)<|ck 1<|en<|bk 0<|bx H λ t f H=>?_;rcases t with v|w
      ·exact lX I5 f (sg [92,93,94]) rfl λ s m=>qH<|qs (m)<|sr<|ck 1<|en<|re (by cases H;exact pr rd)
      ·exact lR I5 f (sg [92,93,94]) rfl λ s o=>qR<|qr (by cases H;exact pr o)
end
section
variable (a:(List Int)) (b:(List Int)) (c:Int)
def Jgh:St:=⟨(0,.d<|.sl<|a.map eU8)::(1,.d<|.sl<|b.map eU8)::[],[]⟩
def Jgi:St:=⟨(0,.d<|.sl<|a.map eU8)::(1,.d<|.sl<|b.map eU8)::(12,.d<|.int .i64 ((a.length:Nat):Int))::(13,.d<|.int .i64 c)::[],[]⟩
def Jgj:St:=⟨[],[]⟩
def PW:(Unit⊕Bool)->Ex->St->Prop:=xS (xX 0 0<|λ (_:Unit)=>Jgj)<|xR ty Try.f81<|λ (y:Bool)=>.d<|.bool y
def JV:Int->St:=(λ (x:Int)=>Jgi a b x)
variable {a b c}
theorem I6 (x:Int) (z:(Int⊕(Unit⊕Bool))) (H:Gg n a b x=some z):WP (cxk 26 0) (AS Try.f81) [1,1,0,1,0,0] (AU 0 (JV a b) (PW) z) (JV a b x):=by
 revert H;generalize x=c;intro H;refine sr<|ck 1<|en<|sq<|cn H (λ H=>?_)<|λ H=>?_
 ·refine sk<|qz<|sq<|bk 1<|sr<|ck 2<|en<|sr<|ck 2<|bx H λ m f H=>sp (AY eU8 f)<|ck 3<|bx H λ o g H=>sp (AY eU8 g)<|ck 2<|en<|cn H (λ H=>?_)<|λ H=>?_
  ·exact sr<|ck 1<|en<|re<|qR<|qr (by cases H;exact ro rfl rd)
  ·exact sk<|qN<|qz<|rz<|ck 2<|ae (by cases H;exact og<|sg [0,1,12,13])
 ·exact ex 0<|qx (by cases H;exact xo rfl<|sg [])
theorem S5 {z} (H:Kw n a b=some z):AJ Try.prog 81 [.d (.sl (a.map eU8)),.d (.sl (b.map eU8))] (.d (.bool z)):=by
 refine fO 26 (Jgh a b) Try.func81<|sr<|ck 1<|en<|sq<|sr<|ck 1<|sp (AT eU8 a)<|ck 1<|sp (AT eU8 b)<|ck 1<|en<|cn H (λ H=>?_)<|λ H=>?_
 ·exact sr<|ck 1<|en<|re<|qr (by cases H;exact pr rd)
 ·refine sk<|qz<|sq<|sr<|ck 1<|sp (AT eU8 a)<|ck 1<|en<|bk 0<|bx H λ h e H=>?_;rcases h with k|l
  ·exact lX I6 e (sg [0,1,12,13]) rfl λ s i=>qH<|qs (i)<|sr<|ck 1<|en<|re (by cases H;exact pr rd)
  ·exact lR I6 e (sg [0,1,12,13]) rfl λ s j=>qR<|qr (by cases H;exact pr j)
end
section
variable (a:AB) (b:AB)
def Jgk:St:=⟨(0,.agg [.d<|.str a.Print,.d<|.sl<|a.Cells.map eU8,.d<|.int .u8 a.Left,.d<|.int .u8 a.Right,.d<|.int .i64 a.From,.d<|.int .i64 a.To])::(1,.agg [.d<|.str b.Print,.d<|.sl<|b.Cells.map eU8,.d<|.int .u8 b.Left,.d<|.int .u8 b.Right,.d<|.int .i64 b.From,.d<|.int .i64 b.To])::[],[]⟩
variable {a b}
theorem S6 {z} (H:Kx n a b=some z):AJ Try.prog 62 [.agg (Hh a),.agg (Hh b)] (.d (.bool z)):=by
 exact fO 45 (Jgk a b) Try.func62<|sr<|ck 3<|en<|sr<|ck 7<|gc 1 (a.From==b.From)<|ck 1<|gc 2 (a.From==b.From)<|pA<|ck 2<|gc 1 ((a.From==b.From)&&(a.To==b.To))<|ck 1<|gc 2 ((a.From==b.From)&&(a.To==b.To))<|pA<|ck 2<|gc 1 (((a.From==b.From)&&(a.To==b.To))&&(a.Left==b.Left))<|ck 1<|gc 2 (((a.From==b.From)&&(a.To==b.To))&&(a.Left==b.Left))<|pA<|ck 2<|gc 1 ((((a.From==b.From)&&(a.To==b.To))&&(a.Left==b.Left))&&(a.Right==b.Right))<|ck 1<|gc 2 ((((a.From==b.From)&&(a.To==b.To))&&(a.Left==b.Left))&&(a.Right==b.Right))<|pA<|ck 2<|gc 1 (((((a.From==b.From)&&(a.To==b.To))&&(a.Left==b.Left))&&(a.Right==b.Right))&&(a.Print==b.Print))<|ck 1<|gc 1 (((((a.From==b.From)&&(a.To==b.To))&&(a.Left==b.Left))&&(a.Right==b.Right))&&(a.Print==b.Print))<|bx H λ e c H=>cG false (leZ) rfl (λ hg=>S5<|DW c hg) (Or.inl rfl) (CN (λ hh=>hh)<|CN (λ hh=>hh)<|Gc) rfl<|pA<|ck 1<|en<|re (by cases H;exact pr rd)
end
section
variable (a:Ab) (b:Int) (e:AB) (c:(List AB)) (f:Int)
def Jgl:St:=⟨(0,.agg [.d<|.int .i64 a.Modes,.d<|.int .u8 a.Accept,.d<|.sl<|a.Rules.map Aw])::[],[]⟩
def Jgm:St:=⟨(1,.ptr 0 0)::(39,.d<|.sl<|a.Rules.map Aw)::(40,.d<|.int .i64 ((a.Rules.length:Nat):Int))::(41,.d<|.int .i64 b)::[],[some<|.box<|Bj a]⟩
def Jgn:St:=⟨[],[]⟩
def Jgo:St:=⟨(1,.ptr 0 0)::(4,.d<|.int .i64 b)::(5,.ptr 1 0)::(39,.d<|.sl<|a.Rules.map Aw)::(40,.d<|.int .i64 ((a.Rules.length:Nat):Int))::(41,.d<|.int .i64 b)::(55,.d<|.sl<|c.map Aw)::(56,.d<|.int .i64 ((c.length:Nat):Int))::(57,.d<|.int .i64 f)::[],[some<|.box<|Bj a,some<|.box<|Hh e]⟩
def Jgp:St:=⟨(1,.ptr 0 0)::(39,.d<|.sl<|a.Rules.map Aw)::(40,.d<|.int .i64 ((a.Rules.length:Nat):Int))::(41,.d<|.int .i64 b)::[],[some<|.box<|Bj a]⟩
def PX:(Unit⊕(Int×Int))->Ex->St->Prop:=xS (xX 0 2<|λ (_:Unit)=>Jgp a b)<|xR ty Try.f52<|λ (y:(Int×Int))=>.tup [.d<|.int .i64 y.1,.d<|.int .i64 y.2]
def JW:Int->St:=(λ (x:Int)=>Jgo a b e c x)
def PY:(Unit⊕(Int×Int))->Ex->St->Prop:=xS (xX 0 0<|λ (_:Unit)=>Jgn)<|xR ty Try.f52<|λ (y:(Int×Int))=>.tup [.d<|.int .i64 y.1,.d<|.int .i64 y.2]
def JX:Int->St:=(λ (x:Int)=>Jgm a x)
variable {a b e c f}
theorem I7 (x:Int) (z:(Int⊕(Unit⊕(Int×Int)))) (H:ES n a b e c x=some z):WP (cxk 67 0) (AS Try.f52) [1,1,1,1,0,1,0,0,1,1,0,0,1,1,1,0,0] (AU 0 (JW a b e c) (PX a b) z) (JW a b e c x):=by
 revert H;generalize x=f;intro H;refine sr<|ck 1<|en<|sq<|cn H (λ H=>?_)<|λ H=>?_
 ·refine sk<|qz<|sq<|bk 3<|sr<|bx H λ K m H=>sp (AY Aw m)<|ck 3<|en<|sr<|ck 2<|bx H λ A o H=>ca false (S6 o)<|en<|cn H (λ H=>?_)<|λ H=>?_
  ·exact sr<|ck 3<|en<|re<|qR<|qr (by cases H;exact ro rfl rdT)
  ·exact sk<|qN<|qz<|rz<|ck 2<|ae (by cases H;exact og<|sg [1,4,5,39,40,41,55,56,57])
 ·exact ex 2<|qx (by cases H;exact xo rfl<|sg [1,39,40,41])
theorem I8 (x:Int) (z:(Int⊕(Unit⊕(Int×Int)))) (H:ET n a x=some z):WP (cxk 67 0) (AS Try.f52) [1,1,1,1,0,1,0,0] (AU 0 (JX a) (PY) z) (JX a x):=by
 revert H;generalize x=b;intro H;refine sr<|ck 1<|en<|sq<|cn H (λ H=>?_)<|λ H=>?_
 ·refine sk<|qz<|sq<|bk 1<|sr<|ck 1<|bx H λ e p H=>sp (AY Aw p)<|ck 4<|en<|sq<|sr<|ck 3<|bx H λ B q H=>ca false (S4 q)<|ck 1<|en<|cn H (λ H=>?_)<|λ H=>?_
  ·exact sr<|ck 3<|en<|re<|qr<|qR<|qr (by cases H;exact ro rfl rdT)
  ·refine sk<|qz<|sr<|ck 3<|bx H λ c r H=>sp (Jaj Aw 6 r)<|sp (AT Aw c)<|ck 1<|en<|bk 2<|bx H λ t h H=>?_;rcases t with C|E
   ·exact lX I7 h (sg [1,4,5,39,40,41,55,56,57]) rfl λ s u=>qH<|qN<|qs (u)<|rz<|ck 2<|ae (by cases H;exact og<|sg [1,39,40,41])
   ·exact lR I7 h (sg [1,4,5,39,40,41,55,56,57]) rfl λ s i=>qR<|qR<|qr (by cases H;exact ro rfl i)
 ·exact ex 0<|qx (by cases H;exact xo rfl<|sg [])
theorem S7 {z} (H:Ky n a=some z):AJ Try.prog 52 [.agg (Bj a)] (.tup [.d (.int .i64 z.1),.d (.int .i64 z.2)]):=by
 refine fO 67 (Jgl a) Try.func52<|sr<|ck 3<|en<|sq<|sr<|ck 5<|gc 2 (!(decide<|a.Modes<1))<|pO<|en<|cn H (λ H=>?_)<|λ H=>?_
 ·exact sr<|ck 2<|en<|re<|qr (by cases H;exact pr rdT)
 ·refine sk<|qz<|sq<|sr<|ck 5<|gc 2 (!(a.Accept==0))<|ck 1<|gc 1 (!(a.Accept==0))<|bx H λ G v H=>soG (λ hg=>Gy<|DW v hg) (CN (λ hh=>hh)<|Gc)<|gc 1 (!(a.Accept==0))<|pO<|en<|cn H (λ H=>?_)<|λ H=>?_
  ·exact sr<|ck 2<|en<|re<|qr (by cases H;exact pr rdT)
  ·refine sk<|qz<|sq<|sr<|ck 2<|sp (AT Aw a.Rules)<|ck 3<|gc 1 (!(decide<|((a.Rules.length:Nat):Int)<1))<|sE (g:=(!(decide<|((a.Rules.length:Nat):Int)<1))) (λ hg=>AT Aw a.Rules)<|gc 1 (!(decide<|((a.Rules.length:Nat):Int)<1))<|pO<|en<|cn H (λ H=>?_)<|λ H=>?_
   ·exact sr<|ck 2<|en<|re<|qr (by cases H;exact pr rdT)
   ·refine sk<|qz<|sq<|sr<|ck 2<|sp (AT Aw a.Rules)<|ck 1<|en<|bk 0<|bx H λ w j H=>?_;rcases w with I|J
    ·exact lX I8 j (sg [1,39,40,41]) rfl λ s k=>qH<|qs (k)<|sr<|ck 2<|en<|re (by cases H;exact pr rdT)
    ·exact lR I8 j (sg [1,39,40,41]) rfl λ s l=>qR<|qr (by cases H;exact pr l)
end
section
variable (a:Ab)
def Jgq:St:=⟨(0,.agg [.d<|.int .i64 a.Modes,.d<|.int .u8 a.Accept,.d<|.sl<|a.Rules.map Aw])::[],[]⟩
variable {a}
theorem S8 {z} (H:Nj n a=some z):AJ Try.prog 39 [.agg (Bj a)] (.d (.bool z)):=by
 exact fO 12 (Jgq a) Try.func39<|sr<|ck 2<|en<|sr<|ck 1<|bx H λ c b H=>ca false (S7 b)<|ck 5<|en<|sr<|ck 3<|en<|re (by cases H;exact pr rd)
end
def Jgr:St:=⟨[],[]⟩
theorem S9 {z} (H:Nk n=some z):AJ Try.prog 82 [] (.agg [.d (.int .i64 z.Mode),.d (.int .i64 z.Last),.d (.int .u8 z.Need)]):=by
 exact fO 2 Jgr Try.func82<|sr<|ck 1<|en<|sr<|ck 2<|en<|re (by cases H;exact pr rd)
section
variable (b:Int) (a:Int)
def Jgs:St:=⟨(0,.d<|.int .u8 b)::(1,.d<|.int .i64 a)::[],[]⟩
variable {b a}
theorem IM {z} (H:ID n b a=some z):AJ Try.prog 64 [.d (.int .u8 b),.d (.int .i64 a)] (.d (.bool z)):=by
 exact fO 18 (Jgs b a) Try.func64<|sr<|ck 1<|en<|sr<|ck 4<|gc 1 (decide<|0<=a)<|pA<|ck 3<|bx H λ e c H=>soG (λ hg=>Gy<|DW c hg) (CN (λ hh=>hh)<|CN (λ hh=>hh)<|Gc)<|gc 2 ((decide<|0<=a)&&(decide<|a<8))<|pA<|ck 1<|en<|re (by cases H;exact pr rd)
end
section
variable (b:Ab) (a:Af) (c:Int)
def Jgt:St:=⟨(0,.agg [.d<|.int .i64 b.Modes,.d<|.int .u8 b.Accept,.d<|.sl<|b.Rules.map Aw])::(1,.agg [.d<|.int .i64 a.Mode,.d<|.int .i64 a.Last,.d<|.int .u8 a.Need])::(2,.d<|.int .i64 c)::[],[]⟩
variable {b a c}
theorem N7 {z} (H:JO n b a c=some z):AJ Try.prog 55 [.agg (Bj b),.agg (CJ a),.d (.int .i64 c)] (.tup [.agg [.d (.int .i64 z.1.Mode),.d (.int .i64 z.1.Last),.d (.int .u8 z.1.Need)],.d (.bool z.2)]):=by
 refine fO 78 (Jgt b a c) Try.func55<|sr<|ck 4<|en<|sq<|sr<|ck 5<|gc 1 (!(decide<|c<0))<|sE (g:=(!(decide<|c<0))) (λ hg=>AT Aw b.Rules)<|gc 1 (!(decide<|c<0))<|pO<|en<|cn H (λ H=>?_)<|λ H=>?_
 ·exact sr<|ck 3<|en<|re<|qr (by cases H;exact pr rdT)
 ·refine sk<|qz<|sr<|ck 3<|bx H λ e f H=>sp (AY Aw f)<|ck 3<|en<|sq<|sr<|ck 7<|gc 1 (!(e.From != a.Mode))<|ck 1<|gc 1 (!(e.From != a.Mode))<|bx H λ o h H=>cG false (leZ) rfl (λ hg=>IM<|DW h hg) (Or.inl rfl) (CN (λ hh=>hh)<|CN (λ hh=>hh)<|Gc) rfl<|gc 1 (!(e.From != a.Mode))<|pO<|en<|cn H (λ H=>?_)<|λ H=>?_
  ·exact sr<|ck 3<|en<|re<|qr (by cases H;exact pr rdT)
  ·refine sk<|qz<|sq<|sr<|ck 3<|en<|cn H (λ H=>?_)<|λ H=>?_
   ·refine sr<|ck 6<|en<|sq<|sr<|ck 2<|en<|cn H (λ H=>?_)<|λ H=>?_
    ·exact sr<|ck 3<|en<|re<|qr<|qr (by cases H;exact pr rdT)
    ·exact sk<|qz<|sr<|ck 8<|en<|re<|qr (by cases H;exact pr rdT)
   ·refine sk<|qz<|sq<|sr<|ck 4<|bx H λ s i H=>sp (Fw i)<|bx H λ p j H=>ca false (IL j)<|bx H λ q k H=>ca false (IM k)<|ck 1<|en<|cn H (λ H=>?_)<|λ H=>?_
    ·exact sr<|ck 3<|en<|re<|qr (by cases H;exact pr rdT)
    ·exact sk<|qz<|sr<|ck 8<|bx H λ t l H=>sp (Fw l)<|bx H λ r m H=>ca false (IL m)<|ck 5<|en<|re (by cases H;exact pr rdT)
end
section
variable (f:Ab) (o:(List Af)) (p:(List (List Int))) (A:(List (Af×Int))) (u:Int) (B:(List Af)) (K:(List (List Int))) (a:(List Af)) (g:(List (List Int))) (b:(List (Af×Int))) (L:Int) (C:(List Af)) (M:(List (List Int))) (J:(List (Af×Int))) (q:(List Af)) (w:(List (List Int))) (E:(List (Af×Int))) (h:(List Af)) (c:(List (List Int))) (r:(List (Af×Int))) (G:Int)
def Jgu:St:=⟨(0,.agg [.d<|.int .i64 f.Modes,.d<|.int .u8 f.Accept,.d<|.sl<|f.Rules.map Aw])::[],[]⟩
def Jgv:St:=⟨(1,.ptr 0 0)::(5,.osl 1 3 0<|o.length)::(6,.osl 2 1 0<|p.length)::(7,.mp 3)::(8,.d<|.int .i64 u)::[],[some<|.box<|Bj f,some<|.arr 3<|o.map AW,some<|.narr 1<|p.map<|nL 1 A2,some<|.map true false<|Bu AW A2 A]⟩
def Jgw:St:=⟨(5,.osl 0 3 0<|B.length)::(6,.osl 1 1 0<|K.length)::[],[some<|.arr 3<|B.map AW,some<|.narr 1<|K.map<|nL 1 A2]⟩
def Jgx:St:=⟨(1,.ptr 0 0)::(5,.osl 1 3 0<|a.length)::(6,.osl 2 1 0<|g.length)::(7,.mp 3)::(8,.d<|.int .i64 u)::(29,.d<|.int .i64 ((f.Rules.length:Nat):Int))::(30,.d<|.int .i64 L)::[],[some<|.box<|Bj f,some<|.arr 3<|a.map AW,some<|.narr 1<|g.map<|nL 1 A2,some<|.map true false<|Bu AW A2 b]⟩
def Jgy:St:=⟨(1,.ptr 0 0)::(5,.osl 1 3 0<|C.length)::(6,.osl 2 1 0<|M.length)::(7,.mp 3)::(8,.d<|.int .i64 u)::[],[some<|.box<|Bj f,some<|.arr 3<|C.map AW,some<|.narr 1<|M.map<|nL 1 A2,some<|.map true false<|Bu AW A2 J]⟩
def Jgz:St:=⟨(1,.ptr 0 0)::(5,.osl 1 3 0<|q.length)::(6,.osl 2 1 0<|w.length)::(7,.mp 3)::(8,.d<|.int .i64 u)::(29,.d<|.int .i64 ((f.Rules.length:Nat):Int))::(30,.d<|.int .i64 L)::[],[some<|.box<|Bj f,some<|.arr 3<|q.map AW,some<|.narr 1<|w.map<|nL 1 A2,some<|.map true false<|Bu AW A2 E]⟩
def JgA:St:=⟨(1,.ptr 0 0)::(5,.osl 1 3 0<|h.length)::(6,.osl 2 1 0<|c.length)::(7,.mp 3)::(8,.d<|.int .i64 u)::(12,.d<|.int .i64 G)::(29,.d<|.int .i64 ((f.Rules.length:Nat):Int))::(30,.d<|.int .i64 L)::[],[some<|.box<|Bj f,some<|.arr 3<|h.map AW,some<|.narr 1<|c.map<|nL 1 A2,some<|.map true false<|Bu AW A2 r]⟩
def Nn:((List Af)×(List<|List Int)×(List<|Af×Int))->Ex->St->Prop:=xX 0 2<|λ (y:((List Af)×(List<|List Int)×(List<|Af×Int)))=>Jgy f u y.1 y.2.1 y.2.2
def HY:((List Af)×(List<|List Int)×(List<|Af×Int)×Int)->St:=(λ (x:((List Af)×(List<|List Int)×(List<|Af×Int)×Int))=>Jgx f u x.1 x.2.1 x.2.2.1 x.2.2.2)
def No:((List Af)×(List<|List Int))->Ex->St->Prop:=xX 0 0<|λ (y:((List Af)×(List<|List Int)))=>Jgw y.1 y.2
def HZ:((List Af)×(List<|List Int)×(List<|Af×Int)×Int)->St:=(λ (x:((List Af)×(List<|List Int)×(List<|Af×Int)×Int))=>Jgv f x.1 x.2.1 x.2.2.1 x.2.2.2)
variable {f o p A u B K a g b L C M J q w E h c r G}
theorem Mr (x:((List Af)×(List (List Int))×(List (Af×Int))×Int)) (z:(((List Af)×(List (List Int))×(List (Af×Int))×Int)⊕((List Af)×(List (List Int))×(List (Af×Int))))) (H:BU n f u x.1 x.2.1 x.2.2.1 x.2.2.2=some z):WP (cxk 78 0) (AS Try.f63) [1,1,1,1,0,1,0,0,1,0,0,1,0,0] (AU 0 (HY f u) (Nn f u) z) (HY f u x):=by
 obtain⟨a,g,b,L⟩:=x;refine sr<|ck 1<|en<|sq<|cn H (λ H=>?_)<|λ H=>?_
 ·refine sk<|qz<|sj (λ (x:((List Af)×(List<|List Int)×(List<|Af×Int)))=>Jgz f u L x.1 x.2.1 x.2.2) (λ (x:((List Af)×(List<|List Int)×(List<|Af×Int)))=>CO n L x.1 x.2.1 x.2.2) z ?_ (λ i=>?_)
  ·rintro⟨q,w,E⟩ H;exact rz<|ck 2<|ae (by cases H;exact og<|gP [1,5,6,7,8,29,30] [0,1,2,3]<|po1<|po1<|pn1 (nL 1 A2) w<|po1<|Pl.z)
  refine bk 3<|sr<|ck 2<|en<|sr<|ck 3<|bx H λ x8 T H=>sp (Bd 1 3 T)<|sp (BT AW 1 0 (ty 79) T)<|ck 1<|bx H λ I Y H=>ca false (N7 Y)<|ck 6<|en<|sq<|sr<|ck 2<|en<|cn H (λ H=>?_)<|λ H=>?_
  ·exact ex 3<|qx<|qH<|qs (gP [1,5,6,7,8,29,30] [0,1,2,3]<|po1<|po1<|pn1 (nL 1 A2) g<|po1<|Pl.z)<|i (a,g,b) H
  ·refine sk<|qz<|sr<|ck 2<|sp (Uw (enc:=A2) (encK:=AW) (k:=3) (e1:=λ x=>.int .i64 x) (m:=b) (l:=[.d<|.int .i64 I.1.Mode,.d<|.int .i64 I.1.Last,.d<|.int .u8 I.1.Need]) (key:=I.1) (z:=0) (vz:=[.int .i64 0]) UC true)<|ck 5<|en<|sj (λ (x:((List Af)×(List<|List Int)×(List<|Af×Int)×Int))=>JgA f u L x.1 x.2.1 x.2.2.1 x.2.2.2) (λ (x:((List Af)×(List<|List Int)×(List<|Af×Int)×Int))=>DC n u L x.1 x.2.1 x.2.2.1 x.2.2.2) z ?_ (λ j=>?_)
   ·rintro⟨h,c,r,G⟩ H;exact bx H λ U O H=>rg (tr (so1 (encN:=(nL 1 A2)) 2 1 O)<|sno (encN:=(nL 1 A2)) (enc:=A2) O [.own 1<|U.map A2] U 1 2 0 1)<|ck 4<|sp (Bd 2 1 O)<|sp (IC (encN:=(nL 1 A2)) (row:=[.osl 4 1 0<|U.length]) (k:=2) (sz:=1) (off:=0) (t:=ty 87) (v:=.osl 4 1 0<|U.length) O)<|ck 2<|bx H λ P Z H=>sp (B5 A2 4 1 Z)<|sp (Bd 2 1 O)<|sp (SQ (encN:=(nL 1 A2)) (row:=[.osl 4 1 0<|U.length]) (row':=[.osl 6 1 0<|P.length]) (k:=2) (sz:=1) (off:=0) (t:=ty 87) (v:=.osl 6 1 0<|P.length) O)<|ae<|qN<|qs (tr (tr (tr (tr (tr (sni (encN:=(nL 1 A2)) (xs:=c) (n:=G) (enc:=A2) [.osl 6 1 0<|P.length] P 1 2 0 6 1)<|scl (encN:=(nL 1 A2)) (xss:=c) G [.own 1<|P.map A2] 1 2 P)<|sn 6 2 1<|lsS c G.toNat P)<|sn 65 2 1<|lsS c G.toNat P)<|sn 67 2 1<|lsS c G.toNat P)<|gP [1,5,6,7,8,29,30] [0,1,2,3]<|po1<|po1<|pn1 (nL 1 A2) (List.set c G.toNat P)<|po1<|Pl.z)<|i (h,(List.set c G.toNat P),r) H
   refine sr<|ck 2<|en<|cn H (λ H=>?_)<|λ H=>?_
   ·exact sr<|ck 3<|en<|sr<|ck 3<|sp (SR (enc:=A2) (encK:=AW) (k:=3) (e1:=λ x=>.int .i64 x) (m:=b) (l:=[.d<|.int .i64 I.1.Mode,.d<|.int .i64 I.1.Last,.d<|.int .u8 I.1.Need]) (key:=I.1) (y:=((a.length:Nat):Int)) (v:=.d<|.int .i64 ((a.length:Nat):Int)) (vz:=[.int .i64 0]) UC)<|en<|rz<|ck 3<|bx H λ aa ab H=>sp (B5 AW 1 3 ab)<|ck 1<|sK false<|bx H λ R V H=>sp (JdP (encN:=(nL 1 A2)) (esz:=1) (k:=2) (e:=[.nil]) V)<|ck 2<|ae<|qs (tr (Jfs (encN:=(nL 1 A2)) (xss:=g) (yss:=R) (y:=([]:(List Int))) (row:=[.own 0 []]) (sz:=1) 7 (by kernel_rfl) (JdE V) (by kernel_rfl))<|gP [1,5,6,7,8,12,29,30] [0,6,7,3]<|po1<|po1<|pn1 (nL 1 A2) R<|po1<|Pl.z)<|j (aa,R,(BQ I.1 ((a.length:Nat):Int) b),((a.length:Nat):Int)) H
   ·exact sk<|qs (gP [1,5,6,7,8,12,29,30] [0,1,2,3]<|po1<|po1<|pn1 (nL 1 A2) g<|po1<|Pl.z)<|j (a,g,b,(Option.getD (AR I.1 b) 0)) H
 ·exact ex 2<|qx (by cases H;exact xo rfl<|gP [1,5,6,7,8] [0,1,2,3]<|po1<|po1<|pn1 (nL 1 A2) g<|po1<|Pl.z)
theorem Ms (x:((List Af)×(List (List Int))×(List (Af×Int))×Int)) (z:(((List Af)×(List (List Int))×(List (Af×Int))×Int)⊕((List Af)×(List (List Int))))) (H:CP n f x.1 x.2.1 x.2.2.1 x.2.2.2=some z):WP (cxk 78 0) (AS Try.f63) [1,1,1,1,0,1,0,0] (AU 0 (HZ f) (No) z) (HZ f x):=by
 obtain⟨o,p,A,u⟩:=x;refine sq<|sr<|ck 4<|en<|cn H (λ H=>?_)<|λ H=>?_
 ·exact sk<|qz<|sq<|bk 1<|sr<|ck 2<|sp (AT Aw f.Rules)<|ck 1<|en<|bk 2<|bx H λ ac af H=>lX Mr af (gP [1,5,6,7,8,29,30] [0,1,2,3]<|po1<|po1<|pn1 (nL 1 A2) p<|po1<|Pl.z) rfl λ s W=>qH<|qN<|qs (W)<|rz<|ck 3<|ae (by cases H;exact og<|gP [1,5,6,7,8] [0,1,2,3]<|po1<|po1<|pn1 (nL 1 A2) ac.2.1<|po1<|Pl.z)
 ·exact ex 0<|qx (by cases H;exact xo rfl<|gP [5,6] [1,2]<|po1<|pn1 (nL 1 A2) p<|Pl.z)
theorem PZ {z} (H:Ha n f=some z):AJ Try.prog 63 [.agg (Bj f)] (.tup [.own 3 (z.1.map AW),.d (.sl (z.2.map (eL A2)))]):=by
 exact fO 78 (Jgu f) Try.func63<|sr<|ck 3<|en<|sr<|bx H λ Q ag H=>ca false (S9 ag)<|ck 2<|en<|sr<|ck 2<|sK true<|ck 2<|en<|sq<|rg (Jfr (sz:=1) (es:=[[.nil]]) 3 (List.map (nL 1 A2) ([[]]:List (List Int))) (by kernel_rfl) (by kernel_rfl))<|ck 2<|sp (SR (enc:=A2) (encK:=AW) (k:=4) (e1:=λ x=>.int .i64 x) (m:=[]) (l:=[.d<|.int .i64 Q.Mode,.d<|.int .i64 Q.Last,.d<|.int .u8 Q.Need]) (key:=Q) (y:=0) (v:=.d<|.int .i64 0) (vz:=[.int .i64 0]) UC)<|ck 2<|en<|sq<|sr<|ck 1<|en<|bk 0<|bx H λ S ah H=>lX Ms ah (gP [1,5,6,7,8] [0,2,3,4]<|po1<|po1<|pn1 (nL 1 A2) ([[]]:List (List Int))<|po1<|Pl.z) rfl λ s X=>qH<|qs (X)<|sr<|ck 4<|ae<|qs (JdG (encN:=(nL 1 A2)) (encD:=(eL A2)) (xss:=S.2) (k:=1) (sz:=1) 3 (by kernel_rfl) (λ _=>rfl)<|λ _=>rfl)<|re (by cases H;exact pr<|rT (vs:=[.osl 0 3 0<|S.1.length,.d<|.sl<|S.2.map<|eL A2]) [0]<|t1 (ao vo)<|t1 (ad vd)<|t0)
end
section
variable (a:Ab)
def JgB:St:=⟨(0,.agg [.d<|.int .i64 a.Modes,.d<|.int .u8 a.Accept,.d<|.sl<|a.Rules.map Aw])::[],[]⟩
variable {a}
theorem QS {z} (H:Lr n a=some z):AJ Try.prog 53 [.agg (Bj a)] (.own 3 (z.map AW)):=by
 exact fO 11 (JgB a) Try.func53<|sr<|ck 2<|en<|sr<|ck 1<|bx H λ b c H=>cl [List.length b.1] (PZ c)<|ck 5<|en<|sr<|ck 2<|en<|re (by cases H;exact pr<|rO (v:=.osl 1 3 0<|b.1.length) [1]<|ao vo)
end
section
variable (a:Ab) (b:Af)
def JgC:St:=⟨(0,.agg [.d<|.int .i64 a.Modes,.d<|.int .u8 a.Accept,.d<|.sl<|a.Rules.map Aw])::(1,.agg [.d<|.int .i64 b.Mode,.d<|.int .i64 b.Last,.d<|.int .u8 b.Need])::[],[]⟩
variable {a b}
theorem P0 {z} (H:Hb n a b=some z):AJ Try.prog 54 [.agg (Bj a),.agg (CJ b)] (.d (.bool z)):=by
 exact fO 22 (JgC a b) Try.func54<|sr<|ck 3<|en<|sr<|ck 7<|gc 1 (decide<|b.Mode<a.Modes)<|ck 1<|gc 1 (decide<|b.Mode<a.Modes)<|bx H λ c e H=>cG false (leZ) rfl (λ hg=>IM<|DW e hg) (Or.inl rfl) (CN (λ hh=>hh)<|CN (λ hh=>hh)<|Gc) rfl<|pA<|ck 2<|gc 1 ((decide<|b.Mode<a.Modes)&&c)<|bx H λ g f H=>cG false (leZ) rfl (λ hg=>IM<|DW f hg) (Or.inl rfl) (CN (λ hh=>hh)<|Gc) rfl<|pA<|ck 1<|en<|re (by cases H;exact pr rd)
end
section
variable (a:Int)
def JgD:St:=⟨(0,.d<|.int .u8 a)::[],[]⟩
variable {a}
theorem KN {z} (H:CQ n a=some z):AJ Try.prog 83 [.d (.int .u8 a)] (.d (.int .i64 z)):=by
 exact fO 6 (JgD a) Try.func83<|sr<|ck 1<|en<|sr<|ck 1<|bx H λ c b H=>sp (Fw b)<|ck 2<|en<|re (by cases H;exact pr rd)
end
section
variable (a:Ay) (b:Int)
def JgE:St:=⟨(0,.agg [.d<|.int .u8 a.Up,.d<|.int .u8 a.Maybe])::(1,.d<|.int .u8 b)::[],[]⟩
variable {a b}
theorem UE {z} (H:GB n a b=some z):AJ Try.prog 66 [.agg [.d (.int .u8 a.Up),.d (.int .u8 a.Maybe)],.d (.int .u8 b)] (.d (.int .i64 z)):=by
 exact fO 13 (JgE a b) Try.func66<|sr<|ck 2<|en<|sr<|ck 7<|bx H λ e c H=>ca true (KN c)<|ck 1<|en<|re (by cases H;exact pr rd)
end
section
variable (a:Int)
def Jd4:St:=⟨(0,.d<|.int .i64 a)::[],[]⟩
variable {a}
theorem Hj {z} (H:EU n a=some z):AJ Try.prog 101 [.d (.int .i64 a)] (.d (.bool z)):=by
 exact fO 6 (Jd4 a) Try.func101<|sr<|ck 1<|en<|sr<|ck 4<|en<|re (by cases H;exact pr rd)
end
section
variable (a:Int) (b:Int)
def JgF:St:=⟨(0,.d<|.int .i64 a)::(1,.d<|.int .i64 b)::[],[]⟩
variable {a b}
theorem KO {z} (H:DM n a b=some z):AJ Try.prog 87 [.d (.int .i64 a),.d (.int .i64 b)] (.d (.int .i64 z)):=by
 refine fO 20 (JgF a b) Try.func87<|sr<|ck 1<|en<|sr<|ck 1<|bx H λ f c H=>ca false (Hj c)<|ck 1<|en<|sr<|ck 1<|bx H λ g e H=>ca false (Hj e)<|ck 1<|en<|sq<|sr<|ck 1<|en<|cn H (λ H=>?_)<|λ H=>?_
 ·refine sq<|sr<|ck 1<|en<|cn H (λ H=>?_)<|λ H=>?_
  ·exact sr<|ck 1<|en<|re<|qr<|qr (by cases H;exact pr rd)
  ·exact sk<|qz<|sr<|ck 1<|en<|re<|qr (by cases H;exact pr rd)
 ·refine sk<|qz<|sq<|sr<|ck 1<|en<|cn H (λ H=>?_)<|λ H=>?_
  ·exact sr<|ck 1<|en<|re<|qr (by cases H;exact pr rd)
  ·refine sk<|qz<|sq<|sr<|ck 3<|en<|cn H (λ H=>?_)<|λ H=>?_
   ·exact sr<|ck 1<|en<|re<|qr (by cases H;exact pr rd)
   ·refine sk<|qz<|sq<|sr<|ck 3<|en<|cn H (λ H=>?_)<|λ H=>?_
    ·exact sr<|ck 1<|en<|re<|qr (by cases H;exact pr rd)
    ·exact sk<|qz<|sr<|ck 1<|en<|re (by cases H;exact pr rd)
end
theorem P1 {n:Nat} {a:(List UInt8)} {b:(List UInt8)} {z:Int} (H:JP n a b=some z):AJ Try.prog 88 [.d (.str a),.d (.str b)] (.d (.int .i64 z)):=YC Jkj ⟨_,_,Try.func88,rfl,rfl⟩ H
section
variable (a:(List Int)) (b:Int)
def JgG:St:=⟨(0,.d<|.sl<|a.map A2)::[],[]⟩
def JgH:St:=⟨(3,.d<|.int .i64 0)::(6,.d<|.sl<|a.map A2)::(7,.d<|.int .i64 ((a.length:Nat):Int))::(8,.d<|.int .i64 b)::[],[]⟩
def JgI:St:=⟨(3,.d<|.int .i64 0)::[],[]⟩
def Np:(Unit⊕Int)->Ex->St->Prop:=xS (xX 0 0<|λ (_:Unit)=>JgI)<|xR ty Try.f86<|λ (y:Int)=>.d<|.int .i64 y
def H1:Int->St:=(λ (x:Int)=>JgH a x)
variable {a b}
theorem Hk (x:Int) (z:(Int⊕(Unit⊕Int))) (H:GC n a x=some z):WP (cxk 18 0) (AS Try.f86) [1,1,0,1,0,0] (AU 0 (H1 a) (Np) z) (H1 a x):=by
 revert H;generalize x=b;intro H;refine sr<|ck 1<|en<|sq<|cn H (λ H=>?_)<|λ H=>?_
 ·refine sk<|qz<|sq<|bk 1<|sr<|bx H λ i g H=>sp (AY A2 g)<|ck 2<|en<|sr<|ck 3<|en<|cn H (λ H=>?_)<|λ H=>?_
  ·exact sr<|ck 2<|en<|re<|qR<|qr (by cases H;exact ro rfl rd)
  ·exact sk<|qN<|qz<|rz<|ck 2<|ae (by cases H;exact og<|sg [3,6,7,8])
 ·exact ex 0<|qx (by cases H;exact xo rfl<|sg [3])
theorem P2 {z} (H:Hc n a=some z):AJ Try.prog 86 [.d (.sl (a.map A2))] (.d (.int .i64 z)):=by
 refine fO 18 (JgG a) Try.func86<|sr<|ck 1<|en<|sr<|ck 1<|en<|sq<|sr<|ck 1<|sp (AT A2 a)<|ck 1<|en<|bk 0<|bx H λ h c H=>?_;rcases h with j|k
 ·exact lX Hk c (sg [3,6,7,8]) rfl λ s e=>qH<|qs (e)<|sr<|ck 2<|en<|re (by cases H;exact pr rd)
 ·exact lR Hk c (sg [3,6,7,8]) rfl λ s f=>qR<|qr (by cases H;exact pr f)
end
section
variable (a:Ag) (b:Ag)
def JgJ:St:=⟨(0,.agg [.d<|.int .i64 a.Cost,.d<|.str a.Text,.d<|.str a.Cells])::(1,.agg [.d<|.int .i64 b.Cost,.d<|.str b.Text,.d<|.str b.Cells])::[],[]⟩
variable {a b}
theorem D1 {z} (H:AX n a b=some z):AJ Try.prog 76 [.agg (JeU a),.agg (JeU b)] (.d (.int .i64 z)):=by
 exact fO 17 (JgJ a b) Try.func76<|sr<|ck 3<|en<|sr<|ck 4<|bx H λ c f H=>ca false (KO f)<|ck 4<|bx H λ e g H=>ca false (P1 g)<|ck 1<|bx H λ i h H=>cb (ks:=[2]) (obl:=[(0+List.length [c,e],List.length<|List.map A2 [c,e])]) true (leK leM<|leZ) (JM Ut rfl) (P2 h) (Or.inr trivial) rfl<|ck 1<|en<|re (by cases H;exact pr rd)
end
section
variable (a:Ai) (b:Ai)
def JgK:St:=⟨(0,.agg [.d<|.str a.Arc.Print,.d<|.str a.Arc.Cells,.d<|.int .i64 a.Arc.To,.d<|.int .i64 a.More,.d<|.sl<|a.List.map Ax,.d<|.int .i64 a.First.Cost,.d<|.str a.First.Text,.d<|.str a.First.Cells])::(1,.agg [.d<|.str b.Arc.Print,.d<|.str b.Arc.Cells,.d<|.int .i64 b.Arc.To,.d<|.int .i64 b.More,.d<|.sl<|b.List.map Ax,.d<|.int .i64 b.First.Cost,.d<|.str b.First.Text,.d<|.str b.First.Cells])::[],[]⟩
variable {a b}
theorem KP {z} (H:HS n a b=some z):AJ Try.prog 71 [.agg (DS a),.agg (DS b)] (.d (.int .i64 z)):=by
 exact fO 10 (JgK a b) Try.func71<|sr<|ck 3<|en<|sr<|ck 4<|bx H λ e c H=>ca true (D1 c)<|ck 1<|en<|re (by cases H;exact pr rd)
end
section
variable (b:Ab) (q:(List Ay)) (r:Int) (u:Int) (P:Ad) (c:(List Af)) (j:(List (Af×Int))) (I:Int) (C:(List (Af×Int))) (f:(List (Af×Int))) (G:Ad) (a:Int) (K:Ad) (i:Af) (e:Ad) (h:Int) (L:Ad) (J:Ad) (w:AB) (o:(Af×Bool)) (p:(List Int)) (M:Int) (A:(List Int))
def JaR:St:=⟨(0,.agg [.d<|.int .i64 b.Modes,.d<|.int .u8 b.Accept,.d<|.sl<|b.Rules.map Aw])::(1,.d<|.sl<|q.map Bt)::(2,.d<|.int .i64 r)::(3,.d<|.int .i64 u)::[],[]⟩
def JaS:St:=⟨(8,.ptr 0 0)::[],[some<|.box<|KC P<|.osl 1 1 0<|P.Accepts.length,some<|.arr 1<|P.Accepts.map eB]⟩
def JaT:St:=⟨(1,.d<|.sl<|q.map Bt)::(2,.d<|.int .i64 r)::(3,.d<|.int .i64 u)::(4,.ptr 0 0)::(9,.d<|.sl<|c.map AW)::(10,.mp 1)::(28,.d<|.sl<|c.map AW)::(29,.d<|.int .i64 ((c.length:Nat):Int))::(30,.d<|.int .i64 I)::[],[some<|.box<|Bj b,some<|.map true false<|Bu AW A2 j]⟩
def JaU:St:=⟨(1,.d<|.sl<|q.map Bt)::(2,.d<|.int .i64 r)::(3,.d<|.int .i64 u)::(4,.ptr 0 0)::(9,.d<|.sl<|c.map AW)::(10,.mp 1)::[],[some<|.box<|Bj b,some<|.map true false<|Bu AW A2 C]⟩
def Lt:(List<|Af×Int)->Ex->St->Prop:=xX 0 0<|λ (y:(List<|Af×Int))=>JaU b q r u c y
def GG:((List<|Af×Int)×Int)->St:=(λ (x:((List<|Af×Int)×Int))=>JaT b q r u c x.1 x.2)
def JaV:St:=⟨(4,.ptr 0 0)::(10,.mp 1)::(13,.ptr 2 0)::(50,.d<|.sl<|c.map AW)::(51,.d<|.int .i64 ((c.length:Nat):Int))::(52,.d<|.int .i64 a)::[],[some<|.box<|Bj b,some<|.map true false<|Bu AW A2 f,some<|.box<|DK G (.osl 3 1 0<|G.Arcs.length)<|.osl 4 1 0<|G.Accepts.length,some<|.narr 1<|G.Arcs.map<|nL 3 BE,some<|.arr 1<|G.Accepts.map eB]⟩
def JaW:St:=⟨(13,.ptr 0 0)::[],[some<|.box<|DK K (.osl 1 1 0<|K.Arcs.length)<|.osl 2 1 0<|K.Accepts.length,some<|.narr 1<|K.Arcs.map<|nL 3 BE,some<|.arr 1<|K.Accepts.map eB]⟩
def JaX:St:=⟨(4,.ptr 0 0)::(10,.mp 1)::(13,.ptr 2 0)::(14,.d<|.int .i64 a)::(15,.ptr 3 0)::(50,.d<|.sl<|c.map AW)::(51,.d<|.int .i64 ((c.length:Nat):Int))::(52,.d<|.int .i64 a)::(67,.d<|.sl<|b.Rules.map Aw)::(68,.d<|.int .i64 ((b.Rules.length:Nat):Int))::(69,.d<|.int .i64 h)::[],[some<|.box<|Bj b,some<|.map true false<|Bu AW A2 f,some<|.box<|DK e (.osl 4 1 0<|e.Arcs.length)<|.osl 5 1 0<|e.Accepts.length,some<|.box<|CJ i,some<|.narr 1<|e.Arcs.map<|nL 3 BE,some<|.arr 1<|e.Accepts.map eB]⟩
def JaY:St:=⟨(4,.ptr 0 0)::(10,.mp 1)::(13,.ptr 2 0)::(50,.d<|.sl<|c.map AW)::(51,.d<|.int .i64 ((c.length:Nat):Int))::(52,.d<|.int .i64 a)::[],[some<|.box<|Bj b,some<|.map true false<|Bu AW A2 f,some<|.box<|DK L (.osl 3 1 0<|L.Arcs.length)<|.osl 4 1 0<|L.Accepts.length,some<|.narr 1<|L.Arcs.map<|nL 3 BE,some<|.arr 1<|L.Accepts.map eB]⟩
def JaZ:St:=⟨(4,.ptr 0 0)::(10,.mp 1)::(13,.ptr 2 0)::(14,.d<|.int .i64 a)::(15,.ptr 3 0)::(50,.d<|.sl<|c.map AW)::(51,.d<|.int .i64 ((c.length:Nat):Int))::(52,.d<|.int .i64 a)::(67,.d<|.sl<|b.Rules.map Aw)::(68,.d<|.int .i64 ((b.Rules.length:Nat):Int))::(69,.d<|.int .i64 h)::[],[some<|.box<|Bj b,some<|.map true false<|Bu AW A2 f,some<|.box<|DK J (.osl 4 1 0<|J.Arcs.length)<|.osl 5 1 0<|J.Accepts.length,some<|.box<|CJ i,some<|.narr 1<|J.Arcs.map<|nL 3 BE,some<|.arr 1<|J.Accepts.map eB]⟩
def YI:St:=⟨(4,.ptr 0 0)::(10,.mp 1)::(13,.ptr 2 0)::(14,.d<|.int .i64 a)::(15,.ptr 3 0)::(17,.ptr 4 0)::(18,.ptr 5 0)::(20,.osl 6 1 0<|p.length)::(50,.d<|.sl<|c.map AW)::(51,.d<|.int .i64 ((c.length:Nat):Int))::(52,.d<|.int .i64 a)::(67,.d<|.sl<|b.Rules.map Aw)::(68,.d<|.int .i64 ((b.Rules.length:Nat):Int))::(69,.d<|.int .i64 h)::(84,.d<|.sl<|w.Cells.map eU8)::(85,.d<|.int .i64 ((w.Cells.length:Nat):Int))::(86,.d<|.int .i64 M)::[],[some<|.box<|Bj b,some<|.map true false<|Bu AW A2 f,some<|.box<|DK e (.osl 7 1 0<|e.Arcs.length)<|.osl 8 1 0<|e.Accepts.length,some<|.box<|CJ i,some<|.box<|Hh w,some<|.box<|CJ o.1,some<|.arr 1<|p.map eU8,some<|.narr 1<|e.Arcs.map<|nL 3 BE,some<|.arr 1<|e.Accepts.map eB]⟩
def YJ:St:=⟨(4,.ptr 0 0)::(10,.mp 1)::(13,.ptr 2 0)::(14,.d<|.int .i64 a)::(15,.ptr 3 0)::(17,.ptr 4 0)::(18,.ptr 5 0)::(20,.osl 6 1 0<|A.length)::(50,.d<|.sl<|c.map AW)::(51,.d<|.int .i64 ((c.length:Nat):Int))::(52,.d<|.int .i64 a)::(67,.d<|.sl<|b.Rules.map Aw)::(68,.d<|.int .i64 ((b.Rules.length:Nat):Int))::(69,.d<|.int .i64 h)::[],[some<|.box<|Bj b,some<|.map true false<|Bu AW A2 f,some<|.box<|DK e (.osl 7 1 0<|e.Arcs.length)<|.osl 8 1 0<|e.Accepts.length,some<|.box<|CJ i,some<|.box<|Hh w,some<|.box<|CJ o.1,some<|.arr 1<|A.map eU8,some<|.narr 1<|e.Arcs.map<|nL 3 BE,some<|.arr 1<|e.Accepts.map eB]⟩
def Lu:(List Int)->Ex->St->Prop:=xX 0 6<|λ (y:(List Int))=>YJ b c f a i e h w o y
def GH:((List Int)×Int)->St:=(λ (x:((List Int)×Int))=>YI b c f a i e h w o x.1 x.2)
def Lv:Ad->Ex->St->Prop:=xX 0 4<|λ (y:Ad)=>JaY b c f a y
def GI:(Ad×Int)->St:=(λ (x:(Ad×Int))=>JaX b c f a i x.1 x.2)
def Lw:Ad->Ex->St->Prop:=xX 0 2<|λ (y:Ad)=>JaW y
def GJ:(Ad×Int)->St:=(λ (x:(Ad×Int))=>JaV b c f x.1 x.2)
variable {b q r u P c j I C f G a K i e h L J w o p M A}
theorem KQ (x:((List (Af×Int))×Int)) (z:(((List (Af×Int))×Int)⊕(List (Af×Int)))) (H:CS n b q r u c x.1 x.2=some z):WP (cxk 121 0) (AS Try.f40) [1,1,1,0,1,0,0] (AU 0 (GG b q r u c) (Lt b q r u c) z) (GG b q r u c x):=by
 obtain⟨j,I⟩:=x;refine sr<|ck 1<|en<|sq<|cn H (λ H=>?_)<|λ H=>?_
 ·exact sk<|qz<|sq<|bk 1<|sr<|ck 1<|bx H λ Q ai H=>sp (AY AW ai)<|ck 4<|en<|rz<|ck 3<|sp (SR (enc:=A2) (encK:=AW) (k:=1) (e1:=λ x=>.int .i64 x) (m:=j) (l:=[.d<|.int .i64 Q.Mode,.d<|.int .i64 Q.Last,.d<|.int .u8 Q.Need]) (key:=Q) (y:=I) (v:=.d<|.int .i64 I) (vz:=[.int .i64 0]) UC)<|ae<|qN<|qz<|rz<|ck 2<|ae (by cases H;exact og<|sg [1,2,3,4,9,10,28,29,30])
 ·exact ex 0<|qx (by cases H;exact xo rfl<|sg [1,2,3,4,9,10])
theorem KR (x:((List Int)×Int)) (z:(((List Int)×Int)⊕(List Int))) (H:Cs n b c f a i e h w o x.1 x.2=some z):WP (cxk 121 0) (AS Try.f40) [1,1,1,1,1,0,1,0,0,1,1,0,0,1,1,1,0,0,1,1,0,0,1,1,1,1,0,1,0,0] (AU 0 (GH b c f a i e h w o) (Lu b c f a i e h w o) z) (GH b c f a i e h w o x):=by
 obtain⟨p,M⟩:=x;refine sr<|ck 1<|en<|sq<|cn H (λ H=>?_)<|λ H=>?_
 ·exact sk<|qz<|sq<|bk 7<|sr<|bx H λ ay T H=>sp (AY eU8 T)<|ck 2<|en<|rz<|ck 3<|bx H λ az U H=>sp (B5 eU8 6 1 U)<|ck 1<|ae<|qN<|qz<|rz<|ck 2<|ae (by cases H;exact og<|gP [4,10,13,14,15,17,18,20,50,51,52,67,68,69,84,85,86] [0,1,2,3,4,5,10,7,8]<|po1<|po1<|po1<|po1<|po1<|po1<|po1<|pn1 (nL 3 BE) e.Arcs<|po1<|Pl.z)
 ·exact ex 6<|qx (by cases H;exact xo rfl<|gP [4,10,13,14,15,17,18,20,50,51,52,67,68,69] [0,1,2,3,4,5,6,7,8]<|po1<|po1<|po1<|po1<|po1<|po1<|po1<|pn1 (nL 3 BE) e.Arcs<|po1<|Pl.z)
theorem KS (x:(Ad×Int)) (z:((Ad×Int)⊕Ad)) (H:Ct n b c f a i x.1 x.2=some z):WP (cxk 121 0) (AS Try.f40) [1,1,1,1,1,0,1,0,0,1,1,0,0,1,1,1,0,0] (AU 0 (GI b c f a i) (Lv b c f a) z) (GI b c f a i x):=by
 obtain⟨e,h⟩:=x;refine sr<|ck 1<|en<|sq<|cn H (λ H=>?_)<|λ H=>?_
 ·refine sk<|qz<|sj (λ (x:Ad)=>JaZ b c f a i h x) (λ (x:Ad)=>DN n h x) z ?_ (λ g=>?_)
  ·intro J H;exact rz<|ck 2<|ae (by cases H;exact og<|gP [4,10,13,14,15,50,51,52,67,68,69] [0,1,2,3,4,5]<|po1<|po1<|po1<|po1<|pn1 (nL 3 BE) J.Arcs<|po1<|Pl.z)
  refine bk 5<|sr<|ck 1<|bx H λ w aj H=>sp (AY Aw aj)<|ck 4<|en<|sr<|ck 3<|bx H λ o V H=>ca false (N7 V)<|ck 6<|en<|sq<|sr<|ck 2<|en<|cn H (λ H=>?_)<|λ H=>?_
  ·exact ex 5<|qx<|qH<|qs (gP [4,10,13,14,15,50,51,52,67,68,69] [0,1,2,3,4,5]<|po1<|po1<|po1<|po1<|pn1 (nL 3 BE) e.Arcs<|po1<|Pl.z)<|g e H
  ·exact sk<|qz<|sr<|ck 1<|en<|sq<|sr<|ck 2<|sp (AT eU8 w.Cells)<|ck 1<|en<|bk 6<|bx H λ ak W H=>lX KR W (tr (Ar.nilo 20 1 (by kernel_rfl))<|gP [4,10,13,14,15,17,18,20,50,51,52,67,68,69,84,85,86] [0,1,2,3,6,7,8,4,5]<|po1<|po1<|po1<|po1<|po1<|po1<|po1<|pn1 (nL 3 BE) e.Arcs<|po1<|Pl.z) rfl λ s X=>qH<|qs (X)<|bx H λ O E H=>rg (tr (tr (so1 (encN:=(nL 3 BE)) 7 1 E)<|sno (encN:=(nL 3 BE)) (enc:=BE) E [.own 3<|O.map BE] O 1 7 0 3)<|fz (enc:=eU8) (xs:=ak) 20 6 1)<|ck 10<|sp (Bd 7 1 E)<|sp (IC (encN:=(nL 3 BE)) (row:=[.osl 9 3 0<|O.length]) (k:=7) (sz:=1) (off:=0) (t:=ty 122) (v:=.osl 9 3 0<|O.length) E)<|ck 3<|bx H λ s1 Y H=>sp (JdO Y)<|ck 2<|sp (Uw (enc:=A2) (encK:=AW) (k:=1) (e1:=λ x=>.int .i64 x) (m:=f) (l:=[.d<|.int .i64 o.1.Mode,.d<|.int .i64 o.1.Last,.d<|.int .u8 o.1.Need]) (key:=o.1) (z:=0) (vz:=[.int .i64 0]) UC false)<|ck 2<|bx H λ B Z H=>sp (B5 BE 9 3 Z)<|sp (Bd 7 1 E)<|sp (SQ (encN:=(nL 3 BE)) (row:=[.osl 9 3 0<|O.length]) (row':=[.osl 11 3 0<|B.length]) (k:=7) (sz:=1) (off:=0) (t:=ty 122) (v:=.osl 11 3 0<|B.length) E)<|ae<|qN<|qs (tr (tr (tr (tr (tr (sni (encN:=(nL 3 BE)) (xs:=e.Arcs) (n:=a) (enc:=BE) [.osl 11 3 0<|B.length] B 1 7 0 11 3)<|scl (encN:=(nL 3 BE)) (xss:=e.Arcs) a [.own 3<|B.map BE] 1 7 B)<|sn 98 7 1<|lsS e.Arcs a.toNat B)<|sn 103 7 1<|lsS e.Arcs a.toNat B)<|snc 2 3 7 1<|lsS e.Arcs a.toNat B)<|gP [4,10,13,14,15,50,51,52,67,68,69] [0,1,2,3,7,8]<|po1<|po1<|po1<|po1<|pn1 (nL 3 BE) (List.set e.Arcs a.toNat B)<|po1<|Pl.z)<|g ({ Felt:=e.Felt,Budget:=e.Budget,Most:=e.Most,Arcs:=List.set e.Arcs a.toNat B,Accepts:=e.Accepts,Before:=e.Before }:Ad) H
 ·exact ex 4<|qx (by cases H;exact xo rfl<|gP [4,10,13,50,51,52] [0,1,2,4,5]<|po1<|po1<|po1<|pn1 (nL 3 BE) e.Arcs<|po1<|Pl.z)
theorem KT (x:(Ad×Int)) (z:((Ad×Int)⊕Ad)) (H:CT n b c f x.1 x.2=some z):WP (cxk 121 0) (AS Try.f40) [1,1,1,1,1,0,1,0,0] (AU 0 (GJ b c f) (Lw) z) (GJ b c f x):=by
 obtain⟨G,a⟩:=x;refine sr<|ck 1<|en<|sq<|cn H (λ H=>?_)<|λ H=>?_
 ·exact sk<|qz<|sq<|bk 3<|sr<|ck 1<|bx H λ i al H=>sp (AY AW al)<|ck 4<|en<|sr<|ck 7<|bx H λ a0 am H=>ca false (P0 am)<|bx H λ a2 aa H=>sp (Bd 4 1 aa)<|bx H λ a3 S H=>stA eB 4 0 (ty 4) aa S<|en<|sq<|rg (tr (sn 60 4 1<|Eh S)<|snc 2 4 4 1<|Eh S)<|ck 2<|sp (AT Aw b.Rules)<|ck 1<|en<|bk 4<|bx H λ ap ab H=>lX KS ab (gP [4,10,13,14,15,50,51,52,67,68,69] [0,1,2,5,3,4]<|po1<|po1<|po1<|po1<|pn1 (nL 3 BE) G.Arcs<|po1<|Pl.z) rfl λ s ac=>qH<|qN<|qs (ac)<|rz<|ck 2<|ae (by cases H;exact og<|gP [4,10,13,50,51,52] [0,1,2,3,4]<|po1<|po1<|po1<|pn1 (nL 3 BE) ap.Arcs<|po1<|Pl.z)
 ·exact ex 2<|qx (by cases H;exact xo rfl<|gP [13] [2,3,4]<|po1<|pn1 (nL 3 BE) G.Arcs<|po1<|Pl.z)
theorem Nq {z} (H:Fz n b q r u=some z):Bg Try.prog 40 [.agg (Bj b),.d (.sl (q.map Bt)),.d (.int .i64 r),.d (.int .i64 u)] [] 0 (.ptr 0 0) [some (.box (KC z (.osl 1 1 0 (z.Accepts.length)))),some (.arr 1 (z.Accepts.map eB))]:=by
 exact fL 121 0 (JaR b q r u) Try.func40<|sr<|ck 2<|en<|sr<|ck 1<|bx H λ c ar H=>ca false (QS ar)<|ck 1<|en<|sr<|ck 1<|sp (AT AW c)<|ck 2<|en<|sq<|sr<|ck 1<|sp (AT AW c)<|ck 1<|en<|bk 0<|bx H λ f au H=>lX KQ au (sg [1,2,3,4,9,10,28,29,30]) rfl λ s af=>qH<|qs (af)<|sr<|ck 4<|sp (AT AW c)<|bx H λ av R H=>sp (Jam 1 (ez:=[.nil]) R)<|ck 1<|sp (AT AW c)<|bx H λ a4 aw H=>sp (Jil eB 1 aw)<|ck 3<|en<|sq<|sq<|rg (tr (tr (Jfz (encN:=(nL 3 BE)) (sz:=1) (z:=[.nil]) (n:=((c.length:Nat):Int)) 2 (SS R) (by kernel_rfl) (by kernel_rfl))<|sn 44 2 1<|Oz R)<|snc 4 3 2 1<|Oz R)<|ck 1<|sp (AT AW c)<|ck 1<|en<|bk 2<|bx H λ a5 ag H=>lX KT ag (tr (Jaa 4 5 (by kernel_rfl))<|gP [4,10,13,50,51,52] [0,1,4,2,3]<|po1<|po1<|po1<|pn1 (nL 3 BE) av<|po1<|Pl.z) rfl λ s ah=>qH<|qs (ah)<|sr<|ck 2<|en<|re (by cases H;exact pL<|rl (s':=JaS z)<|tr (Jah (encN:=(nL 3 BE)) (encD:=(eL BE)) (xss:=z.Arcs) (sz:=1) 0 3 1 (by kernel_rfl) (by kernel_rfl) (λ _=>rfl)<|λ _=>rfl)<|sg [8])
end
section
variable (c:Int) (b:(List UInt8)) (a:Ad) (h:Int) (i:Bool) (e:Int) (f:Int) (g:Int)
def Ja0:St:=⟨(0,.ptr 0 0)::(1,.d<|.int .i64 c)::(2,.d<|.str b)::[],[some<|.box<|Ap a (.osl 1 1 0<|a.Accepts.length)<|.osl 2 1 0<|a.Before.length,some<|.arr 1<|a.Accepts.map eB,some<|.narr 1<|List.map (eMr (λ k=>.int .i64 k)<|λ v=>.int .i64 v) a.Before]⟩
def UF:St:=⟨(6,.d<|.int .i64 h)::(7,.d<|.bool i)::[],[some<|.box<|Ap a (.osl 1 1 0<|a.Accepts.length)<|.osl 2 1 0<|a.Before.length,some<|.arr 1<|a.Accepts.map eB,some<|.narr 1<|List.map (eMr (λ k=>.int .i64 k)<|λ v=>.int .i64 v) a.Before]⟩
def Ja1:St:=⟨(0,.ptr 0 0)::(1,.d<|.int .i64 c)::(2,.d<|.str b)::(8,.d<|.int .i64 e)::(21,.d<|.int .i64 ((b.length:Nat):Int))::(22,.d<|.int .i64 f)::[],[some<|.box<|Ap a (.osl 1 1 0<|a.Accepts.length)<|.osl 2 1 0<|a.Before.length,some<|.arr 1<|a.Accepts.map eB,some<|.narr 1<|List.map (eMr (λ k=>.int .i64 k)<|λ v=>.int .i64 v) a.Before]⟩
def Ja2:St:=⟨(8,.d<|.int .i64 g)::[],[some<|.box<|Ap a (.osl 1 1 0<|a.Accepts.length)<|.osl 2 1 0<|a.Before.length,some<|.arr 1<|a.Accepts.map eB,some<|.narr 1<|List.map (eMr (λ k=>.int .i64 k)<|λ v=>.int .i64 v) a.Before]⟩
def JY:Int->Ex->St->Prop:=xX 3 0<|λ (y:Int)=>Ja2 a y
def FS:(Int×Int)->St:=(λ (x:(Int×Int))=>Ja1 c b a x.1 x.2)
variable {c b a h i e f g}
theorem Jj (x:(Int×Int)) (z:((Int×Int)⊕Int)) (H:Cy n c b a x.1 x.2=some z):WP (cxk 42 3) (AS Try.f56) [1,1,1,0,1,0,0] (AU 3 (FS c b a) (JY a) z) (FS c b a x):=by
 obtain⟨e,f⟩:=x;refine sr<|ck 1<|en<|sq<|cn H (λ H=>?_)<|λ H=>?_
 ·exact sk<|qz<|sq<|bk 1<|sr<|ck 2<|en<|rz<|ck 8<|bx H λ r j H=>sp (AY Bt j)<|ck 3<|bx H λ u l H=>sp (Fw l)<|bx H λ t m H=>ca false (UE m)<|ck 2<|ae<|qN<|qz<|rz<|ck 2<|ae (by cases H;exact og<|gP [0,1,2,8,21,22] [0,1,2]<|po1<|po1<|pn1 (eMr (λ k=>.int .i64 k)<|λ v=>.int .i64 v) a.Before<|Pl.z)
 ·exact ex 0<|qx (by cases H;exact xo rfl<|gP [8] [0,1,2]<|po1<|po1<|pn1 (eMr (λ k=>.int .i64 k)<|λ v=>.int .i64 v) a.Before<|Pl.z)
theorem GK {z} (H:Dj n c b a=some z):Bg Try.prog 56 [.ptr 0 0,.d (.int .i64 c),.d (.str b)] [some (.box (Ap a (.osl 1 1 0 (a.Accepts.length)) (.osl 2 1 0 (a.Before.length)))),some (.arr 1 (a.Accepts.map eB)),some (.narr 1 (List.map (eMr (λ k=>.int .i64 k) (λ v=>.int .i64 v)) a.Before))] 3 (.tup [.d (.int .i64 z.1),.d (.bool z.2)]) [some (.box (Ap a (.osl 1 1 0 (a.Accepts.length)) (.osl 2 1 0 (a.Before.length)))),some (.arr 1 (a.Accepts.map eB)),some (.narr 1 (List.map (eMr (λ k=>.int .i64 k) (λ v=>.int .i64 v)) a.Before))]:=by
 refine fL 42 3 (Ja0 c b a) Try.func56<|sr<|ck 2<|en<|sq<|sr<|ck 6<|sp (AT Bt a.Felt)<|ck 3<|en<|cn H (λ H=>?_)<|λ H=>?_
 ·exact sr<|ck 2<|en<|re<|qr (by cases H;exact pL<|rl (s':=UF a 0 false)<|gP [6,7] [0,1,2]<|po1<|po1<|pn1 (eMr (λ k=>.int .i64 k)<|λ v=>.int .i64 v) a.Before<|Pl.z)
 ·exact sk<|qz<|sr<|ck 1<|en<|sq<|sr<|ck 3<|en<|bk 0<|bx H λ q o H=>lX Jj o (gP [0,1,2,8,21,22] [0,1,2]<|po1<|po1<|pn1 (eMr (λ k=>.int .i64 k)<|λ v=>.int .i64 v) a.Before<|Pl.z) rfl λ s p=>qH<|qs (p)<|sr<|ck 3<|en<|re (by cases H;exact pL<|rl (s':=UF a q true)<|gP [6,7] [0,1,2]<|po1<|po1<|pn1 (eMr (λ k=>.int .i64 k)<|λ v=>.int .i64 v) a.Before<|Pl.z)
end
section
variable (L:Ad) (r:Ad) (J:(List (Option (Bool×(List (Int×Int)))))) (l:Ad) (s:Int) (K:Ad) (h:Ad) (G:(List (Int×Int))) (C:Ad) (c:Int) (u:Ad) (M:(List (Int×Int))) (E:Ad) (o:Ad) (e1:(Int×Int)) (l19:(List (Int×Int))) (l20:(List (Int×Int))) (q:(List Hu)) (b:Ad) (w:Int) (p:Ad) (i:Ad)
def Ja3:St:=⟨(0,.ptr 0 0)::[],[some<|.box<|KC L<|.osl 1 1 0<|L.Accepts.length,some<|.arr 1<|L.Accepts.map eB]⟩
def Ja4:St:=⟨[],[some<|.box<|Ap r (.osl 1 1 0<|r.Accepts.length)<|.osl 2 1 0<|r.Before.length,some<|.arr 1<|r.Accepts.map eB,some<|.narr 1<|List.map (eMr (λ k=>.int .i64 k)<|λ v=>.int .i64 v) r.Before]⟩
def Ja5:St:=⟨(0,.ptr 0 0)::(28,.d<|.int .i64 ((J.length:Nat):Int))::(29,.d<|.int .i64 s)::[],[some<|.box<|Ap l (.osl 1 1 0<|l.Accepts.length)<|.osl 2 1 0<|l.Before.length,some<|.arr 1<|l.Accepts.map eB,some<|.narr 1<|List.map (eMr (λ k=>.int .i64 k)<|λ v=>.int .i64 v) l.Before]⟩
def Ja6:St:=⟨(0,.ptr 0 0)::[],[some<|.box<|Ap K (.osl 1 1 0<|K.Accepts.length)<|.osl 2 1 0<|K.Before.length,some<|.arr 1<|K.Accepts.map eB,some<|.narr 1<|List.map (eMr (λ k=>.int .i64 k)<|λ v=>.int .i64 v) K.Before]⟩
def H2:Ad->Ex->St->Prop:=xX 2 0<|λ (y:Ad)=>Ja6 y
def ED:(Ad×Int)->St:=(λ (x:(Ad×Int))=>Ja5 J x.1 x.2)
def Ja7:St:=⟨(0,.ptr 0 0)::(49,.osl 2 1 0<|C.Before.length)::(50,.d<|.int .i64 ((List.length (List.set h.Before (Int.toNat 0)<|some (false,Ce<|BQ 0 0 G)):Nat):Int))::(51,.d<|.int .i64 c)::[],[some<|.box<|Ap C (.osl 1 1 0<|C.Accepts.length)<|.osl 2 1 0<|C.Before.length,some<|.arr 1<|C.Accepts.map eB,some<|.narr 1<|List.map (eMr (λ k=>.int .i64 k)<|λ v=>.int .i64 v) C.Before]⟩
def Ja8:St:=⟨[],[some<|.box<|Ap u (.osl 1 1 0<|u.Accepts.length)<|.osl 2 1 0<|u.Before.length,some<|.arr 1<|u.Accepts.map eB,some<|.narr 1<|List.map (eMr (λ k=>.int .i64 k)<|λ v=>.int .i64 v) u.Before]⟩
def Ja9:St:=⟨(0,.ptr 0 0)::(3,.d<|.int .i64 c)::(49,.osl 2 1 0<|E.Before.length)::(50,.d<|.int .i64 ((List.length (List.set h.Before (Int.toNat 0)<|some (false,Ce<|BQ 0 0 G)):Nat):Int))::(51,.d<|.int .i64 c)::(57,.ptr 3 0)::[],[some<|.box<|Ap E (.osl 1 1 0<|E.Accepts.length)<|.osl 2 1 0<|E.Before.length,some<|.arr 1<|E.Accepts.map eB,some<|.narr 1<|List.map (eMr (λ k=>.int .i64 k)<|λ v=>.int .i64 v) E.Before,some<|.iter false false none<|Bu A2 A2 M]⟩
def Jba:St:=⟨(0,.ptr 0 0)::(49,.osl 2 1 0<|o.Before.length)::(50,.d<|.int .i64 ((List.length (List.set h.Before (Int.toNat 0)<|some (false,Ce<|BQ 0 0 G)):Nat):Int))::(51,.d<|.int .i64 c)::[],[some<|.box<|Ap o (.osl 1 1 0<|o.Accepts.length)<|.osl 2 1 0<|o.Before.length,some<|.arr 1<|o.Accepts.map eB,some<|.narr 1<|List.map (eMr (λ k=>.int .i64 k)<|λ v=>.int .i64 v) o.Before]⟩
def Jbb:St:=⟨(0,.ptr 0 0)::(3,.d<|.int .i64 c)::(6,.d<|.int .i64 e1.2)::(49,.osl 2 1 0<|b.Before.length)::(50,.d<|.int .i64 ((List.length (List.set h.Before (Int.toNat 0)<|some (false,Ce<|BQ 0 0 G)):Nat):Int))::(51,.d<|.int .i64 c)::(57,.ptr 3 0)::(69,.d<|.sl<|q.map BE)::(70,.d<|.int .i64 ((q.length:Nat):Int))::(71,.d<|.int .i64 w)::[],[some<|.box<|Ap b (.osl 1 1 0<|b.Accepts.length)<|.osl 2 1 0<|b.Before.length,some<|.arr 1<|b.Accepts.map eB,some<|.narr 1<|List.map (eMr (λ k=>.int .i64 k)<|λ v=>.int .i64 v) b.Before,some<|.iter false false none<|Bu A2 A2<|l19++l20]⟩
def YK:St:=⟨(0,.ptr 0 0)::(3,.d<|.int .i64 c)::(49,.osl 2 1 0<|p.Before.length)::(50,.d<|.int .i64 ((List.length (List.set h.Before (Int.toNat 0)<|some (false,Ce<|BQ 0 0 G)):Nat):Int))::(51,.d<|.int .i64 c)::(57,.ptr 3 0)::[],[some<|.box<|Ap p (.osl 1 1 0<|p.Accepts.length)<|.osl 2 1 0<|p.Before.length,some<|.arr 1<|p.Accepts.map eB,some<|.narr 1<|List.map (eMr (λ k=>.int .i64 k)<|λ v=>.int .i64 v) p.Before,some<|.iter false false none<|Bu A2 A2<|l19++l20]⟩
def YL:St:=⟨(0,.ptr 0 0)::(3,.d<|.int .i64 c)::(6,.d<|.int .i64 e1.2)::(49,.osl 2 1 0<|i.Before.length)::(50,.d<|.int .i64 ((List.length (List.set h.Before (Int.toNat 0)<|some (false,Ce<|BQ 0 0 G)):Nat):Int))::(51,.d<|.int .i64 c)::(57,.ptr 3 0)::(69,.d<|.sl<|q.map BE)::(70,.d<|.int .i64 ((q.length:Nat):Int))::(71,.d<|.int .i64 w)::[],[some<|.box<|Ap i (.osl 1 1 0<|i.Accepts.length)<|.osl 2 1 0<|i.Before.length,some<|.arr 1<|i.Accepts.map eB,some<|.narr 1<|List.map (eMr (λ k=>.int .i64 k)<|λ v=>.int .i64 v) i.Before,some<|.iter false false none<|Bu A2 A2<|l19++l20]⟩
def H3:Ad->Ex->St->Prop:=xX 2 6<|λ (y:Ad)=>YK h G c l19 l20 y
def EE:(Ad×Int)->St:=(λ (x:(Ad×Int))=>Jbb h G c e1 l19 l20 q x.1 x.2)
def EF:Empty->Ex->St->Prop:=(λ (_:Empty) _ _=>False)
variable {L r J l s K h G C c u M E o e1 l19 l20 q b w p i}
theorem Hw (x:(Ad×Int)) (z:((Ad×Int)⊕Ad)) (H:B8 n J x.1 x.2=some z):WP (cxk 130 2) (AS Try.f41) [1,0,1,0,0] (AU 2 (ED J) (H2) z) (ED J x):=by
 obtain⟨l,s⟩:=x;refine sr<|ck 1<|en<|sq<|cn H (λ H=>?_)<|λ H=>?_
 ·exact sk<|qz<|sq<|bk 1<|sr<|ck 2<|en<|bx H λ Q I H=>rg (so1 (encN:=(eMr (λ k=>.int .i64 k)<|λ v=>.int .i64 v)) 2 1 I)<|ck 6<|sp (Bd 2 1 I)<|sp (SQ (encN:=(eMr (λ k=>.int .i64 k)<|λ v=>.int .i64 v)) (row:=[Jax (λ k=>.int .i64 k) (λ v=>.int .i64 v) Q]) (row':=[.mp 3]) (k:=2) (sz:=1) (off:=0) (t:=ty 125) (v:=.mp 3) I)<|ae<|qN<|qz<|rg (tr (tr (JN (ek:=(λ k=>.int .i64 k)) (ev:=(λ v=>.int .i64 v)) 2 3 ([]:(List<|Int×Int)) I (by kernel_rfl) (by kernel_rfl))<|sn 35 2 1<|lsS l.Before s.toNat<|some (false,([]:(List<|Int×Int))))<|snc 0 5 2 1<|lsS l.Before s.toNat<|some (false,([]:(List<|Int×Int))))<|ck 2<|ae (by cases H;exact og<|gP [0,28,29] [0,1,2]<|po1<|po1<|pn1 (eMr (λ k=>.int .i64 k)<|λ v=>.int .i64 v) (List.set l.Before s.toNat<|some (false,([]:(List<|Int×Int))))<|Pl.z)
 ·exact ex 0<|qx (by cases H;exact xo rfl<|gP [0] [0,1,2]<|po1<|po1<|pn1 (eMr (λ k=>.int .i64 k)<|λ v=>.int .i64 v) l.Before<|Pl.z)
theorem Hx (x:(Ad×Int)) (z:((Ad×Int)⊕Ad)) (H:BF n h G c e1 q x.1 x.2=some z):WP (cxk 130 2) (AS Try.f41) [1,1,1,1,0,0,1,1,0,0,1,1,0,0,1,1,0,1,1,0,0] (AU 2 (EE h G c e1 l19 l20 q) (H3 h G c l19 l20) z) (EE h G c e1 l19 l20 q x):=by
 obtain⟨b,w⟩:=x;refine sr<|ck 1<|en<|sq<|cn H (λ H=>?_)<|λ H=>?_
 ·refine sk<|qz<|sj (λ (x:Ad)=>YL h G c e1 l19 l20 q w x) (λ (x:Ad)=>B9 n w x) z ?_ (λ e=>?_)
  ·intro i H;exact rz<|ck 2<|ae (by cases H;exact og<|gP [0,3,6,49,50,51,57,69,70,71] [0,1,2,3]<|po1<|po1<|pn1 (eMr (λ k=>.int .i64 k)<|λ v=>.int .i64 v) i.Before<|po1<|Pl.z)
  refine bk 7<|sr<|bx H λ g O H=>sp (AY BE O)<|ck 3<|en<|sr<|ck 4<|bx H λ j P H=>ltP [0,1,2] (GK P) (po1<|po1<|pn1 (eMr (λ k=>.int .i64 k)<|λ v=>.int .i64 v) b.Before<|Pl.z)<|tb (f:=E4<|CF [0,1,2] 5 3) [some<|.box<|Ap b (.osl 1 1 0<|b.Accepts.length)<|.osl 2 1 0<|b.Before.length,some<|.arr 1<|b.Accepts.map eB,some<|.narr 1<|List.map (eMr (λ k=>.int .i64 k)<|λ v=>.int .i64 v) b.Before,some<|.iter false false none<|Bu A2 A2<|l19++l20,some<|.box<|Ji5 g] (po1<|po1<|pn1 (eMr (λ k=>.int .i64 k)<|λ v=>.int .i64 v) b.Before<|po1<|po1<|Pl.z)<|ck 5<|en<|sq<|sr<|ck 5<|gc 1 (!(!j.2))<|ck 1<|gc 4 (!(!j.2))<|pO<|en<|cn H (λ H=>?_)<|λ H=>?_
  ·exact ex 7<|qx<|qH<|qs (gP [0,3,6,49,50,51,57,69,70,71] [0,1,2,3]<|po1<|po1<|pn1 (eMr (λ k=>.int .i64 k)<|λ v=>.int .i64 v) b.Before<|po1<|Pl.z)<|e b H
  ·refine sk<|qz<|sq<|bx H λ A B H=>rg (PP (ek:=(λ k=>.int .i64 k)) (ev:=(λ v=>.int .i64 v)) 2 (B7 B) (by kernel_rfl))<|ck 9<|sp (Bd 2 1<|B7 B)<|sp (IC (encN:=(eMr (λ k=>.int .i64 k)<|λ v=>.int .i64 v)) (row:=[.mp 5]) (k:=2) (sz:=1) (off:=0) (t:=ty 125) (v:=.mp 5)<|B7 B)<|ck 1<|en<|sr<|ck 3<|sp (Mk (enc:=A2) (encK:=A2) (ka:=false) (va:=false) (k:=5) (m:=A) (a:=.d<|.int .i64 g.To) (key:=g.To) (z:=(0:Int)) (vz:=[.int .i64 0]) YH true)<|ck 5<|en<|sr<|ck 5<|gc 1 (!(!(Option.isSome<|AR g.To A)))<|ck 1<|gc 1 (!(!(Option.isSome<|AR g.To A)))<|pO<|en<|cn H (λ H=>?_)<|λ H=>?_
   ·exact rz<|ck 6<|sp (OE (enc:=A2) (encK:=A2) (ka:=false) (va:=false) (k:=5) (m:=A) (a:=.d<|.int .i64 g.To) (key:=g.To) (y:=AZ .i64 e1.2 j.1) (v:=.d<|.int .i64<|AZ .i64 e1.2 j.1) (vz:=[.int .i64 0]) YH)<|ae<|qN<|qs (tr (tr (tr (tr (tr (Wh (ka:=false) (va:=false) (e2:=Bu A2 A2<|Ce<|BQ g.To (AZ .i64 e1.2 j.1) A) 5 (Nf (Eo<|BQ g.To (AZ .i64 e1.2 j.1) A).symm) (by kernel_rfl))<|JN (ek:=(λ k=>.int .i64 k)) (ev:=(λ v=>.int .i64 v)) 2 5 (Ce<|BQ g.To (AZ .i64 e1.2 j.1) A) (B7 B) (by kernel_rfl) (by kernel_rfl))<|sn 49 2 1<|lsS b.Before (Int.toNat<|AZ .i64 c ((g.Cells.length:Nat):Int))<|some (false,Ce<|BQ g.To (AZ .i64 e1.2 j.1) A))<|sn 98 2 1<|lsS b.Before (Int.toNat<|AZ .i64 c ((g.Cells.length:Nat):Int))<|some (false,Ce<|BQ g.To (AZ .i64 e1.2 j.1) A))<|snc 0 5 2 1<|lsS b.Before (Int.toNat<|AZ .i64 c ((g.Cells.length:Nat):Int))<|some (false,Ce<|BQ g.To (AZ .i64 e1.2 j.1) A))<|gP [0,3,6,49,50,51,57,69,70,71] [0,1,2,3]<|po1<|po1<|pn1 (eMr (λ k=>.int .i64 k)<|λ v=>.int .i64 v) (List.set b.Before (Int.toNat<|AZ .i64 c ((g.Cells.length:Nat):Int))<|some (false,Ce<|BQ g.To (AZ .i64 e1.2 j.1) A))<|po1<|Pl.z)<|e ({ Felt:=b.Felt,Budget:=b.Budget,Most:=b.Most,Arcs:=b.Arcs,Accepts:=b.Accepts,Before:=List.set b.Before (Int.toNat<|AZ .i64 c ((g.Cells.length:Nat):Int)) (some (false,Ce<|BQ g.To (AZ .i64 e1.2 j.1) A)) }:Ad) H
   ·exact sk<|qN<|qs (tr (tr (tr (tr (JN (ek:=(λ k=>.int .i64 k)) (ev:=(λ v=>.int .i64 v)) 2 5 A (B7 B) (by kernel_rfl) (by kernel_rfl))<|sn 49 2 1<|lsS b.Before (Int.toNat<|AZ .i64 c ((g.Cells.length:Nat):Int))<|some (false,A))<|sn 98 2 1<|lsS b.Before (Int.toNat<|AZ .i64 c ((g.Cells.length:Nat):Int))<|some (false,A))<|snc 0 5 2 1<|lsS b.Before (Int.toNat<|AZ .i64 c ((g.Cells.length:Nat):Int))<|some (false,A))<|gP [0,3,6,49,50,51,57,69,70,71] [0,1,2,3]<|po1<|po1<|pn1 (eMr (λ k=>.int .i64 k)<|λ v=>.int .i64 v) (List.set b.Before (Int.toNat<|AZ .i64 c ((g.Cells.length:Nat):Int))<|some (false,A))<|po1<|Pl.z)<|e ({ Felt:=b.Felt,Budget:=b.Budget,Most:=b.Most,Arcs:=b.Arcs,Accepts:=b.Accepts,Before:=List.set b.Before (Int.toNat<|AZ .i64 c ((g.Cells.length:Nat):Int)) (some (false,A)) }:Ad) H
 ·exact ex 6<|qx (by cases H;exact xo rfl<|gP [0,3,49,50,51,57] [0,1,2,3]<|po1<|po1<|pn1 (eMr (λ k=>.int .i64 k)<|λ v=>.int .i64 v) b.Before<|po1<|Pl.z)
end
def D9 (b:Ad) (c:(List<|Int×Int)) (a:Int):Ad->Ex->St->Prop:=(λ (x:Ad)=>xX 2 4 (λ (y:Ad)=>Jba b c a y) x)
section
variable (c:Ad) (f:(List (Int×Int))) (b:Int) (g:Ad)
def EG:(List<|Int×Int)->Ad->St:=(λ (l:(List<|Int×Int)) (x:Ad)=>Ja9 c f b l x)
def H4:Ad->Ex->St->Prop:=xX 2 2<|λ (y:Ad)=>Ja8 y
def EH:(Ad×Int)->St:=(λ (x:(Ad×Int))=>Ja7 c f x.1 x.2)
variable {c f b g}
theorem Hy (q:(List (Int×Int))) (x:Ad) (hz:∀ e,e∈q->∃ z,Bf n c f b e x=some z):WP (cxk 130 2) (AS Try.f41) [1,1,1,1,0,0,1,1,0,0,1,1,0,0] (YB 2 (EG c f b) (D9 c f b) (EF) (λ (e:(Int×Int)) (x:Ad)=>Bf n c f b e x) q x) (EG c f b q x):=by
 revert hz;generalize x=u;intro hz;refine sq<|rn 0 (.refl _)<|nd0<|nxt (yok _ _) (encK:=A2) (enc:=A2) (ka:=false) (va:=false) 3 (λ hl=>?_)<|λ e1 l19 l20 hl1=>bE (hz e1<|JfF hl1) λ z hF=>?_
 ·exact ck 1<|en<|sq<|cF<|ex 4<|qx<|mE hl rfl<|gP [0,49,50,51] [0,1,2]<|po1<|po1<|pn1 (eMr (λ k=>.int .i64 k)<|λ v=>.int .i64 v) u.Before<|Pl.z
 ·have H:=hF;exact ck 1<|en<|sq<|cT<|sk<|qz<|bk 5<|sr<|xr (xok _ _)<|ck 4<|en<|sr<|ck 5<|bx H λ M w H=>sp (AY (eL BE) w)<|ck 1<|sp (AT BE M)<|ck 1<|en<|bk 6<|bx H λ O A H=>lX (Hx (l19:=l19) (l20:=l20)) A (tr (Xc 3 (by kernel_rfl))<|gP [0,3,6,49,50,51,57,69,70,71] [0,1,2,3]<|po1<|po1<|pn1 (eMr (λ k=>.int .i64 k)<|λ v=>.int .i64 v) u.Before<|po1<|Pl.z) rfl λ s B=>qH<|qN (by cases H;exact mg hl1 hF<|tr (B)<|gP [0,3,49,50,51,57] [0,1,2,3]<|po1<|po1<|pn1 (eMr (λ k=>.int .i64 k)<|λ v=>.int .i64 v) O.Before<|po1<|Pl.z)
theorem Hz (x:(Ad×Int)) (z:((Ad×Int)⊕Ad)) (H:BG n c f x.1 x.2=some z):WP (cxk 130 2) (AS Try.f41) [1,1,1,1,0,0] (AU 2 (EH c f) (H4) z) (EH c f x):=by
 obtain⟨j,b⟩:=x;refine sr<|ck 1<|en<|sq<|cn H (λ H=>?_)<|λ H=>?_
 ·refine sk<|qz<|sq<|bk 3<|sq<|bx H λ p o H=>rg (Jay (ek:=(λ k=>.int .i64 k)) (ev:=(λ v=>.int .i64 v)) 2 (HR o) (by kernel_rfl))<|ck 1<|sp (Bd 2 1<|HR o)<|sp (IC (encN:=(eMr (λ k=>.int .i64 k)<|λ v=>.int .i64 v)) (row:=[.fmp<|Gz (λ k=>.int .i64 k) (λ v=>.int .i64 v) p.2]) (k:=2) (sz:=1) (off:=0) (t:=ty 125) (v:=.fmp<|Gz (λ k=>.int .i64 k) (λ v=>.int .i64 v) p.2)<|HR o)<|ck 2<|en<|sq<|rg (tr (tr (scl (encN:=(eMr (λ k=>.int .i64 k)<|λ v=>.int .i64 v)) (xss:=j.Before) b [.fmp<|Gz (λ k=>.int .i64 k) (λ v=>.int .i64 v) p.2] 1 2<|some (true,p.2))<|sn 49 2 1<|lsS j.Before b.toNat<|some (true,p.2))<|snc 0 5 2 1<|lsS j.Before b.toNat<|some (true,p.2))<|ck 1<|xr (xok _ _)<|xri (ek:=(λ k=>.int .i64 k)) (ev:=(λ v=>.int .i64 v)) (m:=p.2) 3<|en<|bk 4 ?_;have hD:=ST H;refine lM (F:=(λ (e:(Int×Int)) (x:Ad)=>Bf n c f b e x)) (E:=EF) (E0:=D9 c f b) Hy (gP [0,3,49,50,51,57] [0,1,2,3]<|po1<|po1<|pn1 (eMr (λ k=>.int .i64 k)<|λ v=>.int .i64 v) (List.set j.Before b.toNat<|some (true,p.2))<|po1<|Pl.z) (λ ord ho=>bI<|hD ord ho) (λ ord P ho hy e s hE=>xQ hE<|λ he C=>?_)<|λ ord r ho hy e s hE=>?_
  ·subst he;have H:=bK (hD ord ho) hy;exact qH<|qN<|qs (C)<|rz<|ck 2<|ae (by cases H;exact og<|gP [0,49,50,51] [0,1,2]<|po1<|po1<|pn1 (eMr (λ k=>.int .i64 k)<|λ v=>.int .i64 v) P.Before<|Pl.z)
  ·cases r
 ·exact ex 2<|qx (by cases H;exact xo rfl<|gP [] [0,1,2]<|po1<|po1<|pn1 (eMr (λ k=>.int .i64 k)<|λ v=>.int .i64 v) j.Before<|Pl.z)
theorem Jk {z} (H:Db n g=some z):Bg Try.prog 41 [.ptr 0 0] [some (.box (KC g (.osl 1 1 0 (g.Accepts.length)))),some (.arr 1 (g.Accepts.map eB))] 2 (.tup []) [some (.box (Ap z (.osl 1 1 0 (z.Accepts.length)) (.osl 2 1 0 (z.Before.length)))),some (.arr 1 (z.Accepts.map eB)),some (.narr 1 (List.map (eMr (λ k=>.int .i64 k) (λ v=>.int .i64 v)) z.Before))]:=by
 exact fL 130 2 (Ja3 g) Try.func41<|sr<|ck 5<|sp (AT Bt g.Felt)<|ck 1<|bx H λ G h H=>sp (Jam 1 (ez:=[.nilm]) h)<|ck 3<|en<|sq<|sq<|rg (tr (tr (JfH (ek:=(λ k=>.int .i64 k)) (ev:=(λ v=>.int .i64 v)) (zs:=G) 2 (Int.toNat<|AZ .i64 ((g.Felt.length:Nat):Int) 1) (SS h) (by kernel_rfl))<|sn 21 2 1<|Oz h)<|snc 0 5 2 1<|Oz h)<|ck 6<|en<|bk 0<|bx H λ c I H=>lX Hw I (gP [0,28,29] [0,1,2]<|po1<|po1<|pn1 (eMr (λ k=>.int .i64 k)<|λ v=>.int .i64 v) G<|Pl.z) rfl λ s J=>qH<|qs (J)<|sq<|bx H λ f i H=>rg (PP (ek:=(λ k=>.int .i64 k)) (ev:=(λ v=>.int .i64 v)) 2 (B7 i) (by kernel_rfl))<|ck 4<|sp (Bd 2 1<|B7 i)<|sp (IC (encN:=(eMr (λ k=>.int .i64 k)<|λ v=>.int .i64 v)) (row:=[.mp 3]) (k:=2) (sz:=1) (off:=0) (t:=ty 125) (v:=.mp 3)<|B7 i)<|sp (OE (enc:=A2) (encK:=A2) (ka:=false) (va:=false) (k:=3) (m:=f) (a:=.d<|.int .i64 0) (key:=0) (y:=0) (v:=.d<|.int .i64 0) (vz:=[.int .i64 0]) YH)<|en<|sq<|rg (tr (tr (tr (Wh (ka:=false) (va:=false) (e2:=Bu A2 A2<|Ce<|BQ 0 0 f) 3 (Nf (Eo<|BQ 0 0 f).symm) (by kernel_rfl))<|JN (ek:=(λ k=>.int .i64 k)) (ev:=(λ v=>.int .i64 v)) 2 3 (Ce<|BQ 0 0 f) (B7 i) (by kernel_rfl) (by kernel_rfl))<|sn 43 2 1<|lsS c.Before (Int.toNat 0)<|some (false,Ce<|BQ 0 0 f))<|snc 0 5 2 1<|lsS c.Before (Int.toNat 0)<|some (false,Ce<|BQ 0 0 f))<|ck 6<|en<|bk 2<|bx H λ Q K H=>lX Hz K (gP [0,49,50,51] [0,1,2]<|po1<|po1<|pn1 (eMr (λ k=>.int .i64 k)<|λ v=>.int .i64 v) (List.set c.Before (Int.toNat 0)<|some (false,Ce<|BQ 0 0 f))<|Pl.z) rfl λ s L=>qH (by cases H;exact pL'<|rl (s':=Ja4 z)<|tr (L)<|gP [] [0,1,2]<|po1<|po1<|pn1 (eMr (λ k=>.int .i64 k)<|λ v=>.int .i64 v) z.Before<|Pl.z)
end
section
variable (a:Ai)
def Jbc:St:=⟨(0,.agg [.d<|.str a.Arc.Print,.d<|.str a.Arc.Cells,.d<|.int .i64 a.Arc.To,.d<|.int .i64 a.More,.d<|.sl<|a.List.map Ax,.d<|.int .i64 a.First.Cost,.d<|.str a.First.Text,.d<|.str a.First.Cells])::[],[]⟩
def Jbd:St:=⟨(2,.d<|.bool<|((a.List.length:Nat):Int)==0)::[],[]⟩
variable {a}
theorem EZ {z} (H:DZ n a=some z):Bg Try.prog 68 [.agg (DS a)] [] 0 (.d (.bool (((a.List.length:Nat):Int)==0))) []:=by
 exact fL 7 0 (Jbc a) Try.func68<|sr<|ck 2<|en<|sr<|ck 2<|sp (AT Ax a.List)<|ck 2<|en<|re (by cases H;exact pL<|rl (s':=Jbd a)<|sg [2])
end
section
variable (a:(List Ai)) (c:Int) (b:Int)
def Jbe:St:=⟨(0,.osl 0 8 0<|a.length)::(1,.clo 68 [])::[],[some<|.arr 8<|a.map AL]⟩
def UG:St:=⟨(4,.d<|.int .i64 c)::[],[some<|.arr 8<|a.map AL]⟩
def Jbf:St:=⟨(0,.osl 0 8 0<|a.length)::(1,.clo 68 [])::(7,.d<|.int .i64 ((a.length:Nat):Int))::(8,.d<|.int .i64 b)::[],[some<|.arr 8<|a.map AL]⟩
def Jbg:St:=⟨[],[some<|.arr 8<|a.map AL]⟩
def QT:(Unit⊕Int)->Ex->St->Prop:=xS (xX 1 0<|λ (_:Unit)=>Jbg a)<|xL 1 ty Try.f72 (λ (y:Int)=>.d<|.int .i64 y)<|λ (_:Int)=>[some<|.arr 8<|a.map AL]
def K5:Int->St:=(λ (x:Int)=>Jbf a x)
variable {a c b}
theorem JZ (x:Int) (z:(Int⊕(Unit⊕Int))) (H:FO n a x=some z):WP (cxk 19 1) (AS Try.f72) [1,0,1,0,0] (AU 1 (K5 a) (QT a) z) (K5 a x):=by
 revert H;generalize x=b;intro H;refine sr<|ck 1<|en<|sq<|cn H (λ H=>?_)<|λ H=>?_
 ·refine sk<|qz<|sq<|bk 1<|sr<|ck 2<|en<|sr<|ck 3<|bx H λ k e H=>sp (Bd 0 8 e)<|sp (BT AL 0 0 (ty 132) e)<|bx H λ l g H=>xc (xok _ _) [] (EZ g)<|en<|cn H (λ H=>?_)<|λ H=>?_
  ·exact sr<|ck 2<|en<|re<|qR<|qr (by cases H;exact lo rfl<|rl (s':=UG a b)<|sg [4])
  ·exact sk<|qN<|qz<|rz<|ck 2<|ae (by cases H;exact og<|sg [0,1,7,8])
 ·exact ex 0<|qx (by cases H;exact xo rfl<|sg [])
theorem UH {z} (H:Mm n a=some z):Bg Try.prog 72 [.osl 0 8 0 (a.length),.clo 68 []] [some (.arr 8 (a.map AL))] 1 (.d (.int .i64 z)) [some (.arr 8 (a.map AL))]:=by
 refine fL 19 1 (Jbe a) Try.func72<|sr<|ck 1<|en<|sq<|sr<|ck 3<|en<|bk 0<|bx H λ j f H=>?_;rcases j with m|o
 ·exact lX JZ f (sg [0,1,7,8]) rfl λ s h=>qH<|qs (h)<|sr<|ck 1<|en<|re (by cases H;exact pL<|rl (s':=UG a (-1))<|sg [4])
 ·exact lL JZ f (sg [0,1,7,8]) rfl λ s i=>qR<|qr (by cases H;exact pL i)
end
section
variable (b:(List Ai)) (i:(List Ai)) (c:(List Ai)) (j:Int) (h:Int) (l:(List Ai)) (t:Int) (f:(List Ai)) (q:Int)
def Jbh:St:=⟨(0,.osl 0 8 0<|b.length)::(1,.clo 68 [])::[],[some<|.arr 8<|b.map AL]⟩
def UI:St:=⟨(4,.osl 1 8 0<|i.length)::[],[none,some<|.arr 8<|i.map AL]⟩
def Jbi:St:=⟨(0,.osl 0 8 0<|c.length)::(1,.clo 68 [])::(5,.d<|.int .i64 j)::(6,.d<|.int .i64 h)::[],[some<|.arr 8<|c.map AL]⟩
def Jbj:St:=⟨(0,.osl 0 8 0<|l.length)::(5,.d<|.int .i64 t)::[],[some<|.arr 8<|l.map AL]⟩
def Jbk:St:=⟨(0,.osl 0 8 0<|f.length)::(1,.clo 68 [])::(5,.d<|.int .i64 q)::(6,.d<|.int .i64 h)::[],[some<|.arr 8<|f.map AL]⟩
def P3:((List Ai)×Int)->Ex->St->Prop:=xX 1 0<|λ (y:((List Ai)×Int))=>Jbj y.1 y.2
def J0:((List Ai)×Int×Int)->St:=(λ (x:((List Ai)×Int×Int))=>Jbi x.1 x.2.1 x.2.2)
variable {b i c j h l t f q}
theorem Oi (x:((List Ai)×Int×Int)) (z:(((List Ai)×Int×Int)⊕((List Ai)×Int))) (H:Gh n x.1 x.2.1 x.2.2=some z):WP (cxk 42 1) (AS Try.f67) [1,1,1,0,1,0,0] (AU 1 (J0) (P3) z) (J0 x):=by
 obtain⟨c,j,h⟩:=x;refine sq<|sr<|ck 4<|en<|cn H (λ H=>?_)<|λ H=>?_
 ·refine sk<|qz<|sj (λ (x:((List Ai)×Int))=>Jbk h x.1 x.2) (λ (x:((List Ai)×Int))=>IE n h x.1 x.2) z ?_ (λ a=>?_)
  ·rintro⟨f,q⟩ H;exact rz<|ck 3<|ae (by cases H;exact og<|sg [0,1,5,6])
  refine bk 1<|sr<|ck 2<|bx H λ E o H=>sp (Bd 0 8 o)<|sp (BT AL 0 0 (ty 132) o)<|ck 2<|en<|sr<|ck 2<|bx H λ G u H=>xc (xok _ _) [] (EZ u)<|ck 1<|en<|cn H (λ H=>?_)<|λ H=>?_
  ·exact sr<|ck 3<|bx H λ I p H=>sp (Bd 0 8 p)<|bx H λ C e H=>stA AL 0 0 (ty 132) p e<|en<|rg (tr (tr (tr (sn 0 0 8<|Eh e)<|sn 17 0 8<|Eh e)<|sn 22 0 8<|Eh e)<|sn 30 0 8<|Eh e)<|ck 3<|ae<|qN<|qs (sg [0,1,5,6])<|a (C,(AZ .i64 j 1)) H
  ·exact sk<|qN<|qs (sg [0,1,5,6])<|a (c,j) H
 ·exact ex 0<|qx (by cases H;exact xo rfl<|sg [0,5])
theorem Ta {z} (H:Kz n b=some z):Bg Try.prog 67 [.osl 0 8 0 (b.length),.clo 68 []] [some (.arr 8 (b.map AL))] 1 (.osl 1 8 0 (z.length)) [none,some (.arr 8 (z.map AL))]:=by
 refine fL 42 1 (Jbh b) Try.func67<|sr<|ck 1<|en<|sr<|ck 2<|bx H λ J v H=>lt [0] (UH v)<|ck 1<|en<|sq<|sr<|ck 2<|en<|cn H (λ H=>?_)<|λ H=>?_
 ·exact sr<|ck 2<|en<|re<|qr (by cases H;exact pL<|rl (s':=UI b)<|tr (Jab (k:=0) (sz:=8) 4 (b.map AL) (b.length) (by kernel_rfl) Di leM rfl)<|sg [4])
 ·exact sk<|qz<|sq<|sr<|ck 3<|en<|bk 0<|bx H λ r w H=>lX Oi w (sg [0,1,5,6]) rfl λ s A=>qH<|qs (A)<|sr<|ck 2<|bx H λ K B H=>sp (PM 0 8 B)<|bx H λ L m H=>xzP (xok _ _) AL 0 8 (0+Int.toNat r.2) (Int.toNat ((r.1.length:Nat):Int)-Int.toNat r.2) m<|en<|sq<|rg (tr (sn 0 0 8<|Ux m)<|sn 36 0 8<|Ux m)<|ck 2<|bx H λ M g H=>sp (PM 0 8 g)<|ck 1<|en<|re (by cases H;exact pL<|rl (s':=UI z)<|tr (Jab (k:=0) (sz:=8) 4 (z.map AL) (z.length) (by kernel_rfl) (Ox g) (SK (enc:=AL) g)<|SL g)<|sg [4])
end
end Go.AI
end
section
namespace Go.AI
open Go.Proofs
set_option maxRecDepth 10000
variable {n:Nat}
section
variable (a:Int) (b:(List Ai)) (c:(List Ai))
def Jbl:St:=⟨(0,.eptr 0 8 (0+Int.toNat a) 0)::[],[some<|.arr 8<|b.map AL]⟩
def Jbm:St:=⟨[],[some<|.arr 8<|c.map AL]⟩
variable {a b c}
theorem H5 {z} (H:D5 n a b=some z):Bg Try.prog 69 [.eptr 0 8 (0+Int.toNat a) 0] [some (.arr 8 (b.map AL))] 1 (.tup []) [some (.arr 8 (z.map AL))]:=by
 exact fL 31 1 (Jbl a b) Try.func69<|rz<|ck 4<|bx H λ m d H=>sp (BT AL 0 3 (ty 3) d)<|ck 3<|bx H λ o e H=>sp (BT AL 0 4 (ty 99) e)<|bx H λ p f H=>sp (AY Ax f)<|ck 7<|bx H λ q g H=>sp (BT AL 0 0 (ty 9) g)<|ck 3<|bx H λ r h H=>sp (BT AL 0 4 (ty 99) h)<|bx H λ s i H=>sp (AY Ax i)<|ck 2<|bx H λ v j H=>sp (SP j)<|ck 3<|bx H λ t k H=>bx H λ u l H=>stA AL 0 5 (ty 102) k l<|ae (by cases H;exact pL'<|rl (s':=Jbm z)<|sg [])
end
section
variable (a:Ai) (b:Ai) (c:Int)
def Jbn:St:=⟨(0,.agg [.d<|.str a.Arc.Print,.d<|.str a.Arc.Cells,.d<|.int .i64 a.Arc.To,.d<|.int .i64 a.More,.d<|.sl<|a.List.map Ax,.d<|.int .i64 a.First.Cost,.d<|.str a.First.Text,.d<|.str a.First.Cells])::(1,.agg [.d<|.str b.Arc.Print,.d<|.str b.Arc.Cells,.d<|.int .i64 b.Arc.To,.d<|.int .i64 b.More,.d<|.sl<|b.List.map Ax,.d<|.int .i64 b.First.Cost,.d<|.str b.First.Text,.d<|.str b.First.Cells])::[],[]⟩
def Jbo:St:=⟨(4,.d<|.int .i64 c)::[],[]⟩
variable {a b c}
theorem J1 {z} (H:EV n a b=some z):Bg Try.prog 71 [.agg (DS a),.agg (DS b)] [] 0 (.d (.int .i64 z)) []:=by
 exact fL 10 0 (Jbn a b) Try.func71<|sr<|ck 3<|en<|sr<|ck 4<|bx H λ f e H=>ca true (D1 e)<|ck 1<|en<|re (by cases H;exact pL<|rl (s':=Jbo z)<|sg [4])
end
section
variable (a:(List Ai)) (f:Ai) (e:Ai) (c:Int) (k:Ai) (j:Ai)
def Jbp:St:=⟨(0,.osl 0 8 0<|a.length)::(1,.clo 71 [])::[],[some<|.arr 8<|a.map AL]⟩
def Jbq:St:=⟨(4,.ptr 1 0)::[],[some<|.arr 8<|a.map AL,some<|.box<|DS f]⟩
def Jbr:St:=⟨(0,.osl 0 8 0<|a.length)::(1,.clo 71 [])::(4,.ptr 1 0)::(5,.ptr 2 0)::(6,.d<|.int .i64 c)::[],[some<|.arr 8<|a.map AL,some<|.box [.d<|.str [],.d<|.str [],.d<|.int .i64 0,.d<|.int .i64 0,.osl 3 3 0<|List.length ([]:List Ag),.d<|.int .i64 0,.d<|.str [],.d<|.str []],some<|.box<|DS e,some<|.arr 3<|List.map Ax ([]:List Ag)]⟩
def Jbs:St:=⟨(4,.ptr 1 0)::(5,.ptr 2 0)::[],[some<|.arr 8<|a.map AL,some<|.box [.d<|.str [],.d<|.str [],.d<|.int .i64 0,.d<|.int .i64 0,.osl 3 3 0<|List.length ([]:List Ag),.d<|.int .i64 0,.d<|.str [],.d<|.str []],some<|.box<|DS k,some<|.arr 3<|List.map Ax ([]:List Ag)]⟩
def Jbt:St:=⟨(0,.osl 0 8 0<|a.length)::(1,.clo 71 [])::(4,.ptr 1 0)::(5,.ptr 2 0)::(6,.d<|.int .i64 c)::[],[some<|.arr 8<|a.map AL,some<|.box [.d<|.str [],.d<|.str [],.d<|.int .i64 0,.d<|.int .i64 0,.osl 3 3 0<|List.length ([]:List Ag),.d<|.int .i64 0,.d<|.str [],.d<|.str []],some<|.box<|DS j,some<|.arr 3<|List.map Ax ([]:List Ag)]⟩
def Oj:Ai->Ex->St->Prop:=xX 1 0<|λ (y:Ai)=>Jbs a y
def I9:(Ai×Int)->St:=(λ (x:(Ai×Int))=>Jbr a x.1 x.2)
variable {a f e c k j}
theorem Nr (x:(Ai×Int)) (z:((Ai×Int)⊕Ai)) (H:FB n a x.1 x.2=some z):WP (cxk 33 1) (AS Try.f70) [1,1,1,0,1,0,0] (AU 1 (I9 a) (Oj a) z) (I9 a x):=by
 obtain⟨e,c⟩:=x;refine sq<|sr<|ck 4<|en<|cn H (λ H=>?_)<|λ H=>?_
 ·refine sk<|qz<|sj (λ (x:Ai)=>Jbt a c x) (λ (x:Ai)=>FA n c x) z ?_ (λ b=>?_)
  ·intro j H;exact rz<|ck 3<|ae (by cases H;exact og<|sg [0,1,4,5,6])
  refine bk 1<|sq<|rx 8 6 (.refl _)<|ck 3<|bx H λ q g H=>sp (Bd 0 8 g)<|sp (BT AL 0 0 (ty 132) g)<|ck 1<|mx<|bx H λ r l H=>xc (xok _ _) [] (J1 l)<|nx 8 7<|mx<|ck 1<|nz<|qz<|cn H (λ H=>?_)<|λ H=>?_
  ·exact rz<|ck 2<|bx H λ p h H=>sp (Bd 0 8 h)<|sp (BT AL 0 0 (ty 132) h)<|ck 1<|ae<|qN<|qs (sg [0,1,4,5,6])<|b p H
  ·exact sk<|qN<|qs (sg [0,1,4,5,6])<|b e H
 ·exact ex 0<|qx (by cases H;exact xo rfl<|sg [4,5])
theorem QU {z} (H:IF n a=some z):Bg Try.prog 70 [.osl 0 8 0 (a.length),.clo 71 []] [some (.arr 8 (a.map AL))] 1 (.agg [.d (.str z.Arc.Print),.d (.str z.Arc.Cells),.d (.int .i64 z.Arc.To),.d (.int .i64 z.More),.d (.sl (z.List.map Ax)),.d (.int .i64 z.First.Cost),.d (.str z.First.Text),.d (.str z.First.Cells)]) [some (.arr 8 (a.map AL)),some (.box (DS z))]:=by
 refine fL 33 1 (Jbp a) Try.func70<|sr<|ck 1<|en<|sq<|sr<|ck 3<|en<|cn H (λ H=>?_)<|λ H=>?_
 ·cases H
 ·exact sk<|qz<|sr<|ck 1<|bx H λ t i H=>sp (Bd 0 8 i)<|sp (BT AL 0 0 (ty 132) i)<|ck 2<|en<|sq<|sr<|ck 1<|en<|bk 0<|bx H λ u m H=>lX Nr m (tr (Fv 1 4 3 (by kernel_rfl))<|sg [0,1,4,5,6]) rfl λ s o=>qH<|qs (o)<|sr<|ck 2<|en<|re (by cases H;exact pL<|rl (s':=Jbq a z)<|sg [4])
end
section
variable (a:Ai) (b:Ai) (c:Bool)
def Jbu:St:=⟨(0,.agg [.d<|.str a.Arc.Print,.d<|.str a.Arc.Cells,.d<|.int .i64 a.Arc.To,.d<|.int .i64 a.More,.d<|.sl<|a.List.map Ax,.d<|.int .i64 a.First.Cost,.d<|.str a.First.Text,.d<|.str a.First.Cells])::(1,.ptr 0 0)::[],[some<|.box<|DS b]⟩
def Jbv:St:=⟨(3,.d<|.bool c)::[],[some<|.box<|DS b]⟩
variable {a b c}
theorem Jl {z} (H:Ep n a b=some z):Bg Try.prog 73 [.agg (DS a),.ptr 0 0] [some (.box (DS b))] 1 (.d (.bool z)) [some (.box (DS b))]:=by
 exact fL 8 1 (Jbu a b) Try.func73<|sr<|ck 2<|en<|sr<|ck 2<|bx H λ f e H=>ca false (KP e)<|ck 2<|en<|re (by cases H;exact pL<|rl (s':=Jbv b<|f==0)<|sg [3])
end
section
variable (b:Ai) (a:(List Ai)) (e:Int) (c:Int)
def Jbw:St:=⟨(0,.osl 0 8 0<|a.length)::(1,.clo 73 [.ptr 1 0])::[],[some<|.arr 8<|a.map AL,some<|.box<|DS b]⟩
def UJ:St:=⟨(4,.d<|.int .i64 e)::[],[some<|.arr 8<|a.map AL,some<|.box<|DS b]⟩
def Jbx:St:=⟨(0,.osl 0 8 0<|a.length)::(1,.clo 73 [.ptr 1 0])::(7,.d<|.int .i64 ((a.length:Nat):Int))::(8,.d<|.int .i64 c)::[],[some<|.arr 8<|a.map AL,some<|.box<|DS b]⟩
def Jby:St:=⟨[],[some<|.arr 8<|a.map AL,some<|.box<|DS b]⟩
def Ns:(Unit⊕Int)->Ex->St->Prop:=xS (xX 2 0<|λ (_:Unit)=>Jby b a)<|xL 2 ty Try.f72 (λ (y:Int)=>.d<|.int .i64 y)<|λ (_:Int)=>[some<|.arr 8<|a.map AL,some<|.box<|DS b]
def H6:Int->St:=(λ (x:Int)=>Jbx b a x)
variable {b a e c}
theorem Hl (x:Int) (z:(Int⊕(Unit⊕Int))) (H:EW n b a x=some z):WP (cxk 19 2) (AS Try.f72) [1,0,1,0,0] (AU 2 (H6 b a) (Ns b a) z) (H6 b a x):=by
 revert H;generalize x=c;intro H;refine sr<|ck 1<|en<|sq<|cn H (λ H=>?_)<|λ H=>?_
 ·refine sk<|qz<|sq<|bk 1<|sr<|ck 2<|en<|sr<|ck 3<|bx H λ l f H=>sp (Bd 0 8 f)<|sp (BT AL 0 0 (ty 132) f)<|bx H λ m h H=>xc (xok _ _) [1] (Jl h)<|en<|cn H (λ H=>?_)<|λ H=>?_
  ·exact sr<|ck 2<|en<|re<|qR<|qr (by cases H;exact lo rfl<|rl (s':=UJ b a c)<|sg [4])
  ·exact sk<|qN<|qz<|rz<|ck 2<|ae (by cases H;exact og<|sg [0,1,7,8])
 ·exact ex 0<|qx (by cases H;exact xo rfl<|sg [])
theorem P4 {z} (H:Hd n b a=some z):Bg Try.prog 72 [.osl 0 8 0 (a.length),.clo 73 [.ptr 1 0]] [some (.arr 8 (a.map AL)),some (.box (DS b))] 2 (.d (.int .i64 z)) [some (.arr 8 (a.map AL)),some (.box (DS b))]:=by
 refine fL 19 2 (Jbw b a) Try.func72<|sr<|ck 1<|en<|sq<|sr<|ck 3<|en<|bk 0<|bx H λ k g H=>?_;rcases k with o|p
 ·exact lX Hl g (sg [0,1,7,8]) rfl λ s i=>qH<|qs (i)<|sr<|ck 1<|en<|re (by cases H;exact pL<|rl (s':=UJ b a (-1))<|sg [4])
 ·exact lL Hl g (sg [0,1,7,8]) rfl λ s j=>qR<|qr (by cases H;exact pL j)
end
theorem YM {n:Nat} {b c:Int} {a:(List Ai)} {z:(List Ai)} (H:S1 n b c a=some z):Bg Try.prog 74 [.osl 0 8 0 (a.length),.d (.int .i64 b),.d (.int .i64 c)] [some (.arr 8 (a.map AL))] 1 (.osl 1 8 0 (z.length)) [none,some (.arr 8 (z.map AL))]:=JaO (λ _=>rfl) H
theorem UK {n:Nat} {a:(List Ag)} {z:(List Ag)} (H:JQ n a=some z):Bg Try.prog 75 [.osl 0 3 0 (a.length),.clo 76 []] [some (.arr 3 (a.map Ax))] 1 (.tup []) [some (.arr 3 (z.map Ax))]:=Wp Jkh (by decide) Try.isAgg102 Try.sizeOf102 (enc:=Ax) (λ _=>rfl) (λ x d hd=>by simp only[Ax,List.mem_cons,List.not_mem_nil,or_false]at hd;rcases hd with rfl|rfl|rfl<;>rfl) (S0 Try.func76) (λ h=>D1 h) ⟨_,_,Try.func75,rfl,rfl⟩ H
section
variable (l:Int) (f:Ad) (I:(List Ai)) (B:(List Ag)) (w:(List Ai)) (o:(List Ai)) (C:Int) (r:(List Ai)) (j:(List Ai)) (e:(List ((List UInt8)×Ag))) (t:(List ((List UInt8)×Ag))) (A:Int) (s:(List ((List UInt8)×Ag))) (J:(List ((List UInt8)×Ag))) (p:(List Ag)) (q:(List Ag))
def Jbz:St:=⟨(0,.ptr 0 0)::(1,.osl 1 8 0<|I.length)::(2,.d<|.int .i64 l)::[],[some<|.box<|Ap f (.osl 2 1 0<|f.Accepts.length)<|.osl 3 1 0<|f.Before.length,some<|.arr 8<|I.map AL,some<|.arr 1<|f.Accepts.map eB,some<|.narr 1<|List.map (eMr (λ k=>.int .i64 k)<|λ v=>.int .i64 v) f.Before]⟩
def JbA:St:=⟨(6,.osl 4 3 0<|B.length)::[],[some<|.box<|Ap f (.osl 2 1 0<|f.Accepts.length)<|.osl 3 1 0<|f.Before.length,none,some<|.arr 1<|f.Accepts.map eB,some<|.narr 1<|List.map (eMr (λ k=>.int .i64 k)<|λ v=>.int .i64 v) f.Before,some<|.arr 3<|B.map Ax]⟩
def JbB:St:=⟨(0,.ptr 0 0)::(1,.osl 4 8 0<|o.length)::(2,.d<|.int .i64 l)::(21,.d<|.int .i64 ((w.length:Nat):Int))::(22,.d<|.int .i64 C)::[],[some<|.box<|Ap f (.osl 2 1 0<|f.Accepts.length)<|.osl 3 1 0<|f.Before.length,none,some<|.arr 1<|f.Accepts.map eB,some<|.narr 1<|List.map (eMr (λ k=>.int .i64 k)<|λ v=>.int .i64 v) f.Before,some<|.arr 8<|o.map AL]⟩
def JbC:St:=⟨(0,.ptr 0 0)::(1,.osl 4 8 0<|r.length)::(2,.d<|.int .i64 l)::[],[some<|.box<|Ap f (.osl 2 1 0<|f.Accepts.length)<|.osl 3 1 0<|f.Before.length,none,some<|.arr 1<|f.Accepts.map eB,some<|.narr 1<|List.map (eMr (λ k=>.int .i64 k)<|λ v=>.int .i64 v) f.Before,some<|.arr 8<|r.map AL]⟩
def Jm:(List Ai)->Ex->St->Prop:=xX 4 0<|λ (y:(List Ai))=>JbC l f y
def E5:((List Ai)×Int)->St:=(λ (x:((List Ai)×Int))=>JbB l f w x.1 x.2)
def JbD:St:=⟨(0,.ptr 0 0)::(1,.osl 4 8 0<|j.length)::(2,.d<|.int .i64 l)::(8,.mp 5)::[],[some<|.box<|Ap f (.osl 2 1 0<|f.Accepts.length)<|.osl 3 1 0<|f.Before.length,none,some<|.arr 1<|f.Accepts.map eB,some<|.narr 1<|List.map (eMr (λ k=>.int .i64 k)<|λ v=>.int .i64 v) f.Before,some<|.arr 8<|j.map AL,some<|.map false true<|Bu eS Ax e]⟩
def JbE:St:=⟨(8,.mp 4)::[],[some<|.box<|Ap f (.osl 2 1 0<|f.Accepts.length)<|.osl 3 1 0<|f.Before.length,none,some<|.arr 1<|f.Accepts.map eB,some<|.narr 1<|List.map (eMr (λ k=>.int .i64 k)<|λ v=>.int .i64 v) f.Before,some<|.map false true<|Bu eS Ax t]⟩
def JbF:St:=⟨(0,.ptr 0 0)::(1,.osl 4 8 0<|j.length)::(2,.d<|.int .i64 l)::(8,.mp 5)::(10,.d<|.int .i64 A)::(11,.eptr 4 8 (0+Int.toNat A) 0)::[],[some<|.box<|Ap f (.osl 2 1 0<|f.Accepts.length)<|.osl 3 1 0<|f.Before.length,none,some<|.arr 1<|f.Accepts.map eB,some<|.narr 1<|List.map (eMr (λ k=>.int .i64 k)<|λ v=>.int .i64 v) f.Before,some<|.arr 8<|j.map AL,some<|.map false true<|Bu eS Ax s]⟩
def Jn:(List<|(List UInt8)×Ag)->Ex->St->Prop:=xX 4 2<|λ (y:(List<|(List UInt8)×Ag))=>JbE f y
def E6:((List Ai)×(List<|(List UInt8)×Ag))->St:=(λ (x:((List Ai)×(List<|(List UInt8)×Ag)))=>JbD l f x.1 x.2)
def JbG:St:=⟨(15,.osl 4 3 0<|p.length)::(126,.ptr 5 0)::[],[some<|.box<|Ap f (.osl 2 1 0<|f.Accepts.length)<|.osl 3 1 0<|f.Before.length,none,some<|.arr 1<|f.Accepts.map eB,some<|.narr 1<|List.map (eMr (λ k=>.int .i64 k)<|λ v=>.int .i64 v) f.Before,some<|.arr 3<|p.map Ax,some<|.iter false true none<|Bu eS Ax J]⟩
def JbH:St:=⟨(15,.osl 4 3 0<|q.length)::[],[some<|.box<|Ap f (.osl 2 1 0<|f.Accepts.length)<|.osl 3 1 0<|f.Before.length,none,some<|.arr 1<|f.Accepts.map eB,some<|.narr 1<|List.map (eMr (λ k=>.int .i64 k)<|λ v=>.int .i64 v) f.Before,some<|.arr 3<|q.map Ax]⟩
def E7:Empty->Ex->St->Prop:=(λ (_:Empty) _ _=>False)
variable {l f I B w o C r j e t A s J p q}
theorem IN (x:((List Ai)×Int)) (z:(((List Ai)×Int)⊕(List Ai))) (H:B0 n l f w x.1 x.2=some z):WP (cxk 138 4) (AS Try.f57) [1,1,0,1,0,0] (AU 4 (E5 l f w) (Jm l f) z) (E5 l f w x):=by
 obtain⟨o,C⟩:=x;refine sr<|ck 1<|en<|sq<|cn H (λ H=>?_)<|λ H=>?_
 ·exact sk<|qz<|sq<|bk 1<|sr<|ck 2<|en<|rz<|ck 2<|bx H λ aa K H=>sp (Bd 4 8 K)<|bx H λ ab L H=>lt [4] (H5 L)<|bx H λ _ E H=>ae<|qN<|qz<|rg (tr (sn 1 4 8<|HQ E)<|sn 25 4 8<|HQ E)<|ck 2<|ae (by cases H;exact og<|gP [0,1,2,21,22] [0,1,2,3,4]<|po1<|po1<|po1<|pn1 (eMr (λ k=>.int .i64 k)<|λ v=>.int .i64 v) f.Before<|po1<|Pl.z)
 ·exact ex 0<|qx (by cases H;exact xo rfl<|gP [0,1,2] [0,1,2,3,4]<|po1<|po1<|po1<|pn1 (eMr (λ k=>.int .i64 k)<|λ v=>.int .i64 v) f.Before<|po1<|Pl.z)
theorem IP (x:((List Ai)×(List ((List UInt8)×Ag)))) (z:(((List Ai)×(List ((List UInt8)×Ag)))⊕(List ((List UInt8)×Ag)))) (H:Cp n l f x.1 x.2=some z):WP (cxk 138 4) (AS Try.f57) [1,1,1,1,0,0,0] (AU 4 (E6 l f) (Jn f) z) (E6 l f x):=by
 obtain⟨j,e⟩:=x;refine sq<|sr<|ck 3<|en<|cn H (λ H=>?_)<|λ H=>?_
 ·refine sk<|qz<|bk 3<|sr<|ck 1<|bx H λ ac M H=>lt [4] (QU M)<|ck 2<|en<|sr<|ck 1<|xm (xok _ _)<|bx H λ A O H=>lt [4,7] (P4 O)<|ck 1<|en<|sr<|ck 2<|bx H λ h u H=>sp (Bd 4 8 u)<|ck 1<|en<|sr<|ck 3<|sp (BT AL 4 5 (ty 102) u)<|ck 2<|en<|sr<|ck 3<|sp (Mk (enc:=Ax) (encK:=eS) (ka:=false) (va:=true) (k:=5) (m:=e) (a:=.d<|.str h.First.Text) (key:=h.First.Text) (z:=(⟨0,[],[]⟩:Ag)) (vz:=[.int .i64 0,.str [],.str []]) Ji6 true)<|ck 6<|en<|sq<|sr<|ck 6<|gc 2 (!(decide<|h.First.Cost>l))<|ck 1<|sE (g:=((!(decide<|h.First.Cost>l))&&(!(Option.isSome<|AR h.First.Text e)))) (λ hg=>Jd3 eS Ax e)<|ck 1<|gc 4 ((!(decide<|h.First.Cost>l))&&(!(Option.isSome<|AR h.First.Text e)))<|pG (g:=(!(decide<|h.First.Cost>l))) (v:=.d<|.bool<|(!(Option.isSome<|AR h.First.Text e))&&(((e.length:Nat):Int)==f.Most)) (λ hg=>HP (c:=.gv (!(decide<|h.First.Cost>l))<|.d<|.bool<|!(Option.isSome<|AR h.First.Text e)) (a:=.gv ((!(decide<|h.First.Cost>l))&&(!(Option.isSome<|AR h.First.Text e)))<|.d<|.bool<|((e.length:Nat):Int)==f.Most) (b:=.d<|.bool false) rfl rfl rfl ((λ hh=>hh) hg) (λ ht=>by rw[(λ hh=>hh) hg,ht];rfl) trivial)<|pO<|en<|cn H (λ H=>?_)<|λ H=>?_
  ·exact ex 2<|qx<|qX rfl (by cases H;exact xo rfl<|gP [8] [0,1,2,3,5]<|po1<|po1<|po1<|pn1 (eMr (λ k=>.int .i64 k)<|λ v=>.int .i64 v) f.Before<|po1<|Pl.z)
  ·refine sk<|qz<|sr<|ck 4<|sp (BT AL 4 1 (ty 9) u)<|ck 3<|sp (BT AL 4 4 (ty 99) u)<|bx H λ af P H=>sp (AY Ax P)<|ck 2<|bx H λ Q R H=>sp (SP R)<|ck 2<|en<|sj (λ (x:(List<|(List UInt8)×Ag))=>JbF l f j A x) (λ (x:(List<|(List UInt8)×Ag))=>B1 n j A x) z ?_ (λ i=>?_)
   ·intro s H;refine sr<|ck 4<|bx H λ ag S H=>sp (BT AL 4 4 (ty 99) S)<|bx H λ ah T H=>sp (JdV Ax 3 T)<|ck 2<|bx H λ ai U H=>bx H λ aj G H=>stA AL 4 4 (ty 99) U G<|en<|sq<|rg (sn 1 4 8<|Eh G)<|ck 3<|bx H λ Z V H=>sp (BT AL 4 4 (ty 99) V)<|sp (AT Ax Z.List)<|ck 1<|en<|cn H (λ H=>?_)<|λ H=>?_
    ·exact rz<|ck 1<|bx H λ ak W H=>lt [4] (H5 W)<|bx H λ _ X H=>ae<|qN (by cases H;exact og<|tr (sn 1 4 8<|HQ X)<|gP [0,1,2,8] [0,1,2,3,4,5]<|po1<|po1<|po1<|pn1 (eMr (λ k=>.int .i64 k)<|λ v=>.int .i64 v) f.Before<|po1<|po1<|Pl.z)
    ·exact rz<|ck 4<|bx H λ al Y H=>lt [4] (YM Y)<|ck 1<|ae<|qN (by cases H;exact og<|gP [0,1,2,8] [0,1,2,3,6,5]<|po1<|po1<|po1<|pn1 (eMr (λ k=>.int .i64 k)<|λ v=>.int .i64 v) f.Before<|po1<|po1<|Pl.z)
   refine sr<|ck 4<|gc 1 (!(!(Option.isSome<|AR h.First.Text e)))<|ck 1<|gc 3 (!(!(Option.isSome<|AR h.First.Text e)))<|ck 1<|gc 1 ((!(!(Option.isSome<|AR h.First.Text e)))&&(((Option.getD (AR h.First.Text e) (⟨0,[],[]⟩:Ag)).Cost)==h.First.Cost))<|ck 1<|gc 2 ((!(!(Option.isSome<|AR h.First.Text e)))&&(((Option.getD (AR h.First.Text e) (⟨0,[],[]⟩:Ag)).Cost)==h.First.Cost))<|pG (g:=(!(!(Option.isSome<|AR h.First.Text e)))) (v:=.d<|.bool<|(((Option.getD (AR h.First.Text e) (⟨0,[],[]⟩:Ag)).Cost)==h.First.Cost)&&(Op.bytesLess Q<|(Option.getD (AR h.First.Text e) (⟨0,[],[]⟩:Ag)).Cells)) (λ hg=>HP (c:=.gv (!(!(Option.isSome<|AR h.First.Text e)))<|.d<|.bool<|((Option.getD (AR h.First.Text e) (⟨0,[],[]⟩:Ag)).Cost)==h.First.Cost) (a:=.gv ((!(!(Option.isSome<|AR h.First.Text e)))&&(((Option.getD (AR h.First.Text e) (⟨0,[],[]⟩:Ag)).Cost)==h.First.Cost))<|.d<|.bool<|Op.bytesLess Q<|(Option.getD (AR h.First.Text e) (⟨0,[],[]⟩:Ag)).Cells) (b:=.d<|.bool false) rfl rfl rfl ((λ hh=>hh) hg) (λ ht=>by rw[(λ hh=>hh) hg,ht];rfl) trivial)<|pO<|en<|cn H (λ H=>?_)<|λ H=>?_
   ·exact rz<|ck 4<|sp (OE (enc:=Ax) (encK:=eS) (ka:=false) (va:=true) (k:=5) (m:=e) (a:=.d<|.str h.First.Text) (key:=h.First.Text) (y:=({ Cost:=h.First.Cost,Text:=h.First.Text,Cells:=Q }:Ag)) (v:=.agg [.d<|.int .i64 h.First.Cost,.d<|.str h.First.Text,.d<|.str Q]) (vz:=[.int .i64 0,.str [],.str []]) Ji6)<|ae<|qs (gP [0,1,2,8,10,11] [0,1,2,3,4,5]<|po1<|po1<|po1<|pn1 (eMr (λ k=>.int .i64 k)<|λ v=>.int .i64 v) f.Before<|po1<|po1<|Pl.z)<|i (BQ h.First.Text ({ Cost:=h.First.Cost,Text:=h.First.Text,Cells:=Q }:Ag) e) H
   ·exact sk<|qs (gP [0,1,2,8,10,11] [0,1,2,3,4,5]<|po1<|po1<|po1<|pn1 (eMr (λ k=>.int .i64 k)<|λ v=>.int .i64 v) f.Before<|po1<|po1<|Pl.z)<|i e H
 ·exact ex 2<|qx (by cases H;exact xo rfl<|gP [8] [0,1,2,3,5]<|po1<|po1<|po1<|pn1 (eMr (λ k=>.int .i64 k)<|λ v=>.int .i64 v) f.Before<|po1<|Pl.z)
end
def E1 (a:Ad):(List Ag)->Ex->St->Prop:=(λ (x:(List Ag))=>xX 4 4 (λ (y:(List Ag))=>JbH a y) x)
section
variable (a:Ad) (c:Int) (b:(List Ai))
def E8:(List<|(List UInt8)×Ag)->(List Ag)->St:=(λ (l:(List<|(List UInt8)×Ag)) (x:(List Ag))=>JbG a l x)
variable {a c b}
theorem IQ (g:(List ((List UInt8)×Ag))) (x:(List Ag)) (hz:∀ e,e∈g->∃ z,BA n e x=some z):WP (cxk 138 4) (AS Try.f57) [1,1,1,1,1,1,0,1,0,0] (YB 4 (E8 a) (E1 a) (E7) (λ (e:((List UInt8)×Ag)) (x:(List Ag))=>BA n e x) g x) (E8 a g x):=by
 revert hz;generalize x=h;intro hz;refine sq<|rn 0 (.refl _)<|nd0<|nxt (yok _ _) (encK:=eS) (enc:=Ax) (ka:=false) (va:=true) 5 (λ hl=>?_)<|λ e2 w y hl2=>bE (hz e2<|JfF hl2) λ z hF=>?_
 ·exact ck 1<|en<|sq<|cF<|ex 4<|qx<|mE hl rfl<|gP [15] [0,1,2,3,4]<|po1<|po1<|po1<|pn1 (eMr (λ k=>.int .i64 k)<|λ v=>.int .i64 v) a.Before<|po1<|Pl.z
 ·have H:=hF;exact ck 1<|en<|sq<|cT<|sk<|qz<|bk 5<|sr<|xr (xok _ _)<|ck 3<|en<|rz<|ck 3<|bx H λ A i H=>sp (B5 Ax 4 3 i)<|ck 1<|ae<|qN (by cases H;exact mg hl2 hF<|tr (Xc 5 (by kernel_rfl))<|gP [15,126] [0,1,2,3,8,5]<|po1<|po1<|po1<|pn1 (eMr (λ k=>.int .i64 k)<|λ v=>.int .i64 v) a.Before<|po1<|po1<|Pl.z)
theorem KU {z} (H:CU n c a b=some z):Bg Try.prog 57 [.ptr 0 0,.osl 1 8 0 (b.length),.d (.int .i64 c)] [some (.box (Ap a (.osl 2 1 0 (a.Accepts.length)) (.osl 3 1 0 (a.Before.length)))),some (.arr 8 (b.map AL)),some (.arr 1 (a.Accepts.map eB)),some (.narr 1 (List.map (eMr (λ k=>.int .i64 k) (λ v=>.int .i64 v)) a.Before))] 4 (.osl 4 3 0 (z.length)) [some (.box (Ap a (.osl 2 1 0 (a.Accepts.length)) (.osl 3 1 0 (a.Before.length)))),none,some (.arr 1 (a.Accepts.map eB)),some (.narr 1 (List.map (eMr (λ k=>.int .i64 k) (λ v=>.int .i64 v)) a.Before)),some (.arr 3 (z.map Ax))]:=by
 refine fL 138 4 (Jbz c a b) Try.func57<|sr<|ck 1<|en<|sr<|ck 1<|bx H λ B j H=>lt [1] (Ta j)<|ck 1<|en<|sq<|sr<|ck 3<|en<|bk 0<|bx H λ C m H=>lX IN m (gP [0,1,2,21,22] [0,1,2,3,4]<|po1<|po1<|po1<|pn1 (eMr (λ k=>.int .i64 k)<|λ v=>.int .i64 v) a.Before<|po1<|Pl.z) rfl λ s o=>qH<|qs (o)<|sr<|ck 2<|en<|sq<|bk 2<|bx H λ G p H=>lX IP p (gP [0,1,2,8] [0,1,2,3,4,5]<|po1<|po1<|po1<|pn1 (eMr (λ k=>.int .i64 k)<|λ v=>.int .i64 v) a.Before<|po1<|po1<|Pl.z) rfl λ s q=>qH<|qs (q)<|sr<|ck 1<|en<|sq<|sr<|ck 1<|xr (xok _ _)<|en<|bk 4 ?_;have hD:=ST H;refine lM (F:=(λ (e:((List UInt8)×Ag)) (x:(List Ag))=>BA n e x)) (E:=E7) (E0:=E1 a) IQ (tr (Ar.nilo 15 3 (by kernel_rfl))<|gP [15,126] [0,1,2,3,6,5]<|po1<|po1<|po1<|pn1 (eMr (λ k=>.int .i64 k)<|λ v=>.int .i64 v) a.Before<|po1<|po1<|Pl.z) (λ ord ho=>bI<|hD ord ho) (λ ord I ho hy e s hE=>xQ hE<|λ he t=>?_)<|λ ord r ho hy e s hE=>?_
 ·subst he;have H:=bK (hD ord ho) hy;exact qH<|qs (t)<|sr<|ck 1<|bx H λ J u H=>lt [4] (UK u)<|bx H λ _ f H=>en<|sq<|rg (tr (sn 15 4 3<|HQ f)<|sn 135 4 3<|HQ f)<|ck 2<|en<|re (by cases H;exact pL<|rl (s':=JbA a z)<|gP [6] [0,1,2,3,4]<|po1<|po1<|po1<|pn1 (eMr (λ k=>.int .i64 k)<|λ v=>.int .i64 v) a.Before<|po1<|Pl.z)
 ·cases r
end
section
variable (J:Ad) (s:Ad) (M:(List Ag)) (u:Ad) (C:(List (Option (Bool×(List (Int×(List Ag))))))) (c:Int) (w:Ad) (E:(List (Option (Bool×(List (Int×(List Ag))))))) (O:(List (Int×Int))) (b:Ad) (o:(List (Option (Bool×(List (Int×(List Ag))))))) (A:Ad) (G:(List (Option (Bool×(List (Int×(List Ag))))))) (e3:(Int×Int)) (l33:(List (Int×Int))) (l34:(List (Int×Int))) (p:(List Ai)) (r:(List Hu)) (g:(List (Option (Bool×(List (Int×(List Ag))))))) (h:(List Ai)) (B:Int) (I:(List (Option (Bool×(List (Int×(List Ag))))))) (q:(List Ai)) (i:(List (Option (Bool×(List (Int×(List Ag))))))) (l:(List Ai))
def JbI:St:=⟨(0,.ptr 0 0)::[],[some<|.box<|Ap J (.osl 1 1 0<|J.Accepts.length)<|.osl 2 1 0<|J.Before.length,some<|.arr 1<|J.Accepts.map eB,some<|.narr 1<|List.map (eMr (λ k=>.int .i64 k)<|λ v=>.int .i64 v) J.Before]⟩
def JbJ:St:=⟨(2,.d<|.sl<|M.map Ax)::[],[some<|.box<|Ap s (.osl 1 1 0<|s.Accepts.length)<|.osl 2 1 0<|s.Before.length,some<|.arr 1<|s.Accepts.map eB,some<|.narr 1<|List.map (eMr (λ k=>.int .i64 k)<|λ v=>.int .i64 v) s.Before]⟩
def JbK:St:=⟨(0,.ptr 0 0)::(3,.eptr 3 1 0 0)::(4,.d<|.int .i64 c)::[],[some<|.box<|Ap u (.osl 1 1 0<|u.Accepts.length)<|.osl 2 1 0<|u.Before.length,some<|.arr 1<|u.Accepts.map eB,some<|.narr 1<|List.map (eMr (λ k=>.int .i64 k)<|λ v=>.int .i64 v) u.Before,some<|.narr 1<|List.map (eMr (λ k=>.int .i64 k)<|λ v=>.sl<|List.map Ax v) C]⟩
def JbL:St:=⟨(3,.eptr 3 1 0 0)::[],[some<|.box<|Ap w (.osl 1 1 0<|w.Accepts.length)<|.osl 2 1 0<|w.Before.length,some<|.arr 1<|w.Accepts.map eB,some<|.narr 1<|List.map (eMr (λ k=>.int .i64 k)<|λ v=>.int .i64 v) w.Before,some<|.narr 1<|List.map (eMr (λ k=>.int .i64 k)<|λ v=>.sl<|List.map Ax v) E]⟩
def JbM:St:=⟨(0,.ptr 0 0)::(3,.eptr 3 1 0 0)::(4,.d<|.int .i64 c)::(34,.ptr 4 0)::[],[some<|.box<|Ap b (.osl 1 1 0<|b.Accepts.length)<|.osl 2 1 0<|b.Before.length,some<|.arr 1<|b.Accepts.map eB,some<|.narr 1<|List.map (eMr (λ k=>.int .i64 k)<|λ v=>.int .i64 v) b.Before,some<|.narr 1<|List.map (eMr (λ k=>.int .i64 k)<|λ v=>.sl<|List.map Ax v) o,some<|.iter false false none<|Bu A2 A2 O]⟩
def JbN:St:=⟨(0,.ptr 0 0)::(3,.eptr 3 1 0 0)::(4,.d<|.int .i64 c)::[],[some<|.box<|Ap A (.osl 1 1 0<|A.Accepts.length)<|.osl 2 1 0<|A.Before.length,some<|.arr 1<|A.Accepts.map eB,some<|.narr 1<|List.map (eMr (λ k=>.int .i64 k)<|λ v=>.int .i64 v) A.Before,some<|.narr 1<|List.map (eMr (λ k=>.int .i64 k)<|λ v=>.sl<|List.map Ax v) G]⟩
def JbO:St:=⟨(0,.ptr 0 0)::(3,.eptr 3 1 0 0)::(4,.d<|.int .i64 c)::(5,.d<|.int .i64 e3.1)::(6,.d<|.int .i64 e3.2)::(7,.osl 4 8 0<|p.length)::(34,.ptr 5 0)::[],[some<|.box<|Ap b (.osl 1 1 0<|b.Accepts.length)<|.osl 2 1 0<|b.Before.length,some<|.arr 1<|b.Accepts.map eB,some<|.narr 1<|List.map (eMr (λ k=>.int .i64 k)<|λ v=>.int .i64 v) b.Before,some<|.narr 1<|List.map (eMr (λ k=>.int .i64 k)<|λ v=>.sl<|List.map Ax v) o,some<|.arr 8<|p.map AL,some<|.iter false false none<|Bu A2 A2<|l33++l34]⟩
def JbP:St:=⟨(0,.ptr 0 0)::(3,.eptr 3 1 0 0)::(4,.d<|.int .i64 c)::(5,.d<|.int .i64 e3.1)::(6,.d<|.int .i64 e3.2)::(7,.osl 4 8 0<|h.length)::(34,.ptr 5 0)::(68,.d<|.sl<|r.map BE)::(69,.d<|.int .i64 ((r.length:Nat):Int))::(70,.d<|.int .i64 B)::[],[some<|.box<|Ap b (.osl 1 1 0<|b.Accepts.length)<|.osl 2 1 0<|b.Before.length,some<|.arr 1<|b.Accepts.map eB,some<|.narr 1<|List.map (eMr (λ k=>.int .i64 k)<|λ v=>.int .i64 v) b.Before,some<|.narr 1<|List.map (eMr (λ k=>.int .i64 k)<|λ v=>.sl<|List.map Ax v) g,some<|.arr 8<|h.map AL,some<|.iter false false none<|Bu A2 A2<|l33++l34]⟩
def JbQ:St:=⟨(0,.ptr 0 0)::(3,.eptr 3 1 0 0)::(4,.d<|.int .i64 c)::(5,.d<|.int .i64 e3.1)::(6,.d<|.int .i64 e3.2)::(7,.osl 4 8 0<|q.length)::(34,.ptr 5 0)::[],[some<|.box<|Ap b (.osl 1 1 0<|b.Accepts.length)<|.osl 2 1 0<|b.Before.length,some<|.arr 1<|b.Accepts.map eB,some<|.narr 1<|List.map (eMr (λ k=>.int .i64 k)<|λ v=>.int .i64 v) b.Before,some<|.narr 1<|List.map (eMr (λ k=>.int .i64 k)<|λ v=>.sl<|List.map Ax v) I,some<|.arr 8<|q.map AL,some<|.iter false false none<|Bu A2 A2<|l33++l34]⟩
def YN:St:=⟨(0,.ptr 0 0)::(3,.eptr 3 1 0 0)::(4,.d<|.int .i64 c)::(5,.d<|.int .i64 e3.1)::(6,.d<|.int .i64 e3.2)::(7,.osl 4 8 0<|l.length)::(34,.ptr 5 0)::(68,.d<|.sl<|r.map BE)::(69,.d<|.int .i64 ((r.length:Nat):Int))::(70,.d<|.int .i64 B)::[],[some<|.box<|Ap b (.osl 1 1 0<|b.Accepts.length)<|.osl 2 1 0<|b.Before.length,some<|.arr 1<|b.Accepts.map eB,some<|.narr 1<|List.map (eMr (λ k=>.int .i64 k)<|λ v=>.int .i64 v) b.Before,some<|.narr 1<|List.map (eMr (λ k=>.int .i64 k)<|λ v=>.sl<|List.map Ax v) i,some<|.arr 8<|l.map AL,some<|.iter false false none<|Bu A2 A2<|l33++l34]⟩
def HA:((List<|Option<|Bool×(List<|Int×(List Ag)))×(List Ai))->Ex->St->Prop:=xX 3 4<|λ (y:((List<|Option<|Bool×(List<|Int×(List Ag)))×(List Ai)))=>JbQ c b e3 l33 l34 y.1 y.2
def Ea:((List<|Option<|Bool×(List<|Int×(List Ag)))×(List Ai)×Int)->St:=(λ (x:((List<|Option<|Bool×(List<|Int×(List Ag)))×(List Ai)×Int))=>JbP c b e3 l33 l34 r x.1 x.2.1 x.2.2)
def Eb:Empty->Ex->St->Prop:=(λ (_:Empty) _ _=>False)
variable {J s M u C c w E O b o A G e3 l33 l34 p r g h B I q i l}
theorem GW (x:((List (Option (Bool×(List (Int×(List Ag))))))×(List Ai)×Int)) (z:(((List (Option (Bool×(List (Int×(List Ag))))))×(List Ai)×Int)⊕((List (Option (Bool×(List (Int×(List Ag))))))×(List Ai)))) (H:Bx n c b e3 r x.1 x.2.1 x.2.2=some z):WP (cxk 123 3) (AS Try.f42) [1,1,0,1,0,0,1,0,0,1,1,0,0,1,1,0,1,1,1,0,1,0,0] (AU 3 (Ea c b e3 l33 l34 r) (HA c b e3 l33 l34) z) (Ea c b e3 l33 l34 r x):=by
 obtain⟨g,h,B⟩:=x;refine sr<|ck 1<|en<|sq<|cn H (λ H=>?_)<|λ H=>?_
 ·refine sk<|qz<|sj (λ (x:((List<|Option<|Bool×(List<|Int×(List Ag)))×(List Ai)))=>YN c b e3 l33 l34 r B x.1 x.2) (λ (x:((List<|Option<|Bool×(List<|Int×(List Ag)))×(List Ai)))=>Dc n B x.1 x.2) z ?_ (λ e=>?_)
  ·rintro⟨i,l⟩ H;exact rz<|ck 2<|ae (by cases H;exact og<|gP [0,3,4,5,6,7,34,68,69,70] [0,1,2,3,4,5]<|po1<|po1<|pn1 (eMr (λ k=>.int .i64 k)<|λ v=>.int .i64 v) b.Before<|pn1 (eMr (λ k=>.int .i64 k)<|λ v=>.sl<|List.map Ax v) i<|po1<|po1<|Pl.z)
  refine bk 5<|sr<|bx H λ K P H=>sp (AY BE P)<|ck 3<|en<|sr<|ck 4<|bx H λ V Q H=>ltP [0,1,2] (GK Q) (po1<|po1<|pn1 (eMr (λ k=>.int .i64 k)<|λ v=>.int .i64 v) b.Before<|Pl.z)<|tb (f:=E4<|CF [0,1,2] 7 3) [some<|.box<|Ap b (.osl 1 1 0<|b.Accepts.length)<|.osl 2 1 0<|b.Before.length,some<|.arr 1<|b.Accepts.map eB,some<|.narr 1<|List.map (eMr (λ k=>.int .i64 k)<|λ v=>.int .i64 v) b.Before,some<|.narr 1<|List.map (eMr (λ k=>.int .i64 k)<|λ v=>.sl<|List.map Ax v) g,some<|.arr 8<|h.map AL,some<|.iter false false none<|Bu A2 A2<|l33++l34,some<|.box<|Ji5 K] (po1<|po1<|pn1 (eMr (λ k=>.int .i64 k)<|λ v=>.int .i64 v) b.Before<|po1<|po1<|po1<|po1<|Pl.z)<|ck 5<|en<|sr<|ck 1<|en<|cn H (λ H=>?_)<|λ H=>?_
  ·exact sq<|bx H λ T L H=>rg (PP (ek:=(λ k=>.int .i64 k)) (ev:=(λ v=>.sl<|List.map Ax v)) 3 (B7 L) (by kernel_rfl))<|ck 6<|bx H λ W R H=>sp (OB 3 1 0 5 (j:=0) R)<|sp (IC (encN:=(eMr (λ k=>.int .i64 k)<|λ v=>.sl<|List.map Ax v)) (row:=[.mp 7]) (k:=3) (sz:=1) (off:=0) (t:=ty 128) (v:=.mp 7)<|B7 L)<|ck 2<|sp (Mk (enc:=(eL Ax)) (encK:=A2) (ka:=false) (va:=false) (k:=7) (m:=T) (a:=.d<|.int .i64 K.To) (key:=K.To) (z:=([]:(List Ag))) (vz:=[.nil]) YH false)<|ck 1<|en<|rg (JN (ek:=(λ k=>.int .i64 k)) (ev:=(λ v=>.sl<|List.map Ax v)) 3 7 T (B7 L) (by kernel_rfl) (by kernel_rfl))<|ck 6<|bx H λ U S H=>sp (B5 AL 4 8 S)<|ck 1<|ae<|qN<|qs (gP [0,3,4,5,6,7,34,68,69,70] [0,1,2,3,9,5]<|po1<|po1<|pn1 (eMr (λ k=>.int .i64 k)<|λ v=>.int .i64 v) b.Before<|pn1 (eMr (λ k=>.int .i64 k)<|λ v=>.sl<|List.map Ax v) (List.set g (Int.toNat<|Bo (AZ .i64 c ((K.Cells.length:Nat):Int)) 5)<|some (false,T))<|po1<|po1<|Pl.z)<|e ((List.set g (Int.toNat<|Bo (AZ .i64 c ((K.Cells.length:Nat):Int)) 5)<|some (false,T)),U) H
  ·exact sk<|qN<|qs (gP [0,3,4,5,6,7,34,68,69,70] [0,1,2,3,4,5]<|po1<|po1<|pn1 (eMr (λ k=>.int .i64 k)<|λ v=>.int .i64 v) b.Before<|pn1 (eMr (λ k=>.int .i64 k)<|λ v=>.sl<|List.map Ax v) g<|po1<|po1<|Pl.z)<|e (g,h) H
 ·exact ex 4<|qx (by cases H;exact xo rfl<|gP [0,3,4,5,6,7,34] [0,1,2,3,4,5]<|po1<|po1<|pn1 (eMr (λ k=>.int .i64 k)<|λ v=>.int .i64 v) b.Before<|pn1 (eMr (λ k=>.int .i64 k)<|λ v=>.sl<|List.map Ax v) g<|po1<|po1<|Pl.z)
end
def DT (a:Int):(Ad×(List<|Option<|Bool×(List<|Int×(List Ag))))->Ex->St->Prop:=(λ (x:(Ad×(List<|Option<|Bool×(List<|Int×(List Ag)))))=>xX 3 2 (λ (y:(Ad×(List<|Option<|Bool×(List<|Int×(List Ag)))))=>JbN a y.1 y.2) (x.1,x.2))
section
variable (b:Int) (o:Ad)
def Ec:(List<|Int×Int)->(Ad×(List<|Option<|Bool×(List<|Int×(List Ag))))->St:=(λ (l:(List<|Int×Int)) (x:(Ad×(List<|Option<|Bool×(List<|Int×(List Ag)))))=>JbM b l x.1 x.2)
def HB:(Ad×(List<|Option<|Bool×(List<|Int×(List Ag))))->Ex->St->Prop:=xX 3 0<|λ (y:(Ad×(List<|Option<|Bool×(List<|Int×(List Ag)))))=>JbL y.1 y.2
def Ed:(Ad×(List<|Option<|Bool×(List<|Int×(List Ag)))×Int)->St:=(λ (x:(Ad×(List<|Option<|Bool×(List<|Int×(List Ag)))×Int))=>JbK x.1 x.2.1 x.2.2)
variable {b o}
theorem GX (J:(List (Int×Int))) (x:(Ad×(List (Option (Bool×(List (Int×(List Ag)))))))) (hz:∀ e,e∈J->∃ z,Ba n b e x.1 x.2=some z):WP (cxk 123 3) (AS Try.f42) [1,1,0,1,0,0,1,0,0,1,1,0,0] (YB 3 (Ec b) (DT b) (Eb) (λ (e:(Int×Int)) (x:(Ad×(List (Option (Bool×(List (Int×(List Ag))))))))=>Ba n b e x.1 x.2) J x) (Ec b J x):=by
 obtain⟨h,i⟩:=x;refine sq<|rn 0 (.refl _)<|nd0<|nxt (yok _ _) (encK:=A2) (enc:=A2) (ka:=false) (va:=false) 4 (λ hl=>?_)<|λ e3 l33 l34 hl3=>bE (hz e3<|JfF hl3) λ z hF=>?_
 ·exact ck 1<|en<|sq<|cF<|ex 2<|qx<|mE hl rfl<|gP [0,3,4] [0,1,2,3]<|po1<|po1<|pn1 (eMr (λ k=>.int .i64 k)<|λ v=>.int .i64 v) h.Before<|pn1 (eMr (λ k=>.int .i64 k)<|λ v=>.sl<|List.map Ax v) i<|Pl.z
 ·have H:=hF;refine ck 1<|en<|sq<|cT<|sk<|qz<|bk 3<|sr<|xr (xok _ _)<|ck 4<|en<|sr<|ck 1<|en<|sj (λ (x:(List Ai))=>JbO b h i e3 l33 l34 x) (λ (x:(List Ai))=>BV n b h i e3 x) z ?_ (λ c=>?_)
  ·intro L H;refine sq<|sr<|ck 5<|bx H λ ab M H=>sp (AY (eL BE) M)<|ck 1<|sp (AT BE ab)<|ck 1<|en<|bk 4<|bx H λ K O H=>lX (GW (l33:=l33) (l34:=l34)) O (gP [0,3,4,5,6,7,34,68,69,70] [0,1,2,3,4,5]<|po1<|po1<|pn1 (eMr (λ k=>.int .i64 k)<|λ v=>.int .i64 v) h.Before<|pn1 (eMr (λ k=>.int .i64 k)<|λ v=>.sl<|List.map Ax v) i<|po1<|po1<|Pl.z) rfl λ s P=>qH<|qs (P)<|sr<|ck 8<|bx H λ p Q H=>ltP [0,4,1,2] (KU Q) (po1<|po1<|po1<|pn1 (eMr (λ k=>.int .i64 k)<|λ v=>.int .i64 v) h.Before<|Pl.z)<|tb (f:=E4<|CF [0,4,1,2] 6 4) [some<|.box<|Ap h (.osl 1 1 0<|h.Accepts.length)<|.osl 2 1 0<|h.Before.length,some<|.arr 1<|h.Accepts.map eB,some<|.narr 1<|List.map (eMr (λ k=>.int .i64 k)<|λ v=>.int .i64 v) h.Before,some<|.narr 1<|List.map (eMr (λ k=>.int .i64 k)<|λ v=>.sl<|List.map Ax v) K.1,none,some<|.iter false false none<|Bu A2 A2<|l33++l34,some<|.arr 3<|p.map Ax] (po1<|po1<|pn1 (eMr (λ k=>.int .i64 k)<|λ v=>.int .i64 v) h.Before<|po1<|po1<|po1<|po1<|Pl.z)<|ck 1<|en<|sr<|ck 3<|en<|cn H (λ H=>?_)<|λ H=>?_
   ·exact bx H λ R w H=>rg (tr (PP (ek:=(λ k=>.int .i64 k)) (ev:=(λ v=>.sl<|List.map Ax v)) 3 (B7 w) (by kernel_rfl))<|fz (enc:=Ax) (xs:=p) 13 6 3)<|ck 2<|bx H λ ah S H=>sp (OB 3 1 0 5 (j:=0) S)<|sp (IC (encN:=(eMr (λ k=>.int .i64 k)<|λ v=>.sl<|List.map Ax v)) (row:=[.mp 7]) (k:=3) (sz:=1) (off:=0) (t:=ty 128) (v:=.mp 7)<|B7 w)<|ck 2<|sp (OE (enc:=(eL Ax)) (encK:=A2) (ka:=false) (va:=false) (k:=7) (m:=R) (a:=.d<|.int .i64 e3.1) (key:=e3.1) (y:=p) (v:=.d<|.sl<|p.map Ax) (vz:=[.nil]) YH)<|ae<|qN (by cases H;exact mg hl3 hF<|tr (tr (Wh (ka:=false) (va:=false) (e2:=Bu A2 (eL Ax)<|Ce<|BQ e3.1 p R) 7 (Nf (Eo<|BQ e3.1 p R).symm) (by kernel_rfl))<|JN (ek:=(λ k=>.int .i64 k)) (ev:=(λ v=>.sl<|List.map Ax v)) 3 7 (Ce<|BQ e3.1 p R) (B7 w) (by kernel_rfl) (by kernel_rfl))<|gP [0,3,4,34] [0,1,2,3,5]<|po1<|po1<|pn1 (eMr (λ k=>.int .i64 k)<|λ v=>.int .i64 v) h.Before<|pn1 (eMr (λ k=>.int .i64 k)<|λ v=>.sl<|List.map Ax v) (List.set K.1 (Int.toNat<|Bo b 5)<|some (false,Ce<|BQ e3.1 p R))<|po1<|Pl.z)
   ·exact sk<|qN (by cases H;exact mg hl3 hF<|gP [0,3,4,34] [0,1,2,3,5]<|po1<|po1<|pn1 (eMr (λ k=>.int .i64 k)<|λ v=>.int .i64 v) h.Before<|pn1 (eMr (λ k=>.int .i64 k)<|λ v=>.sl<|List.map Ax v) K.1<|po1<|Pl.z)
  refine sr<|ck 5<|sp (AT Bt h.Felt)<|ck 3<|gc 3 (b==((h.Felt.length:Nat):Int))<|ck 1<|bx H λ ai G H=>sE (λ hg=>Bd 1 1<|DW G hg)<|sE (g:=(b==((h.Felt.length:Nat):Int))) (λ hg=>BT eB 1 0 (ty 4)<|DW G hg)<|pA<|en<|cn H (λ H=>?_)<|λ H=>?_
  ·exact rz<|ck 2<|sF<|ck 2<|bx H λ ac T H=>sp (Jai AL 8 T)<|ck 1<|ae<|qs (tr (Xc 4 (by kernel_rfl))<|gP [0,3,4,5,6,7,34] [0,1,2,3,6,4]<|po1<|po1<|pn1 (eMr (λ k=>.int .i64 k)<|λ v=>.int .i64 v) h.Before<|pn1 (eMr (λ k=>.int .i64 k)<|λ v=>.sl<|List.map Ax v) i<|po1<|po1<|Pl.z)<|c ac H
  ·exact sk<|qs (tr (tr (Xc 4 (by kernel_rfl))<|Ar.nilo 7 8 (by kernel_rfl))<|gP [0,3,4,5,6,7,34] [0,1,2,3,5,4]<|po1<|po1<|pn1 (eMr (λ k=>.int .i64 k)<|λ v=>.int .i64 v) h.Before<|pn1 (eMr (λ k=>.int .i64 k)<|λ v=>.sl<|List.map Ax v) i<|po1<|po1<|Pl.z)<|c ([]:List Ai) H
theorem GY (x:(Ad×(List (Option (Bool×(List (Int×(List Ag))))))×Int)) (z:((Ad×(List (Option (Bool×(List (Int×(List Ag))))))×Int)⊕(Ad×(List (Option (Bool×(List (Int×(List Ag))))))))) (H:By n x.1 x.2.1 x.2.2=some z):WP (cxk 123 3) (AS Try.f42) [1,1,0,1,0,0] (AU 3 (Ed) (HB) z) (Ed x):=by
 obtain⟨q,u,b⟩:=x;refine sq<|sr<|ck 2<|en<|cn H (λ H=>?_)<|λ H=>?_
 ·refine sk<|qz<|sq<|bk 1<|sq<|bx H λ af A H=>rg (so1 (encN:=(eMr (λ k=>.int .i64 k)<|λ v=>.sl<|List.map Ax v)) 3 1 A)<|ck 3<|bx H λ aj U H=>sp (OB 3 1 0 5 (j:=0) U)<|sp (SQ (encN:=(eMr (λ k=>.int .i64 k)<|λ v=>.sl<|List.map Ax v)) (row:=[Jax (λ k=>.int .i64 k) (λ v=>.sl<|List.map Ax v) af]) (row':=[.mp 4]) (k:=3) (sz:=1) (off:=0) (t:=ty 128) (v:=.mp 4) A)<|en<|sq<|bx H λ I B H=>rg (tr (JN (ek:=(λ k=>.int .i64 k)) (ev:=(λ v=>.sl<|List.map Ax v)) 3 4 ([]:(List<|Int×(List Ag))) A (by kernel_rfl) (by kernel_rfl))<|Jay (ek:=(λ k=>.int .i64 k)) (ev:=(λ v=>.int .i64 v)) 2 (HR B) (by kernel_rfl))<|ck 5<|sp (Bd 2 1<|HR B)<|sp (IC (encN:=(eMr (λ k=>.int .i64 k)<|λ v=>.int .i64 v)) (row:=[.fmp<|Gz (λ k=>.int .i64 k) (λ v=>.int .i64 v) I.2]) (k:=2) (sz:=1) (off:=0) (t:=ty 125) (v:=.fmp<|Gz (λ k=>.int .i64 k) (λ v=>.int .i64 v) I.2)<|HR B)<|xr (xok _ _)<|xri (ek:=(λ k=>.int .i64 k)) (ev:=(λ v=>.int .i64 v)) (m:=I.2) 5<|en<|bk 2 ?_;have hD:=ST H;refine lM (F:=(λ (e:(Int×Int)) (x:(Ad×(List<|Option<|Bool×(List<|Int×(List Ag)))))=>Ba n b e x.1 x.2)) (E:=Eb) (E0:=DT b) GX (tr (tr (tr (scl (encN:=(eMr (λ k=>.int .i64 k)<|λ v=>.int .i64 v)) (xss:=q.Before) b [.fmp<|Gz (λ k=>.int .i64 k) (λ v=>.int .i64 v) I.2] 1 2<|some (true,I.2))<|sn 30 2 1<|lsS q.Before b.toNat<|some (true,I.2))<|snc 0 5 2 1<|lsS q.Before b.toNat<|some (true,I.2))<|gP [0,3,4,34] [0,1,2,3,5]<|po1<|po1<|pn1 (eMr (λ k=>.int .i64 k)<|λ v=>.int .i64 v) (List.set q.Before b.toNat<|some (true,I.2))<|pn1 (eMr (λ k=>.int .i64 k)<|λ v=>.sl<|List.map Ax v) (List.set u (Int.toNat<|Bo b 5)<|some (false,([]:(List<|Int×(List Ag)))))<|po1<|Pl.z) (λ ord ho=>bI<|hD ord ho) (λ ord V ho hy e s hE=>xQ hE<|λ he W=>?_)<|λ ord r ho hy e s hE=>?_
  ·subst he;have H:=bK (hD ord ho) hy;exact qH<|qN<|qs (W)<|rz<|ck 3<|ae (by cases H;exact og<|gP [0,3,4] [0,1,2,3]<|po1<|po1<|pn1 (eMr (λ k=>.int .i64 k)<|λ v=>.int .i64 v) V.1.Before<|pn1 (eMr (λ k=>.int .i64 k)<|λ v=>.sl<|List.map Ax v) V.2<|Pl.z)
  ·cases r
 ·exact ex 0<|qx (by cases H;exact xo rfl<|gP [3] [0,1,2,3]<|po1<|po1<|pn1 (eMr (λ k=>.int .i64 k)<|λ v=>.int .i64 v) q.Before<|pn1 (eMr (λ k=>.int .i64 k)<|λ v=>.sl<|List.map Ax v) u<|Pl.z)
theorem IR {z} (H:CL n o=some z):Bg Try.prog 42 [.ptr 0 0] [some (.box (Ap o (.osl 1 1 0 (o.Accepts.length)) (.osl 2 1 0 (o.Before.length)))),some (.arr 1 (o.Accepts.map eB)),some (.narr 1 (List.map (eMr (λ k=>.int .i64 k) (λ v=>.int .i64 v)) o.Before))] 3 (.d (.sl (z.2.map Ax))) [some (.box (Ap z.1 (.osl 1 1 0 (z.1.Accepts.length)) (.osl 2 1 0 (z.1.Before.length)))),some (.arr 1 (z.1.Accepts.map eB)),some (.narr 1 (List.map (eMr (λ k=>.int .i64 k) (λ v=>.int .i64 v)) z.1.Before))]:=by
 exact fL 123 3 (JbI o) Try.func42<|sr<|ck 1<|en<|sr<|ck 1<|en<|sq<|sq<|rg (tr (JfI (ek:=(λ k=>.int .i64 k)) (ev:=(λ v=>.sl<|List.map Ax v)) 3 5 (by kernel_rfl))<|Jij 3 3 1 (by kernel_rfl))<|ck 4<|sp (AT Bt o.Felt)<|ck 1<|en<|bk 0<|bx H λ X Y H=>lX GY Y (gP [0,3,4] [0,1,2,3]<|po1<|po1<|pn1 (eMr (λ k=>.int .i64 k)<|λ v=>.int .i64 v) o.Before<|pn1 (eMr (λ k=>.int .i64 k)<|λ v=>.sl<|List.map Ax v) (List.replicate 5 (none:(Option<|Bool×(List<|Int×(List Ag)))))<|Pl.z) rfl λ s Z=>qH<|qs (Z)<|sq<|bx H λ m7 C H=>rg (PP (ek:=(λ k=>.int .i64 k)) (ev:=(λ v=>.sl<|List.map Ax v)) 3 (B7 C) (by kernel_rfl))<|bx H λ ak aa H=>sp (OB 3 1 0 5 (j:=0) aa)<|sp (IC (encN:=(eMr (λ k=>.int .i64 k)<|λ v=>.sl<|List.map Ax v)) (row:=[.mp 4]) (k:=3) (sz:=1) (off:=0) (t:=ty 128) (v:=.mp 4)<|B7 C)<|sp (Mk (enc:=(eL Ax)) (encK:=A2) (ka:=false) (va:=false) (k:=4) (m:=m7) (a:=.d<|.int .i64 0) (key:=0) (z:=([]:(List Ag))) (vz:=[.nil]) YH false)<|ck 1<|en<|re (by cases H;exact pL<|rl (s':=JbJ X.1<|Option.getD (AR 0 m7) ([]:(List Ag)))<|tr (JN (ek:=(λ k=>.int .i64 k)) (ev:=(λ v=>.sl<|List.map Ax v)) 3 4 m7 (B7 C) (by kernel_rfl) (by kernel_rfl))<|gP [2] [0,1,2]<|po1<|po1<|pn1 (eMr (λ k=>.int .i64 k)<|λ v=>.int .i64 v) X.1.Before<|Pl.z)
end
section
variable (e:Ab) (h:(List Ay)) (i:Int) (j:Int) (b:(Ad×(List Ag))) (a:(List An)) (l:Int) (c:(List An))
def JgL:St:=⟨(0,.agg [.d<|.int .i64 e.Modes,.d<|.int .u8 e.Accept,.d<|.sl<|e.Rules.map Aw])::(1,.d<|.sl<|h.map Bt)::(2,.d<|.int .i64 i)::(3,.d<|.int .i64 j)::[],[]⟩
def JgM:St:=⟨(10,.osl 0 3 0<|a.length)::(24,.d<|.sl<|b.2.map Ax)::(25,.d<|.int .i64 ((b.2.length:Nat):Int))::(26,.d<|.int .i64 l)::[],[some<|.arr 3<|a.map Aq]⟩
def JgN:St:=⟨(10,.osl 0 3 0<|c.length)::[],[some<|.arr 3<|c.map Aq]⟩
def QV:(List An)->Ex->St->Prop:=xX 0 0<|λ (y:(List An))=>JgN y
def K6:((List An)×Int)->St:=(λ (x:((List An)×Int))=>JgM b x.1 x.2)
variable {e h i j b a l c}
theorem P5 (x:((List An)×Int)) (z:(((List An)×Int)⊕(List An))) (H:FP n b x.1 x.2=some z):WP (cxk 43 0) (AS Try.f23) [1,1,1,1,1,0,1,0,0] (AU 0 (K6 b) (QV) z) (K6 b x):=by
 obtain⟨a,l⟩:=x;refine sr<|ck 1<|en<|sq<|cn H (λ H=>?_)<|λ H=>?_
 ·exact sk<|qz<|sq<|bk 1<|sr<|bx H λ A m H=>sp (AY Ax m)<|ck 3<|en<|rz<|ck 5<|xsb (xok _ _) A.Cells<|ck 4<|bx H λ B o H=>sp (B5 Aq 0 3 o)<|ck 1<|ae<|qN<|qz<|rz<|ck 2<|ae (by cases H;exact og<|sg [10,24,25,26])
 ·exact ex 0<|qx (by cases H;exact xo rfl<|sg [10])
theorem N8 {z} (H:JR n e h i j=some z):AJ Try.prog 23 [.agg (Bj e),.d (.sl (h.map Bt)),.d (.int .i64 i),.d (.int .i64 j)] (.own 3 (z.map Aq)):=by
 refine fO 43 (JgL e h i j) Try.func23<|sr<|ck 2<|en<|sq<|sr<|ck 1<|bx H λ C p H=>ca false (S8 p)<|ck 1<|en<|cn H (λ H=>?_)<|λ H=>?_
 ·exact sr<|ck 1<|en<|re<|qr (by cases H;exact pr<|rO (v:=.d<|.nil) []<|ad vz)
 ·exact sk<|qz<|sr<|ck 4<|bx H λ E q H=>lt [] (Nq q)<|ck 1<|en<|sr<|ck 1<|bx H λ g r H=>lt [1,2] (Jk r)<|tb (f:=E4<|CF [1,2] 3 2) [some<|.box<|Bj e,some<|.box<|Ap g (.osl 2 1 0<|g.Accepts.length)<|.osl 3 1 0<|g.Before.length,some<|.arr 1<|g.Accepts.map eB,some<|.narr 1<|List.map (eMr (λ k=>.int .i64 k)<|λ v=>.int .i64 v) g.Before] (po1<|po1<|po1<|pn1 (eMr (λ k=>.int .i64 k)<|λ v=>.int .i64 v) g.Before<|Pl.z)<|en<|sr<|ck 1<|en<|sq<|sr<|ck 1<|bx H λ b t H=>ltP [1,2,3] (IR t) (po1<|po1<|pn1 (eMr (λ k=>.int .i64 k)<|λ v=>.int .i64 v) g.Before<|Pl.z)<|tb (f:=E4<|CF [1,2,3] 4 3) [some<|.box<|Bj e,some<|.box<|Ap b.1 (.osl 2 1 0<|b.1.Accepts.length)<|.osl 3 1 0<|b.1.Before.length,some<|.arr 1<|b.1.Accepts.map eB,some<|.narr 1<|List.map (eMr (λ k=>.int .i64 k)<|λ v=>.int .i64 v) b.1.Before] (po1<|po1<|po1<|pn1 (eMr (λ k=>.int .i64 k)<|λ v=>.int .i64 v) b.1.Before<|Pl.z)<|sp (AT Ax b.2)<|ck 1<|en<|bk 0<|bx H λ G u H=>lX P5 u (tr (Ar.nilo 10 3 (by kernel_rfl))<|sg [10,24,25,26]) rfl λ s w=>qH<|qs (w)<|sr<|ck 2<|en<|re (by cases H;exact pr<|rO (v:=.osl 0 3 0<|z.length) [0]<|ao vo)
end
section
variable (a:Ab) (b:(List Ay)) (c:Int)
def JgO:St:=⟨(0,.agg [.d<|.int .i64 a.Modes,.d<|.int .u8 a.Accept,.d<|.sl<|a.Rules.map Aw])::(1,.d<|.sl<|b.map Bt)::(2,.d<|.int .i64 c)::[],[]⟩
variable {a b c}
theorem Cz {z} (H:BD n a b c=some z):AJ Try.prog 10 [.agg (Bj a),.d (.sl (b.map Bt)),.d (.int .i64 c)] (.tup [.own 3 (z.1.map Aq),.d (.int .i64 z.2)]):=by
 refine fO 19 (JgO a b c) Try.func10<|sr<|ck 3<|en<|sq<|sr<|ck 2<|en<|cn H (λ H=>?_)<|λ H=>?_
 ·exact sr<|ck 2<|en<|re<|qr (by cases H;exact pr<|rT (vs:=[.d<|.nil,.d<|.int .i64 1]) []<|t1 (ad vz)<|t1 (ad vd)<|t0)
 ·refine sk<|qz<|sr<|ck 3<|bx H λ e f H=>cl [List.length e] (N8 f)<|ck 1<|en<|sq<|sr<|ck 3<|en<|cn H (λ H=>?_)<|λ H=>?_
  ·exact sr<|ck 2<|en<|re<|qr (by cases H;exact pr<|rT (vs:=[.d<|.nil,.d<|.int .i64 2]) []<|t1 (ad vz)<|t1 (ad vd)<|t0)
  ·exact sk<|qz<|sr<|ck 3<|en<|re (by cases H;exact pr<|rT (vs:=[.osl 1 3 0<|e.length,.d<|.int .i64 0]) [1]<|t1 (ao vo)<|t1 (ad vd)<|t0)
end
section
variable (a:Ab) (b:(List Ay)) (c:Int)
def JgP:St:=⟨(0,.agg [.d<|.int .i64 a.Modes,.d<|.int .u8 a.Accept,.d<|.sl<|a.Rules.map Aw])::(1,.d<|.sl<|b.map Bt)::(2,.d<|.int .i64 c)::[],[]⟩
variable {a b c}
theorem J2 {z} (H:D6 n a b c=some z):AJ Try.prog 11 [.agg (Bj a),.d (.sl (b.map Bt)),.d (.int .i64 c)] (.tup [.agg [.d (.str z.1.Text),.d (.sl (z.1.Cells.map eU8)),.d (.int .i64 z.1.Cost)],.d (.bool z.2)]):=by
 refine fO 23 (JgP a b c) Try.func11<|sr<|ck 3<|en<|sq<|sr<|ck 2<|en<|cn H (λ H=>?_)<|λ H=>?_
 ·exact sr<|ck 3<|en<|re<|qr (by cases H;exact pr<|rT (vs:=[.agg [.d<|.str [],.d<|.nil,.d<|.int .i64 0],.d<|.bool false]) []<|t1 (a1<|c1 vd<|c1 vn<|c1 vd<|c0)<|t1 (ad vd)<|t0)
 ·refine sk<|qz<|sr<|ck 3<|bx H λ g e H=>ca false (N8 e)<|ck 1<|en<|sq<|sr<|ck 1<|sp (AT Aq g)<|ck 1<|en<|cn H (λ H=>?_)<|λ H=>?_
  ·exact sr<|ck 3<|en<|re<|qr (by cases H;exact pr<|rT (vs:=[.agg [.d<|.str [],.d<|.nil,.d<|.int .i64 0],.d<|.bool false]) []<|t1 (a1<|c1 vd<|c1 vn<|c1 vd<|c0)<|t1 (ad vd)<|t0)
  ·exact sk<|qz<|sr<|ck 1<|bx H λ h f H=>sp (AY Aq f)<|ck 3<|en<|re (by cases H;exact pr rdT)
end
section
variable (a:(List Int)) (b:(List Int)) (e:Int)
def JgQ:St:=⟨(0,.d<|.sl<|a.map eU8)::(1,.d<|.sl<|b.map eU8)::[],[]⟩
def JgR:St:=⟨(0,.d<|.sl<|a.map eU8)::(1,.d<|.sl<|b.map eU8)::(5,.d<|.int .i64 e)::[],[]⟩
def JgS:St:=⟨[],[]⟩
def Lx:(Unit⊕Bool)->Ex->St->Prop:=xS (xX 0 0<|λ (_:Unit)=>JgS)<|xR ty Try.f24<|λ (y:Bool)=>.d<|.bool y
def GL:Int->St:=(λ (x:Int)=>JgR a b x)
variable {a b e}
theorem F8 (x:Int) (z:(Int⊕(Unit⊕Bool))) (H:DO n a b x=some z):WP (cxk 26 0) (AS Try.f24) [1,1,0,1,0,0] (AU 0 (GL a b) (Lx) z) (GL a b x):=by
 revert H;generalize x=e;intro H;refine sq<|sr<|ck 2<|sp (AT eU8 a)<|ck 1<|en<|cn H (λ H=>?_)<|λ H=>?_
 ·refine sk<|qz<|sq<|bk 1<|sr<|ck 2<|bx H λ k f H=>sp (AY eU8 f)<|ck 3<|bx H λ l g H=>sp (AY eU8 g)<|ck 2<|en<|cn H (λ H=>?_)<|λ H=>?_
  ·exact sr<|ck 1<|en<|re<|qR<|qr (by cases H;exact ro rfl rd)
  ·exact sk<|qN<|qz<|rz<|ck 3<|ae (by cases H;exact og<|sg [0,1,5])
 ·exact ex 0<|qx (by cases H;exact xo rfl<|sg [])
theorem H7 {z} (H:D7 n a b=some z):AJ Try.prog 24 [.d (.sl (a.map eU8)),.d (.sl (b.map eU8))] (.d (.bool z)):=by
 refine fO 26 (JgQ a b) Try.func24<|sr<|ck 1<|en<|sq<|sr<|ck 1<|sp (AT eU8 a)<|ck 1<|sp (AT eU8 b)<|ck 1<|en<|cn H (λ H=>?_)<|λ H=>?_
 ·exact sr<|ck 1<|en<|re<|qr (by cases H;exact pr rd)
 ·refine sk<|qz<|sq<|sr<|ck 1<|en<|bk 0<|bx H λ j c H=>?_;rcases j with m|o
  ·exact lX F8 c (sg [0,1,5]) rfl λ s h=>qH<|qs (h)<|sr<|ck 1<|en<|re (by cases H;exact pr rd)
  ·exact lR F8 c (sg [0,1,5]) rfl λ s i=>qR<|qr (by cases H;exact pr i)
end
section
variable (a:An) (b:An)
def JgT:St:=⟨(0,.agg [.d<|.str a.Text,.d<|.sl<|a.Cells.map eU8,.d<|.int .i64 a.Cost])::(1,.agg [.d<|.str b.Text,.d<|.sl<|b.Cells.map eU8,.d<|.int .i64 b.Cost])::[],[]⟩
variable {a b}
theorem J3 {z} (H:HT n a b=some z):AJ Try.prog 12 [.agg (D0 a),.agg (D0 b)] (.d (.bool z)):=by
 exact fO 24 (JgT a b) Try.func12<|sr<|ck 3<|en<|sr<|ck 7<|gc 1 (a.Text==b.Text)<|ck 1<|gc 2 (a.Text==b.Text)<|pA<|ck 2<|gc 1 ((a.Text==b.Text)&&(a.Cost==b.Cost))<|ck 1<|gc 1 ((a.Text==b.Text)&&(a.Cost==b.Cost))<|bx H λ e c H=>cG false (leZ) rfl (λ hg=>H7<|DW c hg) (Or.inl rfl) (CN (λ hh=>hh)<|CN (λ hh=>hh)<|Gc) rfl<|pA<|ck 1<|en<|re (by cases H;exact pr rd)
end
section
variable (a:(List An)) (b:(List An)) (e:Int)
def JgU:St:=⟨(0,.d<|.sl<|a.map Aq)::(1,.d<|.sl<|b.map Aq)::[],[]⟩
def JgV:St:=⟨(0,.d<|.sl<|a.map Aq)::(1,.d<|.sl<|b.map Aq)::(5,.d<|.int .i64 e)::[],[]⟩
def JgW:St:=⟨[],[]⟩
def Nt:(Unit⊕Bool)->Ex->St->Prop:=xS (xX 0 0<|λ (_:Unit)=>JgW)<|xR ty Try.f14<|λ (y:Bool)=>.d<|.bool y
def H8:Int->St:=(λ (x:Int)=>JgV a b x)
variable {a b e}
theorem Hm (x:Int) (z:(Int⊕(Unit⊕Bool))) (H:DD n a b x=some z):WP (cxk 27 0) (AS Try.f14) [1,1,0,1,0,0] (AU 0 (H8 a b) (Nt) z) (H8 a b x):=by
 revert H;generalize x=e;intro H;refine sq<|sr<|ck 2<|sp (AT Aq a)<|ck 1<|en<|cn H (λ H=>?_)<|λ H=>?_
 ·refine sk<|qz<|sq<|bk 1<|sr<|ck 2<|bx H λ l f H=>sp (AY Aq f)<|ck 3<|bx H λ m g H=>sp (AY Aq g)<|ck 1<|bx H λ o h H=>ca false (J3 h)<|ck 1<|en<|cn H (λ H=>?_)<|λ H=>?_
  ·exact sr<|ck 1<|en<|re<|qR<|qr (by cases H;exact ro rfl rd)
  ·exact sk<|qN<|qz<|rz<|ck 3<|ae (by cases H;exact og<|sg [0,1,5])
 ·exact ex 0<|qx (by cases H;exact xo rfl<|sg [])
theorem E2 {z} (H:C3 n a b=some z):AJ Try.prog 14 [.d (.sl (a.map Aq)),.d (.sl (b.map Aq))] (.d (.bool z)):=by
 refine fO 27 (JgU a b) Try.func14<|sr<|ck 1<|en<|sq<|sr<|ck 1<|sp (AT Aq a)<|ck 1<|sp (AT Aq b)<|ck 1<|en<|cn H (λ H=>?_)<|λ H=>?_
 ·exact sr<|ck 1<|en<|re<|qr (by cases H;exact pr rd)
 ·refine sk<|qz<|sq<|sr<|ck 1<|en<|bk 0<|bx H λ k c H=>?_;rcases k with p|q
  ·exact lX Hm c (sg [0,1,5]) rfl λ s i=>qH<|qs (i)<|sr<|ck 1<|en<|re (by cases H;exact pr rd)
  ·exact lR Hm c (sg [0,1,5]) rfl λ s j=>qR<|qr (by cases H;exact pr j)
end
section
variable (f:Ab) (c:(List Ay)) (o:Int) (i:(List Ay))
def Ji7:St:=⟨[],[]⟩
def Ji8:St:=⟨(1,.ptr 0 0)::(2,.osl 1 2 0<|List.length [({ Up:=3,Maybe:=0 }:Ay)])::(3,.osl 2 2 0<|c.length)::(4,.d<|.int .i64 o)::[],[some<|.box<|Bj f,some<|.arr 2<|List.map Bt [({ Up:=3,Maybe:=0 }:Ay)],some<|.arr 2<|c.map Bt]⟩
def Ji9:St:=⟨(1,.ptr 0 0)::(2,.osl 1 2 0<|List.length [({ Up:=3,Maybe:=0 }:Ay)])::(3,.osl 2 2 0<|i.length)::[],[some<|.box<|Bj f,some<|.arr 2<|List.map Bt [({ Up:=3,Maybe:=0 }:Ay)],some<|.arr 2<|i.map Bt]⟩
def Ok:(List Ay)->Ex->St->Prop:=xX 0 0<|λ (y:(List Ay))=>Ji9 f y
def Ja:((List Ay)×Int)->St:=(λ (x:((List Ay)×Int))=>Ji8 f x.1 x.2)
variable {f c o i}
theorem Nu (x:((List Ay)×Int)) (z:(((List Ay)×Int)⊕(List Ay))) (H:D8 n f x.1 x.2=some z):WP (cxk 148 0) (AS Try.f7) [1,1,1,0,1,0,0] (AU 0 (Ja f) (Ok f) z) (Ja f x):=by
 obtain⟨c,o⟩:=x;refine sq<|sr<|ck 2<|en<|cn H (λ H=>?_)<|λ H=>?_
 ·exact sk<|qz<|sq<|bk 1<|rz<|ck 3<|bx H λ P p H=>sp (B5 Bt 2 2 p)<|ck 1<|ae<|qN<|qz<|rz<|ck 3<|ae (by cases H;exact og<|sg [1,2,3,4])
 ·exact ex 0<|qx (by cases H;exact xo rfl<|sg [1,2,3])
theorem QX {z} (H:IG n=some z):AJ Try.prog 7 [] (.d (.bool z)):=by
 exact fO 148 Ji7 Try.func7<|sr<|ck 1<|en<|sr<|bx H λ f q H=>ca false (N6 q)<|ck 2<|en<|sr<|ck 5<|en<|sq<|sr<|ck 1<|en<|bk 0<|bx H λ M r H=>lX Nu r (sg [1,2,3,4]) rfl λ s t=>qH<|qs (t)<|sr<|ck 8<|en<|sq<|rg (fz (enc:=Bt) (xs:=([({ Up:=3,Maybe:=0 }:Ay)])) 2 1 2)<|ck 2<|bx H λ b u H=>ca false (Cz u)<|ck 5<|en<|sr<|ck 2<|bx H λ h v H=>ca false (Cz v)<|ck 5<|en<|sr<|ck 2<|sF<|bx H λ a w H=>ca false (Cz w)<|ck 5<|en<|sq<|rg (fz (enc:=Bt) (xs:=M) 3 2 2)<|ck 2<|bx H λ l A H=>ca false (Cz A)<|ck 5<|en<|sr<|ck 2<|bx H λ m B H=>ca false (Cz B)<|ck 5<|en<|sr<|ck 2<|bx H λ k C H=>ca false (J2 C)<|ck 6<|en<|sr<|ck 2<|sF<|bx H λ E G H=>ca false (J2 G)<|ck 6<|en<|sr<|ck 1<|bx H λ O I H=>ca false (Cz I)<|ck 5<|en<|sq<|rg (tr (fzc (enc:=eU8) (xs:=[3]) 5 1 3 1)<|fzc (enc:=eU8) (xs:=[1]) 6 1 4 1)<|ck 5<|gc 1 (b.2==0)<|bx H λ e J H=>cG (ks:=[9]) (obl:=[(0+List.length ([({ Text:=[98],Cells:=[3],Cost:=0 }:An)]),List.length<|List.map Aq<|[({ Text:=[98],Cells:=[3],Cost:=0 }:An)])]) false (leK leM<|leZ) (JM rfl<|JM Ut rfl) (λ hg=>E2<|DW J hg) (Or.inr trivial) (CN (λ hh=>hh)<|CN (λ hh=>hh)<|Gc) rfl<|pA<|ck 2<|gc 1 ((b.2==0)&&e)<|pA<|ck 4<|gc 1 (((b.2==0)&&e)&&(h.2==0))<|bx H λ j K H=>cG (ks:=[10]) (obl:=[(0+List.length ([({ Text:=[98],Cells:=[3],Cost:=0 }:An),({ Text:=[97],Cells:=[1],Cost:=1 }:An)]),List.length<|List.map Aq<|[({ Text:=[98],Cells:=[3],Cost:=0 }:An),({ Text:=[97],Cells:=[1],Cost:=1 }:An)])]) false (leK leM<|leZ) (JM rfl<|JM Ut rfl) (λ hg=>E2<|DW K hg) (Or.inr trivial) (CN (λ hh=>hh)<|CN (λ hh=>hh)<|Gc) rfl<|pA<|ck 2<|gc 1 ((((b.2==0)&&e)&&(h.2==0))&&j)<|pA<|ck 2<|sE (g:=(((((b.2==0)&&e)&&(h.2==0))&&j)&&(a.2==0))) (λ hg=>AT Aq a.1)<|gc 1 (((((b.2==0)&&e)&&(h.2==0))&&j)&&(a.2==0))<|pA<|ck 1<|en<|sr<|ck 3<|gc 1 ((((((b.2==0)&&e)&&(h.2==0))&&j)&&(a.2==0))&&(((a.1.length:Nat):Int)==3))<|pA<|ck 2<|gc 1 (((((((b.2==0)&&e)&&(h.2==0))&&j)&&(a.2==0))&&(((a.1.length:Nat):Int)==3))&&(l.2==2))<|pA<|ck 2<|pA<|ck 2<|gc 2 (((((((((b.2==0)&&e)&&(h.2==0))&&j)&&(a.2==0))&&(((a.1.length:Nat):Int)==3))&&(l.2==2))&&(m.2==1))&&k.2)<|pA<|ck 2<|gc 1 ((((((((((b.2==0)&&e)&&(h.2==0))&&j)&&(a.2==0))&&(((a.1.length:Nat):Int)==3))&&(l.2==2))&&(m.2==1))&&k.2)&&(k.1.Text==[97,97,97,97,97]))<|pA<|ck 2<|gc 1 (((((((((((b.2==0)&&e)&&(h.2==0))&&j)&&(a.2==0))&&(((a.1.length:Nat):Int)==3))&&(l.2==2))&&(m.2==1))&&k.2)&&(k.1.Text==[97,97,97,97,97]))&&(!E.2))<|pA<|ck 3<|gc 1 ((((((((((((b.2==0)&&e)&&(h.2==0))&&j)&&(a.2==0))&&(((a.1.length:Nat):Int)==3))&&(l.2==2))&&(m.2==1))&&k.2)&&(k.1.Text==[97,97,97,97,97]))&&(!E.2))&&(O.2==0))<|bx H λ Q L H=>cG (ks:=[11]) (obl:=[(0+List.length ([({ Text:=[],Cells:=[],Cost:=0 }:An)]),List.length<|List.map Aq<|[({ Text:=[],Cells:=[],Cost:=0 }:An)])]) false (leK leM<|leZ) (JM rfl<|JM Ut rfl) (λ hg=>E2<|DW L hg) (Or.inr trivial) (CN (λ hh=>hh)<|CN (λ hh=>hh)<|Gc) rfl<|pA<|ck 1<|en<|re (by cases H;exact pr rd)
end
section
variable (a:CI) (g:Int) (b:AB) (h:Int) (e:AB) (c:AB) (i:Int) (f:AB)
def JgX:St:=⟨(0,.agg [.d<|.sl<|a.P.map eU8,.d<|.sl<|a.C.map eU8,.d<|.int .u8 a.L,.d<|.int .u8 a.R,.d<|.int .u8 a.W.a0,.d<|.int .u8 a.W.a1])::(1,.d<|.int .i64 g)::[],[]⟩
def JgY:St:=⟨(2,.ptr 0 0)::(4,.ptr 1 0)::(5,.d<|.str [97,98,99,65,66,49,50,45,46])::(7,.ptr 2 0)::(8,.d<|.int .i64 h)::[],[some<|.box<|Mp a,some<|.box [.d<|.str [],.osl 3 1 0<|List.length ([]:List Int),.d<|.int .u8 0,.d<|.int .u8 0,.d<|.int .i64 0,.d<|.int .i64 0],some<|.box<|OG b<|.osl 4 1 0<|b.Cells.length,some<|.arr 1<|List.map eU8 ([]:List Int),some<|.arr 1<|b.Cells.map eU8]⟩
def JgZ:St:=⟨(2,.ptr 0 0)::(4,.ptr 1 0)::(7,.ptr 2 0)::[],[some<|.box<|Mp a,some<|.box [.d<|.str [],.osl 3 1 0<|List.length ([]:List Int),.d<|.int .u8 0,.d<|.int .u8 0,.d<|.int .i64 0,.d<|.int .i64 0],some<|.box<|OG e<|.osl 4 1 0<|e.Cells.length,some<|.arr 1<|List.map eU8 ([]:List Int),some<|.arr 1<|e.Cells.map eU8]⟩
def QY:AB->Ex->St->Prop:=xX 0 0<|λ (y:AB)=>JgZ a y
def K7:(AB×Int)->St:=(λ (x:(AB×Int))=>JgY a x.1 x.2)
def Jg0:St:=⟨(2,.ptr 0 0)::(4,.ptr 1 0)::(7,.ptr 2 0)::(10,.osl 3 1 0<|List.length [1,3,9,5,7,32,44,60])::(11,.d<|.int .i64 i)::[],[some<|.box<|Mp a,some<|.box [.d<|.str [],.osl 4 1 0<|List.length ([]:List Int),.d<|.int .u8 0,.d<|.int .u8 0,.d<|.int .i64 0,.d<|.int .i64 0],some<|.box<|OG c<|.osl 5 1 0<|c.Cells.length,some<|.arr 1<|List.map eU8 [1,3,9,5,7,32,44,60],some<|.arr 1<|List.map eU8 ([]:List Int),some<|.arr 1<|c.Cells.map eU8]⟩
def Jg1:St:=⟨(4,.ptr 0 0)::(7,.ptr 1 0)::[],[some<|.box [.d<|.str [],.osl 2 1 0<|List.length ([]:List Int),.d<|.int .u8 0,.d<|.int .u8 0,.d<|.int .i64 0,.d<|.int .i64 0],some<|.box<|OG f<|.osl 3 1 0<|f.Cells.length,some<|.arr 1<|List.map eU8 ([]:List Int),some<|.arr 1<|f.Cells.map eU8]⟩
def QZ:AB->Ex->St->Prop:=xX 0 2<|λ (y:AB)=>Jg1 y
def K8:(AB×Int)->St:=(λ (x:(AB×Int))=>Jg0 a x.1 x.2)
variable {a g b h e c i f}
theorem P6 (x:(AB×Int)) (z:((AB×Int)⊕AB)) (H:Ey n a x.1 x.2=some z):WP (cxk 101 0) (AS Try.f21) [1,1,1,0,1,0,0] (AU 0 (K7 a) (QY a) z) (K7 a x):=by
 obtain⟨b,h⟩:=x;refine sq<|sr<|ck 3<|sp (AT eU8 a.P)<|ck 3<|gc 1 (decide<|h<((a.P.length:Nat):Int))<|pA<|en<|cn H (λ H=>?_)<|λ H=>?_
 ·exact sk<|qz<|sq<|bk 1<|sr<|ck 3<|bx H λ I o H=>sp (AY eU8 o)<|ck 4<|en<|rz<|ck 6<|bx H λ Y p H=>sp (JdN p)<|bx H λ Z q H=>sp (SP q)<|ck 2<|ae<|qN<|qz<|rz<|ck 3<|ae (by cases H;exact og<|sg [2,4,5,7,8])
 ·exact ex 0<|qx (by cases H;exact xo rfl<|sg [2,4,7])
theorem P7 (x:(AB×Int)) (z:((AB×Int)⊕AB)) (H:C4 n a x.1 x.2=some z):WP (cxk 101 0) (AS Try.f21) [1,1,1,1,1,1,0,1,0,0] (AU 0 (K8 a) (QZ) z) (K8 a x):=by
 obtain⟨c,i⟩:=x;refine sq<|sr<|ck 3<|sp (AT eU8 a.C)<|ck 3<|gc 1 (decide<|i<((a.C.length:Nat):Int))<|pA<|en<|cn H (λ H=>?_)<|λ H=>?_
 ·exact sk<|qz<|sq<|bk 3<|rz<|ck 6<|bx H λ J r H=>sp (AY eU8 r)<|ck 2<|bx H λ K j H=>sp (Bd 3 1 j)<|sp (BT eU8 3 0 (ty 60) j)<|ck 1<|bx H λ M t H=>sp (B5 eU8 5 1 t)<|ck 2<|ae<|qN<|qz<|rz<|ck 3<|ae (by cases H;exact og<|sg [2,4,7,10,11])
 ·exact ex 2<|qx (by cases H;exact xo rfl<|sg [4,7])
theorem UL {z} (H:HU n a g=some z):AJ Try.prog 21 [.agg (Mp a),.d (.int .i64 g)] (.agg [.d (.str z.Print),.own 1 (z.Cells.map eU8),.d (.int .u8 z.Left),.d (.int .u8 z.Right),.d (.int .i64 z.From),.d (.int .i64 z.To)]):=by
 exact fO 101 (JgX a g) Try.func21<|sr<|ck 2<|en<|sr<|ck 3<|en<|sr<|ck 4<|bx H λ O k H=>sp (Bd 2 1 k)<|sp (BT eU8 2 0 (ty 5) k)<|ck 4<|bx H λ Q l H=>sp (Bd 2 1 l)<|sp (BT eU8 2 0 (ty 5) l)<|ck 5<|bx H λ S u H=>so (Uu u)<|ck 5<|bx H λ T w H=>so (Uu w)<|ck 3<|en<|sq<|sr<|ck 1<|en<|bk 0<|bx H λ U A H=>lX P6 A (tr (tr (Fv 1 1 1 (by kernel_rfl))<|Fv 3 1 1 (by kernel_rfl))<|sg [2,4,5,7,8]) rfl λ s B=>qH<|qs (B)<|sr<|ck 2<|en<|sr<|ck 5<|bx H λ V m H=>sp (Bd 5 1 m)<|sp (BT eU8 5 0 (ty 60) m)<|ck 3<|en<|sq<|sr<|ck 1<|en<|bk 2<|bx H λ X E H=>lX P7 E (sg [2,4,7,10,11]) rfl λ s G=>qH<|qs (G)<|sr<|ck 2<|en<|re (by cases H;exact pr<|rO (v:=.agg [.d<|.str z.Print,.osl 3 1 0<|z.Cells.length,.d<|.int .u8 z.Left,.d<|.int .u8 z.Right,.d<|.int .i64 z.From,.d<|.int .i64 z.To]) [3]<|a1<|c1 vd<|c1 vo<|c1 vd<|c1 vd<|c1 vd<|c1 vd<|c0)
end
section
variable (a:Int)
def Jg2:St:=⟨(0,.d<|.int .u8 a)::[],[]⟩
variable {a}
theorem Nv {z} (H:Hv n a=some z):AJ Try.prog 89 [.d (.int .u8 a)] (.d (.bool z)):=by
 exact fO 11 (Jg2 a) Try.func89<|sr<|ck 1<|en<|sr<|ck 5<|gc 2 (decide<|Cg .u8 a 127>=32)<|pA<|ck 1<|en<|re (by cases H;exact pr rd)
end
section
variable (a:(List UInt8)) (b:Int)
def Jg3:St:=⟨(0,.d<|.str a)::[],[]⟩
def Jg4:St:=⟨(0,.d<|.str a)::(4,.d<|.int .i64 b)::[],[]⟩
def Jg5:St:=⟨(0,.d<|.str a)::[],[]⟩
def Q0:(Unit⊕(Int×Int))->Ex->St->Prop:=xS (xX 0 0<|λ (_:Unit)=>Jg5 a)<|xR ty Try.f77<|λ (y:(Int×Int))=>.tup [.d<|.int .i64 y.1,.d<|.int .i64 y.2]
def K9:Int->St:=(λ (x:Int)=>Jg4 a x)
variable {a b}
theorem J4 (x:Int) (z:(Int⊕(Unit⊕(Int×Int)))) (H:He n a x=some z):WP (cxk 19 0) (AS Try.f77) [1,0,1,0,0] (AU 0 (K9 a) (Q0 a) z) (K9 a x):=by
 revert H;generalize x=b;intro H;refine sq<|sr<|ck 4<|en<|cn H (λ H=>?_)<|λ H=>?_
 ·refine sk<|qz<|sq<|bk 1<|sr<|ck 2<|bx H λ m e H=>sp (Fw e)<|bx H λ j f H=>ca false (Nv f)<|ck 1<|en<|cn H (λ H=>?_)<|λ H=>?_
  ·exact sr<|ck 3<|en<|re<|qR<|qr (by cases H;exact ro rfl rdT)
  ·exact sk<|qN<|qz<|rz<|ck 3<|ae (by cases H;exact og<|sg [0,4])
 ·exact ex 0<|qx (by cases H;exact xo rfl<|sg [0])
theorem UM {z} (H:Mn n a=some z):AJ Try.prog 77 [.d (.str a)] (.tup [.d (.int .i64 z.1),.d (.int .i64 z.2)]):=by
 refine fO 19 (Jg3 a) Try.func77<|sr<|ck 2<|en<|sq<|sr<|ck 1<|en<|bk 0<|bx H λ i c H=>?_;rcases i with k|l
 ·exact lX J4 c (sg [0,4]) rfl λ s g=>qH<|qs (g)<|sr<|ck 4<|en<|re (by cases H;exact pr rdT)
 ·exact lR J4 c (sg [0,4]) rfl λ s h=>qR<|qr (by cases H;exact pr h)
end
section
variable (a:(List UInt8))
def Jg6:St:=⟨(0,.d<|.str a)::[],[]⟩
variable {a}
theorem Q2 {z} (H:IH n a=some z):AJ Try.prog 59 [.d (.str a)] (.d (.bool z)):=by
 exact fO 12 (Jg6 a) Try.func59<|sr<|ck 1<|en<|sr<|ck 1<|bx H λ c b H=>ca false (UM b)<|ck 5<|en<|sr<|ck 3<|en<|re (by cases H;exact pr rd)
end
section
variable (a:Int)
def Jg7:St:=⟨(0,.d<|.int .u8 a)::[],[]⟩
variable {a}
theorem Tb {z} (H:Nl n a=some z):AJ Try.prog 60 [.d (.int .u8 a)] (.d (.bool z)):=by
 exact fO 6 (Jg7 a) Try.func60<|sr<|ck 1<|en<|sr<|ck 4<|en<|re (by cases H;exact pr rd)
end
section
variable (a:AB) (f:Int) (c:Bool) (k:Int) (h:Bool) (e:Bool) (b:Bool) (l:Int) (i:Bool)
def Jg8:St:=⟨(0,.agg [.d<|.str a.Print,.d<|.sl<|a.Cells.map eU8,.d<|.int .u8 a.Left,.d<|.int .u8 a.Right,.d<|.int .i64 a.From,.d<|.int .i64 a.To])::(1,.d<|.int .i64 f)::[],[]⟩
def Jg9:St:=⟨(2,.ptr 0 0)::(5,.d<|.bool c)::(6,.d<|.bool false)::(7,.d<|.int .i64 k)::[],[some<|.box<|Hh a]⟩
def Jha:St:=⟨(2,.ptr 0 0)::(5,.d<|.bool h)::(6,.d<|.bool false)::[],[some<|.box<|Hh a]⟩
def P8:Bool->Ex->St->Prop:=xX 0 0<|λ (y:Bool)=>Jha a y
def J5:(Bool×Int)->St:=(λ (x:(Bool×Int))=>Jg9 a x.1 x.2)
def Jhb:St:=⟨(2,.ptr 0 0)::(5,.d<|.bool e)::(6,.d<|.bool b)::(8,.d<|.int .i64 l)::[],[some<|.box<|Hh a]⟩
def Jhc:St:=⟨(2,.ptr 0 0)::(5,.d<|.bool e)::(6,.d<|.bool i)::[],[some<|.box<|Hh a]⟩
def P9:(Bool⊕Bool)->Ex->St->Prop:=xS (xX 0 2<|λ (y:Bool)=>Jhc a e y)<|xR ty Try.f50<|λ (y:Bool)=>.d<|.bool y
def J6:(Bool×Int)->St:=(λ (x:(Bool×Int))=>Jhb a e x.1 x.2)
variable {a f c k h e b l i}
theorem Ol (x:(Bool×Int)) (z:((Bool×Int)⊕Bool)) (H:DP n a x.1 x.2=some z):WP (cxk 125 0) (AS Try.f50) [1,1,1,1,0,1,0,0] (AU 0 (J5 a) (P8 a) z) (J5 a x):=by
 obtain⟨c,k⟩:=x;refine sq<|sr<|ck 5<|en<|cn H (λ H=>?_)<|λ H=>?_
 ·exact sk<|qz<|sq<|bk 1<|rz<|ck 3<|gc 1 (!c)<|ck 1<|bx H λ K o H=>sE (λ hg=>Fw<|DW o hg)<|bx H λ C p H=>cG false (leZ) rfl (λ hg=>Tb<|DW p hg) (Or.inl rfl) (CN (λ hh=>hh)<|Gc) rfl<|pO<|ck 1<|ae<|qN<|qz<|rz<|ck 3<|ae (by cases H;exact og<|sg [2,5,6,7])
 ·exact ex 0<|qx (by cases H;exact xo rfl<|sg [2,5,6])
theorem Jb (x:(Bool×Int)) (z:((Bool×Int)⊕(Bool⊕Bool))) (H:Dd n a e x.1 x.2=some z):WP (cxk 125 0) (AS Try.f50) [1,1,1,1,1,0,1,0,0] (AU 0 (J6 a e) (P9 a e) z) (J6 a e x):=by
 obtain⟨b,l⟩:=x;refine sq<|sr<|ck 3<|sp (AT eU8 a.Cells)<|ck 1<|en<|cn H (λ H=>?_)<|λ H=>?_
 ·refine sk<|qz<|sq<|bk 3<|sq<|sr<|ck 3<|bx H λ E q H=>sp (AY eU8 q)<|ck 2<|en<|cn H (λ H=>?_)<|λ H=>?_
  ·exact sr<|ck 1<|en<|re<|qr<|qR<|qr (by cases H;exact ro rfl rd)
  ·exact sk<|qz<|rz<|ck 3<|gc 1 (!b)<|ck 1<|bx H λ G r H=>sE (λ hg=>AY eU8<|DW r hg)<|gc 2 (!b)<|pO<|ck 1<|ae<|qN<|qz<|rz<|ck 3<|ae (by cases H;exact og<|sg [2,5,6,8])
 ·exact ex 2<|qx (by cases H;exact xo rfl<|sg [2,5,6])
theorem Tc {z} (H:KA n a f=some z):AJ Try.prog 50 [.agg (Hh a),.d (.int .i64 f)] (.d (.bool z)):=by
 refine fO 125 (Jg8 a f) Try.func50<|sr<|ck 2<|en<|sq<|sr<|ck 2<|bx H λ j t H=>ca false (Q2 t)<|ck 3<|gc 3 (!(!j))<|pO<|ck 2<|gc 1 (!((!j)||(decide<|((a.Print.length:Nat):Int)>4)))<|sE (g:=(!((!j)||(decide<|((a.Print.length:Nat):Int)>4)))) (λ hg=>AT eU8 a.Cells)<|gc 1 (!((!j)||(decide<|((a.Print.length:Nat):Int)>4)))<|pO<|ck 2<|gc 1 (!(((!j)||(decide<|((a.Print.length:Nat):Int)>4))||(decide<|((a.Cells.length:Nat):Int)<1)))<|sE (g:=(!(((!j)||(decide<|((a.Print.length:Nat):Int)>4))||(decide<|((a.Cells.length:Nat):Int)<1)))) (λ hg=>AT eU8 a.Cells)<|gc 1 (!(((!j)||(decide<|((a.Print.length:Nat):Int)>4))||(decide<|((a.Cells.length:Nat):Int)<1)))<|pO<|en<|cn H (λ H=>?_)<|λ H=>?_
 ·exact sr<|ck 1<|en<|re<|qr (by cases H;exact pr rd)
 ·refine sk<|qz<|sq<|sr<|ck 5<|gc 2 (!(decide<|a.Left<1))<|pO<|ck 2<|gc 2 (!((decide<|a.Left<1)||(decide<|a.Left>63)))<|pO<|ck 2<|gc 2 (!(((decide<|a.Left<1)||(decide<|a.Left>63))||(decide<|a.Right<1)))<|pO<|ck 2<|gc 2 (!((((decide<|a.Left<1)||(decide<|a.Left>63))||(decide<|a.Right<1))||(decide<|a.Right>63)))<|pO<|ck 2<|gc 1 (!(((((decide<|a.Left<1)||(decide<|a.Left>63))||(decide<|a.Right<1))||(decide<|a.Right>63))||(decide<|a.From<0)))<|ck 1<|gc 1 (!(((((decide<|a.Left<1)||(decide<|a.Left>63))||(decide<|a.Right<1))||(decide<|a.Right>63))||(decide<|a.From<0)))<|pO<|ck 2<|gc 2 (!((((((decide<|a.Left<1)||(decide<|a.Left>63))||(decide<|a.Right<1))||(decide<|a.Right>63))||(decide<|a.From<0))||(decide<|a.From>=f)))<|pO<|ck 2<|gc 1 (!(((((((decide<|a.Left<1)||(decide<|a.Left>63))||(decide<|a.Right<1))||(decide<|a.Right>63))||(decide<|a.From<0))||(decide<|a.From>=f))||(decide<|a.To<0)))<|ck 1<|gc 1 (!(((((((decide<|a.Left<1)||(decide<|a.Left>63))||(decide<|a.Right<1))||(decide<|a.Right>63))||(decide<|a.From<0))||(decide<|a.From>=f))||(decide<|a.To<0)))<|pO<|en<|cn H (λ H=>?_)<|λ H=>?_
  ·exact sr<|ck 1<|en<|re<|qr (by cases H;exact pr rd)
  ·refine sk<|qz<|sr<|ck 2<|en<|sq<|sr<|ck 1<|en<|bk 0<|bx H λ e u H=>lX Ol u (sg [2,5,6,7]) rfl λ s v=>qH<|qs (v)<|sq<|sr<|ck 1<|en<|bk 2<|bx H λ B m H=>?_;rcases B with I|J
   ·refine lX Jb m (sg [2,5,6,8]) rfl λ s w=>qH<|qs (w)<|sq<|sr<|ck 2<|en<|cn H (λ H=>?_)<|λ H=>?_
    ·exact sr<|ck 3<|en<|re<|qr (by cases H;exact pr rd)
    ·exact sk<|qz<|sr<|ck 6<|gc 1 (((a.Print.length:Nat):Int)==1)<|sE (g:=(((a.Print.length:Nat):Int)==1)) (λ hg=>AT eU8 a.Cells)<|gc 1 (((a.Print.length:Nat):Int)==1)<|pA<|ck 2<|pA<|ck 1<|en<|re (by cases H;exact pr rd)
   ·exact lR Jb m (sg [2,5,6,8]) rfl λ s A=>qR<|qr (by cases H;exact pr A)
end
section
variable (a:AB) (b:AB)
def Jhd:St:=⟨(0,.agg [.d<|.str a.Print,.d<|.sl<|a.Cells.map eU8,.d<|.int .u8 a.Left,.d<|.int .u8 a.Right,.d<|.int .i64 a.From,.d<|.int .i64 a.To])::(1,.agg [.d<|.str b.Print,.d<|.sl<|b.Cells.map eU8,.d<|.int .u8 b.Left,.d<|.int .u8 b.Right,.d<|.int .i64 b.From,.d<|.int .i64 b.To])::[],[]⟩
variable {a b}
theorem Om {z} (H:Gi n a b=some z):AJ Try.prog 51 [.agg (Hh a),.agg (Hh b)] (.d (.bool z)):=by
 exact fO 45 (Jhd a b) Try.func51<|sr<|ck 3<|en<|sr<|ck 7<|gc 1 (a.Print==b.Print)<|ck 1<|gc 1 (a.Print==b.Print)<|bx H λ c e H=>cG false (leZ) rfl (λ hg=>H7<|DW e hg) (Or.inl rfl) (CN (λ hh=>hh)<|CN (λ hh=>hh)<|Gc) rfl<|pA<|ck 2<|gc 1 ((a.Print==b.Print)&&c)<|ck 1<|gc 2 ((a.Print==b.Print)&&c)<|pA<|ck 2<|gc 1 (((a.Print==b.Print)&&c)&&(a.Left==b.Left))<|ck 1<|gc 2 (((a.Print==b.Print)&&c)&&(a.Left==b.Left))<|pA<|ck 2<|gc 1 ((((a.Print==b.Print)&&c)&&(a.Left==b.Left))&&(a.Right==b.Right))<|ck 1<|gc 2 ((((a.Print==b.Print)&&c)&&(a.Left==b.Left))&&(a.Right==b.Right))<|pA<|ck 2<|gc 1 (((((a.Print==b.Print)&&c)&&(a.Left==b.Left))&&(a.Right==b.Right))&&(a.From==b.From))<|ck 1<|gc 2 (((((a.Print==b.Print)&&c)&&(a.Left==b.Left))&&(a.Right==b.Right))&&(a.From==b.From))<|pA<|ck 1<|en<|re (by cases H;exact pr rd)
end
section
variable (a:Ab) (b:Int) (f:Int)
def Jhe:St:=⟨(0,.agg [.d<|.int .i64 a.Modes,.d<|.int .u8 a.Accept,.d<|.sl<|a.Rules.map Aw])::[],[]⟩
def Jhf:St:=⟨(1,.ptr 0 0)::(4,.d<|.int .i64 b)::[],[some<|.box<|Bj a]⟩
def Jhg:St:=⟨[],[]⟩
def Jhh:St:=⟨(1,.ptr 0 0)::(4,.d<|.int .i64 b)::(5,.d<|.int .i64 f)::[],[some<|.box<|Bj a]⟩
def Jhi:St:=⟨(1,.ptr 0 0)::(4,.d<|.int .i64 b)::[],[some<|.box<|Bj a]⟩
def Qa:(Unit⊕(Int×Int))->Ex->St->Prop:=xS (xX 0 2<|λ (_:Unit)=>Jhi a b)<|xR ty Try.f38<|λ (y:(Int×Int))=>.tup [.d<|.int .i64 y.1,.d<|.int .i64 y.2]
def J7:Int->St:=(λ (x:Int)=>Jhh a b x)
def Qb:(Unit⊕(Int×Int))->Ex->St->Prop:=xS (xX 0 0<|λ (_:Unit)=>Jhg)<|xR ty Try.f38<|λ (y:(Int×Int))=>.tup [.d<|.int .i64 y.1,.d<|.int .i64 y.2]
def J8:Int->St:=(λ (x:Int)=>Jhf a x)
variable {a b f}
theorem Jc (x:Int) (z:(Int⊕(Unit⊕(Int×Int)))) (H:EX n a b x=some z):WP (cxk 74 0) (AS Try.f38) [1,1,0,1,0,0,1,0,0,1,1,0,0] (AU 0 (J7 a b) (Qa a b) z) (J7 a b x):=by
 revert H;generalize x=f;intro H;refine sq<|sr<|ck 3<|en<|cn H (λ H=>?_)<|λ H=>?_
 ·refine sk<|qz<|sq<|bk 3<|sr<|ck 3<|bx H λ w h H=>sp (AY Aw h)<|ck 4<|bx H λ A i H=>sp (AY Aw i)<|ck 1<|bx H λ B j H=>ca false (Om j)<|en<|cn H (λ H=>?_)<|λ H=>?_
  ·exact sr<|ck 3<|en<|re<|qR<|qr (by cases H;exact ro rfl rdT)
  ·exact sk<|qN<|qz<|rz<|ck 3<|ae (by cases H;exact og<|sg [1,4,5])
 ·exact ex 2<|qx (by cases H;exact xo rfl<|sg [1,4])
theorem Jd (x:Int) (z:(Int⊕(Unit⊕(Int×Int)))) (H:EY n a x=some z):WP (cxk 74 0) (AS Try.f38) [1,1,0,1,0,0] (AU 0 (J8 a) (Qb) z) (J8 a x):=by
 revert H;generalize x=b;intro H;refine sq<|sr<|ck 3<|sp (AT Aw a.Rules)<|ck 1<|en<|cn H (λ H=>?_)<|λ H=>?_
 ·refine sk<|qz<|sq<|bk 1<|sq<|sr<|ck 3<|bx H λ C k H=>sp (AY Aw k)<|ck 3<|bx H λ E l H=>ca false (Tc l)<|ck 1<|en<|cn H (λ H=>?_)<|λ H=>?_
  ·exact sr<|ck 3<|en<|re<|qr<|qR<|qr (by cases H;exact ro rfl rdT)
  ·refine sk<|qz<|sr<|ck 1<|en<|bk 2<|bx H λ t c H=>?_;rcases t with G|I
   ·exact lX Jc c (sg [1,4,5]) rfl λ s m=>qH<|qN<|qs (m)<|rz<|ck 3<|ae (by cases H;exact og<|sg [1,4])
   ·exact lR Jc c (sg [1,4,5]) rfl λ s o=>qR<|qR<|qr (by cases H;exact ro rfl o)
 ·exact ex 0<|qx (by cases H;exact xo rfl<|sg [])
theorem Td {z} (H:KB n a=some z):AJ Try.prog 38 [.agg (Bj a)] (.tup [.d (.int .i64 z.1),.d (.int .i64 z.2)]):=by
 refine fO 74 (Jhe a) Try.func38<|sr<|ck 3<|en<|sq<|sr<|ck 5<|gc 2 (!(decide<|a.Modes<1))<|pO<|ck 2<|gc 2 (!((decide<|a.Modes<1)||(decide<|a.Modes>8)))<|pO<|ck 2<|gc 2 (!(((decide<|a.Modes<1)||(decide<|a.Modes>8))||(a.Accept==0)))<|ck 1<|gc 1 (!(((decide<|a.Modes<1)||(decide<|a.Modes>8))||(a.Accept==0)))<|bx H λ v p H=>soG (λ hg=>Gy<|DW p hg) (CN (λ hh=>hh)<|Gc)<|gc 1 (!(((decide<|a.Modes<1)||(decide<|a.Modes>8))||(a.Accept==0)))<|pO<|ck 2<|gc 1 (!((((decide<|a.Modes<1)||(decide<|a.Modes>8))||(a.Accept==0))||(decide<|IntKind.i64.wrap a.Accept>=PB .i64 1 a.Modes)))<|sE (g:=(!((((decide<|a.Modes<1)||(decide<|a.Modes>8))||(a.Accept==0))||(decide<|IntKind.i64.wrap a.Accept>=PB .i64 1 a.Modes)))) (λ hg=>AT Aw a.Rules)<|gc 1 (!((((decide<|a.Modes<1)||(decide<|a.Modes>8))||(a.Accept==0))||(decide<|IntKind.i64.wrap a.Accept>=PB .i64 1 a.Modes)))<|pO<|ck 2<|gc 1 (!(((((decide<|a.Modes<1)||(decide<|a.Modes>8))||(a.Accept==0))||(decide<|IntKind.i64.wrap a.Accept>=PB .i64 1 a.Modes))||(decide<|((a.Rules.length:Nat):Int)<1)))<|sE (g:=(!(((((decide<|a.Modes<1)||(decide<|a.Modes>8))||(a.Accept==0))||(decide<|IntKind.i64.wrap a.Accept>=PB .i64 1 a.Modes))||(decide<|((a.Rules.length:Nat):Int)<1)))) (λ hg=>AT Aw a.Rules)<|gc 1 (!(((((decide<|a.Modes<1)||(decide<|a.Modes>8))||(a.Accept==0))||(decide<|IntKind.i64.wrap a.Accept>=PB .i64 1 a.Modes))||(decide<|((a.Rules.length:Nat):Int)<1)))<|pO<|en<|cn H (λ H=>?_)<|λ H=>?_
 ·exact sr<|ck 2<|en<|re<|qr (by cases H;exact pr rdT)
 ·refine sk<|qz<|sq<|sr<|ck 1<|en<|bk 0<|bx H λ u e H=>?_;rcases u with J|K
  ·exact lX Jd e (sg [1,4]) rfl λ s q=>qH<|qs (q)<|sr<|ck 2<|en<|re (by cases H;exact pr rdT)
  ·exact lR Jd e (sg [1,4]) rfl λ s r=>qR<|qr (by cases H;exact pr r)
end
section
variable (a:Ab)
def Jhj:St:=⟨(0,.agg [.d<|.int .i64 a.Modes,.d<|.int .u8 a.Accept,.d<|.sl<|a.Rules.map Aw])::[],[]⟩
variable {a}
theorem Te {z} (H:Nm n a=some z):AJ Try.prog 22 [.agg (Bj a)] (.d (.bool z)):=by
 exact fO 12 (Jhj a) Try.func22<|sr<|ck 2<|en<|sr<|ck 1<|bx H λ c b H=>ca false (Td b)<|ck 5<|en<|sr<|ck 3<|en<|re (by cases H;exact pr rd)
end
section
variable (b:Ji) (a:Ab) (j:Ab) (h:Int) (q:Ab) (m:Ab) (i:Ab) (g:Int) (r:Ab) (o:Ab) (p:Ab)
def Jja:St:=⟨(0,.agg [.d<|.int .u8 b.Base,.d<|.int .u8 b.Drop,.d<|.sl<|b.More.map EC])::[],[]⟩
def Jjb:St:=⟨(1,.ptr 0 0)::(2,.ptr 1 0)::(3,.ptr 2 0)::(4,.osl 3 6 0<|a.Rules.length)::(5,.d<|.int .i64 h)::[],[some<|.box<|Wq b,some<|.box [.d<|.int .i64 0,.d<|.int .u8 0,.osl 4 6 0<|List.length ([]:List AB)],some<|.box<|GD j<|.osl 5 6 0<|j.Rules.length,some<|.arr 6<|a.Rules.map Aw,some<|.arr 6<|List.map Aw ([]:List AB),some<|.arr 6<|j.Rules.map Aw]⟩
def Jjc:St:=⟨(1,.ptr 0 0)::(2,.ptr 1 0)::(3,.ptr 2 0)::(4,.osl 3 6 0<|a.Rules.length)::[],[some<|.box<|Wq b,some<|.box [.d<|.int .i64 0,.d<|.int .u8 0,.osl 4 6 0<|List.length ([]:List AB)],some<|.box<|GD q<|.osl 5 6 0<|q.Rules.length,some<|.arr 6<|a.Rules.map Aw,some<|.arr 6<|List.map Aw ([]:List AB),some<|.arr 6<|q.Rules.map Aw]⟩
def Jjd:St:=⟨(1,.ptr 0 0)::(2,.ptr 1 0)::(3,.ptr 2 0)::(4,.osl 3 6 0<|a.Rules.length)::(5,.d<|.int .i64 h)::[],[some<|.box<|Wq b,some<|.box [.d<|.int .i64 0,.d<|.int .u8 0,.osl 4 6 0<|List.length ([]:List AB)],some<|.box<|GD m<|.osl 5 6 0<|m.Rules.length,some<|.arr 6<|a.Rules.map Aw,some<|.arr 6<|List.map Aw ([]:List AB),some<|.arr 6<|m.Rules.map Aw]⟩
def Q3:Ab->Ex->St->Prop:=xX 0 0<|λ (y:Ab)=>Jjc b a y
def La:(Ab×Int)->St:=(λ (x:(Ab×Int))=>Jjb b a x.1 x.2)
def Jje:St:=⟨(1,.ptr 0 0)::(2,.ptr 1 0)::(3,.ptr 2 0)::(4,.osl 3 6 0<|a.Rules.length)::(6,.d<|.int .i64 g)::[],[some<|.box<|Wq b,some<|.box [.d<|.int .i64 0,.d<|.int .u8 0,.osl 4 6 0<|List.length ([]:List AB)],some<|.box<|GD i<|.osl 5 6 0<|i.Rules.length,some<|.arr 6<|a.Rules.map Aw,some<|.arr 6<|List.map Aw ([]:List AB),some<|.arr 6<|i.Rules.map Aw]⟩
def Jjf:St:=⟨(2,.ptr 0 0)::(3,.ptr 1 0)::(4,.osl 2 6 0<|a.Rules.length)::[],[some<|.box [.d<|.int .i64 0,.d<|.int .u8 0,.osl 3 6 0<|List.length ([]:List AB)],some<|.box<|GD r<|.osl 4 6 0<|r.Rules.length,some<|.arr 6<|a.Rules.map Aw,some<|.arr 6<|List.map Aw ([]:List AB),some<|.arr 6<|r.Rules.map Aw]⟩
def Jjg:St:=⟨(1,.ptr 0 0)::(2,.ptr 1 0)::(3,.ptr 2 0)::(4,.osl 3 6 0<|a.Rules.length)::(6,.d<|.int .i64 g)::[],[some<|.box<|Wq b,some<|.box [.d<|.int .i64 0,.d<|.int .u8 0,.osl 4 6 0<|List.length ([]:List AB)],some<|.box<|GD o<|.osl 5 6 0<|o.Rules.length,some<|.arr 6<|a.Rules.map Aw,some<|.arr 6<|List.map Aw ([]:List AB),some<|.arr 6<|o.Rules.map Aw]⟩
def Q4:Ab->Ex->St->Prop:=xX 0 2<|λ (y:Ab)=>Jjf a y
def Lc:(Ab×Int)->St:=(λ (x:(Ab×Int))=>Jje b a x.1 x.2)
def Jjh:St:=⟨(2,.ptr 0 0)::(3,.ptr 1 0)::[],[some<|.box [.d<|.int .i64 0,.d<|.int .u8 0,.osl 2 6 0<|List.length ([]:List AB)],some<|.box<|GD p<|.osl 3 6 0<|p.Rules.length,some<|.arr 6<|List.map Aw ([]:List AB),some<|.arr 6<|p.Rules.map Aw]⟩
variable {b a j h q m i g r o p}
theorem Qc (x:(Ab×Int)) (z:((Ab×Int)⊕Ab)) (H:C5 n b a x.1 x.2=some z):WP (cxk 77 0) (AS Try.f8) [1,1,1,1,0,1,0,0] (AU 0 (La b a) (Q3 b a) z) (La b a x):=by
 obtain⟨j,h⟩:=x;refine sq<|sr<|ck 4<|en<|cn H (λ H=>?_)<|λ H=>?_
 ·refine sk<|qz<|sj (λ (x:Ab)=>Jjd b a h x) (λ (x:Ab)=>DE n h x) z ?_ (λ c=>?_)
  ·intro m H;exact rz<|ck 3<|ae (by cases H;exact og<|sg [1,2,3,4,5])
  refine bk 1<|sr<|ck 3<|bx H λ R B H=>so (Gy B)<|ck 2<|en<|cn H (λ H=>?_)<|λ H=>?_
  ·exact rz<|ck 4<|bx H λ U t H=>sp (Bd 3 6 t)<|sp (BT Aw 3 0 (ty 66) t)<|ck 1<|bx H λ Q C H=>sp (B5 Aw 5 6 C)<|ck 2<|ae<|qN<|qs (sg [1,2,3,4,5])<|c ({ Modes:=j.Modes,Accept:=j.Accept,Rules:=Q }:Ab) H
  ·exact sk<|qN<|qs (sg [1,2,3,4,5])<|c j H
 ·exact ex 0<|qx (by cases H;exact xo rfl<|sg [1,2,3,4])
theorem Qd (x:(Ab×Int)) (z:((Ab×Int)⊕Ab)) (H:C6 n b a x.1 x.2=some z):WP (cxk 77 0) (AS Try.f8) [1,1,1,1,1,0,1,0,0] (AU 0 (Lc b a) (Q4 a) z) (Lc b a x):=by
 obtain⟨i,g⟩:=x;refine sq<|sr<|ck 3<|sp (AT EC b.More)<|ck 3<|gc 1 (decide<|g<((b.More.length:Nat):Int))<|pA<|en<|cn H (λ H=>?_)<|λ H=>?_
 ·refine sk<|qz<|sj (λ (x:Ab)=>Jjg b a g x) (λ (x:Ab)=>DF n g x) z ?_ (λ e=>?_)
  ·intro o H;exact rz<|ck 3<|ae (by cases H;exact og<|sg [1,2,3,4,6])
  refine bk 3<|sr<|ck 5<|bx H λ V E H=>sp (AY EC E)<|ck 3<|bx H λ S G H=>ca false (UL G)<|ck 1<|bx H λ u I H=>sp (B5 Aw 5 6 I)<|ck 2<|en<|sr<|ck 1<|bx H λ T J H=>cb (ks:=[7]) (obl:=[(0+List.length u,List.length<|u.map Aw)]) false (leK leM<|leZ) (JM (Jjy<|JM rfl<|JM rfl<|JM Ut rfl) rfl) (Te J) (Or.inr trivial) rfl<|ck 1<|en<|cn H (λ H=>?_)<|λ H=>?_
  ·exact rz<|ck 6<|bx H λ w l H=>sp (PM 7 6 l)<|ck 2<|ae<|qN<|qs (tr (Ku (k:=7) (sz:=6) 2 2 (w.map Aw) (w.length) (by kernel_rfl) (Ox l) (SK (enc:=Aw) l)<|SL l)<|sg [1,2,3,4,6])<|e ({ Modes:=i.Modes,Accept:=i.Accept,Rules:=w }:Ab) H
  ·exact sk<|qN<|qs (sg [1,2,3,4,6])<|e ({ Modes:=i.Modes,Accept:=i.Accept,Rules:=u }:Ab) H
 ·exact ex 2<|qx (by cases H;exact xo rfl<|sg [2,3,4])
theorem UN {z} (H:FQ n b=some z):AJ Try.prog 8 [.agg (Wq b)] (.agg [.d (.int .i64 z.Modes),.d (.int .u8 z.Accept),.own 6 (z.Rules.map Aw)]):=by
 refine fO 77 (Jja b) Try.func8<|sr<|ck 2<|en<|sr<|ck 2<|bx H λ a K H=>cl [List.length a.Rules] (N6 K)<|ck 2<|en<|sr<|ck 3<|en<|sr<|ck 3<|en<|sq<|sr<|ck 1<|en<|bk 0<|bx H λ W L H=>lX Qc L (tr (Fv 1 2 6 (by kernel_rfl))<|sg [1,2,3,4,5]) rfl λ s M=>qH<|qs (M)<|sq<|sr<|ck 1<|en<|bk 2<|bx H λ A O H=>lX Qd O (sg [1,2,3,4,6]) rfl λ s P=>qH<|qs (P)<|sj (λ (x:Ab)=>Jjh x) (λ (x:Ab)=>Ez n x) z ?_ (λ f=>?_)
 ·intro p H;exact sr<|ck 2<|en<|re (by cases H;exact pr<|rO (v:=.agg [.d<|.int .i64 z.Modes,.d<|.int .u8 z.Accept,.osl 3 6 0<|z.Rules.length]) [3]<|a1<|c1 vd<|c1 vd<|c1 vo<|c0)
 refine sr<|ck 4<|en<|cn H (λ H=>?_)<|λ H=>?_
 ·exact rz<|ck 3<|ae<|qs (sg [2,3])<|f ({ Modes:=A.Modes,Accept:=A.Accept,Rules:=a.Rules }:Ab) H
 ·exact sk<|qs (sg [2,3])<|f A H
end
section
variable (a:(List (Da Int))) (b:(List Ay)) (e:Int) (c:(List Ay))
def Jji:St:=⟨(0,.d<|.sl<|a.map<|JS eU8)::[],[]⟩
def Jjj:St:=⟨(0,.d<|.sl<|a.map<|JS eU8)::(3,.osl 0 2 0<|b.length)::(4,.d<|.int .i64 e)::[],[some<|.arr 2<|b.map Bt]⟩
def Jjk:St:=⟨(3,.osl 0 2 0<|c.length)::[],[some<|.arr 2<|c.map Bt]⟩
def Q5:(List Ay)->Ex->St->Prop:=xX 0 0<|λ (y:(List Ay))=>Jjk y
def Ld:((List Ay)×Int)->St:=(λ (x:((List Ay)×Int))=>Jjj a x.1 x.2)
variable {a b e c}
theorem Qe (x:((List Ay)×Int)) (z:(((List Ay)×Int)⊕(List Ay))) (H:FR n a x.1 x.2=some z):WP (cxk 33 0) (AS Try.f9) [1,1,0,1,0,0] (AU 0 (Ld a) (Q5) z) (Ld a x):=by
 obtain⟨b,e⟩:=x;refine sq<|sr<|ck 2<|sp (AT (JS eU8) a)<|ck 3<|gc 1 (decide<|e<((a.length:Nat):Int))<|pA<|en<|cn H (λ H=>?_)<|λ H=>?_
 ·exact sk<|qz<|sq<|bk 1<|rz<|ck 3<|bx H λ k f H=>sp (AY (JS eU8) f)<|ck 5<|bx H λ l g H=>sp (AY (JS eU8) g)<|ck 5<|bx H λ m h H=>sp (B5 Bt 0 2 h)<|ck 1<|ae<|qN<|qz<|rz<|ck 3<|ae (by cases H;exact og<|sg [0,3,4])
 ·exact ex 0<|qx (by cases H;exact xo rfl<|sg [3])
theorem UO {z} (H:Mo n a=some z):AJ Try.prog 9 [.d (.sl (a.map (JS eU8)))] (.own 2 (z.map Bt)):=by
 exact fO 33 (Jji a) Try.func9<|sr<|ck 1<|en<|sr<|ck 2<|en<|sq<|sr<|ck 1<|en<|bk 0<|bx H λ o i H=>lX Qe i (sg [0,3,4]) rfl λ s j=>qH<|qs (j)<|sr<|ck 2<|en<|re (by cases H;exact pr<|rO (v:=.osl 0 2 0<|z.length) [0]<|ao vo)
end
def Jhk:St:=⟨[],[]⟩
theorem Tf {z} (H:RP n=some z):AJ Try.prog 26 [] (.agg [.d (.int .i64 z.Mode),.d (.int .i64 z.Last),.d (.int .u8 z.Need)]):=by
 exact fO 2 Jhk Try.func26<|sr<|ck 1<|en<|sr<|ck 2<|en<|re (by cases H;exact pr rd)
section
variable (b:Int) (a:Int)
def Jhl:St:=⟨(0,.d<|.int .u8 b)::(1,.d<|.int .i64 a)::[],[]⟩
variable {b a}
theorem IS {z} (H:Gj n b a=some z):AJ Try.prog 48 [.d (.int .u8 b),.d (.int .i64 a)] (.d (.bool z)):=by
 exact fO 18 (Jhl b a) Try.func48<|sr<|ck 1<|en<|sr<|ck 4<|gc 1 (decide<|a>=0)<|pA<|ck 3<|bx H λ e c H=>soG (λ hg=>Gy<|DW c hg) (CN (λ hh=>hh)<|CN (λ hh=>hh)<|Gc)<|gc 2 ((decide<|a>=0)&&(decide<|a<8))<|pA<|ck 1<|en<|re (by cases H;exact pr rd)
end
end Go.AI
end
section
namespace Go.AI
open Go.Proofs
set_option maxRecDepth 10000
variable {n:Nat}
section
variable (b:Ab) (a:Af)
def Jhm:St:=⟨(0,.agg [.d<|.int .i64 b.Modes,.d<|.int .u8 b.Accept,.d<|.sl<|b.Rules.map Aw])::(1,.agg [.d<|.int .i64 a.Mode,.d<|.int .i64 a.Last,.d<|.int .u8 a.Need])::[],[]⟩
variable {b a}
theorem Qf {z} (H:EA n b a=some z):AJ Try.prog 32 [.agg (Bj b),.agg (CJ a)] (.d (.bool z)):=by
 exact fO 27 (Jhm b a) Try.func32<|sr<|ck 3<|en<|sr<|ck 5<|gc 1 (decide<|a.Mode>=0)<|ck 1<|gc 2 (decide<|a.Mode>=0)<|pA<|ck 2<|gc 1 ((decide<|a.Mode>=0)&&(decide<|a.Mode<b.Modes))<|ck 1<|gc 1 ((decide<|a.Mode>=0)&&(decide<|a.Mode<b.Modes))<|bx H λ c e H=>cG false (leZ) rfl (λ hg=>IS<|DW e hg) (Or.inl rfl) (CN (λ hh=>hh)<|CN (λ hh=>hh)<|Gc) rfl<|pA<|ck 2<|gc 1 (((decide<|a.Mode>=0)&&(decide<|a.Mode<b.Modes))&&c)<|bx H λ g f H=>cG false (leZ) rfl (λ hg=>IS<|DW f hg) (Or.inl rfl) (CN (λ hh=>hh)<|Gc) rfl<|pA<|ck 1<|en<|re (by cases H;exact pr rd)
end
section
variable (a:(List Int)) (b:(List Int)) (c:Int)
def Jhn:St:=⟨(0,.d<|.sl<|a.map eU8)::(1,.d<|.sl<|b.map eU8)::[],[]⟩
def Jho:St:=⟨(0,.d<|.sl<|a.map eU8)::(1,.d<|.sl<|b.map eU8)::(5,.d<|.int .i64 c)::[],[]⟩
def Jhp:St:=⟨[],[]⟩
def Q6:(Unit⊕Bool)->Ex->St->Prop:=xS (xX 0 0<|λ (_:Unit)=>Jhp)<|xR ty Try.f58<|λ (y:Bool)=>.d<|.bool y
def Lf:Int->St:=(λ (x:Int)=>Jho a b x)
variable {a b c}
theorem J9 (x:Int) (z:(Int⊕(Unit⊕Bool))) (H:DG n a b x=some z):WP (cxk 36 0) (AS Try.f58) [1,0,1,0,0] (AU 0 (Lf a b) (Q6) z) (Lf a b x):=by
 revert H;generalize x=c;intro H;refine sq<|sr<|ck 2<|sp (AT eU8 a)<|ck 4<|sE (g:=decide<|c<((a.length:Nat):Int)) (λ hg=>AT eU8 b)<|gc 1 (decide<|c<((a.length:Nat):Int))<|pA<|en<|cn H (λ H=>?_)<|λ H=>?_
 ·refine sk<|qz<|sq<|bk 1<|sr<|ck 2<|bx H λ o f H=>sp (AY eU8 f)<|ck 3<|bx H λ p h H=>sp (AY eU8 h)<|ck 2<|en<|cn H (λ H=>?_)<|λ H=>?_
  ·exact sr<|ck 2<|bx H λ q i H=>sp (AY eU8 i)<|ck 3<|bx H λ r j H=>sp (AY eU8 j)<|ck 3<|en<|re<|qR<|qr (by cases H;exact ro rfl rd)
  ·exact sk<|qN<|qz<|rz<|ck 3<|ae (by cases H;exact og<|sg [0,1,5])
 ·exact ex 0<|qx (by cases H;exact xo rfl<|sg [])
theorem UP {z} (H:HV n a b=some z):AJ Try.prog 58 [.d (.sl (a.map eU8)),.d (.sl (b.map eU8))] (.d (.bool z)):=by
 refine fO 36 (Jhn a b) Try.func58<|sr<|ck 1<|en<|sq<|sr<|ck 1<|en<|bk 0<|bx H λ m e H=>?_;rcases m with t|u
 ·exact lX J9 e (sg [0,1,5]) rfl λ s k=>qH<|qs (k)<|sr<|ck 1<|en<|re (by cases H;exact pr rd)
 ·exact lR J9 e (sg [0,1,5]) rfl λ s l=>qR<|qr (by cases H;exact pr l)
end
section
variable (a:Int)
def Jhq:St:=⟨(0,.d<|.int .u8 a)::[],[]⟩
variable {a}
theorem Mt {z} (H:Fk n a=some z):AJ Try.prog 49 [.d (.int .u8 a)] (.d (.int .i64 z)):=by
 refine fO 26 (Jhq a) Try.func49<|sr<|ck 1<|en<|sr<|ck 3<|en<|sq<|sr<|ck 4<|gc 1 (decide<|Cg .u8 a 127>=97)<|pA<|en<|cn H (λ H=>?_)<|λ H=>?_
 ·exact sr<|ck 1<|en<|re<|qr (by cases H;exact pr rd)
 ·refine sk<|qz<|sq<|sr<|ck 4<|gc 1 (decide<|Cg .u8 a 127>=65)<|pA<|en<|cn H (λ H=>?_)<|λ H=>?_
  ·exact sr<|ck 1<|en<|re<|qr (by cases H;exact pr rd)
  ·refine sk<|qz<|sq<|sr<|ck 4<|gc 1 (decide<|Cg .u8 a 127>=48)<|pA<|en<|cn H (λ H=>?_)<|λ H=>?_
   ·exact sr<|ck 1<|en<|re<|qr (by cases H;exact pr rd)
   ·refine sk<|qz<|sq<|sr<|ck 2<|en<|cn H (λ H=>?_)<|λ H=>?_
    ·exact sr<|ck 1<|en<|re<|qr (by cases H;exact pr rd)
    ·exact sk<|qz<|sr<|ck 1<|en<|re (by cases H;exact pr rd)
end
section
variable (b:Ab) (a:Af) (c:Int)
def Jhr:St:=⟨(0,.agg [.d<|.int .i64 b.Modes,.d<|.int .u8 b.Accept,.d<|.sl<|b.Rules.map Aw])::(1,.agg [.d<|.int .i64 a.Mode,.d<|.int .i64 a.Last,.d<|.int .u8 a.Need])::(2,.d<|.int .i64 c)::[],[]⟩
variable {b a c}
theorem UQ {z} (H:HW n b a c=some z):AJ Try.prog 33 [.agg (Bj b),.agg (CJ a),.d (.int .i64 c)] (.tup [.agg [.d (.int .i64 z.1.Mode),.d (.int .i64 z.1.Last),.d (.int .u8 z.1.Need)],.d (.bool z.2)]):=by
 refine fO 87 (Jhr b a c) Try.func33<|sr<|ck 4<|en<|sq<|sr<|ck 5<|gc 1 (!(decide<|c<0))<|sE (g:=(!(decide<|c<0))) (λ hg=>AT Aw b.Rules)<|gc 1 (!(decide<|c<0))<|pO<|en<|cn H (λ H=>?_)<|λ H=>?_
 ·exact sr<|ck 3<|en<|re<|qr (by cases H;exact pr rdT)
 ·refine sk<|qz<|sr<|ck 3<|bx H λ e f H=>sp (AY Aw f)<|ck 3<|en<|sq<|sr<|ck 7<|gc 1 (!(e.From != a.Mode))<|ck 1<|gc 1 (!(e.From != a.Mode))<|bx H λ o h H=>cG false (leZ) rfl (λ hg=>IS<|DW h hg) (Or.inl rfl) (CN (λ hh=>hh)<|CN (λ hh=>hh)<|Gc) rfl<|gc 1 (!(e.From != a.Mode))<|pO<|en<|cn H (λ H=>?_)<|λ H=>?_
  ·exact sr<|ck 3<|en<|re<|qr (by cases H;exact pr rdT)
  ·refine sk<|qz<|sq<|sr<|ck 6<|gc 1 (((e.Print.length:Nat):Int)==0)<|ck 1<|gc 3 (((e.Print.length:Nat):Int)==0)<|pA<|en<|cn H (λ H=>?_)<|λ H=>?_
   ·exact sr<|ck 3<|en<|re<|qr (by cases H;exact pr rdT)
   ·refine sk<|qz<|sq<|sr<|ck 4<|en<|cn H (λ H=>?_)<|λ H=>?_
    ·exact sr<|ck 12<|en<|re<|qr (by cases H;exact pr rdT)
    ·refine sk<|qz<|sq<|sr<|ck 4<|bx H λ t i H=>sp (Fw i)<|bx H λ p j H=>ca false (Mt j)<|bx H λ q k H=>ca false (IS k)<|ck 1<|en<|cn H (λ H=>?_)<|λ H=>?_
     ·exact sr<|ck 3<|en<|re<|qr (by cases H;exact pr rdT)
     ·exact sk<|qz<|sr<|ck 8<|bx H λ s l H=>sp (Fw l)<|bx H λ r m H=>ca false (Mt m)<|ck 5<|en<|re (by cases H;exact pr rdT)
end
section
variable (a:Int) (b:Int)
def Jhs:St:=⟨(0,.d<|.int .u8 a)::(1,.d<|.int .i64 b)::[],[]⟩
variable {a b}
theorem Ly {z} (H:Hg n a b=some z):AJ Try.prog 44 [.d (.int .u8 a),.d (.int .i64 b)] (.d (.bool z)):=by
 exact fO 11 (Jhs a b) Try.func44<|sr<|ck 1<|en<|sr<|ck 3<|bx H λ e c H=>so (Gy c)<|ck 3<|en<|re (by cases H;exact pr rd)
end
section
variable (a:Ay) (c:Int) (f:Int) (e:Int) (i:Int) (h:Int)
def Jht:St:=⟨(0,.agg [.d<|.int .u8 a.Up,.d<|.int .u8 a.Maybe])::(1,.d<|.int .u8 c)::[],[]⟩
def Jhu:St:=⟨(1,.d<|.int .u8 c)::(2,.ptr 0 0)::(5,.d<|.int .i64 f)::(6,.d<|.int .i64 e)::[],[some<|.box [.d<|.int .u8 a.Up,.d<|.int .u8 a.Maybe]]⟩
def Jhv:St:=⟨(5,.d<|.int .i64 i)::[],[]⟩
def Jhw:St:=⟨(1,.d<|.int .u8 c)::(2,.ptr 0 0)::(5,.d<|.int .i64 h)::(6,.d<|.int .i64 e)::[],[some<|.box [.d<|.int .u8 a.Up,.d<|.int .u8 a.Maybe]]⟩
def Q7:Int->Ex->St->Prop:=xX 0 0<|λ (y:Int)=>Jhv y
def Lg:(Int×Int)->St:=(λ (x:(Int×Int))=>Jhu a c x.1 x.2)
variable {a c f e i h}
theorem Qg (x:(Int×Int)) (z:((Int×Int)⊕Int)) (H:DH n a c x.1 x.2=some z):WP (cxk 29 0) (AS Try.f28) [1,1,0,1,0,0] (AU 0 (Lg a c) (Q7) z) (Lg a c x):=by
 obtain⟨f,e⟩:=x;refine sq<|sr<|ck 2<|en<|cn H (λ H=>?_)<|λ H=>?_
 ·refine sk<|qz<|sj (λ (x:Int)=>Jhw a c e x) (λ (x:Int)=>EB n e x) z ?_ (λ b=>?_)
  ·intro h H;exact rz<|ck 3<|ae (by cases H;exact og<|sg [1,2,5,6])
  refine bk 1<|sr<|ck 3<|bx H λ g j H=>ca false (Ly j)<|ck 3<|gc 1 (!g)<|ck 1<|bx H λ p k H=>cG false (leZ) rfl (λ hg=>Ly<|DW k hg) (Or.inl rfl) (CN (λ hh=>hh)<|CN (λ hh=>hh)<|Gc) rfl<|ck 2<|bx H λ q l H=>cG false (leZ) rfl (λ hg=>Ly<|DW l hg) (Or.inl rfl) (CN (λ hh=>hh)<|CN (λ hh=>hh)<|Gc) rfl<|gc 1 (!g)<|pA<|en<|cn H (λ H=>?_)<|λ H=>?_
  ·exact rz<|ck 3<|ae<|qN<|qs (sg [1,2,5,6])<|b (AZ .i64 f 1) H
  ·exact sk<|qN<|qs (sg [1,2,5,6])<|b f H
 ·exact ex 0<|qx (by cases H;exact xo rfl<|sg [5])
theorem UR {z} (H:HX n a c=some z):AJ Try.prog 28 [.agg [.d (.int .u8 a.Up),.d (.int .u8 a.Maybe)],.d (.int .u8 c)] (.d (.int .i64 z)):=by
 exact fO 29 (Jht a c) Try.func28<|sr<|ck 2<|en<|sr<|ck 1<|en<|sq<|sr<|ck 1<|en<|bk 0<|bx H λ r m H=>lX Qg m (sg [1,2,5,6]) rfl λ s o=>qH<|qs (o)<|sr<|ck 2<|en<|re (by cases H;exact pr rd)
end
section
variable (e:An) (f:An)
def Jhx:St:=⟨(0,.agg [.d<|.str e.Text,.d<|.sl<|e.Cells.map eU8,.d<|.int .i64 e.Cost])::(1,.agg [.d<|.str f.Text,.d<|.sl<|f.Cells.map eU8,.d<|.int .i64 f.Cost])::[],[]⟩
variable {e f}
theorem Q8 {z} (H:II n e f=some z):AJ Try.prog 27 [.agg (D0 e),.agg (D0 f)] (.d (.bool z)):=by
 exact fO 24 (Jhx e f) Try.func27<|sr<|ck 3<|en<|sr<|ck 7<|gc 1 (!(decide<|e.Cost<f.Cost))<|ck 1<|gc 3 (!(decide<|e.Cost<f.Cost))<|ck 1<|gc 1 ((!(decide<|e.Cost<f.Cost))&&(e.Cost==f.Cost))<|ck 1<|gc 2 ((!(decide<|e.Cost<f.Cost))&&(e.Cost==f.Cost))<|pG (g:=(!(decide<|e.Cost<f.Cost))) (v:=.d<|.bool<|(e.Cost==f.Cost)&&(Op.bytesLess e.Text f.Text)) (λ hg=>HP (c:=.gv (!(decide<|e.Cost<f.Cost))<|.d<|.bool<|e.Cost==f.Cost) (a:=.gv ((!(decide<|e.Cost<f.Cost))&&(e.Cost==f.Cost))<|.d<|.bool<|Op.bytesLess e.Text f.Text) (b:=.d<|.bool false) rfl rfl rfl ((λ hh=>hh) hg) (λ ht=>by rw[(λ hh=>hh) hg,ht];rfl) trivial)<|pO<|ck 1<|en<|re (by cases H;exact pr rd)
end
section
variable (e:An) (f:Aa) (l:Aa) (m:Int)
def JbR:St:=⟨(0,.ptr 0 0)::(1,.agg [.d<|.str e.Text,.d<|.sl<|e.Cells.map eU8,.d<|.int .i64 e.Cost])::[],[some<|.box<|Al f<|.osl 1 3 0<|f.Out.length,some<|.arr 3<|f.Out.map Aq]⟩
def Qh:St:=⟨[],[some<|.box<|Al l<|.osl 2 3 0<|l.Out.length,none,some<|.arr 3<|l.Out.map Aq]⟩
def JbS:St:=⟨(0,.ptr 0 0)::(3,.ptr 2 0)::(4,.d<|.int .i64 m)::[],[some<|.box<|Al f<|.osl 1 3 0<|f.Out.length,some<|.arr 3<|f.Out.map Aq,some<|.box<|D0 e]⟩
def JbT:St:=⟨(0,.ptr 0 0)::(3,.ptr 2 0)::[],[some<|.box<|Al f<|.osl 1 3 0<|f.Out.length,some<|.arr 3<|f.Out.map Aq,some<|.box<|D0 e]⟩
def KW:(Unit⊕Aa)->Ex->St->Prop:=xS (xX 2 0<|λ (_:Unit)=>JbT e f)<|xL 2 ty Try.f43 (λ (_:Aa)=>.tup [])<|λ (y:Aa)=>[some<|.box<|Al y<|.osl 2 3 0<|y.Out.length,none,some<|.arr 3<|y.Out.map Aq]
def F9:Int->St:=(λ (x:Int)=>JbS e f x)
variable {e f l m}
theorem FT (x:Int) (z:(Int⊕(Unit⊕Aa))) (H:BW n e f x=some z):WP (cxk 79 2) (AS Try.f43) [1,0,1,0,0] (AU 2 (F9 e f) (KW e f) z) (F9 e f x):=by
 revert H;generalize x=m;intro H;refine sq<|sr<|ck 7<|en<|cn H (λ H=>?_)<|λ H=>?_
 ·refine sk<|qz<|sq<|bk 1<|sr<|ck 5<|bx H λ K o H=>sp (Bd 1 3 o)<|ck 1<|sp (BT Aq 1 0 (ty 9) o)<|ck 3<|en<|cn H (λ H=>?_)<|λ H=>?_
  ·refine sq<|sr<|ck 7<|bx H λ h p H=>sp (Bd 1 3 p)<|ck 1<|sp (BT Aq 1 2 (ty 3) p)<|ck 3<|gc 1 (!(decide<|e.Cost<h.Cost))<|ck 1<|gc 3 (!(decide<|e.Cost<h.Cost))<|ck 1<|bx H λ j q H=>sE (λ hg=>Bd 1 3<|DW q hg)<|gc 1 (!(decide<|e.Cost<h.Cost))<|sE (g:=(!(decide<|e.Cost<h.Cost))) (λ hg=>BT Aq 1 2 (ty 3)<|DW q hg)<|gc 2 (!(decide<|e.Cost<h.Cost))<|ck 1<|gc 1 ((!(decide<|e.Cost<h.Cost))&&(e.Cost==j.Cost))<|ck 1<|gc 3 ((!(decide<|e.Cost<h.Cost))&&(e.Cost==j.Cost))<|ck 1<|bx H λ M r H=>sE (λ hg=>Bd 1 3<|DW r hg)<|gc 1 ((!(decide<|e.Cost<h.Cost))&&(e.Cost==j.Cost))<|sE (g:=((!(decide<|e.Cost<h.Cost))&&(e.Cost==j.Cost))) (λ hg=>BT Aq 1 1 (ty 38)<|DW r hg)<|bx H λ t B H=>cG false (leZ) rfl (λ hg=>UP<|DW B hg) (Or.inl rfl) (CN (λ hh=>hh)<|CN (λ hh=>hh)<|Gc) rfl<|pG (g:=(!(decide<|e.Cost<h.Cost))) (v:=.d<|.bool<|(e.Cost==j.Cost)&&t) (λ hg=>HP (c:=.gv (!(decide<|e.Cost<h.Cost))<|.d<|.bool<|e.Cost==j.Cost) (a:=.gv ((!(decide<|e.Cost<h.Cost))&&(e.Cost==j.Cost))<|.d<|.bool t) (b:=.d<|.bool false) rfl rfl rfl ((λ hh=>hh) hg) (λ ht=>by rw[(λ hh=>hh) hg,ht];rfl) trivial)<|pO<|en<|cn H (λ H=>?_)<|λ H=>?_
   ·exact rz<|ck 6<|bx H λ O u H=>sp (Bd 1 3 u)<|bx H λ A i H=>stA Aq 1 0 (ty 40) u i<|en<|re<|qR<|qr (by cases H;exact lo rfl<|rl (s':=Qh ({ T:=f.T,L:=f.L,Budget:=f.Budget,Left:=f.Left,Out:=A }:Aa))<|tr (tr (tr (tr (tr (tr (sn 9 1 3<|Eh i)<|sn 17 1 3<|Eh i)<|sn 30 1 3<|Eh i)<|sn 65 1 3<|Eh i)<|snc 0 6 1 3<|Eh i)<|Ku (k:=1) (sz:=3) 0 6 (A.map Aq) (A.length) (by kernel_rfl) Di leM rfl)<|sg [])
   ·exact sk<|qz<|re<|qR<|qr (by cases H;exact lo rfl<|rl (s':=Qh f)<|tr (Ku (k:=1) (sz:=3) 0 6 (f.Out.map Aq) (f.Out.length) (by kernel_rfl) Di leM rfl)<|sg [])
  ·exact sk<|qN<|qz<|rz<|ck 3<|ae (by cases H;exact og<|sg [0,3,4])
 ·exact ex 0<|qx (by cases H;exact xo rfl<|sg [0,3])
theorem Mv {z} (H:CW n e f=some z):Bg Try.prog 43 [.ptr 0 0,.agg (D0 e)] [some (.box (Al f (.osl 1 3 0 (f.Out.length)))),some (.arr 3 (f.Out.map Aq))] 2 (.tup []) [some (.box (Al z (.osl 2 3 0 (z.Out.length)))),none,some (.arr 3 (z.Out.map Aq))]:=by
 refine fL 79 2 (JbR e f) Try.func43<|sr<|ck 1<|en<|sq<|sr<|ck 1<|en<|bk 0<|bx H λ I w H=>?_;rcases I with P|Q
 ·exact lX FT w (sg [0,3,4]) rfl λ s C=>qH<|qs (C)<|rz<|ck 7<|bx H λ J E H=>sp (B5 Aq 1 3 E)<|ck 3<|ae (by cases H;exact pL'<|rl (s':=Qh ({ T:=f.T,L:=f.L,Budget:=f.Budget,Left:=f.Left,Out:=J }:Aa))<|sg [])
 ·exact lL FT w (sg [0,3,4]) rfl λ s G=>qR<|qr (by cases H;exact pL G)
end
section
variable (b:An) (e:Af) (a:Aa) (p:Aa) (c:Aa) (i:Int) (q:Aa) (o:Aa) (m:AB) (h:(Af×Bool)) (r:An) (u:Int) (t:An) (j:(An->Af->Aa->Option Aa))
def JbU:St:=⟨(0,.ptr 0 0)::(1,.agg [.d<|.str b.Text,.d<|.sl<|b.Cells.map eU8,.d<|.int .i64 b.Cost])::(2,.agg [.d<|.int .i64 e.Mode,.d<|.int .i64 e.Last,.d<|.int .u8 e.Need])::[],[some<|.box<|Al a<|.osl 1 3 0<|a.Out.length,some<|.arr 3<|a.Out.map Aq]⟩
def Mw:St:=⟨[],[some<|.box<|Al p<|.osl 2 3 0<|p.Out.length,none,some<|.arr 3<|p.Out.map Aq]⟩
def JbV:St:=⟨(0,.ptr 0 0)::(4,.ptr 2 0)::(5,.ptr 3 0)::(6,.d<|.int .i64 ((b.Cells.length:Nat):Int))::(7,.d<|.int .i64 i)::[],[some<|.box<|Al c<|.osl 4 3 0<|c.Out.length,none,some<|.box<|D0 b,some<|.box<|CJ e,some<|.arr 3<|c.Out.map Aq]⟩
def JbW:St:=⟨[],[some<|.box<|Al q<|.osl 2 3 0<|q.Out.length,none,some<|.arr 3<|q.Out.map Aq]⟩
def JbX:St:=⟨(0,.ptr 0 0)::(4,.ptr 2 0)::(5,.ptr 3 0)::(6,.d<|.int .i64 ((b.Cells.length:Nat):Int))::(7,.d<|.int .i64 i)::[],[some<|.box<|Al o<|.osl 4 3 0<|o.Out.length,none,some<|.box<|D0 b,some<|.box<|CJ e,some<|.arr 3<|o.Out.map Aq]⟩
def JbY:St:=⟨(0,.ptr 0 0)::(4,.ptr 2 0)::(5,.ptr 3 0)::(6,.d<|.int .i64 ((b.Cells.length:Nat):Int))::(7,.d<|.int .i64 i)::(8,.ptr 4 0)::(9,.ptr 5 0)::(11,.ptr 6 0)::(12,.d<|.int .i64 u)::[],[some<|.box<|Al c<|.osl 7 3 0<|c.Out.length,none,some<|.box<|D0 b,some<|.box<|CJ e,some<|.box<|Hh m,some<|.box<|CJ h.1,some<|.box<|UB r<|.osl 8 1 0<|r.Cells.length,some<|.arr 3<|c.Out.map Aq,some<|.arr 1<|r.Cells.map eU8]⟩
def JbZ:St:=⟨(0,.ptr 0 0)::(4,.ptr 2 0)::(5,.ptr 3 0)::(6,.d<|.int .i64 ((b.Cells.length:Nat):Int))::(7,.d<|.int .i64 i)::(9,.ptr 4 0)::(11,.ptr 5 0)::[],[some<|.box<|Al c<|.osl 6 3 0<|c.Out.length,none,some<|.box<|D0 b,some<|.box<|CJ e,some<|.box<|CJ h.1,some<|.box<|UB t<|.osl 7 1 0<|t.Cells.length,some<|.arr 3<|c.Out.map Aq,some<|.arr 1<|t.Cells.map eU8]⟩
def Ka:An->Ex->St->Prop:=xX 2 2<|λ (y:An)=>JbZ b e c i h y
def FU:(An×Int)->St:=(λ (x:(An×Int))=>JbY b e c i m h x.1 x.2)
def Kb:Aa->Ex->St->Prop:=xX 2 0<|λ (y:Aa)=>JbW y
def FV:(Aa×Int)->St:=(λ (x:(Aa×Int))=>JbV b e x.1 x.2)
variable {b e a p c i q o m h r u t j}
theorem Jo (x:(An×Int)) (z:((An×Int)⊕An)) (H:Bs n b e c i m h x.1 x.2=some z):WP (cxk 148 2) (AS Try.f25) [1,1,1,1,1,1,0,0,1,0,0,1,1,1,1,0,1,0,0] (AU 2 (FU b e c i m h) (Ka b e c i h) z) (FU b e c i m h x):=by
 obtain⟨r,u⟩:=x;refine sq<|sr<|ck 3<|sp (AT eU8 m.Cells)<|ck 1<|en<|cn H (λ H=>?_)<|λ H=>?_
 ·exact sk<|qz<|sq<|bk 3<|sr<|ck 5<|bx H λ Z v H=>sp (AY eU8 v)<|ck 2<|bx H λ aa w H=>sp (B5 eU8 8 1 w)<|ck 2<|en<|rz<|ck 9<|bx H λ ab A H=>sp (AY Bt A)<|ck 4<|bx H λ ac B H=>sp (AY eU8 B)<|ck 1<|bx H λ W C H=>ca false (UR C)<|ck 3<|ae<|qN<|qz<|rz<|ck 3<|ae (by cases H;exact og<|sg [0,4,5,6,7,8,9,11,12])
 ·exact ex 2<|qx (by cases H;exact xo rfl<|sg [0,4,5,6,7,9,11])
theorem Jp (l:∀ {b:An} {e:Af} {a:Aa} {z:Aa},j b e a=some z->Bg Try.prog 25 [.ptr 0 0,.agg (D0 b),.agg (CJ e)] [some (.box (Al a (.osl 1 3 0 (a.Out.length)))),some (.arr 3 (a.Out.map Aq))] 2 (.tup []) [some (.box (Al z (.osl 2 3 0 (z.Out.length)))),none,some (.arr 3 (z.Out.map Aq))]) (x:(Aa×Int)) (z:((Aa×Int)⊕Aa)) (H:BO n j b e x.1 x.2=some z):WP (cxk 148 2) (AS Try.f25) [1,1,1,1,1,1,0,0] (AU 2 (FV b e) (Kb) z) (FV b e x):=by
 obtain⟨c,i⟩:=x;refine sq<|sr<|ck 6<|sp (AT Aw c.T.Rules)<|ck 1<|en<|cn H (λ H=>?_)<|λ H=>?_
 ·refine sk<|qz<|sj (λ (x:Aa)=>JbX b e i x) (λ (x:Aa)=>Ca n i x) z ?_ (λ f=>?_)
  ·intro o H;exact rz<|ck 3<|ae (by cases H;exact og<|sg [0,4,5,6,7])
  refine bk 1<|sr<|ck 6<|bx H λ m E H=>sp (AY Aw E)<|ck 3<|en<|sr<|ck 6<|bx H λ h G H=>ca false (UQ G)<|ck 6<|en<|sq<|sr<|ck 5<|gc 1 (!(!h.2))<|sE (g:=(!(!h.2))) (λ hg=>AT eU8 m.Cells)<|gc 1 (!(!h.2))<|ck 1<|gc 3 (!(!h.2))<|sE (g:=(!(!h.2))) (λ hg=>AT Bt c.L)<|gc 1 (!(!h.2))<|pO<|en<|cn H (λ H=>?_)<|λ H=>?_
  ·exact ex 1<|qx<|qH<|qs (sg [0,4,5,6,7])<|f c H
  ·exact sk<|qz<|sr<|ck 4<|bx H λ s6 I H=>sp (SP I)<|ck 3<|bx H λ af J H=>sp (JfA eU8 7 1 J)<|ck 5<|en<|sq<|sr<|ck 1<|en<|bk 2<|bx H λ V K H=>lX Jo K (sg [0,4,5,6,7,8,9,11,12]) rfl λ s M=>qH<|qs (M)<|rg (fzc (enc:=eU8) (xs:=V.Cells) 5 1 7 1)<|ck 3<|bx H λ O P H=>lt [0,6] (l P)<|ae<|qN<|qs (sg [0,4,5,6,7])<|f O H
 ·exact ex 0<|qx (by cases H;exact xo rfl<|sg [])
theorem Kc {z} (l:∀ {b:An} {e:Af} {a:Aa} {z:Aa},j b e a=some z->Bg Try.prog 25 [.ptr 0 0,.agg (D0 b),.agg (CJ e)] [some (.box (Al a (.osl 1 3 0 (a.Out.length)))),some (.arr 3 (a.Out.map Aq))] 2 (.tup []) [some (.box (Al z (.osl 2 3 0 (z.Out.length)))),none,some (.arr 3 (z.Out.map Aq))]) (H:Bb n j b e a=some z):Bg Try.prog 25 [.ptr 0 0,.agg (D0 b),.agg (CJ e)] [some (.box (Al a (.osl 1 3 0 (a.Out.length)))),some (.arr 3 (a.Out.map Aq))] 2 (.tup []) [some (.box (Al z (.osl 2 3 0 (z.Out.length)))),none,some (.arr 3 (z.Out.map Aq))]:=by
 refine fL 148 2 (JbU b e a) Try.func25<|sr<|ck 2<|en<|sr<|ck 8<|en<|sq<|sr<|ck 7<|gc 1 (!(decide<|FZ .i64 a.Left 1<0))<|ck 1<|gc 4 (!(decide<|FZ .i64 a.Left 1<0))<|pO<|en<|cn H (λ H=>?_)<|λ H=>?_
 ·exact re<|qr (by cases H;exact pL<|rl (s':=Mw ({ T:=a.T,L:=a.L,Budget:=a.Budget,Left:=FZ .i64 a.Left 1,Out:=a.Out }:Aa))<|tr (Ku (k:=1) (sz:=3) 0 6 (a.Out.map Aq) (a.Out.length) (by kernel_rfl) Di leM rfl)<|sg [])
 ·refine sk<|qz<|sr<|ck 2<|sp (AT eU8 b.Cells)<|ck 1<|en<|sq<|sr<|ck 5<|sp (AT Bt a.L)<|ck 1<|en<|cn H (λ H=>?_)<|λ H=>?_
  ·refine sq<|sr<|ck 5<|bx H λ X Q H=>ca false (Qf Q)<|en<|cn H (λ H=>?_)<|λ H=>?_
   ·exact rz<|ck 2<|bx H λ Y R H=>lt [0,1] (Mv R)<|en<|re<|qr (by cases H;exact pL<|rl (s':=Mw z)<|sg [])
   ·exact sk<|qz<|re<|qr (by cases H;exact pL<|rl (s':=Mw ({ T:=a.T,L:=a.L,Budget:=a.Budget,Left:=FZ .i64 a.Left 1,Out:=a.Out }:Aa))<|tr (Ku (k:=1) (sz:=3) 0 6 (a.Out.map Aq) (a.Out.length) (by kernel_rfl) Di leM rfl)<|sg [])
  ·exact sk<|qz<|sr<|ck 1<|en<|bk 0<|bx H λ ag S H=>lX (Jp l) S (tr (Ku (k:=1) (sz:=3) 0 6 (a.Out.map Aq) (a.Out.length) (by kernel_rfl) Di leM rfl)<|sg [0,4,5,6,7]) rfl λ s U=>qH (by cases H;exact pL'<|rl (s':=Mw z)<|tr (U)<|sg [])
end
section
variable (b:An) (c:Af) (a:Aa)
variable {b c a}
theorem LA {z} (H:F5 n b c a=some z):Bg Try.prog 25 [.ptr 0 0,.agg (D0 b),.agg (CJ c)] [some (.box (Al a (.osl 1 3 0 (a.Out.length)))),some (.arr 3 (a.Out.map Aq))] 2 (.tup []) [some (.box (Al z (.osl 2 3 0 (z.Out.length)))),none,some (.arr 3 (z.Out.map Aq))]:=by
  have key:∀ (d:Nat) {b:An} {c:Af} {a:Aa} {z:Aa},V4 (λ _ _ _=>none) (Bb n) d b c a=some z->Bg Try.prog 25 [.ptr 0 0,.agg (D0 b),.agg (CJ c)] [some (.box (Al a (.osl 1 3 0 (a.Out.length)))),some (.arr 3 (a.Out.map Aq))] 2 (.tup []) [some (.box (Al z (.osl 2 3 0 (z.Out.length)))),none,some (.arr 3 (z.Out.map Aq))]:=by
    intro d;induction d with
    | zero=>intro _ _ _ _ H;cases H
    | succ d ih=>intro _ _ _ _ H;exact Kc (λ h=>ih h) H
  exact key n H
end
section
variable (f:Ab) (i:(List Ay)) (j:Int) (b:Aa) (a:(List An)) (g:(List An)) (m:Int) (e:Int) (t:Int) (r:Int)
def Jhy:St:=⟨(0,.agg [.d<|.int .i64 f.Modes,.d<|.int .u8 f.Accept,.d<|.sl<|f.Rules.map Aw])::(1,.d<|.sl<|i.map Bt)::(2,.d<|.int .i64 j)::[],[]⟩
def Jhz:St:=⟨(8,.ptr 0 0)::(9,.osl 1 3 0<|a.length)::[],[some<|.box<|Al b<|.osl 2 3 0<|b.Out.length,some<|.arr 3<|a.map Aq,some<|.arr 3<|b.Out.map Aq]⟩
def JhA:St:=⟨(9,.osl 0 3 0<|g.length)::[],[some<|.arr 3<|g.map Aq]⟩
def JhB:St:=⟨(8,.ptr 0 0)::(9,.osl 1 3 0<|a.length)::(10,.d<|.int .i64 m)::(11,.d<|.int .i64 e)::[],[some<|.box<|Al b<|.osl 2 3 0<|b.Out.length,some<|.arr 3<|a.map Aq,some<|.arr 3<|b.Out.map Aq]⟩
def JhC:St:=⟨(8,.ptr 0 0)::(9,.osl 1 3 0<|a.length)::(10,.d<|.int .i64 t)::[],[some<|.box<|Al b<|.osl 2 3 0<|b.Out.length,some<|.arr 3<|a.map Aq,some<|.arr 3<|b.Out.map Aq]⟩
def JhD:St:=⟨(8,.ptr 0 0)::(9,.osl 1 3 0<|a.length)::(10,.d<|.int .i64 r)::(11,.d<|.int .i64 e)::[],[some<|.box<|Al b<|.osl 2 3 0<|b.Out.length,some<|.arr 3<|a.map Aq,some<|.arr 3<|b.Out.map Aq]⟩
def Tg:Int->Ex->St->Prop:=xX 0 2<|λ (y:Int)=>JhC b a y
def Mx:(Int×Int)->St:=(λ (x:(Int×Int))=>JhB b a x.1 x.2)
def Th:(List An)->Ex->St->Prop:=xX 0 0<|λ (y:(List An))=>JhA y
def My:(Aa×(List An))->St:=(λ (x:(Aa×(List An)))=>Jhz x.1 x.2)
variable {f i j b a g m e t r}
theorem Q9 (x:(Int×Int)) (z:((Int×Int)⊕Int)) (H:IK n b a x.1 x.2=some z):WP (cxk 86 0) (AS Try.f13) [1,1,1,1,1,0,0,0,1,0,1,0,1,0,0] (AU 0 (Mx b a) (Tg b a) z) (Mx b a x):=by
 obtain⟨m,e⟩:=x;refine sq<|sr<|ck 7<|en<|cn H (λ H=>?_)<|λ H=>?_
 ·refine sk<|qz<|sj (λ (x:Int)=>JhD b a e x) (λ (x:Int)=>IJ n e x) z ?_ (λ c=>?_)
  ·intro r H;exact rz<|ck 3<|ae (by cases H;exact og<|sg [8,9,10,11])
  refine bk 3<|sr<|ck 5<|bx H λ M o H=>sp (Bd 2 3 o)<|sp (BT Aq 2 0 (ty 40) o)<|ck 5<|bx H λ O p H=>sp (Bd 2 3 p)<|sp (BT Aq 2 0 (ty 40) p)<|bx H λ K u H=>ca false (Q8 u)<|en<|cn H (λ H=>?_)<|λ H=>?_
  ·exact rz<|ck 2<|ae<|qN<|qs (sg [8,9,10,11])<|c e H
  ·exact sk<|qN<|qs (sg [8,9,10,11])<|c m H
 ·exact ex 2<|qx (by cases H;exact xo rfl<|sg [8,9,10])
theorem Ra (x:(Aa×(List An))) (z:((Aa×(List An))⊕(List An))) (H:Fl n x.1 x.2=some z):WP (cxk 86 0) (AS Try.f13) [1,1,1,1,1,0,0,0] (AU 0 (My) (Th) z) (My x):=by
 obtain⟨b,a⟩:=x;refine sq<|sr<|ck 6<|en<|cn H (λ H=>?_)<|λ H=>?_
 ·exact sk<|qz<|bk 1<|sr<|ck 1<|en<|sq<|sr<|ck 1<|en<|bk 2<|bx H λ P v H=>lX Q9 v (sg [8,9,10,11]) rfl λ s w=>qH<|qs (w)<|sr<|ck 6<|bx H λ Q q H=>sp (Bd 2 3 q)<|sp (BT Aq 2 0 (ty 40) q)<|ck 1<|bx H λ R A H=>sp (B5 Aq 1 3 A)<|ck 1<|en<|rz<|ck 6<|bx H λ S h H=>sp (PM 2 3 h)<|ck 6<|bx H λ T k H=>sp (PM 2 3 k)<|bx H λ U B H=>sp (JdU Aq 2 3 (Ox h) (SK (enc:=Aq) h) (SL h) (Ox k) (SK (enc:=Aq) k) B)<|ck 3<|ae<|qN (by cases H;exact og<|sg [8,9])
 ·exact ex 0<|qx (by cases H;exact xo rfl<|sg [9])
theorem Ws {z} (H:OF n f i j=some z):AJ Try.prog 13 [.agg (Bj f),.d (.sl (i.map Bt)),.d (.int .i64 j)] (.tup [.own 3 (z.1.map Aq),.d (.bool z.2)]):=by
 refine fO 86 (Jhy f i j) Try.func13<|sr<|ck 3<|en<|sr<|ck 6<|en<|sq<|rg (Fv 1 6 3 (by kernel_rfl))<|ck 2<|bx H λ l C H=>ca false (Tf C)<|bx H λ L E H=>lt [1,2] (wkL (xs:=[.ptr 0 0,.agg [.d<|.str [],.d<|.nil,.d<|.int .i64 0],.agg [.d<|.int .i64 l.Mode,.d<|.int .i64 l.Last,.d<|.int .u8 l.Need]]) <| LA E)<|en<|sq<|sr<|ck 5<|en<|cn H (λ H=>?_)<|λ H=>?_
 ·exact sr<|ck 2<|en<|re<|qr (by cases H;exact pr<|rT (vs:=[.d<|.nil,.d<|.bool false]) []<|t1 (ad vz)<|t1 (ad vd)<|t0)
 ·exact sk<|qz<|sr<|ck 2<|en<|sq<|bk 0<|bx H λ J G H=>lX Ra G (sg [8,9]) rfl λ s I=>qH<|qs (I)<|sr<|ck 3<|en<|re (by cases H;exact pr<|rT (vs:=[.osl 0 3 0<|J.length,.d<|.bool true]) [0]<|t1 (ao vo)<|t1 (ad vd)<|t0)
end
section
variable (i:Ji) (j:(List (Da Int))) (k:Int)
def Jjl:St:=⟨(0,.agg [.d<|.int .u8 i.Base,.d<|.int .u8 i.Drop,.d<|.sl<|i.More.map EC])::(1,.d<|.sl<|j.map<|JS eU8)::(2,.d<|.int .i8 k)::[],[]⟩
variable {i j k}
theorem F6 {z} (H:B6 n i j k=some z):AJ Try.prog 3 [.agg (Wq i),.d (.sl (j.map (JS eU8))),.d (.int .i8 k)] (.d (.bool z)):=by
 refine fO 109 (Jjl i j k) Try.func3<|sr<|ck 2<|en<|sr<|bx H λ y m H=>ca true (QX m)<|ck 1<|en<|sr<|ck 1<|bx H λ A o H=>ca false (UN o)<|ck 1<|bx H λ B p H=>ca false (UO p)<|ck 7<|en<|sr<|ck 3<|bx H λ f q H=>ca false (Cz q)<|ck 5<|en<|sr<|ck 3<|bx H λ e r H=>ca false (J2 r)<|ck 6<|en<|sq<|sr<|ck 2<|en<|cn H (λ H=>?_)<|λ H=>?_
 ·exact sr<|ck 4<|sE (g:=(f.2==1)) (λ hg=>AT Aq f.1)<|gc 1 (f.2==1)<|pA<|ck 2<|gc 1 ((f.2==1)&&(((f.1.length:Nat):Int)==0))<|pA<|ck 3<|bx H λ C s H=>cG false (leZ) rfl (λ hg=>J3<|DW s hg) (Or.inl rfl) (CN (λ hh=>hh)<|CN (λ hh=>hh)<|Gc) rfl<|pA<|ck 2<|pA<|ck 1<|en<|re<|qr (by cases H;exact pr rd)
 ·refine sk<|qz<|sr<|ck 3<|bx H λ h t H=>ca false (Ws t)<|ck 5<|en<|sq<|sr<|ck 2<|en<|cn H (λ H=>?_)<|λ H=>?_
  ·exact sr<|ck 2<|en<|re<|qr (by cases H;exact pr rd)
  ·refine sk<|qz<|sq<|sr<|ck 2<|sp (AT Aq h.1)<|ck 4<|gc 1 (!(!(e.2==(decide<|((h.1.length:Nat):Int)>0))))<|ck 2<|bx H λ G u H=>sE (λ hg=>AY Aq<|DW u hg)<|gc 1 ((!(!(e.2==(decide<|((h.1.length:Nat):Int)>0))))&&e.2)<|bx H λ l w H=>cG false (leZ) rfl (λ hg=>J3<|DW w hg) (Or.inl rfl) (CN (λ hh=>hh)<|CN (λ hh=>hh)<|Gc) rfl<|gc 1 ((!(!(e.2==(decide<|((h.1.length:Nat):Int)>0))))&&e.2)<|pG (g:=(!(!(e.2==(decide<|((h.1.length:Nat):Int)>0))))) (v:=.d<|.bool<|e.2&&(!l)) (λ hg=>HP (c:=.gv (!(!(e.2==(decide<|((h.1.length:Nat):Int)>0))))<|.d<|.bool e.2) (a:=.gv ((!(!(e.2==(decide<|((h.1.length:Nat):Int)>0))))&&e.2)<|.d<|.bool<|!l) (b:=.d<|.bool false) rfl rfl rfl ((λ hh=>hh) hg) (λ ht=>by rw[(λ hh=>hh) hg,ht];rfl) trivial)<|pO<|en<|cn H (λ H=>?_)<|λ H=>?_
   ·exact sr<|ck 1<|en<|re<|qr (by cases H;exact pr rd)
   ·refine sk<|qz<|sq<|sr<|ck 1<|sp (AT Aq h.1)<|ck 1<|en<|cn H (λ H=>?_)<|λ H=>?_
    ·exact sr<|ck 4<|sE (g:=(f.2==2)) (λ hg=>AT Aq f.1)<|gc 1 (f.2==2)<|pA<|ck 2<|pA<|ck 1<|en<|re<|qr (by cases H;exact pr rd)
    ·exact sk<|qz<|sr<|ck 5<|bx H λ E x H=>cG false (leZ) rfl (λ hg=>E2<|DW x hg) (Or.inl rfl) (CN (λ hh=>hh)<|CN (λ hh=>hh)<|Gc) rfl<|pA<|ck 2<|pA<|ck 1<|en<|re (by cases H;exact pr rd)
end
end Go.AI
end
section
namespace Go.AI
def CRd (F:Nat->Option Obj) (l:List D) (cs:List Value):Prop:=l.length=cs.length/\∀ (i:Nat) (y:D) (v:Value),l[i]?=some y->cs[i]?=some v->A8 F y v
def FW {α:Type} (P:Program) (t:TypeId) (enc:α->List D) (ok:α->Prop):Prop:=
 ∀ (H:Type) (e:TypeId×Value->H) (w:World) (base:Nat) (spare:Nat->Bool) (held:Bool) (fuel:Nat) (cs:List Value) (x:DataW H×List MemPlace),DataW.trod e P w base spare held fuel t cs=some x->∃ a:α,ok a/\CRd (λ b=>w.heap[b]?) (enc a) cs
theorem Ti {F:Nat->Option Obj} {y:D} {v:Value} (h:A8 F y v):CRd F [y] [v]:=by
 refine⟨rfl,λ i a b ha hb=>?_⟩;cases i with
 | zero=>simp at ha hb;subst ha;subst hb;exact h
 | succ i=>simp at ha
theorem RQ {P:Program} {t:TypeId} {k:IntKind} (ht:P.underlying t=some (.int k)):FW P t (λ n=>[.int k n]) (λ n=>(Lit.int k n).wf=true):=by
 intro H e w base spare held fuel cs x h;obtain⟨n,rfl,_,hw⟩:=DataW.trod_int ht h;exact⟨n,hw,Ti (.int k n)⟩
theorem US {α:Type} {Q:Nat->α->Prop}:∀ n,(∀ i,i<n->∃ a,Q i a)->∃ l:List α,l.length=n/\∀ i a,l[i]?=some a->Q i a:=by
 intro n;induction n with
 | zero=>intro _;exact⟨[],rfl,λ i a h=>by simp at h⟩
 | succ n ih=>
  intro h;obtain⟨l,hl,hq⟩:=ih λ i hi=>h i (by omega);obtain⟨a,ha⟩:=h n (by omega);refine⟨l++[a],by simp[hl],λ i b hb=>?_⟩;rcases JkE i l.length with hlt|hge
  ·rw[JkW hlt]at hb;exact hq i b hb
  ·rw[Jk6 hge]at hb;have:i-l.length=0:=by have:=Ae hb;simp at this;omega
   rw[this]at hb;simp at hb;subst hb;have:i=n:=by omega
   subst this;exact ha
theorem UT {α β:Type} {f:α->Option β}:∀ {l:List α} {r:List β},l.mapM f=some r->r.length=l.length/\∀ (i:Nat) (a:α),l[i]?=some a->r[i]?=f a:=by
 intro l;induction l with
 | nil=>intro r h;simp at h;subst h;exact⟨rfl,λ i a h=>by simp at h⟩
 | cons a l ih=>
  intro r h;rw[List.mapM_cons]at h;simp only[Option.bind_eq_bind,Option.bind_eq_some_iff,Option.pure_def,JkY]at h;obtain⟨b,hb,r',hr',rfl⟩:=h;obtain⟨h1,h2⟩:=ih hr';refine⟨by simp[h1],λ i x hx=>?_⟩;cases i with
  | zero=>simp at hx;subst hx;simp[hb]
  | succ i=>simpa using h2 i x (by simpa using hx)
theorem Tj {α:Type} {P:Program} {t e:TypeId} {enc:α->List D} {ok:α->Prop} {sz:Nat} (ht:P.underlying t=some (.slice e)) (hsz:P.cellsOf e=sz) (h1:Nat.ble 1 sz=true) (hl:∀ a,(enc a).length=sz) (he:FW P e enc ok):FW P t (eL enc) (λ l=>l.length<=9223372036854775807/\∀ a∈l,ok a):=by
 intro H en w base spare held fuel cs x h;have h1:=Jk3 h1;rcases DataW.trod_slice ht h with⟨rfl,_⟩|⟨a,len,cap,elems,rest,n,_,rfl,_,_,hcap,hmx,hel,hget,_,_⟩
 ·exact⟨[],⟨by simp,λ a h=>by simp at h⟩,Ti (.sl0 _ _)⟩
 ·rw[hsz]at hget;have hex:∀ i,i<len->∃ y:α,ok y/\∃ ci,w.cells? base (a.add (i*sz)) sz=some ci/\CRd (λ b=>w.heap[b]?) (enc y) ci:=λ i hi=>by
   have hg:=hget i hi;rw[JkO (show i<elems.length by omega)]at hg;simp only[Option.bind_eq_some_iff]at hg;obtain⟨ci,hc,htr⟩:=hg;obtain⟨y,hy,hcr⟩:=he H en w base spare held n ci _ htr;exact⟨y,hy,ci,hc,hcr⟩
  obtain⟨l,hll,hq⟩:=US len hex;refine⟨l,⟨by unfold maxLen at hmx;omega,λ y hy=>?_⟩,Ti ?_⟩
  ·obtain⟨i,hi⟩:=List.mem_iff_getElem?.1 hy;exact(hq i y hi).1
  ·rcases Nat.eq_zero_or_pos len with h0|hpos
   ·have:l=[]:=List.length_eq_zero_iff.1 (by omega);subst this;subst h0;exact .sl0 _ _
   ·
    have hcell:∀ i y,l[i]?=some y->∀ j,j<sz->∃ v,w.cell? ((a.add (i*sz)).add j)=some v/\∀ d,(enc y)[j]?=some d->A8 (λ b=>w.heap[b]?) d v:=λ i y hy j hj=>by
     obtain⟨_,ci,hc,hcr⟩:=hq i y hy;unfold World.cells? at hc;split at hc
     ·obtain⟨g1,g2⟩:=UT hc;have:=g2 j j (by simp[hj]);have hjc:j<ci.length:=by rw[g1];simpa using hj
      rw[JkO hjc]at this;exact⟨ci[j],this.symm,λ d hd=>hcr.2 j d _ hd (JkO hjc)⟩
     ·cases hc
    have h0:l[0]?=some l[0]:=JkO (by omega);obtain⟨v0,hv0,_⟩:=hcell 0 _ h0 0 (by omega);have ha0:(a.add (0*sz)).add 0=a:=by simp[Addr.add]
    rw[ha0]at hv0;obtain⟨b,off,spot⟩:=a;unfold World.cell? at hv0;simp only at hv0;split at hv0
    ·rename_i c ty fr hblk;cases spot with
     | some s=>simp at hv0
     | none=>
      have hcell':∀ i y,l[i]?=some y->∀ j d,(enc y)[j]?=some d->∃ v,c[off+i*sz+j]?=some v/\A8 (λ b=>w.heap[b]?) d v:=λ i y hy j d hd=>by
       have hj:j<sz:=by rw[← hl y];exact Ae hd
       obtain⟨v,hv,hr⟩:=hcell i y hy j hj;rw[BP,BP,Jx hblk]at hv;exact⟨v,hv,hr d hd⟩
      have hlen:(l.map enc).length=len:=by simp[hll]
      have:=A8.sl (F:=λ b=>w.heap[b]?) (l.map enc) b off cap sz c ty fr (λ i j=>(c[off+i*sz+j]?).getD undef) hblk (λ e he=>by
        simp only[JkG]at he;obtain⟨y,_,rfl⟩:=he;exact hl y) (by omega) (λ i e hi j d hd=>by
        simp only[JkS,JkR]at hi;obtain⟨y,hy,rfl⟩:=hi;obtain⟨v,hv,_⟩:=hcell' i y hy j d hd;simp only[hv,Jkz]) (λ i e hi j d hd=>by
        simp only[JkS,JkR]at hi;obtain⟨y,hy,rfl⟩:=hi;obtain⟨v,hv,hr⟩:=hcell' i y hy j d hd;simp only[hv,Jkz];exact hr)
      rw[hlen]at this;exact this
    ·cases hv0
theorem Kd {α:Type} {P:Program} {t e:TypeId} {enc:α->List D} {ok:α->Prop} {sz:Nat} (ht:P.underlying t=some (.slice e)) (hsz:P.cellsOf e=sz) (h1:Nat.ble 1 sz=true) (hl:∀ a,(enc a).length=sz) (he:FW P e enc ok):FW P t (eL enc) (λ l=>∀ a∈l,ok a):=by
 intro H en w base spare held fuel cs x h;obtain⟨l,h1,h2⟩:=Tj ht hsz h1 hl he H en w base spare held fuel cs x h;exact⟨l,h1.2,h2⟩
theorem Ee {F:Nat->Option Obj} {l m:List D} {cs:List Value} {o n:Nat} (h:CRd F l ((cs.drop o).take n)) (hn:Nat.beq l.length n=true) (h':CRd F m (cs.drop (o+n))):CRd F (l++m) (cs.drop o):=by
 have hn:=JkV hn;have e:cs.drop o=(cs.drop o).take n++cs.drop (o+n):=by rw[← List.drop_drop,List.take_append_drop]
 rw[e];refine⟨by simp only[List.length_append,h.1,h'.1],λ i y v hy hv=>?_⟩;rcases JkE i l.length with hlt|hge
 ·rw[JkW hlt]at hy;rw[JkW (by rw[← h.1];exact hlt)]at hv;exact h.2 i y v hy hv
 ·rw[Jk6 hge]at hy;rw[Jk6 (by rw[← h.1];exact hge),← h.1]at hv;exact h'.2 _ y v hy hv
theorem Tk {F:Nat->Option Obj} {cs:List Value} {o:Nat} (h:cs.length<=o):CRd F [] (cs.drop o):=by
 rw[List.drop_eq_nil_of_le h];exact⟨rfl,λ i y v hy=>by simp at hy⟩
theorem Wt {H:Type} {enc:TypeId×Value->H} {P:Program} {w:World} {base:Nat} {spare:Nat->Bool} {held:Bool} {fuel:Nat} {t e:TypeId} {n:Nat} {cs:List Value} {x:DataW H×List MemPlace} (ht:P.underlying t=some (.array n e)) (h:DataW.trod enc P w base spare held fuel t cs=some x) :
  ∃ m,cs.length=P.cellsOf t/\∀ i,i<n->∃ y,DataW.trod enc P w base spare held m e ((cs.drop (i*P.cellsOf e)).take (P.cellsOf e))=some y:=by
 cases fuel with
 | zero=>simp[DataW.trod]at h
 | succ m=>
  unfold DataW.trod at h;rw[ht]at h;split at h<;>simp_all;obtain⟨xs,hp,_⟩:=h.2;refine⟨m,λ i hi=>?_⟩;obtain⟨g1,g2⟩:=UT hp;have:=g2 i i (by simp[hi]);have hlt:i<xs.length:=by rw[g1];simpa using hi
  rw[JkO hlt]at this;exact⟨_,_,this.symm⟩
end Go.AI
end
section
namespace Go.AI
open Go.ChangeShapes Go.WideShapes Go.ChangeAt Go.RowKit
variable {P:Program} {H:Type} {en:TypeId×Value->H} {W W':World} {base:Nat} {spare:Nat->Bool} {held:Bool} {t e:TypeId} {v:Value} {d:DataW H} {ps:List MemPlace} {α:Type} {enc:α->List D} {ok:α->Prop}
theorem Jd5 {cs:Array Value} (hv:v=.agg cs) (hd:DataW.Trod en P W base spare held t v d ps) (hr:FW P t enc ok):∃ a,ok a/\Ah (λ b=>W.heap[b]?) noR (.agg ((enc a).map .d)) v:=by
 subst hv;obtain⟨fuel,hf⟩:=hd;obtain⟨a,h1,h2,h3⟩:=hr H en W base spare held fuel _ _ hf;refine⟨a,h1,.agg _ _ (by simpa [Value.cells]using h2) λ i x u hx hu=>?_⟩;simp only[JkS,JkR]at hx;obtain⟨y,hy,rfl⟩:=hx;exact .d _ _ (h3 i y u hy (by simpa [Value.cells]using hu))
theorem Xi {y:α->D} (hc:v.cells=#[v]) (hd:DataW.Trod en P W base spare held t v d ps) (hr:FW P t enc ok) (he:∀ a,enc a=[y a]):∃ a,ok a/\Ah (λ b=>W.heap[b]?) noR (.d (y a)) v:=by
 obtain⟨fuel,hf⟩:=hd;obtain⟨a,h1,h2,h3⟩:=hr H en W base spare held fuel _ _ hf;refine⟨a,h1,.d _ _ (h3 0 (y a) v (by rw[he];rfl) (by rw[hc];rfl))⟩
theorem JhE {F:Nat->Option Obj} {ρ:Nat->Option Loc}:CR F ρ [] []:=⟨rfl,λ i a v h=>by simp at h⟩
theorem Tl {F:Nat->Option Obj} {ρ:Nat->Option Loc} {a:AV} {v:Value} {l:List AV} {vs:List Value} (h:Ah F ρ a v) (h':CR F ρ l vs):CR F ρ (a::l) (v::vs):=by
 refine⟨by simp[h'.1],λ i x u hx hu=>?_⟩;cases i with
 | zero=>simp at hx hu;subst hx;subst hu;exact h
 | succ i=>exact h'.2 i x u (by simpa using hx) (by simpa using hu)
theorem fld {w:World} {fuel:Nat} {cs:List Value} {fs:Array Field} {xs:List (DataW H×List MemPlace)} (hg:∀ (i:Nat) (f:Field),fs[i]?=some f->DataW.trod en P w base spare held fuel f.type ((cs.drop f.offset).take (P.cellsOf f.type))=xs[i]?) (hxl:xs.length=fs.size) (i:Nat) {f:Field} (hf:fs[i]?=some f) (u o n:Nat) (hu:f.type=u) (ho:f.offset=o) (hn:P.cellsOf u=n) (hr:FW P u enc ok) :
  ∃ a,ok a/\CRd (λ b=>w.heap[b]?) (enc a) ((cs.drop o).take n):=by
 have:=hg i f hf;have hi:i<xs.length:=by rw[hxl];exact Ak hf
 rw[JkO hi,hu,ho,hn]at this;exact hr H en w base spare held fuel _ _ this
theorem Jjm {w:World} {fuel:Nat} {cs:List Value} {m:Nat} (hg:∀ i,i<m->∃ y,DataW.trod en P w base spare held fuel e ((cs.drop (i*P.cellsOf e)).take (P.cellsOf e))=some y) (i:Nat) (hi:Nat.ble (i+1) m=true) (o n:Nat) (hn:P.cellsOf e=n) (ho:i*n=o) (hr:FW P e enc ok) :
  ∃ a,ok a/\CRd (λ b=>w.heap[b]?) (enc a) ((cs.drop o).take n):=by
 obtain⟨y,hy⟩:=hg i (Jk3 hi);rw[hn,ho]at hy;exact hr H en w base spare held fuel _ _ hy
theorem Jb0 {f:FuncId} {args:List AV} {vs:Array Value} (hc:AJ P f args (.d (.bool true))) (hcr:CR (λ b=>W.heap[b]?) noR args vs.toList):Calls P f vs W λ e W'=>e=.returned (.bool true)/\(∀ before:List MemPlace,W.keptBut W' (·∈before))/\∀ b,b<W.heap.size->W'.heap[b]?=W.heap[b]? := by
 refine(hc.2 (λ b=>W.heap[b]?) W vs hcr λ b o h=>h).mono λ e W' h=>?_;obtain⟨v,F',ρ,rfl,hS,hr,hmu⟩:=h;have hv:v=.bool true:=by
  have:(BR true 0 (.d (.bool true))).1=.d (.bool true):=rfl;rw[this]at hr;exact hr.bool
 subst hv;have hold:∀ b,b<W.heap.size->W'.heap[b]?=W.heap[b]? := λ b hb=>hS.old b (by omega);refine⟨rfl,λ before=>World.keptBut_mono (λ p hp=>hp.elim) (?_:W.keptBut W' λ _=>False),hold⟩;refine⟨hmu.os,hmu.out,λ i hi=>?_⟩;rw[hold i hi];cases hh:W.heap[i]? with
 | none=>rfl
 | some o=>cases o<;>first|exact⟨rfl,rfl,rfl,λ _ _=>rfl⟩|exact .inr ⟨rfl,rfl⟩|rfl
theorem YO {f:Func} {s:ChangeSpec} {apart fresh handsOn again:Bool} {args:Array Value} {ds gs:List (DataW H)} {before pa pv:List MemPlace}
  (hW:DataW.Whole en P f.params.toList s.vars apart W args.toList ds gs before)
  (hres:∀ (b:Nat) (sp:Nat->Bool) (hd:Bool),DataW.TrodAll en P W' b sp hd f.resultTypes.toList (v.resultList f.resultTypes.size) (s.fn H (ds++gs)).results [])
  (hargs:∀ sp:Nat->Bool,(∀ p∈before,sp p.block=true)->DataW.TrodAll en P W' 0 sp true f.params.toList args.toList (s.fn H (ds++gs)).args pa)
  (hvars:∀ sp:Nat->Bool,(∀ p∈before,sp p.block=true)->DataW.TrodVars en P W' sp s.vars (s.fn H (ds++gs)).vars pv)
  (hps:before=pa++pv) (hk:W.keptBut W' (·∈before)) (hold:∀ b,b<W.heap.size->W'.heap[b]?=W.heap[b]?)
  (hok:∀ (j:Nat) (t:TypeId) (r:Value),f.resultTypes[j]?=some t->(v.resultList f.resultTypes.size)[j]?=some r->Value.okWide P W' .any 0 t r) :
  s.post en P f apart fresh handsOn again W args v W':=by
 have hin:∀ p∈before,(λ b=>decide (b<W.heap.size)) p.block=true:=λ p hp=>by simpa using hW.lt p hp
 have hlt:=hW.lt;refine⟨ds,gs,before,[],pa,pv,hW,hres _ _ _,hargs _ hin,hvars _ hin,World.keptBut_mono (λ p hp=>⟨hp,?_⟩) hk,λ _=>?_⟩
 ·rw[hps,List.mem_append]at hp;exact Or.inr hp
 ·obtain⟨_,_,_,_,_,hz,hn⟩:=hW;refine⟨hok,_,_,([]++pa)++pv,⟨[]++pa,pv,trodAll_append (hargs _ (λ _ _=>rfl)) (hres _ _ _),hvars _ (λ _ _=>rfl),rfl,?_,?_⟩,?_⟩
  ·intro b off hp;have hp:MemPlace.cell b off∈before:=by rw[hps];simpa using hp
   have:=hz b off hp;simp only[World.frozen?,hold b (hlt _ hp)]at this⊢;exact this
  ·intro ha;have:=hn ha;rw[hps]at this;simpa using this
  ·intro p hp _;rw[hps];simpa using hp
theorem Jb1 (hl:laidOutB P=true) (hr:P.readableRec t=true) (hrow:t<P.types.size) (h:DataW.Trod en P W 0 (λ _=>true) true t v d ps) (hb:∀ p∈ps,p.block<W.heap.size) {sp:Nat->Bool} (hs:∀ p∈ps,sp p.block=true) (hold:∀ b,b<W.heap.size->W'.heap[b]?=W.heap[b]?):DataW.Trod en P W' 0 sp true t v d ps:=by
 refine WideElems.Trod_stays hl hr hrow h (λ p hp=>?_) hs;have:=hb p hp;cases p with
 | cell b o=>exact World.cell?_of_block (w:=W) (hold b this)
 | map b=>exact hold b this
end Go.AI
end
section
namespace Go.AI
open Go.Proofs Go.ChangeShapes Go.WideShapes Go.ChangeAt Go.RowKit
def okI (k:IntKind) (n:Int):Prop:=(Lit.int k n).wf=true
theorem rd5:FW Try.prog 5 eU8 (okI .u8):=RQ Try.underlying5
theorem Jjn:FW Try.prog 52 (eL eU8) (λ l=>∀ a∈l,okI .u8 a):=Kd (sz:=1) Try.underlying52 (by kernel_rfl) rfl (λ _=>rfl) rd5
theorem Jjo:FW Try.prog 68 (JS eU8) (λ x=>okI .u8 x.a0/\okI .u8 x.a1):=by
 intro H e w base spare held fuel cs x h;obtain⟨m,hcl,hg⟩:=Wt Try.underlying68 h;have hcl:cs.length=2:=hcl.trans (by kernel_rfl);obtain⟨a0,k0,c0⟩:=Jjm hg 0 rfl 0 1 (by kernel_rfl) rfl rd5;obtain⟨a1,k1,c1⟩:=Jjm hg 1 rfl 1 1 (by kernel_rfl) rfl rd5;refine⟨⟨a0,a1⟩,⟨k0,k1⟩,?_⟩;have:=Ee c0 rfl (Ee c1 rfl (Tk (Nat.le_of_eq hcl)));exact this
def IT (x:CI):Prop:=(∀ a∈x.P,okI .u8 a)/\(∀ a∈x.C,okI .u8 a)/\okI .u8 x.L/\okI .u8 x.R/\(okI .u8 x.W.a0/\okI .u8 x.W.a1)
theorem Jj5:FW Try.prog 70 EC IT:=by
 intro H e w base spare held fuel cs x h;obtain⟨xs,n,_,_,hcl,hxl,hg⟩:=DataW.trod_struct Try.underlying70 h;have hcl:cs.length=6:=hcl.trans (by kernel_rfl);obtain⟨a0,k0,c0⟩:=fld hg hxl 0 rfl 52 0 1 rfl rfl (by kernel_rfl) Jjn;obtain⟨a1,k1,c1⟩:=fld hg hxl 1 rfl 52 1 1 rfl rfl (by kernel_rfl) Jjn;obtain⟨a2,k2,c2⟩:=fld hg hxl 2 rfl 5 2 1 rfl rfl (by kernel_rfl) rd5;obtain⟨a3,k3,c3⟩:=fld hg hxl 3 rfl 5 3 1 rfl rfl (by kernel_rfl) rd5;obtain⟨a4,k4,c4⟩:=fld hg hxl 4 rfl 68 4 2 rfl rfl (by kernel_rfl) Jjo;refine⟨⟨a0,a1,a2,a3,a4⟩,⟨k0,k1,k2,k3,k4⟩,?_⟩;have:=Ee c0 rfl (Ee c1 rfl (Ee c2 rfl (Ee c3 rfl (Ee c4 rfl (Tk (Nat.le_of_eq hcl))))));exact this
theorem Jj6:FW Try.prog 22 (eL EC) (λ l=>∀ a∈l,IT a):=Kd (sz:=6) Try.underlying22 (by kernel_rfl) rfl (λ _=>rfl) Jj5
def Wu (x:Ji):Prop:=okI .u8 x.Base/\okI .u8 x.Drop/\(∀ a∈x.More,IT a)
theorem Jj7:FW Try.prog 24 Ji4 Wu:=by
 intro H e w base spare held fuel cs x h;obtain⟨xs,n,_,_,hcl,hxl,hg⟩:=DataW.trod_struct Try.underlying24 h;have hcl:cs.length=3:=hcl.trans (by kernel_rfl);obtain⟨a0,k0,c0⟩:=fld hg hxl 0 rfl 5 0 1 rfl rfl (by kernel_rfl) rd5;obtain⟨a1,k1,c1⟩:=fld hg hxl 1 rfl 5 1 1 rfl rfl (by kernel_rfl) rd5;obtain⟨a2,k2,c2⟩:=fld hg hxl 2 rfl 22 2 1 rfl rfl (by kernel_rfl) Jj6;refine⟨⟨a0,a1,a2⟩,⟨k0,k1,k2⟩,?_⟩;have:=Ee c0 rfl (Ee c1 rfl (Ee c2 rfl (Tk (Nat.le_of_eq hcl))));exact this
theorem Jj8:FW Try.prog 25 (eL (JS eU8)) (λ l=>∀ a∈l,(okI .u8 a.a0/\okI .u8 a.a1)):=Kd (sz:=2) Try.underlying25 (by kernel_rfl) rfl (λ _=>rfl) Jjo
theorem Jj9:FW Try.prog 26 eI8 (okI .i8):=RQ Try.underlying26
end Go.AI
end
section
namespace Go.AI
def Le {α:Type} (a b:Option α):Prop:=∀ z,a=some z->b=some z
theorem Le.refl {α:Type} (a:Option α):Le a a:=λ _ h=>h
theorem Le.bind {α β:Type} {a a':Option α} {f f':α->Option β} (h:Le a a') (hf:∀ x,Le (f x) (f' x)):Le (a.bind f) (a'.bind f'):=by
 intro z hz;obtain⟨x,h1,h2⟩:=bind_some hz;rw[h x h1];exact hf x z h2
theorem Le.ite {α:Type} {c:Prop} [Decidable c] {a a' b b':Option α} (h:Le a a') (h':Le b b'):Le (if c then a else b) (if c then a' else b'):=by
 split
 ·exact h
 ·exact h'
theorem Le.whl {σ ρ:Type} {body body':σ->Option (σ⊕ρ)} (hb:∀ x,Le (body x) (body' x)):∀ {n m:Nat},n<=m->∀ x,Le (whl body n x) (whl body' m x):=by
 intro n;induction n with
 | zero=>intro m _ x z hz;cases hz
 | succ n ih=>
  intro m hm x z hz;cases m with
  | zero=>omega
  | succ m=>
   simp only[Go.AI.whl]at hz⊢;cases hx:body x with
   | none=>rw[hx]at hz;cases hz
   | some y=>
    rw[hb x y hx];rw[hx]at hz;cases y with
    | inl y=>exact ih (by omega) y z hz
    | inr r=>exact hz
theorem Le.sum {α β γ:Type} {y:α⊕β} {f f':α->Option γ} {g g':β->Option γ} (hf:∀ a,Le (f a) (f' a)) (hg:∀ b,Le (g b) (g' b)):Le (match y with | .inl a=>f a | .inr b=>g b) (match y with | .inl a=>f' a | .inr b=>g' b):=by
 cases y with
 | inl a=>exact hf a
 | inr b=>exact hg b
def Ev {α:Type} (f:Nat->Option α) (z:α):Prop:=∃ n,∀ m,n<=m->f m=some z
theorem Ev.const {α:Type} {z:α}:Ev (λ _=>some z) z:=⟨0,λ _ _=>rfl⟩
theorem Ev.of {α:Type} {f:Nat->Option α} {z:α} (hm:∀ n m,n<=m->Le (f n) (f m)) {n:Nat} (h:f n=some z):Ev f z:=⟨n,λ m hnm=>hm n m hnm z h⟩
theorem Ev.all {α:Type} {f:Nat->Option α} {z:α} (h:∀ n,f n=some z):Ev f z:=⟨0,λ m _=>h m⟩
theorem Ev.bind {α β:Type} {f:Nat->Option α} {g:Nat->α->Option β} {x:α} {z:β} (h:Ev f x) (hg:Ev (λ n=>g n x) z):Ev (λ n=>(f n).bind (g n)) z:=by
 obtain⟨n,hn⟩:=h;obtain⟨m,hm⟩:=hg;refine⟨max n m,λ k hk=>?_⟩;show(f k).bind (g k)=_;rw[hn k (by omega)];exact hm k (by omega)
theorem Ev.out {α:Type} {f:Nat->Option α} {z:α} (h:Ev f z):∃ n,f n=some z:=by
 obtain⟨n,hn⟩:=h;exact⟨n,hn n (JkD n)⟩
theorem Ev.congr {α:Type} {f g:Nat->Option α} {z:α} (h:Ev f z) (e:∀ n,g n=f n):Ev g z:=by
 obtain⟨n,hn⟩:=h;exact⟨n,λ m hm=>by rw[e m];exact hn m hm⟩
theorem Ev.whl {σ ρ:Type} {body:Nat->σ->Option (σ⊕ρ)} {r:ρ} (I:Nat->σ->Prop) (h:∀ k x,I k x->(∃ y j,j<k/\I j y/\Ev (λ n=>body n x) (.inl y))\/Ev (λ n=>body n x) (.inr r)):∀ (k:Nat) (x:σ),I k x->Ev (λ n=>Go.AI.whl (body n) n x) r:=by
 have key:∀ (k:Nat) (x:σ),I k x->∃ N c,∀ n fuel,N<=n->c<=fuel->Go.AI.whl (body n) fuel x=some r:=by
  intro k;induction k using Nat.strongRecOn with
  | _ k ih=>
   intro x hx;rcases h k x hx with⟨y,j,hj,hy,N1,h1⟩|⟨N1,h1⟩
   ·obtain⟨N2,c,h2⟩:=ih j hj y hy;refine⟨max N1 N2,c+1,λ n fuel hn hf=>?_⟩;cases fuel with
    | zero=>omega
    | succ fuel=>
     have e:=h1 n (by omega);simp only at e;simp only[Go.AI.whl,e];exact h2 n fuel (by omega) (by omega)
   ·refine⟨N1,1,λ n fuel hn hf=>?_⟩;cases fuel with
    | zero=>omega
    | succ fuel=>
     have e:=h1 n hn;simp only at e;simp only[Go.AI.whl,e]
 intro k x hx;obtain⟨N,c,hh⟩:=key k x hx;exact⟨max N c,λ m hm=>hh m m (by omega) (by omega)⟩
end Go.AI
end
section
namespace Go.AI
variable {α ε σ ρ ζ β:Type}
theorem Le.dem {S:α->Prop} {k k':α->Option ζ} (h:∀ a,Le (k a) (k' a)):Le (dem S k) (dem S k'):=by
 intro z hz;have h1:=ST hz;have h0:∃ a,S a:=by
  unfold Go.AI.dem at hz;split at hz
  ·rename_i hx;exact hx.choose_spec.1
  ·cases hz
 exact Jat h0 λ a ha=>h a _ (h1 a ha)
theorem Le.mapW {F F':ε->σ->Option (σ⊕ρ)} (h:∀ e x,Le (F e x) (F' e x)) (l:List ε) (x:σ):Le (mapW F l x) (mapW F' l x):=by
 induction l generalizing x with
 | nil=>intro z hz;exact hz
 | cons e l ih=>
  intro z hz;unfold Go.AI.mapW at hz⊢;split at hz
  ·cases hz
  ·rename_i y hy;rw[h e x _ hy];exact ih y z hz
  ·rename_i r hy;rw[h e x _ hy];exact hz
theorem Le.sortC {c c':β->β->Option Int} (h:∀ x y,Le (c x y) (c' x y)) {xs:List β}:Le (sortC c xs) (sortC c' xs):=by
 intro z hz;obtain⟨hc,hz⟩:=PT hz;have e:c'=c:=by
  funext x y;have:=hc.1.tot x y;rw[Option.isSome_iff_exists]at this;obtain⟨n,hn⟩:=this;rw[hn,h x y _ hn]
 rw[e];unfold Go.AI.sortC;rw[if_pos hc];exact hz
end Go.AI
end
section
namespace Go.AI
theorem lr {α:Type} {x:Option α}:Le x x:=Le.refl x
theorem IU {n m} (_:n<=m) (a b):Le (Gj n a b) (Gj m a b):=.bind (Le.ite (lr) (lr)) λ _=>lr
theorem Qi {n m} (h:n<=m) (a b):Le (EA n a b) (EA m a b):=.bind (Le.ite (IU h _ _) (lr)) λ _=>.bind (Le.ite (IU h _ _) (lr)) λ _=>lr
theorem Qj {n m} (_:n<=m) (a b c):Le (DG n a b c) (DG m a b c):=.ite (.bind lr λ _=>.bind lr λ _=>.ite (.bind lr λ _=>.bind lr λ _=>lr) lr) lr
theorem UU {n m} (h:n<=m) (a b):Le (HV n a b) (HV m a b):=.bind (Le.whl (λ _=>Qj h _ _ _) h _) λ c=>by rcases c with _|_;exact lr;exact lr
theorem Mz {n m} (_:n<=m) (a):Le (Fk n a) (Fk m a):=.ite lr (.ite lr (.ite lr (.ite lr lr)))
theorem UV {n m} (h:n<=m) (a b c):Le (HW n a b c) (HW m a b c):=.ite lr (.bind lr λ _=>.bind (Le.ite (IU h _ _) (lr)) λ _=>.ite lr (.ite lr (.ite lr (.bind lr λ _=>.bind (Mz h _) λ _=>.bind (IU h _ _) λ _=>.ite lr (.bind lr λ _=>.bind (Mz h _) λ _=>lr)))))
theorem LB {n m} (_:n<=m) (a b):Le (Hg n a b) (Hg m a b):=.bind lr λ _=>lr
theorem Ke {n m} (_:n<=m) (a b):Le (EB n a b) (EB m a b):=lr
theorem Qk {n m} (h:n<=m) (a b c d):Le (DH n a b c d) (DH m a b c d):=.ite (.bind (LB h _ _) λ _=>.bind (Le.ite (LB h _ _) (lr)) λ _=>.bind (Le.ite (LB h _ _) (lr)) λ _=>.ite (Ke h _ _) (Ke h _ _)) lr
theorem UW {n m} (h:n<=m) (a b):Le (HX n a b) (HX m a b):=.bind (Le.whl (λ _=>Qk h _ _ _ _) h _) λ _=>lr
theorem Kf {n m} (h:n<=m) (a b c):Le (BW n a b c) (BW m a b c):=.ite (.bind lr λ _=>.ite (.bind lr λ _=>.bind (Le.ite (lr) (lr)) λ _=>.bind (Le.ite (lr) (lr)) λ _=>.bind (Le.ite (UU h _ _) (lr)) λ _=>.ite (.bind lr λ _=>.bind lr λ _=>lr) lr) lr) lr
theorem MA {n m} (h:n<=m) (a b):Le (CW n a b) (CW m a b):=.bind (Le.whl (λ _=>Kf h _ _ _) h _) λ c=>by rcases c with _|_;exact(.bind lr λ _=>lr);exact lr
theorem E9 {n m} (_:n<=m) (a b):Le (Ca n a b) (Ca m a b):=lr
theorem Jq {n m} (h:n<=m) (a b c d e f g i):Le (Bs n a b c d e f g i) (Bs m a b c d e f g i):=.ite (.bind lr λ _=>.bind lr λ _=>.bind lr λ _=>.bind lr λ _=>.bind (UW h _ _) λ _=>lr) lr
theorem Jr {n m} (h:n<=m) {r r':(An->Af->Aa->Option Aa)} (e:∀ a0 a1 a2,Le (r a0 a1 a2) (r' a0 a1 a2)) (a b c d):Le (BO n r a b c d) (BO m r' a b c d):=.ite (.bind lr λ _=>.bind (UV h _ _ _) λ _=>.ite (E9 h _ _) (.bind lr λ _=>.bind lr λ _=>.bind (Le.whl (λ _=>Jq h _ _ _ _ _ _ _ _) h _) λ _=>.bind (e _ _ _) λ _=>E9 h _ _)) lr
theorem Kg {n m} (h:n<=m) {r r':(An->Af->Aa->Option Aa)} (d:∀ a0 a1 a2,Le (r a0 a1 a2) (r' a0 a1 a2)) (a b c):Le (Bb n r a b c) (Bb m r' a b c):=.ite lr (.ite (.bind (Qi h _ _) λ _=>.ite (.bind (MA h _ _) λ _=>lr) lr) (.bind (Le.whl (λ _=>Jr h d _ _ _ _) h _) λ _=>lr))
end Go.AI
end
section
namespace Go.AI
theorem Wv (a:Int):IntKind.i64.wrap a=if decide (a % 18446744073709551616>=9223372036854775808)=true then a % 18446744073709551616-18446744073709551616 else a % 18446744073709551616:=rfl
theorem RR (a:Int):IntKind.u8.wrap a=a % 256:=rfl
theorem Ql {a:Int} (h:-9223372036854775808<=a) (h':a<9223372036854775808):IntKind.i64.wrap a=a:=by
 rw[Wv];split
 ·rename_i hc;simp at hc;omega
 ·rename_i hc;simp at hc;omega
theorem Qm {a b:Int} (h:-9223372036854775808<=a+b) (h':a+b<9223372036854775808):AZ .i64 a b=a+b:=Ql h h'
theorem Jb2 {a b:Int} (h:-9223372036854775808<=a-b) (h':a-b<9223372036854775808):FZ .i64 a b=a-b:=Ql h h'
theorem Jjp {a:Int} (h:0<=a) (h':a<256):IntKind.u8.wrap a=a:=by
 rw[RR];omega
theorem UX (a:Int):0<=IntKind.u8.wrap a/\IntKind.u8.wrap a<256:=by
 rw[RR];omega
def KX (m k:Int):Bool:=decide (0<=k)&&decide (k<8)&&(Cg .u8 (Yl .u8 m k) 1==1)
theorem Jb3 (n:Nat) (m k:Int):ID n m k=some (KX m k):=by
 unfold ID KX;by_cases h:0<=k
 ·by_cases h':k<8<;>simp[h,h',Cj]
 ·simp[h]
theorem Jb4 (n:Nat) (m k:Int):Gj n m k=some (KX m k):=by
 unfold Gj KX;by_cases h:0<=k
 ·by_cases h':k<8<;>simp[h,h',Cj]
 ·simp[h]
def Fn (b:Int):Int:=
 if(decide (97<=Cg .u8 b 127)&&decide (Cg .u8 b 127<=122))=true then 1
 else if(decide (65<=Cg .u8 b 127)&&decide (Cg .u8 b 127<=90))=true then 2
 else if(decide (48<=Cg .u8 b 127)&&decide (Cg .u8 b 127<=57))=true then 3
 else if(Cg .u8 b 127==32)=true then 4 else 5
theorem UY (n:Nat) (b:Int):Gl n b=some (Fn b):=by
 unfold Gl Fn;split
 ·rfl
 ·split
  ·rfl
  ·split
   ·rfl
   ·split<;>rfl
theorem YP (n:Nat) (b:Int):Fk n b=some (Fn b):=by
 unfold Fk Fn;simp only[ge_iff_le];split
 ·rfl
 ·split
  ·rfl
  ·split
   ·rfl
   ·split<;>rfl
theorem UZ (b:Int):1<=Fn b/\Fn b<=5:=by
 unfold Fn;split
 ·omega
 ·split
  ·omega
  ·split
   ·omega
   ·split<;>omega
def RT (s:List UInt8) (i:Nat):Int:=(s[i]?.getD 0).toNat
theorem MB {s:List UInt8} {i:Nat} (h:i<s.length):Jh s (i:Int)=some (RT s i):=by
 unfold Jh RT;rw[if_pos (by omega)];simp
def Xj:Af:=⟨0,0,0⟩
def Xk (r:AB) (s:Af):Af×Bool:=
 if((r.From != s.Mode)||!KX r.Left s.Last)=true then(Xj,false)
 else if(r.Print==[])=true then
  (if(Cg .u8 s.Need r.Right==0)=true then(Xj,false)else(⟨r.To,s.Last,Cg .u8 s.Need r.Right⟩,true))
 else if(!KX s.Need (Fn (RT r.Print 0)))=true then(Xj,false)
 else(⟨r.To,Fn (RT r.Print (r.Print.length-1)),r.Right⟩,true)
def Bv (t:Ab) (s:Af) (k:Int):Af×Bool:=
 if(decide (k<0)||decide (k>=(t.Rules.length:Int)))=true then(Xj,false)else Xk (t.Rules[k.toNat]?.getD default) s
def Jb5 (t:Ab):Prop:=∀ r∈t.Rules,r.Print.length<9223372036854775808
theorem Qn {α:Type} [Inhabited α] {l:List α} {k:Int} (h:0<=k) (h':k<l.length):idx l k=some (l[k.toNat]?.getD default):=by
 unfold idx;rw[if_pos h];have:k.toNat<l.length:=by omega
 simp[this]
theorem OH {t:Ab} (ht:Jb5 t) (n:Nat) (s:Af) (k:Int):JO n t s k=some (Bv t s k):=by
 unfold JO Bv;by_cases hk:(decide (k<0)||decide (k>=(t.Rules.length:Int)))=true
 ·rw[if_pos hk,if_pos hk];rfl
 ·rw[if_neg hk,if_neg hk];simp only[Jk7,decide_eq_true_eq,not_or,Int.not_lt,ge_iff_le,Int.not_le]at hk;rw[Qn hk.1 hk.2];have hmem:(t.Rules[k.toNat]?.getD default)∈t.Rules:=by
   have:k.toNat<t.Rules.length:=by omega
   simp[this]
  have hlen:=ht _ hmem;generalize t.Rules[k.toNat]?.getD default=r at hlen⊢;simp only[Jku,Jb3,UY];unfold Xk;by_cases h1:r.From=s.Mode
  ·simp only[h1,bne_self_eq_false,Bool.not_false,if_true,Jku,Bool.false_or];by_cases h2:KX r.Left s.Last=true
   ·simp only[h2,JkB,Jk0,if_false];by_cases h3:r.Print=[]
    ·simp only[h3,beq_self_eq_true,if_true];split<;>rfl
    ·have h3':(r.Print==[])=false:=by simpa using h3
     have hpos:0<r.Print.length:=List.length_pos_iff.2 h3;simp only[h3',Jk0,if_false];have e0:=MB (s:=r.Print) (i:=0) hpos;simp only[Int.natCast_zero]at e0;rw[e0];have e1:FZ .i64 ((r.Print.length:Nat):Int) 1=((r.Print.length-1:Nat):Int):=by rw[Jb2 (by omega) (by omega)];omega
     rw[e1,MB (by omega)];simp only[Jku];split<;>rfl
   ·have h2:KX r.Left s.Last=false:=by simpa using h2
    simp only[h2,Bool.not_false,if_true];rfl
  ·have h1':(r.From != s.Mode)=true:=by simpa using h1
   simp only[h1',JkB,Jk0,if_false,Jku,Bool.true_or,if_true];rfl
end Go.AI
end
section
namespace Go.AI
theorem AE {α:Type} {l:List α} {i:Nat} {x:α} (h:l[i]?=some x):i<l.length:=(List.getElem?_eq_some_iff.1 h).1
theorem Jb6 {t:Ab} (ht:Jb5 t) (n:Nat) (s:Af) (k:Int):HW n t s k=some (Bv t s k):=by
 unfold HW Bv;by_cases hk:(decide (k<0)||decide (k>=(t.Rules.length:Int)))=true
 ·rw[if_pos hk,if_pos hk];rfl
 ·rw[if_neg hk,if_neg hk];simp only[Jk7,decide_eq_true_eq,not_or,Int.not_lt,ge_iff_le,Int.not_le]at hk;rw[Qn hk.1 hk.2];have hmem:(t.Rules[k.toNat]?.getD default)∈t.Rules:=by
   have:k.toNat<t.Rules.length:=by omega
   simp[this]
  have hlen:=ht _ hmem;generalize t.Rules[k.toNat]?.getD default=r at hlen⊢;simp only[Jku,Jb4,YP];unfold Xk;by_cases h1:r.From=s.Mode
  ·simp only[h1,bne_self_eq_false,Bool.not_false,if_true,Jku,Bool.false_or];by_cases h2:KX r.Left s.Last=true
   ·simp only[h2,JkB,Jk0,if_false];by_cases h3:r.Print=[]
    ·simp only[h3,List.length_nil,Int.natCast_zero,beq_self_eq_true,Bool.true_and,if_true];split<;>rfl
    ·have h3':(r.Print==[])=false:=by simpa using h3
     have hpos:0<r.Print.length:=List.length_pos_iff.2 h3;have h4:(((r.Print.length:Nat):Int)==0)=false:=by simp;omega
     simp only[h3',h4,Bool.false_and,Jk0,if_false];have e0:=MB (s:=r.Print) (i:=0) hpos;simp only[Int.natCast_zero]at e0;rw[e0];have e1:FZ .i64 ((r.Print.length:Nat):Int) 1=((r.Print.length-1:Nat):Int):=by rw[Jb2 (by omega) (by omega)];omega
     rw[e1,MB (by omega)];simp only[Jku];split<;>rfl
   ·have h2:KX r.Left s.Last=false:=by simpa using h2
    simp only[h2,Bool.not_false,if_true];rfl
  ·have h1':(r.From != s.Mode)=true:=by simpa using h1
   simp only[h1',JkB,Jk0,if_false,Jku,Bool.true_or,if_true];rfl
def Bk (t:Ab) (s:Af):Bool:=decide (s.Mode<t.Modes)&&KX t.Accept s.Mode&&KX s.Need 0
theorem Ww (n:Nat) (t:Ab) (s:Af):Hb n t s=some (Bk t s):=by
 unfold Hb Bk;simp only[Jb3];by_cases h1:s.Mode<t.Modes
 ·cases h2:KX t.Accept s.Mode<;>simp[h1]
 ·simp[h1]
theorem U0 (n:Nat) (t:Ab) (s:Af):EA n t s=some (Bk t s):=by
 unfold EA Bk;simp only[Jb4];have h0:¬ (0<=s.Mode)->KX t.Accept s.Mode=false:=λ h=>by simp[KX,h]
 by_cases h:0<=s.Mode
 ·by_cases h1:s.Mode<t.Modes
  ·cases h2:KX t.Accept s.Mode<;>simp[h,h1]
  ·simp[h1]
 ·simp[h,h0 h]
end Go.AI
end
section
namespace Go.AI
theorem Wx (a b:Int) (h:0<=b) (h':b<256):0<=Cg .u8 a b/\Cg .u8 a b<=b:=by
 unfold Cg;have hb:(BitVec.ofInt 8 b).toNat=b.toNat:=by
  rw[BitVec.toNat_ofInt];omega
 have hle:(BitVec.ofInt 8 a &&& BitVec.ofInt 8 b).toNat<=b.toNat:=by
  rw[BitVec.toNat_and,hb];exact Nat.and_le_right
 have e:(BitVec.ofInt IntKind.u8.bits a &&& BitVec.ofInt IntKind.u8.bits b).toNat=(BitVec.ofInt 8 a &&& BitVec.ofInt 8 b).toNat:=rfl;rw[e,Jjp (by omega) (by omega)];omega
def LC (r:AB):Prop:=0<=r.To/\r.To<2/\0<=r.Right/\r.Right<=63/\r.Print.length<=3
def H9 (t:Ab):Prop:=t.Rules.length<=11/\∀ r∈t.Rules,LC r
theorem H9.short {t:Ab} (h:H9 t):Jb5 t:=λ r hr=>by have:=(h.2 r hr).2.2.2.2;omega
def InU (s:Af):Prop:=0<=s.Mode/\s.Mode<2/\0<=s.Last/\s.Last<=5/\0<=s.Need/\s.Need<=63
def JhF:List Af:=(List.range 768).map λ i=>⟨(i / 384:Nat),(i / 64 % 6:Nat),(i % 64:Nat)⟩
theorem Jb7 {s:Af} (h:InU s):s∈JhF:=by
 obtain⟨h1,h2,h3,h4,h5,h6⟩:=h;obtain⟨m,l,d⟩:=s;simp only at h1 h2 h3 h4 h5 h6;simp only[JhF,JkG,List.mem_range];refine⟨m.toNat*384+l.toNat*64+d.toNat,by omega,?_⟩;have e1:(m.toNat*384+l.toNat*64+d.toNat) / 384=m.toNat:=by omega
 have e2:(m.toNat*384+l.toNat*64+d.toNat) / 64 % 6=l.toNat:=by omega
 have e3:(m.toNat*384+l.toNat*64+d.toNat) % 64=d.toNat:=by omega
 rw[e1,e2,e3];congr 1<;>omega
theorem Jb8 {l m:List Af} (h:l.Nodup) (hs:∀ x∈l,x∈m):l.length<=m.length:=by
 induction l generalizing m with
 | nil=>simp
 | cons a l ih=>
  rw[List.nodup_cons]at h;have ha:=hs a (by simp);have hlen:(m.erase a).length=m.length-1:=List.length_erase_of_mem ha;have hpos:0<m.length:=List.length_pos_of_mem ha;have:=ih (m:=m.erase a) h.2 λ x hx=>by
   have hne:x≠a:=λ e=>h.1 (e▸hx);exact(List.mem_erase_of_ne hne).2 (hs x (by simp[hx]))
  simp;omega
theorem Jb9 {l:List Af} (h:l.Nodup) (hs:∀ x∈l,InU x):l.length<=768:=by
 have:=Jb8 h λ x hx=>Jb7 (hs x hx);simpa [JhF]using this
theorem Jca {t:Ab} (ht:H9 t) {s:Af} (hs:InU s) {k:Int} (h:(Bv t s k).2=true):InU (Bv t s k).1:=by
 unfold Bv at h⊢;split at h
 ·cases h
 ·rename_i hk;rw[if_neg hk];simp only[Jk7,decide_eq_true_eq,not_or,Int.not_lt,ge_iff_le,Int.not_le]at hk;have hmem:(t.Rules[k.toNat]?.getD default)∈t.Rules:=by
   have:k.toNat<t.Rules.length:=by omega
   simp[this]
  have hr:=ht.2 _ hmem;generalize t.Rules[k.toNat]?.getD default=r at hr h⊢;obtain⟨a1,a2,a3,a4,a5⟩:=hr;obtain⟨b1,b2,b3,b4,b5,b6⟩:=hs;unfold Xk at h⊢;split at h
  ·cases h
  ·rename_i h1;rw[if_neg h1];split at h
   ·rename_i h2;rw[if_pos h2];split at h
    ·cases h
    ·rename_i h3;rw[if_neg h3];have:=Wx s.Need r.Right a3 (by omega);exact⟨a1,a2,b3,b4,this.1,by show Cg .u8 s.Need r.Right<=63;omega⟩
   ·rename_i h2;rw[if_neg h2];split at h
    ·cases h
    ·rename_i h3;rw[if_neg h3];have:=UZ (RT r.Print (r.Print.length-1));exact⟨a1,a2,by show 0<=Fn _;omega,by show Fn _<=5;omega,a3,a4⟩
def Cb:Af:=⟨0,0,63⟩
def KY (t:Ab) (s:Af) (st:List Af) (k:Nat):List Af:=if(Bv t s k).2=true/\(Bv t s k).1 ∉ st then st++[(Bv t s k).1]else st
def On (t:Ab) (s:Af) (m:Nat) (st:List Af):List Af:=(List.range m).foldl (KY t s) st
theorem KD (t:Ab) (s:Af) (m:Nat) (st:List Af):On t s (m+1) st=KY t s (On t s m st) m:=by
 simp[On,List.range_succ]
def U1 (t:Ab):Nat->Nat->List Af->List Af
 | 0,_,st=>st
 | f+1,i,st=>match st[i]? with
  | some s=>U1 t f (i+1) (On t s t.Rules.length st)
  | none=>st
def AH (t:Ab):List Af:=U1 t 800 0 [Cb]
structure GM (t:Ab) (st:List Af):Prop where
 nodup:st.Nodup
 inU:∀ s∈st,InU s
 first:st[0]?=some Cb
 origin:∀ (j:Nat) (s:Af),st[j]?=some s->0<j->∃ (i:Nat) (s':Af) (k:Nat),i<j/\st[i]?=some s'/\k<t.Rules.length/\Bv t s' k=(s,true)
theorem GM.len {t:Ab} {st:List Af} (h:GM t st):st.length<=768:=Jb9 h.nodup h.inU
theorem GM.add {t:Ab} (ht:H9 t) {st:List Af} (h:GM t st) {i:Nat} {s:Af} (hi:st[i]?=some s) {k:Nat} (hk:k<t.Rules.length):GM t (KY t s st k):=by
 unfold KY;split
 ·rename_i hc;have hil:=AE hi;refine⟨?_,λ x hx=>?_,?_,λ j x hj h0=>?_⟩
  ·rw[List.nodup_append];refine⟨h.nodup,by simp,λ a ha b hb=>?_⟩;simp at hb;subst hb;exact λ e=>hc.2 (e▸ha)
  ·simp only[List.mem_append,List.mem_singleton]at hx;rcases hx with hx|rfl
   ·exact h.inU x hx
   ·exact Jca ht (h.inU s (JkQ hi)) hc.1
  ·rw[JkW (by omega)];exact h.first
  ·rcases JkE j st.length with hlt|hge
   ·rw[JkW hlt]at hj;obtain⟨i',s',k',a1,a2,a3,a4⟩:=h.origin j x hj h0;exact⟨i',s',k',a1,by rw[JkW (by omega)];exact a2,a3,a4⟩
   ·rw[Jk6 hge]at hj;have:j-st.length=0:=by have:=AE hj;simp at this;omega
    rw[this]at hj;simp at hj;subst hj;refine⟨i,s,k,by omega,by rw[JkW hil];exact hi,hk,?_⟩;exact Prod.ext rfl hc.1
 ·exact h
theorem U2 (t:Ab) (s:Af) (st:List Af) (k:Nat):st <+: KY t s st k:=by
 unfold KY;split
 ·exact List.prefix_append _ _
 ·exact List.prefix_refl _
theorem Ia (t:Ab) (s:Af) (st:List Af):∀ m,st <+: On t s m st:=by
 intro m;induction m with
 | zero=>exact List.prefix_refl _
 | succ m ih=>rw[KD];exact ih.trans (U2 _ _ _ _)
theorem OI {α:Type} {l m:List α} (h:l <+: m) {i:Nat} {x:α} (hi:l[i]?=some x):m[i]?=some x:=by
 obtain⟨r,rfl⟩:=h;rw[JkW (AE hi)];exact hi
theorem GM.exp {t:Ab} (ht:H9 t) {st:List Af} (h:GM t st) {i:Nat} {s:Af} (hi:st[i]?=some s):∀ m,m<=t.Rules.length->GM t (On t s m st):=by
 intro m;induction m with
 | zero=>intro _;exact h
 | succ m ih=>
  intro hm;rw[KD];exact(ih (by omega)).add ht (OI (Ia t s st m) hi) (by omega)
theorem Jcb (t:Ab) (s:Af) (st:List Af):∀ m k:Nat,k<m->(Bv t s k).2=true->(Bv t s k).1∈On t s m st:=by
 intro m;induction m with
 | zero=>intro k hk;omega
 | succ m ih=>
  intro k hk h;rw[KD];by_cases e:k=m
  ·subst e;unfold KY;by_cases hc:(Bv t s k).1∈On t s k st
   ·rw[if_neg (λ hh=>hh.2 hc)];exact hc
   ·rw[if_pos ⟨h,hc⟩];simp
  ·exact(U2 t s _ m).subset (ih k (by omega) h)
def JhG (t:Ab) (i:Nat) (st:List Af):Prop:=∀ (j:Nat) (s:Af),j<i->st[j]?=some s->∀ k:Nat,k<t.Rules.length->(Bv t s k).2=true->(Bv t s k).1∈st
theorem JhH {t:Ab} (ht:H9 t):∀ (f i:Nat) (st:List Af),GM t st->JhG t i st->768<f+i->GM t (U1 t f i st)/\∀ i',JhG t i' (U1 t f i st):=by
 intro f;induction f with
 | zero=>
  intro i st h hd hf;have:=h.len;refine⟨h,λ i' j s hj hs=>?_⟩;have hs:st[j]?=some s:=hs;exact hd j s (by have:=AE hs;omega) hs
 | succ f ih=>
  intro i st h hd hf;simp only[U1];cases hi:st[i]? with
  | none=>
   refine⟨h,λ i' j s hj hs=>?_⟩;have hs:st[j]?=some s:=hs;exact hd j s (by have:=AE hs;rw[List.getElem?_eq_none_iff]at hi;omega) hs
  | some s=>
   refine ih (i+1) _ (h.exp ht hi _ (JkD _)) (λ j x hj hx k hk hk2=>?_) (by omega);by_cases e:j=i
   ·subst e;have:=OI (Ia t s st t.Rules.length) hi;rw[this]at hx;cases hx;exact Jcb t s st _ k hk hk2
   ·have hjl:j<st.length:=by have:=AE hi;omega
    have hxx:st[j]?=some st[j]:=JkO hjl;have:=OI (Ia t s st t.Rules.length) hxx;rw[this]at hx;cases hx;exact(Ia t s st t.Rules.length).subset (hd j _ (by omega) hxx k hk hk2)
theorem DQ {t:Ab} (ht:H9 t):GM t (AH t)/\∀ i,JhG t i (AH t):=by
 refine JhH ht 800 0 [Cb] ⟨by simp,λ s hs=>?_,rfl,λ j s hj h0=>?_⟩ (λ j s hj=>by omega) (by omega)
 ·simp at hs;subst hs;exact⟨by decide,by decide,by decide,by decide,by decide,by decide⟩
 ·cases j with
  | zero=>omega
  | succ j=>simp at hj
end Go.AI
end
section
namespace Go.AI
theorem Jkk {σ ρ:Type} {body:Nat->σ->Option (σ⊕ρ)} {R:ρ->Prop} (I:Nat->σ->Prop) (h:∀ k x,I k x->(∃ y j,j<k/\I j y/\Ev (λ n=>body n x) (.inl y))\/∃ r,R r/\Ev (λ n=>body n x) (.inr r)):∀ (k:Nat) (x:σ),I k x->∃ r,R r/\Ev (λ n=>Go.AI.whl (body n) n x) r:=by
 have key:∀ (k:Nat) (x:σ),I k x->∃ r,R r/\∃ N c,∀ n fuel,N<=n->c<=fuel->Go.AI.whl (body n) fuel x=some r:=by
  intro k;induction k using Nat.strongRecOn with
  | _ k ih=>
   intro x hx;rcases h k x hx with⟨y,j,hj,hy,N1,h1⟩|⟨r,hr,N1,h1⟩
   ·obtain⟨r,hr,N2,c,h2⟩:=ih j hj y hy;refine⟨r,hr,max N1 N2,c+1,λ n fuel hn hf=>?_⟩;cases fuel with
    | zero=>omega
    | succ fuel=>
     have e:=h1 n (by omega);simp only at e;simp only[Go.AI.whl,e];exact h2 n fuel (by omega) (by omega)
   ·refine⟨r,hr,N1,1,λ n fuel hn hf=>?_⟩;cases fuel with
    | zero=>omega
    | succ fuel=>
     have e:=h1 n hn;simp only at e;simp only[Go.AI.whl,e]
 intro k x hx;obtain⟨r,hr,N,c,hh⟩:=key k x hx;exact⟨r,hr,max N c,λ m hm=>hh m m (by omega) (by omega)⟩
def Je (st:List Af) (nb:List (Af×Int)):Prop:=∀ s,AR s nb=(st.findIdx? λ x=>decide (x=s)).map λ i=>(i:Int)
theorem Cq {st:List Af} {s:Af} {i:Nat} (hn:st.Nodup) (h:st[i]?=some s):(st.findIdx? λ x=>decide (x=s))=some i:=by
 have hi:=AE h;rw[List.findIdx?_eq_some_iff_getElem];have he:st[i]=s:=by rw[JkO hi]at h;exact Option.some.inj h
 refine⟨hi,by simpa using he,λ j hj=>?_⟩;simp only[JkC,decide_eq_false_iff_not];intro e;have:=(List.getElem_inj (i:=j) (j:=i) (h₀:=by omega) (h₁:=hi) hn).1 (by rw[e,he]);omega
theorem IV {st:List Af} {s:Af} (h:s ∉ st):(st.findIdx? λ x=>decide (x=s))=none:=by
 rw[List.findIdx?_eq_none_iff];intro y hy;simp only[decide_eq_false_iff_not];exact λ e=>h (e▸hy)
theorem Ib {κ α:Type} [DecidableEq κ] (k k':κ) (v:α) (m:List (κ×α)):AR k' (BQ k v m)=if k'=k then some v else AR k' m:=by
 induction m with
 | nil=>simp[BQ,AR]
 | cons p m ih=>
  simp only[BQ];by_cases h:k=p.1
  ·rw[if_pos h];simp only[AR];by_cases h':k'=k
   ·simp[h']
   ·have:k'≠p.1:=λ e=>h' (e.trans h.symm);simp[h',this]
  ·rw[if_neg h];simp only[AR];by_cases h':k'=p.1
   ·have:k'≠k:=λ e=>h (e▸h');rw[if_pos h',if_neg this,if_pos h']
   ·rw[if_neg h',if_neg h',ih]
theorem Je.snoc {st:List Af} {nb:List (Af×Int)} (h:Je st nb) (hn:st.Nodup) {p:Af} (hp:p ∉ st):Je (st++[p]) (BQ p (st.length:Nat) nb):=by
 intro s;rw[Ib];have hnd:(st++[p]).Nodup:=by
  rw[List.nodup_append];exact⟨hn,by simp,λ a ha b hb=>by simp at hb;subst hb;exact λ e=>hp (e▸ha)⟩
 by_cases e:s=p
 ·subst e;rw[if_pos rfl,Cq hnd (i:=st.length) (by simp)];rfl
 ·rw[if_neg e,h s];by_cases hs:s∈st
  ·obtain⟨i,hi⟩:=List.mem_iff_getElem?.1 hs;rw[Cq hn hi,Cq hnd (i:=i) (by rw[JkW (AE hi)];exact hi)]
  ·rw[IV hs,IV (by simp[hs,e])]
def GN (i m j k:Nat):Prop:=j<i\/(j=i/\k<m)
structure CX (t:Ab) (st:List Af) (fr:List (List Int)) (i m:Nat):Prop where
 len:fr.length=st.length
 cov:∀ j s k,GN i m j k->st[j]?=some s->k<t.Rules.length->(Bv t s (k:Nat)).2=true->(Bv t s (k:Nat)).1∈st
 sound:∀ (n:Nat) l,fr[n]?=some l->∀ x∈l,∃ (j:Nat) (s:Af) (k:Nat) (s':Af),x=(j:Int)/\st[j]?=some s/\k<t.Rules.length/\st[n]?=some s'/\Bv t s (k:Nat)=(s',true)
 compl:∀ (n:Nat) l,fr[n]?=some l->∀ (j:Nat) (s:Af) (k:Nat) (s':Af),GN i m j k->st[j]?=some s->k<t.Rules.length->st[n]?=some s'->Bv t s (k:Nat)=(s',true)->(j:Int)∈l
 small:∀ (n:Nat) l,fr[n]?=some l->l.length<=i*11+m
theorem CX.snoc {t:Ab} {st:List Af} {fr:List (List Int)} {i m:Nat} (h:CX t st fr i m) {p:Af} (hp:p ∉ st) (hi:i<st.length):CX t (st++[p]) (fr++[[]]) i m:=by
 have hget:∀ (j:Nat) s,GN i m j 0\/j<=i->(st++[p])[j]?=some s->st[j]?=some s:=λ j s hj hs=>by
  rcases JkE j st.length with hlt|hge
  ·rwa[JkW hlt]at hs
  ·rcases hj with (h1|⟨h1,_⟩)|h1<;>omega
 have hle:∀ {j k},GN i m j k->j<=i:=λ h=>by rcases h with h|⟨h,_⟩<;>omega
 refine⟨by simp[h.len],λ j s k ht hs hk h2=>?_,λ n l hl x hx=>?_,λ n l hl j s k s' ht hs hk hs' he=>?_,λ n l hl=>?_⟩
 ·exact List.mem_append_left _ (h.cov j s k ht (hget j s (.inr (hle ht)) hs) hk h2)
 ·rcases JkE n fr.length with hlt|hge
  ·rw[JkW hlt]at hl;obtain⟨j,s,k,s',a1,a2,a3,a4,a5⟩:=h.sound n l hl x hx;exact⟨j,s,k,s',a1,by rw[JkW (AE a2)];exact a2,a3,by rw[JkW (AE a4)];exact a4,a5⟩
  ·rw[Jk6 hge]at hl;have:n-fr.length=0:=by have:=AE hl;simp at this;omega
   rw[this]at hl;simp at hl;subst hl;simp at hx
 ·have hs0:=hget j s (.inr (hle ht)) hs;have hmem:s'∈st:=by have:=h.cov j s k ht hs0 hk (by rw[he]);rwa[he]at this
  rcases JkE n fr.length with hlt|hge
  ·rw[JkW hlt]at hl;rw[JkW (by rw[← h.len];exact hlt)]at hs';exact h.compl n l hl j s k s' ht hs0 hk hs' he
  ·have hn:n=st.length:=by have:=AE hs';simp at this;rw[h.len]at hge;omega
   subst hn;simp at hs';subst hs';exact absurd hmem hp
 ·rcases JkE n fr.length with hlt|hge
  ·rw[JkW hlt]at hl;exact h.small n l hl
  ·rw[Jk6 hge]at hl;have:n-fr.length=0:=by have:=AE hl;simp at this;omega
   rw[this]at hl;simp at hl;subst hl;simp
theorem CX.put {t:Ab} {st:List Af} {fr:List (List Int)} {i m:Nat} (h:CX t st fr i m) (hnd:st.Nodup) {s p:Af} {q:Nat} {l:List Int} (hs:st[i]?=some s) (hm:m<t.Rules.length) (hst:Bv t s (m:Nat)=(p,true)) (hq:st[q]?=some p) (hl:fr[q]?=some l):CX t st (fr.set q (l++[(i:Int)])) i (m+1):=by
 have htk:∀ {j k},GN i (m+1) j k->GN i m j k\/(j=i/\k=m):=λ {j k} h=>by
  unfold GN at *;omega
 have hql:=AE hl;refine⟨by simp[h.len],λ j x k ht hx hk h2=>?_,λ n l' hl' x hx=>?_,λ n l' hl' j x k x' ht hx hk hx' he=>?_,λ n l' hl'=>?_⟩
 ·rcases htk ht with ht|⟨rfl,rfl⟩
  ·exact h.cov j x k ht hx hk h2
  ·rw[hs]at hx;cases hx;rw[hst];exact JkQ hq
 ·by_cases e:n=q
  ·subst e;rw[JkZ hql]at hl';cases hl';simp only[List.mem_append,List.mem_singleton]at hx;rcases hx with hx|rfl
   ·exact h.sound n l hl x hx
   ·exact⟨i,s,m,p,rfl,hs,hm,hq,hst⟩
  ·rw[Jk4 (Ne.symm e)]at hl';exact h.sound n l' hl' x hx
 ·rcases htk ht with ht|⟨rfl,rfl⟩
  ·by_cases e:n=q
   ·subst e;rw[JkZ hql]at hl';cases hl';exact List.mem_append_left _ (h.compl n l hl j x k x' ht hx hk hx' he)
   ·rw[Jk4 (Ne.symm e)]at hl';exact h.compl n l' hl' j x k x' ht hx hk hx' he
  ·rw[hs]at hx;cases hx;rw[hst]at he;cases he;have e:n=q:=by
    have h1:=AE hx';have h2:=AE hq;rw[JkO h1]at hx';rw[JkO h2]at hq;exact(List.getElem_inj (h₀:=h1) (h₁:=h2) hnd).1 ((Option.some.inj hx').trans (Option.some.inj hq).symm)
   subst e;rw[JkZ hql]at hl';cases hl';simp
 ·by_cases e:n=q
  ·subst e;rw[JkZ hql]at hl';cases hl';have:=h.small n l hl;simp;omega
  ·rw[Jk4 (Ne.symm e)]at hl';have:=h.small n l' hl';omega
theorem CX.skip {t:Ab} {st:List Af} {fr:List (List Int)} {i m:Nat} (h:CX t st fr i m) {s:Af} (hs:st[i]?=some s) (hst:(Bv t s (m:Nat)).2=false):CX t st fr i (m+1):=by
 have htk:∀ {j k},GN i (m+1) j k->GN i m j k\/(j=i/\k=m):=λ {j k} h=>by
  unfold GN at *;omega
 refine⟨h.len,λ j x k ht hx hk h2=>?_,h.sound,λ n l hl j x k x' ht hx hk hx' he=>?_,λ n l hl=>by have:=h.small n l hl;omega⟩
 ·rcases htk ht with ht|⟨rfl,rfl⟩
  ·exact h.cov j x k ht hx hk h2
  ·rw[hs]at hx;cases hx;rw[hst]at h2;cases h2
 ·rcases htk ht with ht|⟨rfl,rfl⟩
  ·exact h.compl n l hl j x k x' ht hx hk hx' he
  ·rw[hs]at hx;cases hx;rw[he]at hst;cases hst
end Go.AI
end
section
namespace Go.AI
theorem IW {α:Type} {l:List α} {i:Nat} {x:α} (h:l[i]?=some x):idx l (i:Int)=some x:=by
 unfold idx;rw[if_pos (by omega)];simpa using h
theorem IX {α:Type} {eb:Nat} {xs ys:List α} (h:(xs.length+ys.length)*eb<=70368744177664):app eb xs ys=some (xs++ys):=by
 unfold app;rw[if_pos h]
theorem U3 {t:Ab} (ht:H9 t) {i m:Nat} {s:Af} {st:List Af} {fr:List (List Int)} {nb:List (Af×Int)} (hF:GM t st) (hi:st[i]?=some s) (hN:Je st nb) (hR:CX t st fr i m) (hm:m<t.Rules.length) :
  ∃ fr' nb',Je (KY t s st m) nb'/\CX t (KY t s st m) fr' i (m+1)/\∀ n,BU n t (i:Int) st fr nb (m:Int)=some (.inl (KY t s st m,fr',nb',((m+1:Nat):Int))):=by
 have hil:=AE hi;have hlen:=hF.len;have hrl:=ht.1;have hinc:AZ .i64 (m:Int) 1=((m+1:Nat):Int):=by rw[Qm (by omega) (by omega)];rfl
 have hcond:decide ((m:Int)<((t.Rules.length:Nat):Int))=true:=by simpa using hm
 cases hp:(Bv t s (m:Nat)).2 with
 | false=>
  have ha:KY t s st m=st:=by unfold KY;rw[if_neg (by rw[hp];simp)]
  refine⟨fr,nb,by rw[ha];exact hN,by rw[ha];exact hR.skip hi hp,λ n=>?_⟩;unfold BU;rw[if_pos hcond,IW hi];simp only[Jku,OH ht.short,hp,Bool.not_false,if_true,CO,hinc,ha]
 | true=>
  have hpe:Bv t s (m:Nat)=((Bv t s (m:Nat)).1,true):=Prod.ext rfl hp;generalize hpp:(Bv t s (m:Nat)).1=p at hpe;by_cases hmem:p∈st
  ·have ha:KY t s st m=st:=by unfold KY;rw[if_neg (by rw[hpp];exact λ hh=>hh.2 hmem)]
   obtain⟨q,hq⟩:=List.mem_iff_getElem?.1 hmem;have hql:=AE hq;obtain⟨lq,hfq⟩:∃ lq,fr[q]?=some lq:=⟨_,JkO (by rw[hR.len];exact hql)⟩;have hsm:=hR.small q _ hfq;have hget:AR p nb=some (q:Int):=by rw[hN p,Cq hF.nodup hq];rfl
   have hiv:i<768:=by omega
   refine⟨fr.set q (lq++[(i:Int)]),nb,by rw[ha];exact hN,by rw[ha];exact hR.put hF.nodup hi hm hpe hq hfq,λ n=>?_⟩;unfold BU;rw[if_pos hcond,IW hi];simp only[Jku,OH ht.short,hpe,hget,Option.isSome_some,JkB,Jk0,if_false,Jkz,DC];rw[IW hfq];simp only[Jku];rw[IX (by simp;omega)];simp only[Jku,CO,hinc,ha,JkX]
  ·have ha:KY t s st m=st++[p]:=by unfold KY;rw[if_pos ⟨hp,by rw[hpp];exact hmem⟩,hpp]
   have hnd:(st++[p]).Nodup:=by have:=(hF.add ht hi hm).nodup;rwa[ha]at this
   have hget:AR p nb=none:=by rw[hN p,IV hmem];rfl
   have hR':=hR.snoc hmem hil;have hfq:(fr++[[]])[st.length]?=some ([]:List Int):=by rw[← hR.len];simp
   refine⟨(fr++[[]]).set st.length ([]++[(i:Int)]),BQ p (st.length:Nat) nb,by rw[ha];exact hN.snoc hF.nodup hmem,by rw[ha];exact hR'.put hnd (by rw[JkW hil];exact hi) hm hpe (by simp) hfq,λ n=>?_⟩;unfold BU;rw[if_pos hcond,IW hi];simp only[Jku,OH ht.short,hpe,hget,Option.isSome_none,Bool.not_false,JkB,Jk0,if_true,if_false];rw[IX (by simp;omega),Jku,IX (by simp[hR.len];omega),Jku];simp only[DC];rw[IW hfq];simp only[Jku];rw[IX (by simp)];simp only[Jku,CO,hinc,ha,JkX]
theorem CX.next {t:Ab} {st:List Af} {fr:List (List Int)} {i:Nat} (h:CX t st fr i t.Rules.length) (hr:t.Rules.length<=11):CX t st fr (i+1) 0:=by
 have htk:∀ {j k},k<t.Rules.length->GN (i+1) 0 j k->GN i t.Rules.length j k:=λ {j k} hk h=>by
  unfold GN at *;omega
 exact⟨h.len,λ j s k ht hs hk=>h.cov j s k (htk hk ht) hs hk,h.sound,λ n l hl j s k s' ht hs hk=>h.compl n l hl j s k s' (htk hk ht) hs hk,λ n l hl=>by have:=h.small n l hl;omega⟩
theorem Jcc {t:Ab} (ht:H9 t) {i:Nat} {s:Af} {st:List Af} {fr:List (List Int)} {nb:List (Af×Int)} (hF:GM t st) (hi:st[i]?=some s) (hN:Je st nb) (hR:CX t st fr i 0) :
  ∃ r:List Af×List (List Int)×List (Af×Int),(r.1=On t s t.Rules.length st/\Je r.1 r.2.2/\CX t r.1 r.2.1 (i+1) 0) /\
   Ev (λ n=>whl (λ (x:((List Af)×(List (List Int))×(List (Af×Int))×Int))=>BU n t (i:Int) x.1 x.2.1 x.2.2.1 x.2.2.2) n (st,fr,nb,0)) r:=by
 refine Jkk (body:=λ n x=>BU n t (i:Int) x.1 x.2.1 x.2.2.1 x.2.2.2) (λ k x=>∃ m:Nat,m<=t.Rules.length/\k=t.Rules.length-m/\x.1=On t s m st/\x.2.2.2=(m:Int)/\Je x.1 x.2.2.1/\CX t x.1 x.2.1 i m) ?_ t.Rules.length (st,fr,nb,0) ⟨0,by omega,by omega,rfl,rfl,hN,hR⟩;rintro k ⟨st',fr',nb',m'⟩ ⟨m,hm,rfl,h1,h2,h3,h4⟩;simp only at h1 h2 h3 h4;subst h1;subst h2;rcases JkE m t.Rules.length with hlt|hge
 ·left;have hi':(On t s m st)[i]?=some s:=OI (Ia t s st m) hi;obtain⟨fr2,nb2,g1,g2,g3⟩:=U3 ht (hF.exp ht hi m hm) hi' h3 h4 hlt;exact⟨_,t.Rules.length-(m+1),by omega,⟨m+1,hlt,rfl,(KD t s m st).symm,rfl,g1,g2⟩,Ev.all g3⟩
 ·right;have e:m=t.Rules.length:=by omega
  subst e;refine⟨(On t s t.Rules.length st,fr',nb'),⟨rfl,h3,h4.next ht.1⟩,Ev.all λ n=>?_⟩;unfold BU;rw[if_neg (by simp)]
theorem Wy {t:Ab} (ht:H9 t):∃ fr,CX t (AH t) fr (AH t).length 0/\Ev (λ n=>Ha n t) (AH t,fr):=by
 have h0:GM t [Cb]:=⟨by simp,λ s hs=>by simp at hs;subst hs;exact⟨by decide,by decide,by decide,by decide,by decide,by decide⟩,rfl,λ j s hj h0=>by cases j with|zero=>omega|succ j=>simp at hj⟩;have loop:∃ r:List Af×List (List Int),(r.1=AH t/\CX t r.1 r.2 r.1.length 0) /\
   Ev (λ n=>whl (λ (x:((List Af)×(List (List Int))×(List (Af×Int))×Int))=>CP n t x.1 x.2.1 x.2.2.1 x.2.2.2) n ([Cb],([[]]:List (List Int)),(BQ Cb 0 []),0)) r:=by
  refine Jkk (body:=λ n x=>CP n t x.1 x.2.1 x.2.2.1 x.2.2.2) (λ k x=>∃ i:Nat,i<=x.1.length/\k=800-i/\U1 t (800-i) i x.1=AH t/\x.2.2.2=(i:Int)/\GM t x.1/\Je x.1 x.2.2.1/\CX t x.1 x.2.1 i 0) ?_ 800 _ ⟨0,by simp,by omega,rfl,rfl,h0,?_,?_⟩
  ·rintro k ⟨st,fr,nb,i'⟩ ⟨i,hil,rfl,hb,hi',hF,hN,hR⟩;simp only at hil hb hi' hF hN hR;subst hi';have hlen:=hF.len;rcases JkE i st.length with hlt|hge
   ·left;have hi:st[i]?=some st[i]:=JkO hlt;obtain⟨r,⟨g1,g2,g3⟩,g4⟩:=Jcc ht hF hi hN hR;have hexp:=hF.exp ht hi _ (JkD _);refine⟨(r.1,r.2.1,r.2.2,((i+1:Nat):Int)),800-(i+1),by omega,⟨i+1,?_,rfl,?_,rfl,by rw[g1];exact hexp,g2,g3⟩,?_⟩
    ·simp only[g1];have:=(Ia t st[i] st t.Rules.length).length_le;omega
    ·simp only[g1];rw[← hb];have e:800-i=(800-(i+1))+1:=by omega
     rw[e];simp only[U1,hi]
    ·refine(Ev.bind g4 (g:=λ _ y2=>some (.inl (y2.1,y2.2.1,y2.2.2,((i+1:Nat):Int)))) Ev.const).congr λ n=>?_;unfold CP;rw[if_pos (by simpa using hlt)];have hinc:AZ .i64 (i:Int) 1=((i+1:Nat):Int):=by rw[Qm (by omega) (by omega)];rfl
     rw[hinc]
   ·right;have e:i=st.length:=by omega
    subst e;have hst:st=AH t:=by
     rw[← hb];have e:800-st.length=(800-(st.length+1))+1:=by omega
     rw[e];simp[U1]
    refine⟨(st,fr),⟨hst,hR⟩,Ev.all λ n=>?_⟩;unfold CP;rw[if_neg (by simp)]
  ·intro s;simp only[BQ,AR];by_cases e:s=Cb
   ·subst e;simp
   ·have:¬ Cb=s:=λ h=>e h.symm;simp[e,this]
  ·refine⟨rfl,λ j s k ht=>?_,λ n l hl x hx=>?_,λ n l hl j s k s' ht=>?_,λ n l hl=>?_⟩
   ·unfold GN at ht;omega
   ·cases n with
    | zero=>simp at hl;subst hl;simp at hx
    | succ n=>simp at hl
   ·unfold GN at ht;omega
   ·cases n with
    | zero=>simp at hl;subst hl;simp
    | succ n=>simp at hl
 obtain⟨⟨st,fr⟩,⟨g1,g2⟩,g3⟩:=loop;simp only at g1 g2;subst g1;refine⟨fr,g2,?_⟩;have hs:∀ n,Nk n=some Cb:=λ n=>rfl;refine(Ev.bind g3 (g:=λ _ y3=>some (y3.1,y3.2)) Ev.const).congr λ n=>?_;unfold Ha;rw[hs,Jku]
theorem Wz {t:Ab} (ht:H9 t):Ev (λ n=>Lr n t) (AH t):=by
 obtain⟨fr,_,h⟩:=Wy ht;exact(Ev.bind h (g:=λ _ r=>some r.1) Ev.const).congr λ n=>rfl
end Go.AI
end
section
namespace Go.AI
def Tot {α:Type} (f:Nat->Option α) (P:α->Prop):Prop:=∃ z,P z/\Ev f z
def Rd2 {σ ρ:Type} (I:σ->Prop) (P:ρ->Prop):σ⊕ρ->Prop
 | .inl y=>I y
 | .inr r=>P r
variable {α β σ ρ:Type} {P R:α->Prop}
theorem Tot.ev {f:Nat->Option α} {z:α} (h:Tot f (λ x=>x=z)):Ev f z:=by obtain⟨_,rfl,h⟩:=h;exact h
theorem Ev.tot {f:Nat->Option α} {z:α} (h:Ev f z) (hp:P z):Tot f P:=⟨z,hp,h⟩
theorem Jkl {z:α} (h:P z):Tot (λ _=>some z) P:=⟨z,h,Ev.const⟩
theorem Tot.all {f:Nat->Option α} {z:α} (h:∀ n,f n=some z) (hp:P z):Tot f P:=⟨z,hp,Ev.all h⟩
theorem Tot.mono {f:Nat->Option α} (h:Tot f R) (hp:∀ x,R x->P x):Tot f P:=by obtain⟨z,hz,h⟩:=h;exact⟨z,hp z hz,h⟩
theorem Tot.bind {f:Nat->Option β} {g:Nat->β->Option α} {R:β->Prop} (h:Tot f R) (k:∀ x,R x->Tot (λ n=>g n x) P):Tot (λ n=>(f n).bind (g n)) P:=by
 obtain⟨x,hx,h⟩:=h;obtain⟨z,hz,h'⟩:=k x hx;exact⟨z,hz,Ev.bind h h'⟩
theorem Jkm {f:Nat->Option β} {g:Nat->β->Option α} {x:β} (h:Ev f x) (k:Tot (λ n=>g n x) P):Tot (λ n=>(f n).bind (g n)) P:=by
 obtain⟨z,hz,h'⟩:=k;exact⟨z,hz,Ev.bind h h'⟩
theorem Tot.bindC {x:Option β} {y:β} {g:Nat->β->Option α} (h:x=some y) (k:Tot (λ n=>g n y) P):Tot (λ n=>x.bind (g n)) P:=by subst h;exact k
theorem Jkn {f:Nat->Option β} {y:β} {g:Nat->β->Option α} (h:∀ n,f n=some y) (k:Tot (λ n=>g n y) P):Tot (λ n=>(f n).bind (g n)) P:=Jkm (Ev.all h) k
theorem Tot.ite {c:Bool} {a b:Nat->Option α} (h1:c=true->Tot a P) (h2:c=false->Tot b P):Tot (λ n=>if c=true then a n else b n) P:=by
 cases c with
 | true=>exact h1 rfl
 | false=>exact h2 rfl
theorem Tot.iteT {c:Bool} {a b:Nat->Option α} (h:c=true) (k:Tot a P):Tot (λ n=>if c=true then a n else b n) P:=by subst h;exact k
theorem Tot.iteF {c:Bool} {a b:Nat->Option α} (h:c=false) (k:Tot b P):Tot (λ n=>if c=true then a n else b n) P:=by subst h;exact k
theorem Tot.guard {c:Bool} {f:Nat->Option β} {d:β} {g:Nat->β->Option α} {R:β->Prop} (h:c=true->Tot f R) (k:∀ x,(c=true->R x)->Tot (λ n=>g n x) P):Tot (λ n=>(if c=true then f n else some d).bind (g n)) P:=by
 cases c with
 | true=>exact Tot.bind (h rfl) λ x hx=>k x λ _=>hx
 | false=>exact k d λ h=>by cases h
theorem Tot.congr {f g:Nat->Option α} (h:Tot f P) (e:∀ n,g n=f n):Tot g P:=by obtain⟨z,hz,h⟩:=h;exact⟨z,hz,h.congr e⟩
theorem Tot.sum {y:β⊕σ} {f:Nat->β->Option α} {g:Nat->σ->Option α} (h1:∀ b,y=.inl b->Tot (λ n=>f n b) P) (h2:∀ b,y=.inr b->Tot (λ n=>g n b) P):Tot (λ n=>match y with | .inl b=>f n b | .inr b=>g n b) P:=by
 cases y with
 | inl b=>exact h1 b rfl
 | inr b=>exact h2 b rfl
theorem Tot.whl {body:Nat->σ->Option (σ⊕ρ)} {P:ρ->Prop} (I:Nat->σ->Prop) (h:∀ k x,I k x->Tot (λ n=>body n x) (Rd2 (λ y=>∃ j,j<k/\I j y) P)):∀ (k:Nat) (x:σ),I k x->Tot (λ n=>Go.AI.whl (body n) n x) P:=by
 have key:∀ (k:Nat) (x:σ),I k x->∃ r,P r/\∃ N c,∀ n fuel,N<=n->c<=fuel->Go.AI.whl (body n) fuel x=some r:=by
  intro k;induction k using Nat.strongRecOn with
  | _ k ih=>
   intro x hx;obtain⟨z,hz,N1,h1⟩:=h k x hx;cases z with
   | inl y=>
    obtain⟨j,hj,hy⟩:=hz;obtain⟨r,hr,N2,c,h2⟩:=ih j hj y hy;refine⟨r,hr,max N1 N2,c+1,λ n fuel hn hf=>?_⟩;cases fuel with
    | zero=>omega
    | succ fuel=>
     have e:=h1 n (by omega);simp only at e;simp only[Go.AI.whl,e];exact h2 n fuel (by omega) (by omega)
   | inr r=>
    refine⟨r,hz,N1,1,λ n fuel hn hf=>?_⟩;cases fuel with
    | zero=>omega
    | succ fuel=>
     have e:=h1 n hn;simp only at e;simp only[Go.AI.whl,e]
 intro k x hx;obtain⟨r,hr,N,c,hh⟩:=key k x hx;exact⟨r,hr,max N c,λ m hm=>hh m m (by omega) (by omega)⟩
theorem Tot.upto {body:Nat->σ->Option (σ⊕ρ)} {P:ρ->Prop} (N:Nat) (I:Nat->σ->Prop)
  (step:∀ i x,i<N->I i x->Tot (λ n=>body n x) (Rd2 (I (i+1)) P))
  (last:∀ x,I N x->Tot (λ n=>body n x) (Rd2 (λ _=>False) P)) (x:σ) (h0:I 0 x):Tot (λ n=>Go.AI.whl (body n) n x) P:=by
 refine Tot.whl (body:=body) (λ k x=>∃ i,i<=N/\k=N-i/\I i x) ?_ N x ⟨0,by omega,by omega,h0⟩;rintro k x ⟨i,hi,rfl,hx⟩;rcases JkE i N with hlt|hge
 ·refine(step i x hlt hx).mono λ z hz=>?_;cases z with
  | inl y=>exact⟨N-(i+1),by omega,i+1,by omega,rfl,hz⟩
  | inr r=>exact hz
 ·have:i=N:=by omega
  subst this;refine(last x hx).mono λ z hz=>?_;cases z with
  | inl y=>exact hz.elim
  | inr r=>exact hz
theorem CY {l:List α} {i:Nat} {x:α} (h:l[i]?=some x):idx l (i:Int)=some x:=by
 unfold idx;rw[if_pos (by omega)];simpa using h
theorem Cl {l:List α} {i:Nat} (h:i<l.length):idx l (i:Int)=some l[i]:=CY (JkO h)
theorem GO {eb:Nat} {xs ys:List α} (h:(xs.length+ys.length)*eb<=70368744177664):app eb xs ys=some (xs++ys):=by
 unfold app;rw[if_pos h]
theorem Qo {l:List α} {i:Nat} {y:α} (h:i<l.length):put l (i:Int) y=some (l.set i y):=by
 unfold put;rw[if_pos (by omega),JkX]
theorem Tm {x y:List UInt8} (h:x.length+y.length<=9223372036854775807):cat x y=some (x++y):=by
 unfold cat;rw[if_pos h]
end Go.AI
end
section
namespace Go.AI
theorem Jd6 (a:Int):IntKind.i64.wrap a=if decide (a % 18446744073709551616>=9223372036854775808)=true then a % 18446744073709551616-18446744073709551616 else a % 18446744073709551616:=rfl
theorem w64 {a:Int} (h:-9223372036854775808<=a) (h':a<9223372036854775808):IntKind.i64.wrap a=a:=by
 rw[Jd6];simp only[decide_eq_true_eq];split<;>omega
theorem Jf {a b:Int} (h:-9223372036854775808<=a+b) (h':a+b<9223372036854775808):AZ .i64 a b=a+b:=w64 h h'
theorem RU {a b:Int} (h:-9223372036854775808<=a-b) (h':a-b<9223372036854775808):FZ .i64 a b=a-b:=w64 h h'
theorem BX {i:Nat} (h:i<9223372036854775807):AZ .i64 (i:Int) 1=((i+1:Nat):Int):=by rw[Jf]<;>omega
theorem JhI (a:Int):IntKind.u8.wrap a=a % 256:=rfl
theorem Jcd (a:Int):0<=IntKind.u8.wrap a/\IntKind.u8.wrap a<256:=by rw[JhI];omega
theorem RW {a m:Int} (h:0<=a) (hm:0<m):Bo a m=a % m/\0<=Bo a m/\Bo a m<m:=by
 have e:Bo a m=a % m:=by unfold Bo;rw[Int.tmod_eq_emod_of_nonneg h]
 rw[e];exact⟨rfl,Int.emod_nonneg _ (by omega),Int.emod_lt_of_pos _ hm⟩
variable {α β σ ρ:Type}
theorem Jjq [Inhabited α] {l:List α} {i:Int} (h:0<=i) (h':i<l.length):idx l i=some (l.getD i.toNat default):=by
 unfold idx;rw[if_pos h,List.getD_eq_getElem?_getD,JkO (by omega)];rfl
theorem GP [Inhabited α] {l:List α} {i:Nat} (h:i<l.length):idx l (i:Int)=some (l.getD i default):=by
 rw[Jjq (by omega) (by omega),JkX]
theorem U4 {l:List α} {a b:Int} (h:0<=a) (h1:a<=b) (h2:b<=l.length):sub l a b=some ((l.take b.toNat).drop a.toNat):=by
 unfold sub;rw[if_pos ⟨h,h1,h2⟩]
theorem Tn {l:List α} {k:Nat} (h:k<=l.length):sub l 0 (k:Int)=some (l.take k):=by
 rw[U4 (by omega) (by omega) (by omega)];simp
theorem Jce {eb:Nat} {k:Int} {z:α} (h:0<=k) (h':k.toNat*eb<=70368744177664):mkl eb k z=some (List.replicate k.toNat z):=by
 unfold mkl;rw[if_pos ⟨h,h'⟩]
theorem CZ {b:Bool} (h:b=true):Cj b=some ():=by subst h;rfl
theorem WA {body:σ->Option (σ⊕ρ)} {r:ρ} (st:Nat->σ) (k:Nat) (step:∀ i,i<k->body (st i)=some (.inl (st (i+1)))) (last:body (st k)=some (.inr r)):∀ n,k<n->whl body n (st 0)=some r:=by
 have key:∀ (j n i:Nat),i+j=k->j<n->whl body n (st i)=some r:=by
  intro j;induction j with
  | zero=>
   intro n i hi hn;cases n with
   | zero=>omega
   | succ n=>
    have:i=k:=by omega
    subst this;simp only[whl,last]
  | succ j ih=>
   intro n i hi hn;cases n with
   | zero=>omega
   | succ n=>simp only[whl,step i (by omega)];exact ih n (i+1) (by omega) (by omega)
 intro n hn;exact key k n 0 (by omega) hn
theorem Ev.to {body:Nat->σ->Option (σ⊕ρ)} {r:ρ} (st:Nat->σ) (k:Nat) (h:∃ N,∀ n,N<=n->(∀ i,i<k->body n (st i)=some (.inl (st (i+1))))/\body n (st k)=some (.inr r)):Ev (λ n=>Go.AI.whl (body n) n (st 0)) r:=by
 obtain⟨N,h⟩:=h;exact⟨max N (k+1),λ n hn=>WA st k (h n (by omega)).1 (h n (by omega)).2 n (by omega)⟩
def Hn (N:Nat) (stop:Nat->Option ρ) (d:ρ):ρ:=((List.range N).findSome? stop).getD d
theorem YQ {N:Nat} {stop:Nat->Option ρ} {d:ρ} (h:∀ i,i<N->stop i=none):Hn N stop d=d:=by
 unfold Hn;rw[List.findSome?_eq_none_iff.2 λ i hi=>h i (List.mem_range.1 hi)];rfl
theorem YR {N:Nat} {stop:Nat->Option ρ} {d r:ρ} (k:Nat) (hk:k<N) (hr:stop k=some r) (h:∀ i,i<k->stop i=none):Hn N stop d=r:=by
 unfold Hn;have:(List.range N).findSome? stop=some r:=by
  have e:List.range N=List.range k++(List.range (N-k)).map (k+·):=by rw[← List.range_add];congr 1;omega
  rw[e,List.findSome?_append,List.findSome?_eq_none_iff.2 λ i hi=>h i (List.mem_range.1 hi)];have:N-k=(N-k-1)+1:=by omega
  rw[this,List.range_succ_eq_map];simp[hr]
 rw[this];rfl
theorem Rb (N:Nat) (stop:Nat->Option ρ) (d:ρ):((∀ i,i<N->stop i=none)/\Hn N stop d=d)\/∃ k r,k<N/\stop k=some r/\(∀ i,i<k->stop i=none)/\Hn N stop d=r:=by
 by_cases h:∀ i,i<N->stop i=none
 ·exact .inl ⟨h,YQ h⟩
 ·right;have hex:∃ k,k<N/\stop k≠none:=by
   apply Classical.byContradiction;intro hh;exact h λ i hi=>Classical.byContradiction λ hn=>hh ⟨i,hi,hn⟩
  have key:∀ m,(∃ k,k<m/\k<N/\stop k≠none)->∃ k,k<N/\stop k≠none/\∀ i,i<k->stop i=none:=by
   intro m;induction m with
   | zero=>rintro⟨k,hk,_⟩;omega
   | succ m ih=>
    rintro⟨k,hk,h1,h2⟩;by_cases hm:∃ k,k<m/\k<N/\stop k≠none
    ·exact ih hm
    ·refine⟨k,h1,h2,λ i hi=>Classical.byContradiction λ hn=>hm ⟨i,by omega,by omega,hn⟩⟩
  obtain⟨k0,h1,h2⟩:=hex;obtain⟨k,h3,h4,h5⟩:=key (k0+1) ⟨k0,by omega,h1,h2⟩;obtain⟨r,hr⟩:=Option.ne_none_iff_exists'.1 h4;exact⟨k,r,h3,hr,h5,YR k h3 hr h5⟩
theorem YS {body:Int->Option (Int⊕ρ)} {N:Nat} (stop:Nat->Option ρ) {d:ρ} (h1:∀ i,i<N->body (i:Int)=some (match stop i with|some r=>.inr r|none=>.inl ((i+1:Nat):Int))) (h2:body (N:Int)=some (.inr d)):∀ n,N<n->whl body n 0=some (Hn N stop d):=by
 intro n hn;rcases Rb N stop d with⟨h,e⟩|⟨k,r,hk,hr,h,e⟩
 ·rw[e];exact WA (λ i=>(i:Int)) N (λ i hi=>by rw[h1 i hi,h i hi]) h2 n hn
 ·rw[e];exact WA (λ i=>(i:Int)) k (λ i hi=>by rw[h1 i (by omega),h i hi]) (by rw[h1 k hk,hr]) n (by omega)
theorem Ev.first {body:Nat->Int->Option (Int⊕ρ)} {N:Nat} (stop:Nat->Option ρ) {d:ρ} (h:∃ M,∀ n,M<=n->(∀ i,i<N->body n (i:Int)=some (match stop i with|some r=>.inr r|none=>.inl ((i+1:Nat):Int)))/\body n (N:Int)=some (.inr d)):Ev (λ n=>Go.AI.whl (body n) n 0) (Hn N stop d):=by
 obtain⟨M,h⟩:=h;exact⟨max M (N+1),λ n hn=>YS stop (h n (by omega)).1 (h n (by omega)).2 n (by omega)⟩
theorem Jko {P:α->Prop} {c:Bool} {f:Nat->Option β} {d x:β} {g:Nat->β->Option α} (hc:c=true) (h:Ev f x) (k:Tot (λ n=>g n x) P):Tot (λ n=>(if c=true then f n else some d).bind (g n)) P:=by
 subst hc;exact Jkm h k
theorem Jkp {P:α->Prop} {c:Bool} {f:Nat->Option β} {d:β} {g:Nat->β->Option α} (hc:c=false) (k:Tot (λ n=>g n d) P):Tot (λ n=>(if c=true then f n else some d).bind (g n)) P:=by
 subst hc;exact k
theorem Jkq {f:Nat->Nat->Option α} {z:Nat->α} (N:Nat) (h:∀ i,i<N->Ev (λ n=>f n i) (z i)):∃ M,∀ n,M<=n->∀ i,i<N->f n i=some (z i):=by
 induction N with
 | zero=>exact⟨0,λ n _ i hi=>by omega⟩
 | succ N ih=>
  obtain⟨M1,h1⟩:=ih λ i hi=>h i (by omega);obtain⟨M2,h2⟩:=h N (by omega);exact⟨max M1 M2,λ n hn i hi=>by
   by_cases e:i=N
   ·subst e;exact h2 n (by omega)
   ·exact h1 n (by omega) i (by omega)⟩
end Go.AI
end
section
namespace Go.AI
def scan {ρ:Type} (N:Nat) (stop:Nat->Option ρ):Unit⊕ρ:=match (List.range N).findSome? stop with
 | some r=>.inr r
 | none=>.inl ()
theorem FC {ρ:Type} {body:Nat->Int->Option (Int⊕(Unit⊕ρ))} (N:Nat) (stop:Nat->Option ρ)
  (h:∀ i,i<N->Ev (λ n=>body n (i:Int)) (match stop i with|some r=>.inr (.inr r)|none=>.inl ((i+1:Nat):Int)))
  (h2:Ev (λ n=>body n (N:Int)) (.inr (.inl ()))):Ev (λ n=>whl (body n) n 0) (AI.scan N stop):=by
 have key:∀ (k i:Nat),i+k=N->(List.range N).findSome? stop=((List.range k).map (i+·)).findSome? stop->∃ M c,∀ n fuel,M<=n->c<=fuel->whl (body n) fuel (i:Int)=some (AI.scan N stop):=by
  intro k;induction k with
  | zero=>
   intro i hi hf;have:i=N:=by omega
   subst this;obtain⟨M,hM⟩:=h2;refine⟨M,1,λ n fuel hn hfu=>?_⟩;obtain⟨fuel,rfl⟩:∃ f,fuel=f+1:=⟨fuel-1,by omega⟩;have e:=hM n hn;simp only at e;simp only[AI.whl,e];unfold AI.scan;rw[hf];rfl
  | succ k ih=>
   intro i hi hf;obtain⟨M,hM⟩:=h i (by omega);have hs:(List.range (k+1)).map (i+·)=i::(List.range k).map ((i+1)+·):=by
    rw[List.range_succ_eq_map];simp only[JkK,Nat.add_zero,List.map_map,List.cons.injEq,true_and];apply JkM;intro a _;simp only[Function.comp];omega
   rw[hs,List.findSome?_cons]at hf;cases hst:stop i with
   | some r=>
    rw[hst]at hf hM;refine⟨M,1,λ n fuel hn hfu=>?_⟩;obtain⟨fuel,rfl⟩:∃ f,fuel=f+1:=⟨fuel-1,by omega⟩;have e:=hM n hn;simp only at e;simp only[AI.whl,e];unfold AI.scan;rw[hf]
   | none=>
    rw[hst]at hf hM;obtain⟨M2,c,h3⟩:=ih (i+1) (by omega) hf;refine⟨max M M2,c+1,λ n fuel hn hfu=>?_⟩;obtain⟨fuel,rfl⟩:∃ f,fuel=f+1:=⟨fuel-1,by omega⟩;have e:=hM n (by omega);simp only at e;simp only[AI.whl,e];exact h3 n fuel (by omega) (by omega)
 obtain⟨M,c,hh⟩:=key N 0 (by omega) (by simp);exact⟨max M c,λ m hm=>hh m m (by omega) (by omega)⟩
theorem Gm {ρ:Type} {N:Nat} {stop:Nat->Option ρ} (h:∀ i,i<N->stop i=none):scan N stop=.inl ():=by
 unfold scan;rw[List.findSome?_eq_none_iff.2 λ i hi=>h i (List.mem_range.1 hi)]
theorem Gn {ρ:Type} {N:Nat} {stop:Nat->Option ρ} {i:Nat} (hi:i<N) (h:(stop i).isSome=true):∃ k r,k<N/\stop k=some r/\scan N stop=.inr r:=by
 unfold scan;cases hf:(List.range N).findSome? stop with
 | none=>rw[List.findSome?_eq_none_iff.1 hf i (List.mem_range.2 hi)]at h;cases h
 | some r=>
  obtain⟨k,hk,hr⟩:=List.exists_of_findSome?_eq_some hf;exact⟨k,r,List.mem_range.1 hk,hr,rfl⟩
def MC (b:UInt8):Int:=(b.toNat:Int)
def Ga (b:UInt8):Bool:=decide (Cg .u8 (MC b) 127>=32)&&decide (Cg .u8 (MC b) 127<=126)
def C0 (b:UInt8):Bool:=Cg .u8 (MC b) 127==32
theorem Kh {s:List UInt8} {i:Nat} {b:UInt8} (h:s[i]?=some b):Jh s (i:Int)=some (MC b):=by
 rw[MB (AE h)];unfold RT MC;rw[h];rfl
theorem GZ {i n:Nat} (h:i<n):decide ((i:Int)<((n:Nat):Int))=true:=by simpa using h
theorem Ki (n:Nat):decide (((n:Nat):Int)<((n:Nat):Int))=false:=by simp
def N9 (s:List UInt8):Int×Int:=match scan s.length (λ i=>if Ga (s.getD i 0)then none else some ((i:Int),(60:Int)))with
 | .inl _=>(((s.length:Nat):Int),0)
 | .inr p=>p
theorem Ch {α:Type} {l:List α} {i:Nat} {d:α} (h:i<l.length):l.getD i d=l[i]:=by
 rw[List.getD_eq_getElem?_getD,JkO h];rfl
theorem Jd7 {s:List UInt8} (hl:s.length<9223372036854775807):Ev (λ n=>Ml n s) (N9 s):=by
 unfold Ml N9;refine Ev.bind (FC s.length (λ i=>if Ga (s.getD i 0)then none else some ((i:Int),(60:Int))) (λ i hi=>Ev.all λ n=>?_) (Ev.all λ n=>?_)) ?_
 ·unfold G9;have hg:s[i]?=some s[i]:=JkO hi;rw[if_pos (GZ hi),Kh hg,Ch hi];have hc:F4 n (MC s[i])=some (Ga s[i]):=rfl;simp only[Jku,hc];cases Ga s[i]with
  | true=>simp[BX (show i<9223372036854775807 by omega)]
  | false=>simp
 ·unfold G9;rw[if_neg (by simp)]
 ·generalize scan s.length _=z;cases z<;>exact Ev.const
theorem Jcf {s:List UInt8} (hl:s.length<9223372036854775807):Ev (λ n=>Mn n s) (N9 s):=by
 unfold Mn N9;refine Ev.bind (FC s.length (λ i=>if Ga (s.getD i 0)then none else some ((i:Int),(60:Int))) (λ i hi=>Ev.all λ n=>?_) (Ev.all λ n=>?_)) ?_
 ·unfold He;have hg:s[i]?=some s[i]:=JkO hi;rw[if_pos (GZ hi),Kh hg,Ch hi];have hc:Hv n (MC s[i])=some (Ga s[i]):=rfl;simp only[Jku,hc];cases Ga s[i]with
  | true=>simp[BX (show i<9223372036854775807 by omega)]
  | false=>simp
 ·unfold He;rw[if_neg (by simp)]
 ·generalize scan s.length _=z;cases z<;>exact Ev.const
theorem U5 {s:List UInt8} (h:s.all Ga=true):N9 s=(((s.length:Nat):Int),0):=by
 unfold N9;rw[Gm λ i hi=>by rw[Ch hi,Jky.1 h _ (JkA hi)];rfl]
theorem RX {s:List UInt8} (h:s.all Ga=false):(N9 s).2=60:=by
 rw[List.all_eq_false]at h;obtain⟨b,hb,hc⟩:=h;obtain⟨i,hi,e⟩:=List.getElem_of_mem hb;unfold N9;obtain⟨k,r,hk,hr,hs⟩:=Gn (stop:=λ i=>if Ga (s.getD i 0)then none else some ((i:Int),(60:Int))) hi (by
  rw[Ch hi,e];simp only[JkC]at hc;rw[hc];rfl)
 rw[hs];simp only at hr⊢;split at hr
 ·cases hr
 ·cases hr;rfl
theorem YT {s:List UInt8} (hl:s.length<9223372036854775807):Ev (λ n=>IH n s) (s.all Ga):=by
 unfold IH;refine Ev.bind (Jcf hl) ?_;cases h:s.all Ga with
 | true=>rw[U5 h];exact Ev.const
 | false=>rw[RX h];exact Ev.const
def Cc (r:AB) (m:Int):Bool:=
 r.Print.all Ga&&decide (r.Print.length<=4)&&decide (1<=r.Cells.length)&&decide (r.Cells.length<=4) &&
 (decide (1<=r.Left)&&decide (r.Left<=63)&&decide (1<=r.Right)&&decide (r.Right<=63)&&decide (0<=r.From)&&decide (r.From<m)&&decide (0<=r.To)&&decide (r.To<m)) &&
 r.Cells.all (λ c=>decide (c<63)) &&
 (bif r.Print.any C0 then decide (r.Print.length=1)&&decide (r.Cells.length=1)&&r.Cells.any (λ c=>c==0)else !r.Cells.any (λ c=>c==0))
end Go.AI
end
section
namespace Go.AI
theorem YU {r:AB} (hl:r.Print.length<9223372036854775807):Ev (λ n=>whl (λ (x:(Bool×Int))=>DP n r x.1 x.2) n (false,0)) (r.Print.any C0):=by
 refine Ev.whl (body:=λ n x=>DP n r x.1 x.2) (λ k x=>∃ i:Nat,x.2=(i:Int)/\i<=r.Print.length/\k=r.Print.length-i/\x.1=(r.Print.take i).any C0) ?_ r.Print.length (false,0) ⟨0,rfl,by omega,by omega,by simp⟩;rintro k ⟨b,i'⟩ ⟨i,h1,hi,rfl,h2⟩;simp only at h1 h2;subst h1;subst h2;rcases JkE i r.Print.length with hlt|hge
 ·left;have hg:r.Print[i]?=some r.Print[i]:=JkO hlt;have hcond:decide ((i:Int)<((r.Print.length:Nat):Int))=true:=by simpa using hlt
  refine⟨((r.Print.take (i+1)).any C0,((i+1:Nat):Int)),r.Print.length-(i+1),by omega,⟨i+1,rfl,by omega,rfl,rfl⟩,Ev.all λ n=>?_⟩;unfold DP;rw[if_pos hcond];have ht:(r.Print.take (i+1)).any C0=((r.Print.take i).any C0||C0 r.Print[i]):=by
   rw[List.take_add_one,hg];simp only[Option.toList_some,List.any_append,List.any_cons,List.any_nil,Bool.or_false]
  have hsp:∀ n,Nl n (MC r.Print[i])=some (C0 r.Print[i]):=λ n=>rfl;rw[ht,Qm (by omega) (by omega),Kh hg];cases (r.Print.take i).any C0 with
  | true=>simp
  | false=>simp[hsp]
 ·right;have e:i=r.Print.length:=by omega
  subst e;refine Ev.all λ n=>?_;unfold DP;rw[if_neg (by simp),List.take_length]
theorem Ev.upto {σ ρ:Type} {body:Nat->σ->Option (σ⊕ρ)} {R:ρ->Prop} (N:Nat) (I:Nat->σ->Prop)
  (step:∀ i x,i<N->I i x->(∃ y,I (i+1) y/\Ev (λ n=>body n x) (.inl y))\/∃ r,R r/\Ev (λ n=>body n x) (.inr r))
  (last:∀ x,I N x->∃ r,R r/\Ev (λ n=>body n x) (.inr r)) (x:σ) (h0:I 0 x):∃ r,R r/\Ev (λ n=>Go.AI.whl (body n) n x) r:=by
 refine Jkk (body:=body) (λ k x=>∃ i,i<=N/\k=N-i/\I i x) ?_ N x ⟨0,by omega,by omega,h0⟩;rintro k x ⟨i,hi,rfl,hx⟩;rcases JkE i N with hlt|hge
 ·rcases step i x hlt hx with⟨y,hy,hE⟩|h
  ·exact .inl ⟨y,N-(i+1),by omega,⟨i+1,by omega,rfl,hy⟩,hE⟩
  ·exact .inr h
 ·have:i=N:=by omega
  subst this;exact .inr (last x hx)
theorem YV {r:AB} (hl:r.Cells.length<9223372036854775807) (y:Bool):∃ z:Bool⊕Bool,(if r.Cells.all (λ c=>decide (c<63))=true then z=.inl (r.Cells.any (λ c=>c==0))else z=.inr false)/\Ev (λ n=>whl (λ (x:(Bool×Int))=>Dd n r y x.1 x.2) n (false,0)) z:=by
 refine Ev.upto (body:=λ n x=>Dd n r y x.1 x.2) r.Cells.length (λ i x=>x.2=(i:Int)/\x.1=(r.Cells.take i).any (λ c=>c==0)/\(r.Cells.take i).all (λ c=>decide (c<63))=true) ?_ ?_ (false,0) ⟨rfl,by simp,by simp⟩
 ·rintro i ⟨b,i'⟩ hlt ⟨h1,h2,h3⟩;simp only at h1 h2;subst h1;subst h2;have hg:r.Cells[i]?=some r.Cells[i]:=JkO hlt;have hcond:decide ((i:Int)<((r.Cells.length:Nat):Int))=true:=by simpa using hlt
  by_cases hc:r.Cells[i]<63
  ·left;refine⟨((r.Cells.take (i+1)).any (λ c=>c==0),((i+1:Nat):Int)),⟨rfl,rfl,?_⟩,Ev.all λ n=>?_⟩
   ·rw[List.take_add_one,hg];simp only[Option.toList_some,List.all_append,h3,List.all_cons,decide_eq_true hc,List.all_nil,Bool.and_self]
   ·unfold Dd;have ht:(r.Cells.take (i+1)).any (λ c=>c==0)=((r.Cells.take i).any (λ c=>c==0)||r.Cells[i]==0):=by
     rw[List.take_add_one,hg];simp only[Option.toList_some,List.any_append,List.any_cons,List.any_nil,Bool.or_false]
    rw[if_pos hcond,IW hg,Jku,if_neg (by simpa using hc),ht,Qm (by omega) (by omega)];cases (r.Cells.take i).any (λ c=>c==0)with
    | true=>simp
    | false=>simp
  ·right;refine⟨.inr false,?_,Ev.all λ n=>?_⟩
   ·rw[if_neg];intro h;rw[Jky]at h;exact hc (by simpa using h r.Cells[i] (JkA hlt))
   ·unfold Dd;rw[if_pos hcond,IW hg,Jku,if_pos (by simp;omega)]
 ·rintro⟨b,i'⟩ ⟨h1,h2,h3⟩;simp only at h1 h2;subst h1;subst h2;rw[List.take_length]at h3⊢;refine⟨.inl (r.Cells.any (λ c=>c==0)),by rw[if_pos h3],Ev.all λ n=>?_⟩;unfold Dd;rw[if_neg (by simp)]
theorem Jcg {r:AB} (hp:r.Print.length<9223372036854775807) (hc:r.Cells.length<9223372036854775807) (m:Int):Ev (λ n=>KA n r m) (Cc r m):=by
 obtain⟨z,hz,hE⟩:=YV hc (r.Print.any C0);have h1:=YT hp;have h2:=YU (r:=r) hp;unfold KA;refine Ev.bind h1 ?_;unfold Cc;generalize r.Print.all Ga=a;by_cases g1:((((!a)||(decide (((r.Print.length:Nat):Int)>4)))||(decide (((r.Cells.length:Nat):Int)<1)))||(decide (((r.Cells.length:Nat):Int)>4)))=true
 ·simp only[g1,if_true];have:(a&&decide (r.Print.length<=4)&&decide (1<=r.Cells.length)&&decide (r.Cells.length<=4))=false:=by
   rw[← JkC];intro h;simp only[JkP,decide_eq_true_eq]at h;simp only[Jk7,decide_eq_true_eq,Bool.not_eq_true']at g1;rcases g1 with ((g|g)|g)|g
   ·rw[g]at h;simp at h
   all_goals omega
  rw[this];exact Ev.const
 ·simp only[g1];by_cases g2:((((((((decide (r.Left<1))||(decide (r.Left>63)))||(decide (r.Right<1)))||(decide (r.Right>63)))||(decide (r.From<0)))||(decide (r.From>=m)))||(decide (r.To<0)))||(decide (r.To>=m)))=true
  ·simp only[g2,if_true];have:(decide (1<=r.Left)&&decide (r.Left<=63)&&decide (1<=r.Right)&&decide (r.Right<=63)&&decide (0<=r.From)&&decide (r.From<m)&&decide (0<=r.To)&&decide (r.To<m))=false:=by
    rw[← JkC];intro h;simp only[JkP,decide_eq_true_eq]at h;simp only[Jk7,decide_eq_true_eq]at g2;omega
   rw[this,Bool.and_false];exact Ev.const
  ·have e1:(a&&decide (r.Print.length<=4)&&decide (1<=r.Cells.length)&&decide (r.Cells.length<=4))=true:=by
    simp only[Jk7,decide_eq_true_eq,Bool.not_eq_true',not_or]at g1;simp only[JkP,decide_eq_true_eq];refine⟨⟨⟨by simpa using g1.1.1.1,?_⟩,?_⟩,?_⟩<;>omega
   have e2:(decide (1<=r.Left)&&decide (r.Left<=63)&&decide (1<=r.Right)&&decide (r.Right<=63)&&decide (0<=r.From)&&decide (r.From<m)&&decide (0<=r.To)&&decide (r.To<m))=true:=by
    simp only[Jk7,decide_eq_true_eq,not_or]at g2;simp only[JkP,decide_eq_true_eq];omega
   rw[e1,e2];simp only[g2,Jk0,if_false];refine Ev.bind h2 (Ev.bind hE ?_);split at hz
   ·rename_i h;subst hz;rw[h];generalize r.Print.any C0=b;cases b with
    | false=>exact Ev.const
    | true=>
     refine Ev.all λ n=>?_;simp only[JkB,Jk0,if_false,Bool.and_true,Bool.true_and,cond_true];congr 3<;>rw[Bool.eq_iff_iff]<;>simp<;>omega
   ·rename_i h;subst hz;rw[JkC]at h;rw[h];exact Ev.const
end Go.AI
end
