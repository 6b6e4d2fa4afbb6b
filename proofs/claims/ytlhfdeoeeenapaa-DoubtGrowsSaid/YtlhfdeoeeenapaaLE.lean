/- Part 5 of 6 of the proof: lemmas about the model and the program's functions, with no condition beyond those that each states. -/
import Derived.Test.YtlhfdeoeeenapaaLD
import Derived.ChangeArms
import Derived.WalkKit
import Derived.ProofKit
import Derived.OpenShut
import Derived.Carry
import Derived.WideKeyArgs
import Derived.ChangeSame
import Derived.KernelRfl
section
namespace Go.AI
open Go.Proofs
set_option maxRecDepth 10000
theorem xok (n kl:Nat):XOK Try.prog (cxk n kl):=⟨tyOK,rfl⟩
theorem fO (k:Nat) (s:St) {fn:Func} {f:FuncId} {args:List AV} {r:AV} (hf:Try.prog.funcs[f]? = some fn) (h:WP (cxk k 0) (AR fn) [] (SZ (cxk k 0).ty fn.results.toList r) s) (hb:fn.body=some (AR fn):=by kernel_rfl) (hnm:(fn.name == "runtime.NumGoroutine")=false:=by kernel_rfl) (hnt:(cxk k 0).nt.n=fn.ntmps:=by kernel_rfl) (hlen:Nat.ble args.length fn.ntmps=true:=by kernel_rfl) (hs:(⟨(List.range args.length).zip args,[]⟩:St)=s:=by kernel_rfl):AN Try.prog f args r:=fo follows (Jdk k 0) hf h hb hnm hnt hlen hs
theorem fL (k nb:Nat) (s:St) {fn:Func} {f:FuncId} {args:List AV} {O0 O1:List (Option Ob)} {r:AV} (hf:Try.prog.funcs[f]? = some fn) (h:WP (cxk k nb) (AR fn) [] (Qm nb (cxk k nb).ty fn.results.toList r O1) s) (hb:fn.body=some (AR fn):=by kernel_rfl) (hnm:(fn.name == "runtime.NumGoroutine")=false:=by kernel_rfl) (hnt:(cxk k nb).nt=⟨fn.ntmps,[],nb,qfT⟩:=by kernel_rfl) (hlen:Nat.ble args.length fn.ntmps=true:=by kernel_rfl) (hs:(⟨(List.range args.length).zip args,O0⟩:St)=s:=by kernel_rfl):Bw Try.prog f args O0 nb r O1:=fl follows (Jdk k nb) hf h hb hnm hnt hlen hs
theorem yok (n kl:Nat):YOK Try.prog (cxk n kl):=⟨rfl⟩
variable {n:Nat}
def eNM {α:Type} (_:α):List D:=[]
@[reducible] def Jf {α:Type} (e:α->List D) (x:CY α):List D:=e x.a0++e x.a1
def Ay (x:Aw):List D:=[.str x.Print,.sl<|x.Cells.map eU8,.int .u8 x.Left,.int .u8 x.Right,.int .i64 x.From,.int .i64 x.To]
def AP (x:Ae):List D:=[.int .i64 x.Mode,.int .i64 x.Last,.int .u8 x.Need]
def Bu (x:AB):List D:=[.int .u8 x.Up,.int .u8 x.Maybe]
def Bz (x:G4):List D:=[.str x.Print,.str x.Cells,.int .i64 x.To]
def Ar (x:Af):List D:=[.int .i64 x.Cost,.str x.Text,.str x.Cells]
def AE (x:Ah):List D:=[.str x.Arc.Print,.str x.Arc.Cells,.int .i64 x.Arc.To,.int .i64 x.More,.sl<|x.List.map Ar,.int .i64 x.First.Cost,.str x.First.Text,.str x.First.Cells]
def A2 (x:AK):List D:=[.str x.Text,.sl<|x.Cells.map eU8,.int .i64 x.Cost]
def Ec (x:Cz):List D:=[.sl<|x.P.map eU8,.sl<|x.C.map eU8,.int .u8 x.L,.int .u8 x.R,.int .u8 x.W.a0,.int .u8 x.W.a1]
def Jhd (x:IJ):List D:=[.int .u8 x.Base,.int .u8 x.Drop,.sl<|x.More.map Ec]
@[reducible] def Jhe {α:Type} (e:α->List D) (x:Zv α):List D:=e x.a0++e x.a1++e x.a2
def Hx (x:Aw):List AV:=[.d<|.str x.Print,.d<|.sl<|x.Cells.map eU8,.d<|.int .u8 x.Left,.d<|.int .u8 x.Right,.d<|.int .i64 x.From,.d<|.int .i64 x.To]
def Bo (x:Ad):List AV:=[.d<|.int .i64 x.Modes,.d<|.int .u8 x.Accept,.d<|.sl<|x.Rules.map Ay]
def Jg (x:Ae):List AV:=[.d<|.int .i64 x.Mode,.d<|.int .i64 x.Last,.d<|.int .u8 x.Need]
def Dv (x:Aa) (v3:AV) (v4:AV):List AV:=[.d<|.sl<|x.Felt.map Bu,.d<|.int .i64 x.Budget,.d<|.int .i64 x.Most,v3,v4,.d<|.sl<|x.Before.map eNM]
def DD (x:Ah):List AV:=[.d<|.str x.Arc.Print,.d<|.str x.Arc.Cells,.d<|.int .i64 x.Arc.To,.d<|.int .i64 x.More,.d<|.sl<|x.List.map Ar,.d<|.int .i64 x.First.Cost,.d<|.str x.First.Text,.d<|.str x.First.Cells]
def Jdl (x:Af):List AV:=[.d<|.int .i64 x.Cost,.d<|.str x.Text,.d<|.str x.Cells]
def JO (x:Aa) (v4:AV):List AV:=[.d<|.sl<|x.Felt.map Bu,.d<|.int .i64 x.Budget,.d<|.int .i64 x.Most,.d<|.sl<|x.Arcs.map<|eL Bz,v4,.d<|.sl<|x.Before.map eNM]
def Am (x:Aa) (v4:AV) (v5:AV):List AV:=[.d<|.sl<|x.Felt.map Bu,.d<|.int .i64 x.Budget,.d<|.int .i64 x.Most,.d<|.sl<|x.Arcs.map<|eL Bz,v4,v5]
def Jhf (x:G4):List AV:=[.d<|.str x.Print,.d<|.str x.Cells,.d<|.int .i64 x.To]
def Zw (x:AK):List AV:=[.d<|.str x.Text,.d<|.sl<|x.Cells.map eU8,.d<|.int .i64 x.Cost]
def Lu (x:Cz):List AV:=[.d<|.sl<|x.P.map eU8,.d<|.sl<|x.C.map eU8,.d<|.int .u8 x.L,.d<|.int .u8 x.R,.d<|.int .u8 x.W.a0,.d<|.int .u8 x.W.a1]
def Ny (x:Aw) (v1:AV):List AV:=[.d<|.str x.Print,v1,.d<|.int .u8 x.Left,.d<|.int .u8 x.Right,.d<|.int .i64 x.From,.d<|.int .i64 x.To]
def U7 (x:IJ):List AV:=[.d<|.int .u8 x.Base,.d<|.int .u8 x.Drop,.d<|.sl<|x.More.map Ec]
def Gc (x:Ad) (v2:AV):List AV:=[.d<|.int .i64 x.Modes,.d<|.int .u8 x.Accept,v2]
theorem Xo:∀ a b:Int,Al [.int .i64] ((AX a).map .d) ((AX b).map .d)=some (decide (a=b)):=by
  intro a b;simp[Al,AX]
  all_goals (first|rfl|(rw[Bool.eq_iff_iff];simp))
theorem Jhg:∀ a b:(List UInt8),Al [.string] ((eS a).map .d) ((eS b).map .d)=some (decide (a=b)):=by
  intro a b;simp[Al,eS]
  all_goals (first|rfl|(rw[Bool.eq_iff_iff];simp))
theorem Tc:∀ a b:Ae,Al [.int .i64,.int .i64,.int .u8] ((AP a).map .d) ((AP b).map .d)=some (decide (a=b)):=by
  intro a b;cases a;cases b;simp[Al,AP,Bool.decide_and]
  all_goals (first|rfl|(rw[Bool.eq_iff_iff];simp))
section
variable (b:(List UInt8)) (c:(List Int)) (a:(CY Int))
def Jer:St:=⟨(0,.d<|.str b)::(1,.d<|.sl<|c.map eU8)::(2,.agg [.d<|.int .i64 a.a0,.d<|.int .i64 a.a1])::[],[]⟩
variable {b c a}
theorem AL {z} (H:A1 n b c a=some z):AN Try.prog 37 [.d (.str b),.d (.sl (c.map eU8)),.agg [.d (.int .i64 a.a0),.d (.int .i64 a.a1)]] (.agg [.d (.str z.Print),.d (.sl (z.Cells.map eU8)),.d (.int .u8 z.Left),.d (.int .u8 z.Right),.d (.int .i64 z.From),.d (.int .i64 z.To)]):=by
 exact fO 14 (Jer b c a) Try.func37<|sr<|ck 2<|en<|sr<|ck 8<|en<|re (by cases H;exact pr rd)
end
def Jes:St:=⟨[],[]⟩
theorem OP {z} (H:M0 n=some z):AN Try.prog 35 [] (.own 6 (z.map Ay)):=by
 exact fO 16 Jes Try.func35<|sr<|ck 1<|en<|sr<|ck 3<|en<|sr<|sF<|ck 1<|bx H λ a b H=>ca false (AL b)<|sF<|ck 1<|bx H λ c d H=>ca false (AL d)<|sF<|ck 1<|bx H λ e f H=>ca false (AL f)<|sF<|ck 1<|bx H λ g h H=>ca false (AL h)<|ck 2<|en<|re (by cases H;exact pr<|rO (v:=.osl 1 6 0<|List.length [a,c,e,g]) [1]<|ao vo)
section
variable (b:Int) (c:Int) (a:(CY Int))
def Jet:St:=⟨(0,.d<|.int .u8 b)::(1,.d<|.int .i64 c)::(2,.agg [.d<|.int .i64 a.a0,.d<|.int .i64 a.a1])::[],[]⟩
variable {b c a}
theorem EX {z} (H:E5 n b c a=some z):AN Try.prog 36 [.d (.int .u8 b),.d (.int .i64 c),.agg [.d (.int .i64 a.a0),.d (.int .i64 a.a1)]] (.agg [.d (.str z.Print),.d (.sl (z.Cells.map eU8)),.d (.int .u8 z.Left),.d (.int .u8 z.Right),.d (.int .i64 z.From),.d (.int .i64 z.To)]):=by
 exact fO 16 (Jet b c a) Try.func36<|sr<|ck 2<|en<|sr<|ck 1<|sF<|ck 1<|bx H λ h e H=>ca false (AL e)<|ck 2<|en<|sr<|ck 1<|bx H λ f g H=>so (Hq g)<|ck 2<|en<|sr<|ck 2<|en<|re (by cases H;exact pr rd)
end
section
variable (b:Int) (c:(List Aw))
def Jeu:St:=⟨(0,.d<|.int .u8 b)::[],[]⟩
def Jev:St:=⟨(2,.ptr 0 0)::(3,.osl 1 6 0<|c.length)::[],[some<|.box [.d<|.int .i64 0,.d<|.int .u8 0,.osl 2 6 0<|List.length ([]:List Aw)],some<|.arr 6<|c.map Ay,some<|.arr 6<|List.map Ay ([]:List Aw)]⟩
variable {b c}
theorem M3 {z} (H:Fk n b=some z):AN Try.prog 20 [.d (.int .u8 b)] (.agg [.d (.int .i64 z.Modes),.d (.int .u8 z.Accept),.own 6 (z.Rules.map Ay)]):=by
 refine fO 121 (Jeu b) Try.func20<|sr<|ck 1<|en<|sr<|bx H λ K L H=>cl [List.length K] (OP L)<|ck 13<|en<|sj (λ (x:(List Aw))=>Jev x) (λ (x:(List Aw))=>D9 n x) z ?_ (λ a=>?_)
 ·intro c H;exact sr<|ck 3<|en<|re (by cases H;exact pr<|rO (v:=.agg [.d<|.int .i64 1,.d<|.int .u8 1,.osl 1 6 0<|c.length]) [1]<|a1<|c1 vd<|c1 vd<|c1 vo<|c0)
 refine sr<|ck 2<|en<|bk 0<|sr<|ck 2<|en<|cn H (λ H=>?_)<|λ H=>?_
 ·exact sr<|ck 2<|bx H λ r7 M H=>ca false (EX M)<|sF<|ck 1<|bx H λ r8 O H=>ca false (AL O)<|sF<|ck 1<|bx H λ r9 e H=>ca false (AL e)<|sF<|ck 1<|bx H λ P f H=>ca false (AL f)<|ck 1<|bx H λ Q g H=>sp (Cf Ay 1 6 g)<|ck 1<|en<|sr<|ck 3<|en<|re<|qR<|qr (by cases H;exact pr<|rO (v:=.agg [.d<|.int .i64 2,.d<|.int .u8 3,.osl 7 6 0<|Q.length]) [7]<|a1<|c1 vd<|c1 vd<|c1 vo<|c0)
 ·refine sr<|ck 2<|en<|cn H (λ H=>?_)<|λ H=>?_
  ·exact sr<|ck 2<|bx H λ R h H=>ca false (EX h)<|sF<|ck 1<|bx H λ S i H=>ca false (AL i)<|sF<|ck 1<|bx H λ T j H=>ca false (AL j)<|ck 1<|bx H λ U k H=>sp (Cf Ay 1 6 k)<|ck 1<|en<|sr<|ck 3<|en<|re<|qR<|qr (by cases H;exact pr<|rO (v:=.agg [.d<|.int .i64 2,.d<|.int .u8 1,.osl 7 6 0<|U.length]) [7]<|a1<|c1 vd<|c1 vd<|c1 vo<|c0)
  ·refine sr<|ck 2<|en<|cn H (λ H=>?_)<|λ H=>?_
   ·exact rz<|ck 1<|sF<|ck 1<|bx H λ V l H=>ca false (AL l)<|sF<|ck 1<|bx H λ W m H=>ca false (AL m)<|sF<|ck 1<|bx H λ X o H=>ca false (AL o)<|ck 1<|bx H λ Y p H=>sp (Cf Ay 1 6 p)<|ck 1<|ae<|qN<|qs (tr (Er 0 2 6 (by kernel_rfl))<|sg [2,3])<|a Y H
   ·refine sr<|ck 2<|en<|cn H (λ H=>?_)<|λ H=>?_
    ·exact rz<|ck 1<|sF<|ck 1<|bx H λ Z q H=>ca false (AL q)<|ck 1<|bx H λ l4 r H=>sp (Cf Ay 1 6 r)<|ck 1<|ae<|qN<|qs (tr (Er 0 2 6 (by kernel_rfl))<|sg [2,3])<|a l4 H
    ·refine sr<|ck 2<|en<|cn H (λ H=>?_)<|λ H=>?_
     ·exact sr<|sF<|ck 1<|bx H λ ab s H=>ca false (AL s)<|sF<|ck 1<|bx H λ ac t H=>ca false (AL t)<|ck 4<|en<|sr<|ck 4<|en<|rz<|ck 3<|sF<|ck 1<|bx H λ af u H=>ca false (AL u)<|ck 1<|bx H λ l5 w H=>sp (Cf Ay 1 6 w)<|ck 1<|ae<|qN<|qs (tr (Er 0 2 6 (by kernel_rfl))<|sg [2,3])<|a l5 H
     ·refine sr<|ck 2<|en<|cn H (λ H=>?_)<|λ H=>?_
      ·exact sr<|ck 2<|bx H λ ah y H=>ca false (EX y)<|sF<|ck 1<|bx H λ ai A H=>ca false (AL A)<|sF<|ck 1<|bx H λ aj B H=>ca false (AL B)<|ck 1<|bx H λ l6 C H=>sp (Cf Ay 1 6 C)<|ck 1<|en<|sr<|ck 3<|en<|re<|qR<|qr (by cases H;exact pr<|rO (v:=.agg [.d<|.int .i64 2,.d<|.int .u8 1,.osl 7 6 0<|l6.length]) [7]<|a1<|c1 vd<|c1 vd<|c1 vo<|c0)
      ·refine sr<|ck 2<|en<|cn H (λ H=>?_)<|λ H=>?_
       ·exact rz<|ck 1<|sF<|ck 1<|bx H λ al E H=>ca false (AL E)<|sF<|ck 1<|bx H λ am G H=>ca false (AL G)<|sF<|ck 1<|bx H λ ap I H=>ca false (AL I)<|ck 1<|bx H λ l7 J H=>sp (Cf Ay 1 6 J)<|ck 1<|ae<|qN<|qs (tr (Er 0 2 6 (by kernel_rfl))<|sg [2,3])<|a l7 H
       ·exact sk<|qN<|qs (tr (Er 0 2 6 (by kernel_rfl))<|sg [2,3])<|a K H
end
section
variable (a:Int)
def Jew:St:=⟨(0,.d<|.int .u8 a)::[],[]⟩
variable {a}
theorem KB {z} (H:Fx n a=some z):AN Try.prog 90 [.d (.int .u8 a)] (.d (.bool z)):=by
 exact fO 12 (Jew a) Try.func90<|sr<|ck 1<|en<|sr<|ck 3<|en<|sr<|ck 4<|gc 1 (decide<|32<=CN .u8 a 127)<|pA<|ck 1<|en<|re (by cases H;exact pr rd)
end
section
variable (a:(List UInt8)) (b:Int)
def Jex:St:=⟨(0,.d<|.str a)::[],[]⟩
def Jey:St:=⟨(0,.d<|.str a)::(6,.d<|.int .i64 ((a.length:Nat):Int))::(7,.d<|.int .i64 b)::[],[]⟩
def Jez:St:=⟨(0,.d<|.str a)::[],[]⟩
def PI:(Unit⊕(Int×Int))->Ex->St->Prop:=xS (xX 0 0<|λ (_:Unit)=>Jez a)<|xR ty Try.f78<|λ (y:(Int×Int))=>.tup [.d<|.int .i64 y.1,.d<|.int .i64 y.2]
def Kg:Int->St:=(λ (x:Int)=>Jey a x)
variable {a b}
theorem Jh (x:Int) (z:(Int⊕(Unit⊕(Int×Int)))) (H:GK n a x=some z):WP (cxk 19 0) (AR Try.f78) [1,0,1,0,0] (AT 0 (Kg a) (PI a) z) (Kg a x):=by
 revert H;generalize x=b;intro H;refine sr<|ck 1<|en<|sq<|cn H (λ H=>?_)<|λ H=>?_
 ·refine sk<|qz<|sq<|bk 1<|sr<|ck 2<|en<|sr<|ck 2<|bx H λ k e H=>sp (GI e)<|bx H λ i f H=>ca false (KB f)<|ck 1<|en<|cn H (λ H=>?_)<|λ H=>?_
  ·exact sr<|ck 3<|en<|re<|qR<|qr (by cases H;exact ro rfl rdT)
  ·exact sk<|qN<|qz<|rz<|ck 2<|ae (by cases H;exact og<|sg [0,6,7])
 ·exact ex 0<|qx (by cases H;exact xo rfl<|sg [0])
theorem Td {z} (H:Ln n a=some z):AN Try.prog 78 [.d (.str a)] (.tup [.d (.int .i64 z.1),.d (.int .i64 z.2)]):=by
 refine fO 19 (Jex a) Try.func78<|sr<|ck 2<|en<|sq<|sr<|ck 3<|en<|bk 0<|bx H λ j c H=>?_;rcases j with l|m
 ·exact lX Jh c (sg [0,6,7]) rfl λ s g=>qH<|qs (g)<|sr<|ck 4<|en<|re (by cases H;exact pr rdT)
 ·exact lR Jh c (sg [0,6,7]) rfl λ s h=>qR<|qr (by cases H;exact pr h)
end
section
variable (a:Int)
def JeA:St:=⟨(0,.d<|.int .u8 a)::[],[]⟩
variable {a}
theorem Ih {z} (H:FO n a=some z):AN Try.prog 65 [.d (.int .u8 a)] (.d (.int .i64 z)):=by
 refine fO 30 (JeA a) Try.func65<|sr<|ck 1<|en<|sr<|ck 3<|en<|sq<|bk 0<|sr<|ck 4<|gc 1 (decide<|97<=CN .u8 a 127)<|pA<|ck 1<|en<|cn H (λ H=>?_)<|λ H=>?_
 ·exact sr<|ck 1<|en<|re<|qR<|qr (by cases H;exact pr rd)
 ·refine sr<|ck 4<|gc 1 (decide<|65<=CN .u8 a 127)<|pA<|ck 1<|en<|cn H (λ H=>?_)<|λ H=>?_
  ·exact sr<|ck 1<|en<|re<|qR<|qr (by cases H;exact pr rd)
  ·refine sr<|ck 4<|gc 1 (decide<|48<=CN .u8 a 127)<|pA<|ck 1<|en<|cn H (λ H=>?_)<|λ H=>?_
   ·exact sr<|ck 1<|en<|re<|qR<|qr (by cases H;exact pr rd)
   ·refine sr<|ck 3<|en<|cn H (λ H=>?_)<|λ H=>?_
    ·exact sr<|ck 1<|en<|re<|qR<|qr (by cases H;exact pr rd)
    ·exact sk<|qN<|qz<|sr<|ck 1<|en<|re (by cases H;exact pr rd)
end
section
variable (a:(List UInt8)) (b:Int)
def JeB:St:=⟨(0,.d<|.str a)::[],[]⟩
def JeC:St:=⟨(0,.d<|.str a)::(5,.d<|.int .i64 ((a.length:Nat):Int))::(6,.d<|.int .i64 b)::[],[]⟩
def JeD:St:=⟨[],[]⟩
def Lv:(Unit⊕Bool)->Ex->St->Prop:=xS (xX 0 0<|λ (_:Unit)=>JeD)<|xR ty Try.f79<|λ (y:Bool)=>.d<|.bool y
def GQ:Int->St:=(λ (x:Int)=>JeC a x)
variable {a b}
theorem Ge (x:Int) (z:(Int⊕(Unit⊕Bool))) (H:DZ n a x=some z):WP (cxk 15 0) (AR Try.f79) [1,0,1,0,0] (AT 0 (GQ a) (Lv) z) (GQ a x):=by
 revert H;generalize x=b;intro H;refine sr<|ck 1<|en<|sq<|cn H (λ H=>?_)<|λ H=>?_
 ·refine sk<|qz<|sq<|bk 1<|sr<|ck 2<|en<|sr<|ck 2<|bx H λ k e H=>sp (GI e)<|bx H λ i f H=>ca false (Ih f)<|ck 1<|en<|cn H (λ H=>?_)<|λ H=>?_
  ·exact sr<|ck 1<|en<|re<|qR<|qr (by cases H;exact ro rfl rd)
  ·exact sk<|qN<|qz<|rz<|ck 2<|ae (by cases H;exact og<|sg [0,5,6])
 ·exact ex 0<|qx (by cases H;exact xo rfl<|sg [])
theorem Ng {z} (H:FH n a=some z):AN Try.prog 79 [.d (.str a)] (.d (.bool z)):=by
 refine fO 15 (JeB a) Try.func79<|sr<|ck 1<|en<|sq<|sr<|ck 3<|en<|bk 0<|bx H λ j c H=>?_;rcases j with l|m
 ·exact lX Ge c (sg [0,5,6]) rfl λ s g=>qH<|qs (g)<|sr<|ck 1<|en<|re (by cases H;exact pr rd)
 ·exact lR Ge c (sg [0,5,6]) rfl λ s h=>qR<|qr (by cases H;exact pr h)
end
section
variable (a:Int)
def JeE:St:=⟨(0,.d<|.int .u8 a)::[],[]⟩
variable {a}
theorem RG {z} (H:Mf n a=some z):AN Try.prog 80 [.d (.int .u8 a)] (.d (.bool z)):=by
 exact fO 5 (JeE a) Try.func80<|sr<|ck 1<|en<|sr<|ck 3<|en<|re (by cases H;exact pr rd)
end
section
variable (a:Aw) (b:Int) (c:Int)
def JeF:St:=⟨(0,.agg [.d<|.str a.Print,.d<|.sl<|a.Cells.map eU8,.d<|.int .u8 a.Left,.d<|.int .u8 a.Right,.d<|.int .i64 a.From,.d<|.int .i64 a.To])::(1,.d<|.int .i64 b)::[],[]⟩
def JeG:St:=⟨(92,.d<|.sl<|a.Cells.map eU8)::(93,.d<|.int .i64 ((a.Cells.length:Nat):Int))::(94,.d<|.int .i64 c)::[],[]⟩
def JeH:St:=⟨[],[]⟩
def OQ:(Unit⊕Bool)->Ex->St->Prop:=xS (xX 0 0<|λ (_:Unit)=>JeH)<|xR ty Try.f61<|λ (y:Bool)=>.d<|.bool y
def Ji:Int->St:=(λ (x:Int)=>JeG a x)
variable {a b c}
theorem Iz (x:Int) (z:(Int⊕(Unit⊕Bool))) (H:FI n a x=some z):WP (cxk 110 0) (AR Try.f61) [1,1,1,1,1,1,0,1,0,0] (AT 0 (Ji a) (OQ) z) (Ji a x):=by
 revert H;generalize x=c;intro H;refine sr<|ck 1<|en<|sq<|cn H (λ H=>?_)<|λ H=>?_
 ·refine sk<|qz<|sq<|bk 1<|sr<|bx H λ p h H=>sp (AY eU8 h)<|ck 2<|en<|sr<|ck 1<|bx H λ e i H=>ca false (RG i)<|ck 3<|gc 1 (!(!e))<|pO<|ck 2<|gc 1 (!((!e)||(p==63)))<|pO<|en<|cn H (λ H=>?_)<|λ H=>?_
  ·exact sr<|ck 1<|en<|re<|qR<|qr (by cases H;exact ro rfl rd)
  ·exact sk<|qN<|qz<|rz<|ck 2<|ae (by cases H;exact og<|sg [92,93,94])
 ·exact ex 0<|qx (by cases H;exact xo rfl<|sg [])
theorem RH {z} (H:JH n a b=some z):AN Try.prog 61 [.agg (Hx a),.d (.int .i64 b)] (.d (.bool z)):=by
 refine fO 110 (JeF a b) Try.func61<|sr<|ck 2<|en<|sq<|sr<|ck 6<|gc 1 (!(decide<|((a.Print.length:Nat):Int)>4))<|sE (g:=(!(decide<|((a.Print.length:Nat):Int)>4))) (λ hg=>AU eU8 a.Cells)<|gc 1 (!(decide<|((a.Print.length:Nat):Int)>4))<|pO<|ck 2<|gc 1 (!((decide<|((a.Print.length:Nat):Int)>4)||(decide<|((a.Cells.length:Nat):Int)<1)))<|sE (g:=(!((decide<|((a.Print.length:Nat):Int)>4)||(decide<|((a.Cells.length:Nat):Int)<1)))) (λ hg=>AU eU8 a.Cells)<|gc 1 (!((decide<|((a.Print.length:Nat):Int)>4)||(decide<|((a.Cells.length:Nat):Int)<1)))<|pO<|en<|cn H (λ H=>?_)<|λ H=>?_
 ·exact sr<|ck 1<|en<|re<|qr (by cases H;exact pr rd)
 ·refine sk<|qz<|sq<|sr<|ck 2<|bx H λ q j H=>ca false (Td j)<|ck 5<|en<|sr<|ck 2<|en<|cn H (λ H=>?_)<|λ H=>?_
  ·exact sr<|ck 1<|en<|re<|qr (by cases H;exact pr rd)
  ·refine sk<|qz<|sq<|sr<|ck 5<|gc 2 (!(decide<|a.Left<1))<|pO<|ck 2<|gc 2 (!((decide<|a.Left<1)||(decide<|a.Left>63)))<|pO<|ck 2<|gc 2 (!(((decide<|a.Left<1)||(decide<|a.Left>63))||(decide<|a.Right<1)))<|pO<|en<|cn H (λ H=>?_)<|λ H=>?_
   ·exact sr<|ck 1<|en<|re<|qr (by cases H;exact pr rd)
   ·refine sk<|qz<|sq<|sr<|ck 5<|gc 1 (!(decide<|a.From<0))<|ck 1<|gc 1 (!(decide<|a.From<0))<|pO<|ck 2<|gc 2 (!((decide<|a.From<0)||(decide<|a.From>=b)))<|pO<|ck 2<|gc 1 (!(((decide<|a.From<0)||(decide<|a.From>=b))||(decide<|a.To<0)))<|ck 1<|gc 1 (!(((decide<|a.From<0)||(decide<|a.From>=b))||(decide<|a.To<0)))<|pO<|en<|cn H (λ H=>?_)<|λ H=>?_
    ·exact sr<|ck 1<|en<|re<|qr (by cases H;exact pr rd)
    ·refine sk<|qz<|sq<|sr<|ck 2<|bx H λ r k H=>ca false (Ng k)<|en<|cn H (λ H=>?_)<|λ H=>?_
     ·exact sr<|ck 6<|gc 1 (((a.Print.length:Nat):Int)==1)<|sE (g:=(((a.Print.length:Nat):Int)==1)) (λ hg=>AU eU8 a.Cells)<|gc 1 (((a.Print.length:Nat):Int)==1)<|pA<|ck 2<|gc 1 ((((a.Print.length:Nat):Int)==1)&&(((a.Cells.length:Nat):Int)==1))<|bx H λ u l H=>sE (λ hg=>AY eU8<|G1 l hg)<|gc 2 ((((a.Print.length:Nat):Int)==1)&&(((a.Cells.length:Nat):Int)==1))<|pA<|ck 1<|en<|re<|qr (by cases H;exact pr rd)
     ·refine sk<|qz<|sq<|sr<|ck 2<|sp (AU eU8 a.Cells)<|ck 1<|en<|bk 0<|bx H λ t f H=>?_;rcases t with v|w
      ·exact lX Iz f (sg [92,93,94]) rfl λ s m=>qH<|qs (m)<|sr<|ck 1<|en<|re (by cases H;exact pr rd)
      ·exact lR Iz f (sg [92,93,94]) rfl λ s o=>qR<|qr (by cases H;exact pr o)
end
section
variable (a:(List Int)) (b:(List Int)) (c:Int)
def JeI:St:=⟨(0,.d<|.sl<|a.map eU8)::(1,.d<|.sl<|b.map eU8)::[],[]⟩
def JeJ:St:=⟨(0,.d<|.sl<|a.map eU8)::(1,.d<|.sl<|b.map eU8)::(12,.d<|.int .i64 ((a.length:Nat):Int))::(13,.d<|.int .i64 c)::[],[]⟩
def JeK:St:=⟨[],[]⟩
def OR:(Unit⊕Bool)->Ex->St->Prop:=xS (xX 0 0<|λ (_:Unit)=>JeK)<|xR ty Try.f81<|λ (y:Bool)=>.d<|.bool y
def Jj:Int->St:=(λ (x:Int)=>JeJ a b x)
variable {a b c}
theorem IA (x:Int) (z:(Int⊕(Unit⊕Bool))) (H:FJ n a b x=some z):WP (cxk 26 0) (AR Try.f81) [1,1,0,1,0,0] (AT 0 (Jj a b) (OR) z) (Jj a b x):=by
 revert H;generalize x=c;intro H;refine sr<|ck 1<|en<|sq<|cn H (λ H=>?_)<|λ H=>?_
 ·refine sk<|qz<|sq<|bk 1<|sr<|ck 2<|en<|sr<|ck 2<|bx H λ m f H=>sp (AY eU8 f)<|ck 3<|bx H λ o g H=>sp (AY eU8 g)<|ck 2<|en<|cn H (λ H=>?_)<|λ H=>?_
  ·exact sr<|ck 1<|en<|re<|qR<|qr (by cases H;exact ro rfl rd)
  ·exact sk<|qN<|qz<|rz<|ck 2<|ae (by cases H;exact og<|sg [0,1,12,13])
 ·exact ex 0<|qx (by cases H;exact xo rfl<|sg [])
theorem RI {z} (H:JI n a b=some z):AN Try.prog 81 [.d (.sl (a.map eU8)),.d (.sl (b.map eU8))] (.d (.bool z)):=by
 refine fO 26 (JeI a b) Try.func81<|sr<|ck 1<|en<|sq<|sr<|ck 1<|sp (AU eU8 a)<|ck 1<|sp (AU eU8 b)<|ck 1<|en<|cn H (λ H=>?_)<|λ H=>?_
 ·exact sr<|ck 1<|en<|re<|qr (by cases H;exact pr rd)
 ·refine sk<|qz<|sq<|sr<|ck 1<|sp (AU eU8 a)<|ck 1<|en<|bk 0<|bx H λ h e H=>?_;rcases h with k|l
  ·exact lX IA e (sg [0,1,12,13]) rfl λ s i=>qH<|qs (i)<|sr<|ck 1<|en<|re (by cases H;exact pr rd)
  ·exact lR IA e (sg [0,1,12,13]) rfl λ s j=>qR<|qr (by cases H;exact pr j)
end
section
variable (a:Aw) (b:Aw)
def JeL:St:=⟨(0,.agg [.d<|.str a.Print,.d<|.sl<|a.Cells.map eU8,.d<|.int .u8 a.Left,.d<|.int .u8 a.Right,.d<|.int .i64 a.From,.d<|.int .i64 a.To])::(1,.agg [.d<|.str b.Print,.d<|.sl<|b.Cells.map eU8,.d<|.int .u8 b.Left,.d<|.int .u8 b.Right,.d<|.int .i64 b.From,.d<|.int .i64 b.To])::[],[]⟩
variable {a b}
theorem RJ {z} (H:JJ n a b=some z):AN Try.prog 62 [.agg (Hx a),.agg (Hx b)] (.d (.bool z)):=by
 exact fO 45 (JeL a b) Try.func62<|sr<|ck 3<|en<|sr<|ck 7<|gc 1 (a.From==b.From)<|ck 1<|gc 2 (a.From==b.From)<|pA<|ck 2<|gc 1 ((a.From==b.From)&&(a.To==b.To))<|ck 1<|gc 2 ((a.From==b.From)&&(a.To==b.To))<|pA<|ck 2<|gc 1 (((a.From==b.From)&&(a.To==b.To))&&(a.Left==b.Left))<|ck 1<|gc 2 (((a.From==b.From)&&(a.To==b.To))&&(a.Left==b.Left))<|pA<|ck 2<|gc 1 ((((a.From==b.From)&&(a.To==b.To))&&(a.Left==b.Left))&&(a.Right==b.Right))<|ck 1<|gc 2 ((((a.From==b.From)&&(a.To==b.To))&&(a.Left==b.Left))&&(a.Right==b.Right))<|pA<|ck 2<|gc 1 (((((a.From==b.From)&&(a.To==b.To))&&(a.Left==b.Left))&&(a.Right==b.Right))&&(a.Print==b.Print))<|ck 1<|gc 1 (((((a.From==b.From)&&(a.To==b.To))&&(a.Left==b.Left))&&(a.Right==b.Right))&&(a.Print==b.Print))<|bx H λ e c H=>cG false (leZ) rfl (λ hg=>RI<|G1 c hg) (Or.inl rfl) (FG (λ hh=>hh)<|FG (λ hh=>hh)<|Kw) rfl<|pA<|ck 1<|en<|re (by cases H;exact pr rd)
end
section
variable (a:Ad) (b:Int) (e:Aw) (c:(List Aw)) (f:Int)
def JeM:St:=⟨(0,.agg [.d<|.int .i64 a.Modes,.d<|.int .u8 a.Accept,.d<|.sl<|a.Rules.map Ay])::[],[]⟩
def JeN:St:=⟨(1,.ptr 0 0)::(39,.d<|.sl<|a.Rules.map Ay)::(40,.d<|.int .i64 ((a.Rules.length:Nat):Int))::(41,.d<|.int .i64 b)::[],[some<|.box<|Bo a]⟩
def JeO:St:=⟨[],[]⟩
def JeP:St:=⟨(1,.ptr 0 0)::(4,.d<|.int .i64 b)::(5,.ptr 1 0)::(39,.d<|.sl<|a.Rules.map Ay)::(40,.d<|.int .i64 ((a.Rules.length:Nat):Int))::(41,.d<|.int .i64 b)::(55,.d<|.sl<|c.map Ay)::(56,.d<|.int .i64 ((c.length:Nat):Int))::(57,.d<|.int .i64 f)::[],[some<|.box<|Bo a,some<|.box<|Hx e]⟩
def JeQ:St:=⟨(1,.ptr 0 0)::(39,.d<|.sl<|a.Rules.map Ay)::(40,.d<|.int .i64 ((a.Rules.length:Nat):Int))::(41,.d<|.int .i64 b)::[],[some<|.box<|Bo a]⟩
def OS:(Unit⊕(Int×Int))->Ex->St->Prop:=xS (xX 0 2<|λ (_:Unit)=>JeQ a b)<|xR ty Try.f52<|λ (y:(Int×Int))=>.tup [.d<|.int .i64 y.1,.d<|.int .i64 y.2]
def Jk:Int->St:=(λ (x:Int)=>JeP a b e c x)
def OU:(Unit⊕(Int×Int))->Ex->St->Prop:=xS (xX 0 0<|λ (_:Unit)=>JeO)<|xR ty Try.f52<|λ (y:(Int×Int))=>.tup [.d<|.int .i64 y.1,.d<|.int .i64 y.2]
def Jl:Int->St:=(λ (x:Int)=>JeN a x)
variable {a b e c f}
theorem IB (x:Int) (z:(Int⊕(Unit⊕(Int×Int)))) (H:Et n a b e c x=some z):WP (cxk 67 0) (AR Try.f52) [1,1,1,1,0,1,0,0,1,1,0,0,1,1,1,0,0] (AT 0 (Jk a b e c) (OS a b) z) (Jk a b e c x):=by
 revert H;generalize x=f;intro H;refine sr<|ck 1<|en<|sq<|cn H (λ H=>?_)<|λ H=>?_
 ·refine sk<|qz<|sq<|bk 3<|sr<|bx H λ K m H=>sp (AY Ay m)<|ck 3<|en<|sr<|ck 2<|bx H λ A o H=>ca false (RJ o)<|en<|cn H (λ H=>?_)<|λ H=>?_
  ·exact sr<|ck 3<|en<|re<|qR<|qr (by cases H;exact ro rfl rdT)
  ·exact sk<|qN<|qz<|rz<|ck 2<|ae (by cases H;exact og<|sg [1,4,5,39,40,41,55,56,57])
 ·exact ex 2<|qx (by cases H;exact xo rfl<|sg [1,39,40,41])
theorem IC (x:Int) (z:(Int⊕(Unit⊕(Int×Int)))) (H:Eu n a x=some z):WP (cxk 67 0) (AR Try.f52) [1,1,1,1,0,1,0,0] (AT 0 (Jl a) (OU) z) (Jl a x):=by
 revert H;generalize x=b;intro H;refine sr<|ck 1<|en<|sq<|cn H (λ H=>?_)<|λ H=>?_
 ·refine sk<|qz<|sq<|bk 1<|sr<|ck 1<|bx H λ e p H=>sp (AY Ay p)<|ck 4<|en<|sq<|sr<|ck 3<|bx H λ B q H=>ca false (RH q)<|ck 1<|en<|cn H (λ H=>?_)<|λ H=>?_
  ·exact sr<|ck 3<|en<|re<|qr<|qR<|qr (by cases H;exact ro rfl rdT)
  ·refine sk<|qz<|sr<|ck 3<|bx H λ c r H=>sp (UN Ay 6 r)<|sp (AU Ay c)<|ck 1<|en<|bk 2<|bx H λ t h H=>?_;rcases t with C|E
   ·exact lX IB h (sg [1,4,5,39,40,41,55,56,57]) rfl λ s u=>qH<|qN<|qs (u)<|rz<|ck 2<|ae (by cases H;exact og<|sg [1,39,40,41])
   ·exact lR IB h (sg [1,4,5,39,40,41,55,56,57]) rfl λ s i=>qR<|qR<|qr (by cases H;exact ro rfl i)
 ·exact ex 0<|qx (by cases H;exact xo rfl<|sg [])
theorem RM {z} (H:JK n a=some z):AN Try.prog 52 [.agg (Bo a)] (.tup [.d (.int .i64 z.1),.d (.int .i64 z.2)]):=by
 refine fO 67 (JeM a) Try.func52<|sr<|ck 3<|en<|sq<|sr<|ck 5<|gc 2 (!(decide<|a.Modes<1))<|pO<|en<|cn H (λ H=>?_)<|λ H=>?_
 ·exact sr<|ck 2<|en<|re<|qr (by cases H;exact pr rdT)
 ·refine sk<|qz<|sq<|sr<|ck 5<|gc 2 (!(a.Accept==0))<|ck 1<|gc 1 (!(a.Accept==0))<|bx H λ G v H=>soG (λ hg=>Hq<|G1 v hg) (FG (λ hh=>hh)<|Kw)<|gc 1 (!(a.Accept==0))<|pO<|en<|cn H (λ H=>?_)<|λ H=>?_
  ·exact sr<|ck 2<|en<|re<|qr (by cases H;exact pr rdT)
  ·refine sk<|qz<|sq<|sr<|ck 2<|sp (AU Ay a.Rules)<|ck 3<|gc 1 (!(decide<|((a.Rules.length:Nat):Int)<1))<|sE (g:=(!(decide<|((a.Rules.length:Nat):Int)<1))) (λ hg=>AU Ay a.Rules)<|gc 1 (!(decide<|((a.Rules.length:Nat):Int)<1))<|pO<|en<|cn H (λ H=>?_)<|λ H=>?_
   ·exact sr<|ck 2<|en<|re<|qr (by cases H;exact pr rdT)
   ·refine sk<|qz<|sq<|sr<|ck 2<|sp (AU Ay a.Rules)<|ck 1<|en<|bk 0<|bx H λ w j H=>?_;rcases w with I|J
    ·exact lX IC j (sg [1,39,40,41]) rfl λ s k=>qH<|qs (k)<|sr<|ck 2<|en<|re (by cases H;exact pr rdT)
    ·exact lR IC j (sg [1,39,40,41]) rfl λ s l=>qR<|qr (by cases H;exact pr l)
end
section
variable (a:Ad)
def JeR:St:=⟨(0,.agg [.d<|.int .i64 a.Modes,.d<|.int .u8 a.Accept,.d<|.sl<|a.Rules.map Ay])::[],[]⟩
variable {a}
theorem RN {z} (H:Mg n a=some z):AN Try.prog 39 [.agg (Bo a)] (.d (.bool z)):=by
 exact fO 12 (JeR a) Try.func39<|sr<|ck 2<|en<|sr<|ck 1<|bx H λ c b H=>ca false (RM b)<|ck 5<|en<|sr<|ck 3<|en<|re (by cases H;exact pr rd)
end
def JeS:St:=⟨[],[]⟩
theorem RO {z} (H:Mh n=some z):AN Try.prog 82 [] (.agg [.d (.int .i64 z.Mode),.d (.int .i64 z.Last),.d (.int .u8 z.Need)]):=by
 exact fO 2 JeS Try.func82<|sr<|ck 1<|en<|sr<|ck 2<|en<|re (by cases H;exact pr rd)
section
variable (b:Int) (a:Int)
def JeT:St:=⟨(0,.d<|.int .u8 b)::(1,.d<|.int .i64 a)::[],[]⟩
variable {b a}
theorem Ii {z} (H:Ic n b a=some z):AN Try.prog 64 [.d (.int .u8 b),.d (.int .i64 a)] (.d (.bool z)):=by
 exact fO 18 (JeT b a) Try.func64<|sr<|ck 1<|en<|sr<|ck 4<|gc 1 (decide<|0<=a)<|pA<|ck 3<|bx H λ e c H=>soG (λ hg=>Hq<|G1 c hg) (FG (λ hh=>hh)<|FG (λ hh=>hh)<|Kw)<|gc 2 ((decide<|0<=a)&&(decide<|a<8))<|pA<|ck 1<|en<|re (by cases H;exact pr rd)
end
section
variable (b:Ad) (a:Ae) (c:Int)
def JeU:St:=⟨(0,.agg [.d<|.int .i64 b.Modes,.d<|.int .u8 b.Accept,.d<|.sl<|b.Rules.map Ay])::(1,.agg [.d<|.int .i64 a.Mode,.d<|.int .i64 a.Last,.d<|.int .u8 a.Need])::(2,.d<|.int .i64 c)::[],[]⟩
variable {b a c}
theorem M4 {z} (H:Jb n b a c=some z):AN Try.prog 55 [.agg (Bo b),.agg (Jg a),.d (.int .i64 c)] (.tup [.agg [.d (.int .i64 z.1.Mode),.d (.int .i64 z.1.Last),.d (.int .u8 z.1.Need)],.d (.bool z.2)]):=by
 refine fO 78 (JeU b a c) Try.func55<|sr<|ck 4<|en<|sq<|sr<|ck 5<|gc 1 (!(decide<|c<0))<|sE (g:=(!(decide<|c<0))) (λ hg=>AU Ay b.Rules)<|gc 1 (!(decide<|c<0))<|pO<|en<|cn H (λ H=>?_)<|λ H=>?_
 ·exact sr<|ck 3<|en<|re<|qr (by cases H;exact pr rdT)
 ·refine sk<|qz<|sr<|ck 3<|bx H λ e f H=>sp (AY Ay f)<|ck 3<|en<|sq<|sr<|ck 7<|gc 1 (!(e.From != a.Mode))<|ck 1<|gc 1 (!(e.From != a.Mode))<|bx H λ o h H=>cG false (leZ) rfl (λ hg=>Ii<|G1 h hg) (Or.inl rfl) (FG (λ hh=>hh)<|FG (λ hh=>hh)<|Kw) rfl<|gc 1 (!(e.From != a.Mode))<|pO<|en<|cn H (λ H=>?_)<|λ H=>?_
  ·exact sr<|ck 3<|en<|re<|qr (by cases H;exact pr rdT)
  ·refine sk<|qz<|sq<|sr<|ck 3<|en<|cn H (λ H=>?_)<|λ H=>?_
   ·refine sr<|ck 6<|en<|sq<|sr<|ck 2<|en<|cn H (λ H=>?_)<|λ H=>?_
    ·exact sr<|ck 3<|en<|re<|qr<|qr (by cases H;exact pr rdT)
    ·exact sk<|qz<|sr<|ck 8<|en<|re<|qr (by cases H;exact pr rdT)
   ·refine sk<|qz<|sq<|sr<|ck 4<|bx H λ s i H=>sp (GI i)<|bx H λ p j H=>ca false (Ih j)<|bx H λ q k H=>ca false (Ii k)<|ck 1<|en<|cn H (λ H=>?_)<|λ H=>?_
    ·exact sr<|ck 3<|en<|re<|qr (by cases H;exact pr rdT)
    ·exact sk<|qz<|sr<|ck 8<|bx H λ t l H=>sp (GI l)<|bx H λ r m H=>ca false (Ih m)<|ck 5<|en<|re (by cases H;exact pr rdT)
end
section
variable (f:Ad) (o:(List Ae)) (p:(List (List Int))) (A:(List (Ae×Int))) (u:Int) (B:(List Ae)) (K:(List (List Int))) (a:(List Ae)) (g:(List (List Int))) (b:(List (Ae×Int))) (L:Int) (C:(List Ae)) (M:(List (List Int))) (J:(List (Ae×Int))) (q:(List Ae)) (w:(List (List Int))) (E:(List (Ae×Int))) (h:(List Ae)) (c:(List (List Int))) (r:(List (Ae×Int))) (G:Int)
def JeV:St:=⟨(0,.agg [.d<|.int .i64 f.Modes,.d<|.int .u8 f.Accept,.d<|.sl<|f.Rules.map Ay])::[],[]⟩
def JeW:St:=⟨(1,.ptr 0 0)::(5,.osl 1 3 0<|o.length)::(6,.osl 2 1 0<|p.length)::(7,.mp 3)::(8,.d<|.int .i64 u)::[],[some<|.box<|Bo f,some<|.arr 3<|o.map AP,some<|.narr 1<|p.map<|nL 1 AX,some<|.map true false<|Bp AP AX A]⟩
def JeX:St:=⟨(5,.osl 0 3 0<|B.length)::(6,.osl 1 1 0<|K.length)::[],[some<|.arr 3<|B.map AP,some<|.narr 1<|K.map<|nL 1 AX]⟩
def JeY:St:=⟨(1,.ptr 0 0)::(5,.osl 1 3 0<|a.length)::(6,.osl 2 1 0<|g.length)::(7,.mp 3)::(8,.d<|.int .i64 u)::(29,.d<|.int .i64 ((f.Rules.length:Nat):Int))::(30,.d<|.int .i64 L)::[],[some<|.box<|Bo f,some<|.arr 3<|a.map AP,some<|.narr 1<|g.map<|nL 1 AX,some<|.map true false<|Bp AP AX b]⟩
def JeZ:St:=⟨(1,.ptr 0 0)::(5,.osl 1 3 0<|C.length)::(6,.osl 2 1 0<|M.length)::(7,.mp 3)::(8,.d<|.int .i64 u)::[],[some<|.box<|Bo f,some<|.arr 3<|C.map AP,some<|.narr 1<|M.map<|nL 1 AX,some<|.map true false<|Bp AP AX J]⟩
def Je0:St:=⟨(1,.ptr 0 0)::(5,.osl 1 3 0<|q.length)::(6,.osl 2 1 0<|w.length)::(7,.mp 3)::(8,.d<|.int .i64 u)::(29,.d<|.int .i64 ((f.Rules.length:Nat):Int))::(30,.d<|.int .i64 L)::[],[some<|.box<|Bo f,some<|.arr 3<|q.map AP,some<|.narr 1<|w.map<|nL 1 AX,some<|.map true false<|Bp AP AX E]⟩
def Je1:St:=⟨(1,.ptr 0 0)::(5,.osl 1 3 0<|h.length)::(6,.osl 2 1 0<|c.length)::(7,.mp 3)::(8,.d<|.int .i64 u)::(12,.d<|.int .i64 G)::(29,.d<|.int .i64 ((f.Rules.length:Nat):Int))::(30,.d<|.int .i64 L)::[],[some<|.box<|Bo f,some<|.arr 3<|h.map AP,some<|.narr 1<|c.map<|nL 1 AX,some<|.map true false<|Bp AP AX r]⟩
def Mk:((List Ae)×(List<|List Int)×(List<|Ae×Int))->Ex->St->Prop:=xX 0 2<|λ (y:((List Ae)×(List<|List Int)×(List<|Ae×Int)))=>JeZ f u y.1 y.2.1 y.2.2
def Hy:((List Ae)×(List<|List Int)×(List<|Ae×Int)×Int)->St:=(λ (x:((List Ae)×(List<|List Int)×(List<|Ae×Int)×Int))=>JeY f u x.1 x.2.1 x.2.2.1 x.2.2.2)
def Ml:((List Ae)×(List<|List Int))->Ex->St->Prop:=xX 0 0<|λ (y:((List Ae)×(List<|List Int)))=>JeX y.1 y.2
def Hz:((List Ae)×(List<|List Int)×(List<|Ae×Int)×Int)->St:=(λ (x:((List Ae)×(List<|List Int)×(List<|Ae×Int)×Int))=>JeW f x.1 x.2.1 x.2.2.1 x.2.2.2)
variable {f o p A u B K a g b L C M J q w E h c r G}
theorem Lw (x:((List Ae)×(List (List Int))×(List (Ae×Int))×Int)) (z:(((List Ae)×(List (List Int))×(List (Ae×Int))×Int)⊕((List Ae)×(List (List Int))×(List (Ae×Int))))) (H:BO n f u x.1 x.2.1 x.2.2.1 x.2.2.2=some z):WP (cxk 78 0) (AR Try.f63) [1,1,1,1,0,1,0,0,1,0,0,1,0,0] (AT 0 (Hy f u) (Mk f u) z) (Hy f u x):=by
 obtain⟨a,g,b,L⟩:=x;refine sr<|ck 1<|en<|sq<|cn H (λ H=>?_)<|λ H=>?_
 ·refine sk<|qz<|sj (λ (x:((List Ae)×(List<|List Int)×(List<|Ae×Int)))=>Je0 f u L x.1 x.2.1 x.2.2) (λ (x:((List Ae)×(List<|List Int)×(List<|Ae×Int)))=>CE n L x.1 x.2.1 x.2.2) z ?_ (λ i=>?_)
  ·rintro⟨q,w,E⟩ H;exact rz<|ck 2<|ae (by cases H;exact og<|gP [1,5,6,7,8,29,30] [0,1,2,3]<|po1<|po1<|pn1 (nL 1 AX) w<|po1<|Pl.z)
  refine bk 3<|sr<|ck 2<|en<|sr<|ck 3<|bx H λ x8 T H=>sp (Bl 1 3 T)<|sp (Co AP 1 0 (ty 79) T)<|ck 1<|bx H λ I Y H=>ca false (M4 Y)<|ck 6<|en<|sq<|sr<|ck 2<|en<|cn H (λ H=>?_)<|λ H=>?_
  ·exact ex 3<|qx<|qH<|qs (gP [1,5,6,7,8,29,30] [0,1,2,3]<|po1<|po1<|pn1 (nL 1 AX) g<|po1<|Pl.z)<|i (a,g,b) H
  ·refine sk<|qz<|sr<|ck 2<|sp (S7 (enc:=AX) (encK:=AP) (k:=3) (e1:=λ x=>.int .i64 x) (m:=b) (l:=[.d<|.int .i64 I.1.Mode,.d<|.int .i64 I.1.Last,.d<|.int .u8 I.1.Need]) (key:=I.1) (z:=0) (vz:=[.int .i64 0]) Tc true)<|ck 5<|en<|sj (λ (x:((List Ae)×(List<|List Int)×(List<|Ae×Int)×Int))=>Je1 f u L x.1 x.2.1 x.2.2.1 x.2.2.2) (λ (x:((List Ae)×(List<|List Int)×(List<|Ae×Int)×Int))=>Dq n u L x.1 x.2.1 x.2.2.1 x.2.2.2) z ?_ (λ j=>?_)
   ·rintro⟨h,c,r,G⟩ H;exact bx H λ U O H=>rg (tr (so1 (encN:=(nL 1 AX)) 2 1 O)<|sno (encN:=(nL 1 AX)) (enc:=AX) O [.own 1<|U.map AX] U 1 2 0 1)<|ck 4<|sp (Bl 2 1 O)<|sp (Ib (encN:=(nL 1 AX)) (row:=[.osl 4 1 0<|U.length]) (k:=2) (sz:=1) (off:=0) (t:=ty 87) (v:=.osl 4 1 0<|U.length) O)<|ck 2<|bx H λ P Z H=>sp (Cf AX 4 1 Z)<|sp (Bl 2 1 O)<|sp (Rs (encN:=(nL 1 AX)) (row:=[.osl 4 1 0<|U.length]) (row':=[.osl 6 1 0<|P.length]) (k:=2) (sz:=1) (off:=0) (t:=ty 87) (v:=.osl 6 1 0<|P.length) O)<|ae<|qN<|qs (tr (tr (tr (tr (tr (sni (encN:=(nL 1 AX)) (xs:=c) (n:=G) (enc:=AX) [.osl 6 1 0<|P.length] P 1 2 0 6 1)<|scl (encN:=(nL 1 AX)) (xss:=c) G [.own 1<|P.map AX] 1 2 P)<|sn 6 2 1<|lsS c G.toNat P)<|sn 65 2 1<|lsS c G.toNat P)<|sn 67 2 1<|lsS c G.toNat P)<|gP [1,5,6,7,8,29,30] [0,1,2,3]<|po1<|po1<|pn1 (nL 1 AX) (List.set c G.toNat P)<|po1<|Pl.z)<|i (h,(List.set c G.toNat P),r) H
   refine sr<|ck 2<|en<|cn H (λ H=>?_)<|λ H=>?_
   ·exact sr<|ck 3<|en<|sr<|ck 3<|sp (Rt (enc:=AX) (encK:=AP) (k:=3) (e1:=λ x=>.int .i64 x) (m:=b) (l:=[.d<|.int .i64 I.1.Mode,.d<|.int .i64 I.1.Last,.d<|.int .u8 I.1.Need]) (key:=I.1) (y:=((a.length:Nat):Int)) (v:=.d<|.int .i64 ((a.length:Nat):Int)) (vz:=[.int .i64 0]) Tc)<|en<|rz<|ck 3<|bx H λ aa ab H=>sp (Cf AP 1 3 ab)<|ck 1<|sK false<|bx H λ R V H=>sp (Jcj (encN:=(nL 1 AX)) (esz:=1) (k:=2) (e:=[.nil]) V)<|ck 2<|ae<|qs (tr (JdT (encN:=(nL 1 AX)) (xss:=g) (yss:=R) (y:=([]:(List Int))) (row:=[.own 0 []]) (sz:=1) 7 (by kernel_rfl) (Jb8 V) (by kernel_rfl))<|gP [1,5,6,7,8,12,29,30] [0,6,7,3]<|po1<|po1<|pn1 (nL 1 AX) R<|po1<|Pl.z)<|j (aa,R,(BJ I.1 ((a.length:Nat):Int) b),((a.length:Nat):Int)) H
   ·exact sk<|qs (gP [1,5,6,7,8,12,29,30] [0,1,2,3]<|po1<|po1<|pn1 (nL 1 AX) g<|po1<|Pl.z)<|j (a,g,b,(Option.getD (AO I.1 b) 0)) H
 ·exact ex 2<|qx (by cases H;exact xo rfl<|gP [1,5,6,7,8] [0,1,2,3]<|po1<|po1<|pn1 (nL 1 AX) g<|po1<|Pl.z)
theorem Lx (x:((List Ae)×(List (List Int))×(List (Ae×Int))×Int)) (z:(((List Ae)×(List (List Int))×(List (Ae×Int))×Int)⊕((List Ae)×(List (List Int))))) (H:CF n f x.1 x.2.1 x.2.2.1 x.2.2.2=some z):WP (cxk 78 0) (AR Try.f63) [1,1,1,1,0,1,0,0] (AT 0 (Hz f) (Ml) z) (Hz f x):=by
 obtain⟨o,p,A,u⟩:=x;refine sq<|sr<|ck 4<|en<|cn H (λ H=>?_)<|λ H=>?_
 ·exact sk<|qz<|sq<|bk 1<|sr<|ck 2<|sp (AU Ay f.Rules)<|ck 1<|en<|bk 2<|bx H λ ac af H=>lX Lw af (gP [1,5,6,7,8,29,30] [0,1,2,3]<|po1<|po1<|pn1 (nL 1 AX) p<|po1<|Pl.z) rfl λ s W=>qH<|qN<|qs (W)<|rz<|ck 3<|ae (by cases H;exact og<|gP [1,5,6,7,8] [0,1,2,3]<|po1<|po1<|pn1 (nL 1 AX) ac.2.1<|po1<|Pl.z)
 ·exact ex 0<|qx (by cases H;exact xo rfl<|gP [5,6] [1,2]<|po1<|pn1 (nL 1 AX) p<|Pl.z)
theorem OW {z} (H:GL n f=some z):AN Try.prog 63 [.agg (Bo f)] (.tup [.own 3 (z.1.map AP),.d (.sl (z.2.map (eL AX)))]):=by
 exact fO 78 (JeV f) Try.func63<|sr<|ck 3<|en<|sr<|bx H λ Q ag H=>ca false (RO ag)<|ck 2<|en<|sr<|ck 2<|sK true<|ck 2<|en<|sq<|rg (JdS (sz:=1) (es:=[[.nil]]) 3 (List.map (nL 1 AX) ([[]]:List (List Int))) (by kernel_rfl) (by kernel_rfl))<|ck 2<|sp (Rt (enc:=AX) (encK:=AP) (k:=4) (e1:=λ x=>.int .i64 x) (m:=[]) (l:=[.d<|.int .i64 Q.Mode,.d<|.int .i64 Q.Last,.d<|.int .u8 Q.Need]) (key:=Q) (y:=0) (v:=.d<|.int .i64 0) (vz:=[.int .i64 0]) Tc)<|ck 2<|en<|sq<|sr<|ck 1<|en<|bk 0<|bx H λ S ah H=>lX Lx ah (gP [1,5,6,7,8] [0,2,3,4]<|po1<|po1<|pn1 (nL 1 AX) ([[]]:List (List Int))<|po1<|Pl.z) rfl λ s X=>qH<|qs (X)<|sr<|ck 4<|ae<|qs (Jca (encN:=(nL 1 AX)) (encD:=(eL AX)) (xss:=S.2) (k:=1) (sz:=1) 3 (by kernel_rfl) (λ _=>rfl)<|λ _=>rfl)<|re (by cases H;exact pr<|rT (vs:=[.osl 0 3 0<|S.1.length,.d<|.sl<|S.2.map<|eL AX]) [0]<|t1 (ao vo)<|t1 (ad vd)<|t0)
end
section
variable (a:Ad)
def Je2:St:=⟨(0,.agg [.d<|.int .i64 a.Modes,.d<|.int .u8 a.Accept,.d<|.sl<|a.Rules.map Ay])::[],[]⟩
variable {a}
theorem PJ {z} (H:KA n a=some z):AN Try.prog 53 [.agg (Bo a)] (.own 3 (z.map AP)):=by
 exact fO 11 (Je2 a) Try.func53<|sr<|ck 2<|en<|sr<|ck 1<|bx H λ b c H=>cl [List.length b.1] (OW c)<|ck 5<|en<|sr<|ck 2<|en<|re (by cases H;exact pr<|rO (v:=.osl 1 3 0<|b.1.length) [1]<|ao vo)
end
section
variable (a:Ad) (b:Ae)
def Je3:St:=⟨(0,.agg [.d<|.int .i64 a.Modes,.d<|.int .u8 a.Accept,.d<|.sl<|a.Rules.map Ay])::(1,.agg [.d<|.int .i64 b.Mode,.d<|.int .i64 b.Last,.d<|.int .u8 b.Need])::[],[]⟩
variable {a b}
theorem OX {z} (H:GM n a b=some z):AN Try.prog 54 [.agg (Bo a),.agg (Jg b)] (.d (.bool z)):=by
 exact fO 22 (Je3 a b) Try.func54<|sr<|ck 3<|en<|sr<|ck 7<|gc 1 (decide<|b.Mode<a.Modes)<|ck 1<|gc 1 (decide<|b.Mode<a.Modes)<|bx H λ c e H=>cG false (leZ) rfl (λ hg=>Ii<|G1 e hg) (Or.inl rfl) (FG (λ hh=>hh)<|FG (λ hh=>hh)<|Kw) rfl<|pA<|ck 2<|gc 1 ((decide<|b.Mode<a.Modes)&&c)<|bx H λ g f H=>cG false (leZ) rfl (λ hg=>Ii<|G1 f hg) (Or.inl rfl) (FG (λ hh=>hh)<|Kw) rfl<|pA<|ck 1<|en<|re (by cases H;exact pr rd)
end
section
variable (a:Int)
def Je4:St:=⟨(0,.d<|.int .u8 a)::[],[]⟩
variable {a}
theorem J1 {z} (H:CG n a=some z):AN Try.prog 83 [.d (.int .u8 a)] (.d (.int .i64 z)):=by
 exact fO 6 (Je4 a) Try.func83<|sr<|ck 1<|en<|sr<|ck 1<|bx H λ c b H=>sp (GI b)<|ck 2<|en<|re (by cases H;exact pr rd)
end
section
variable (a:AB) (b:Int)
def Je5:St:=⟨(0,.agg [.d<|.int .u8 a.Up,.d<|.int .u8 a.Maybe])::(1,.d<|.int .u8 b)::[],[]⟩
variable {a b}
theorem Te {z} (H:F9 n a b=some z):AN Try.prog 66 [.agg [.d (.int .u8 a.Up),.d (.int .u8 a.Maybe)],.d (.int .u8 b)] (.d (.int .i64 z)):=by
 exact fO 13 (Je5 a b) Try.func66<|sr<|ck 2<|en<|sr<|ck 7<|bx H λ e c H=>ca true (J1 c)<|ck 1<|en<|re (by cases H;exact pr rd)
end
section
variable (a:Int)
def Jcx:St:=⟨(0,.d<|.int .i64 a)::[],[]⟩
variable {a}
theorem GS {z} (H:Ew n a=some z):AN Try.prog 101 [.d (.int .i64 a)] (.d (.bool z)):=by
 exact fO 6 (Jcx a) Try.func101<|sr<|ck 1<|en<|sr<|ck 4<|en<|re (by cases H;exact pr rd)
end
section
variable (a:Int) (b:Int)
def Je6:St:=⟨(0,.d<|.int .i64 a)::(1,.d<|.int .i64 b)::[],[]⟩
variable {a b}
theorem J2 {z} (H:Dy n a b=some z):AN Try.prog 87 [.d (.int .i64 a),.d (.int .i64 b)] (.d (.int .i64 z)):=by
 refine fO 20 (Je6 a b) Try.func87<|sr<|ck 1<|en<|sr<|ck 1<|bx H λ f c H=>ca false (GS c)<|ck 1<|en<|sr<|ck 1<|bx H λ g e H=>ca false (GS e)<|ck 1<|en<|sq<|sr<|ck 1<|en<|cn H (λ H=>?_)<|λ H=>?_
 ·refine sq<|sr<|ck 1<|en<|cn H (λ H=>?_)<|λ H=>?_
  ·exact sr<|ck 1<|en<|re<|qr<|qr (by cases H;exact pr rd)
  ·exact sk<|qz<|sr<|ck 1<|en<|re<|qr (by cases H;exact pr rd)
 ·refine sk<|qz<|sq<|sr<|ck 1<|en<|cn H (λ H=>?_)<|λ H=>?_
  ·exact sr<|ck 1<|en<|re<|qr (by cases H;exact pr rd)
  ·refine sk<|qz<|sq<|sr<|ck 3<|en<|cn H (λ H=>?_)<|λ H=>?_
   ·exact sr<|ck 1<|en<|re<|qr (by cases H;exact pr rd)
   ·refine sk<|qz<|sq<|sr<|ck 3<|en<|cn H (λ H=>?_)<|λ H=>?_
    ·exact sr<|ck 1<|en<|re<|qr (by cases H;exact pr rd)
    ·exact sk<|qz<|sr<|ck 1<|en<|re (by cases H;exact pr rd)
end
theorem OY {n:Nat} {a:(List UInt8)} {b:(List UInt8)} {z:Int} (H:Jc n a b=some z):AN Try.prog 88 [.d (.str a),.d (.str b)] (.d (.int .i64 z)):=Xk Jiv ⟨_,_,Try.func88,rfl,rfl⟩ H
section
variable (a:(List Int)) (b:Int)
def Je7:St:=⟨(0,.d<|.sl<|a.map AX)::[],[]⟩
def Je8:St:=⟨(3,.d<|.int .i64 0)::(6,.d<|.sl<|a.map AX)::(7,.d<|.int .i64 ((a.length:Nat):Int))::(8,.d<|.int .i64 b)::[],[]⟩
def Je9:St:=⟨(3,.d<|.int .i64 0)::[],[]⟩
def Mm:(Unit⊕Int)->Ex->St->Prop:=xS (xX 0 0<|λ (_:Unit)=>Je9)<|xR ty Try.f86<|λ (y:Int)=>.d<|.int .i64 y
def HA:Int->St:=(λ (x:Int)=>Je8 a x)
variable {a b}
theorem GT (x:Int) (z:(Int⊕(Unit⊕Int))) (H:Ga n a x=some z):WP (cxk 18 0) (AR Try.f86) [1,1,0,1,0,0] (AT 0 (HA a) (Mm) z) (HA a x):=by
 revert H;generalize x=b;intro H;refine sr<|ck 1<|en<|sq<|cn H (λ H=>?_)<|λ H=>?_
 ·refine sk<|qz<|sq<|bk 1<|sr<|bx H λ i g H=>sp (AY AX g)<|ck 2<|en<|sr<|ck 3<|en<|cn H (λ H=>?_)<|λ H=>?_
  ·exact sr<|ck 2<|en<|re<|qR<|qr (by cases H;exact ro rfl rd)
  ·exact sk<|qN<|qz<|rz<|ck 2<|ae (by cases H;exact og<|sg [3,6,7,8])
 ·exact ex 0<|qx (by cases H;exact xo rfl<|sg [3])
theorem OZ {z} (H:GN n a=some z):AN Try.prog 86 [.d (.sl (a.map AX))] (.d (.int .i64 z)):=by
 refine fO 18 (Je7 a) Try.func86<|sr<|ck 1<|en<|sr<|ck 1<|en<|sq<|sr<|ck 1<|sp (AU AX a)<|ck 1<|en<|bk 0<|bx H λ h c H=>?_;rcases h with j|k
 ·exact lX GT c (sg [3,6,7,8]) rfl λ s e=>qH<|qs (e)<|sr<|ck 2<|en<|re (by cases H;exact pr rd)
 ·exact lR GT c (sg [3,6,7,8]) rfl λ s f=>qR<|qr (by cases H;exact pr f)
end
section
variable (a:Af) (b:Af)
def Jfa:St:=⟨(0,.agg [.d<|.int .i64 a.Cost,.d<|.str a.Text,.d<|.str a.Cells])::(1,.agg [.d<|.int .i64 b.Cost,.d<|.str b.Text,.d<|.str b.Cells])::[],[]⟩
variable {a b}
theorem DL {z} (H:AQ n a b=some z):AN Try.prog 76 [.agg (Jdl a),.agg (Jdl b)] (.d (.int .i64 z)):=by
 exact fO 17 (Jfa a b) Try.func76<|sr<|ck 3<|en<|sr<|ck 4<|bx H λ c f H=>ca false (J2 f)<|ck 4<|bx H λ e g H=>ca false (OY g)<|ck 1<|bx H λ i h H=>cb (ks:=[2]) (obl:=[(0+List.length [c,e],List.length<|List.map AX [c,e])]) true (leK leM<|leZ) (I9 S5 rfl) (OZ h) (Or.inr trivial) rfl<|ck 1<|en<|re (by cases H;exact pr rd)
end
section
variable (a:Ah) (b:Ah)
def Jfb:St:=⟨(0,.agg [.d<|.str a.Arc.Print,.d<|.str a.Arc.Cells,.d<|.int .i64 a.Arc.To,.d<|.int .i64 a.More,.d<|.sl<|a.List.map Ar,.d<|.int .i64 a.First.Cost,.d<|.str a.First.Text,.d<|.str a.First.Cells])::(1,.agg [.d<|.str b.Arc.Print,.d<|.str b.Arc.Cells,.d<|.int .i64 b.Arc.To,.d<|.int .i64 b.More,.d<|.sl<|b.List.map Ar,.d<|.int .i64 b.First.Cost,.d<|.str b.First.Text,.d<|.str b.First.Cells])::[],[]⟩
variable {a b}
theorem J3 {z} (H:Hv n a b=some z):AN Try.prog 71 [.agg (DD a),.agg (DD b)] (.d (.int .i64 z)):=by
 exact fO 10 (Jfb a b) Try.func71<|sr<|ck 3<|en<|sr<|ck 4<|bx H λ e c H=>ca true (DL c)<|ck 1<|en<|re (by cases H;exact pr rd)
end
section
variable (b:Ad) (q:(List AB)) (r:Int) (u:Int) (P:Aa) (c:(List Ae)) (j:(List (Ae×Int))) (I:Int) (C:(List (Ae×Int))) (f:(List (Ae×Int))) (G:Aa) (a:Int) (K:Aa) (i:Ae) (e:Aa) (h:Int) (L:Aa) (J:Aa) (w:Aw) (o:(Ae×Bool)) (p:(List Int)) (M:Int) (A:(List Int))
def Zx:St:=⟨(0,.agg [.d<|.int .i64 b.Modes,.d<|.int .u8 b.Accept,.d<|.sl<|b.Rules.map Ay])::(1,.d<|.sl<|q.map Bu)::(2,.d<|.int .i64 r)::(3,.d<|.int .i64 u)::[],[]⟩
def Zy:St:=⟨(8,.ptr 0 0)::[],[some<|.box<|JO P<|.osl 1 1 0<|P.Accepts.length,some<|.arr 1<|P.Accepts.map eB]⟩
def Zz:St:=⟨(1,.d<|.sl<|q.map Bu)::(2,.d<|.int .i64 r)::(3,.d<|.int .i64 u)::(4,.ptr 0 0)::(9,.d<|.sl<|c.map AP)::(10,.mp 1)::(28,.d<|.sl<|c.map AP)::(29,.d<|.int .i64 ((c.length:Nat):Int))::(30,.d<|.int .i64 I)::[],[some<|.box<|Bo b,some<|.map true false<|Bp AP AX j]⟩
def ZA:St:=⟨(1,.d<|.sl<|q.map Bu)::(2,.d<|.int .i64 r)::(3,.d<|.int .i64 u)::(4,.ptr 0 0)::(9,.d<|.sl<|c.map AP)::(10,.mp 1)::[],[some<|.box<|Bo b,some<|.map true false<|Bp AP AX C]⟩
def KC:(List<|Ae×Int)->Ex->St->Prop:=xX 0 0<|λ (y:(List<|Ae×Int))=>ZA b q r u c y
def Gf:((List<|Ae×Int)×Int)->St:=(λ (x:((List<|Ae×Int)×Int))=>Zz b q r u c x.1 x.2)
def ZB:St:=⟨(4,.ptr 0 0)::(10,.mp 1)::(13,.ptr 2 0)::(50,.d<|.sl<|c.map AP)::(51,.d<|.int .i64 ((c.length:Nat):Int))::(52,.d<|.int .i64 a)::[],[some<|.box<|Bo b,some<|.map true false<|Bp AP AX f,some<|.box<|Dv G (.osl 3 1 0<|G.Arcs.length)<|.osl 4 1 0<|G.Accepts.length,some<|.narr 1<|G.Arcs.map<|nL 3 Bz,some<|.arr 1<|G.Accepts.map eB]⟩
def ZC:St:=⟨(13,.ptr 0 0)::[],[some<|.box<|Dv K (.osl 1 1 0<|K.Arcs.length)<|.osl 2 1 0<|K.Accepts.length,some<|.narr 1<|K.Arcs.map<|nL 3 Bz,some<|.arr 1<|K.Accepts.map eB]⟩
def ZD:St:=⟨(4,.ptr 0 0)::(10,.mp 1)::(13,.ptr 2 0)::(14,.d<|.int .i64 a)::(15,.ptr 3 0)::(50,.d<|.sl<|c.map AP)::(51,.d<|.int .i64 ((c.length:Nat):Int))::(52,.d<|.int .i64 a)::(67,.d<|.sl<|b.Rules.map Ay)::(68,.d<|.int .i64 ((b.Rules.length:Nat):Int))::(69,.d<|.int .i64 h)::[],[some<|.box<|Bo b,some<|.map true false<|Bp AP AX f,some<|.box<|Dv e (.osl 4 1 0<|e.Arcs.length)<|.osl 5 1 0<|e.Accepts.length,some<|.box<|Jg i,some<|.narr 1<|e.Arcs.map<|nL 3 Bz,some<|.arr 1<|e.Accepts.map eB]⟩
def ZE:St:=⟨(4,.ptr 0 0)::(10,.mp 1)::(13,.ptr 2 0)::(50,.d<|.sl<|c.map AP)::(51,.d<|.int .i64 ((c.length:Nat):Int))::(52,.d<|.int .i64 a)::[],[some<|.box<|Bo b,some<|.map true false<|Bp AP AX f,some<|.box<|Dv L (.osl 3 1 0<|L.Arcs.length)<|.osl 4 1 0<|L.Accepts.length,some<|.narr 1<|L.Arcs.map<|nL 3 Bz,some<|.arr 1<|L.Accepts.map eB]⟩
def ZF:St:=⟨(4,.ptr 0 0)::(10,.mp 1)::(13,.ptr 2 0)::(14,.d<|.int .i64 a)::(15,.ptr 3 0)::(50,.d<|.sl<|c.map AP)::(51,.d<|.int .i64 ((c.length:Nat):Int))::(52,.d<|.int .i64 a)::(67,.d<|.sl<|b.Rules.map Ay)::(68,.d<|.int .i64 ((b.Rules.length:Nat):Int))::(69,.d<|.int .i64 h)::[],[some<|.box<|Bo b,some<|.map true false<|Bp AP AX f,some<|.box<|Dv J (.osl 4 1 0<|J.Arcs.length)<|.osl 5 1 0<|J.Accepts.length,some<|.box<|Jg i,some<|.narr 1<|J.Arcs.map<|nL 3 Bz,some<|.arr 1<|J.Accepts.map eB]⟩
def Xp:St:=⟨(4,.ptr 0 0)::(10,.mp 1)::(13,.ptr 2 0)::(14,.d<|.int .i64 a)::(15,.ptr 3 0)::(17,.ptr 4 0)::(18,.ptr 5 0)::(20,.osl 6 1 0<|p.length)::(50,.d<|.sl<|c.map AP)::(51,.d<|.int .i64 ((c.length:Nat):Int))::(52,.d<|.int .i64 a)::(67,.d<|.sl<|b.Rules.map Ay)::(68,.d<|.int .i64 ((b.Rules.length:Nat):Int))::(69,.d<|.int .i64 h)::(84,.d<|.sl<|w.Cells.map eU8)::(85,.d<|.int .i64 ((w.Cells.length:Nat):Int))::(86,.d<|.int .i64 M)::[],[some<|.box<|Bo b,some<|.map true false<|Bp AP AX f,some<|.box<|Dv e (.osl 7 1 0<|e.Arcs.length)<|.osl 8 1 0<|e.Accepts.length,some<|.box<|Jg i,some<|.box<|Hx w,some<|.box<|Jg o.1,some<|.arr 1<|p.map eU8,some<|.narr 1<|e.Arcs.map<|nL 3 Bz,some<|.arr 1<|e.Accepts.map eB]⟩
def Xq:St:=⟨(4,.ptr 0 0)::(10,.mp 1)::(13,.ptr 2 0)::(14,.d<|.int .i64 a)::(15,.ptr 3 0)::(17,.ptr 4 0)::(18,.ptr 5 0)::(20,.osl 6 1 0<|A.length)::(50,.d<|.sl<|c.map AP)::(51,.d<|.int .i64 ((c.length:Nat):Int))::(52,.d<|.int .i64 a)::(67,.d<|.sl<|b.Rules.map Ay)::(68,.d<|.int .i64 ((b.Rules.length:Nat):Int))::(69,.d<|.int .i64 h)::[],[some<|.box<|Bo b,some<|.map true false<|Bp AP AX f,some<|.box<|Dv e (.osl 7 1 0<|e.Arcs.length)<|.osl 8 1 0<|e.Accepts.length,some<|.box<|Jg i,some<|.box<|Hx w,some<|.box<|Jg o.1,some<|.arr 1<|A.map eU8,some<|.narr 1<|e.Arcs.map<|nL 3 Bz,some<|.arr 1<|e.Accepts.map eB]⟩
def KD:(List Int)->Ex->St->Prop:=xX 0 6<|λ (y:(List Int))=>Xq b c f a i e h w o y
def Gg:((List Int)×Int)->St:=(λ (x:((List Int)×Int))=>Xp b c f a i e h w o x.1 x.2)
def KE:Aa->Ex->St->Prop:=xX 0 4<|λ (y:Aa)=>ZE b c f a y
def Gh:(Aa×Int)->St:=(λ (x:(Aa×Int))=>ZD b c f a i x.1 x.2)
def KF:Aa->Ex->St->Prop:=xX 0 2<|λ (y:Aa)=>ZC y
def Gi:(Aa×Int)->St:=(λ (x:(Aa×Int))=>ZB b c f x.1 x.2)
variable {b q r u P c j I C f G a K i e h L J w o p M A}
theorem J4 (x:((List (Ae×Int))×Int)) (z:(((List (Ae×Int))×Int)⊕(List (Ae×Int)))) (H:CH n b q r u c x.1 x.2=some z):WP (cxk 121 0) (AR Try.f40) [1,1,1,0,1,0,0] (AT 0 (Gf b q r u c) (KC b q r u c) z) (Gf b q r u c x):=by
 obtain⟨j,I⟩:=x;refine sr<|ck 1<|en<|sq<|cn H (λ H=>?_)<|λ H=>?_
 ·exact sk<|qz<|sq<|bk 1<|sr<|ck 1<|bx H λ Q ai H=>sp (AY AP ai)<|ck 4<|en<|rz<|ck 3<|sp (Rt (enc:=AX) (encK:=AP) (k:=1) (e1:=λ x=>.int .i64 x) (m:=j) (l:=[.d<|.int .i64 Q.Mode,.d<|.int .i64 Q.Last,.d<|.int .u8 Q.Need]) (key:=Q) (y:=I) (v:=.d<|.int .i64 I) (vz:=[.int .i64 0]) Tc)<|ae<|qN<|qz<|rz<|ck 2<|ae (by cases H;exact og<|sg [1,2,3,4,9,10,28,29,30])
 ·exact ex 0<|qx (by cases H;exact xo rfl<|sg [1,2,3,4,9,10])
theorem J5 (x:((List Int)×Int)) (z:(((List Int)×Int)⊕(List Int))) (H:Ci n b c f a i e h w o x.1 x.2=some z):WP (cxk 121 0) (AR Try.f40) [1,1,1,1,1,0,1,0,0,1,1,0,0,1,1,1,0,0,1,1,0,0,1,1,1,1,0,1,0,0] (AT 0 (Gg b c f a i e h w o) (KD b c f a i e h w o) z) (Gg b c f a i e h w o x):=by
 obtain⟨p,M⟩:=x;refine sr<|ck 1<|en<|sq<|cn H (λ H=>?_)<|λ H=>?_
 ·exact sk<|qz<|sq<|bk 7<|sr<|bx H λ ay T H=>sp (AY eU8 T)<|ck 2<|en<|rz<|ck 3<|bx H λ az U H=>sp (Cf eU8 6 1 U)<|ck 1<|ae<|qN<|qz<|rz<|ck 2<|ae (by cases H;exact og<|gP [4,10,13,14,15,17,18,20,50,51,52,67,68,69,84,85,86] [0,1,2,3,4,5,10,7,8]<|po1<|po1<|po1<|po1<|po1<|po1<|po1<|pn1 (nL 3 Bz) e.Arcs<|po1<|Pl.z)
 ·exact ex 6<|qx (by cases H;exact xo rfl<|gP [4,10,13,14,15,17,18,20,50,51,52,67,68,69] [0,1,2,3,4,5,6,7,8]<|po1<|po1<|po1<|po1<|po1<|po1<|po1<|pn1 (nL 3 Bz) e.Arcs<|po1<|Pl.z)
theorem J6 (x:(Aa×Int)) (z:((Aa×Int)⊕Aa)) (H:Cj n b c f a i x.1 x.2=some z):WP (cxk 121 0) (AR Try.f40) [1,1,1,1,1,0,1,0,0,1,1,0,0,1,1,1,0,0] (AT 0 (Gh b c f a i) (KE b c f a) z) (Gh b c f a i x):=by
 obtain⟨e,h⟩:=x;refine sr<|ck 1<|en<|sq<|cn H (λ H=>?_)<|λ H=>?_
 ·refine sk<|qz<|sj (λ (x:Aa)=>ZF b c f a i h x) (λ (x:Aa)=>Dz n h x) z ?_ (λ g=>?_)
  ·intro J H;exact rz<|ck 2<|ae (by cases H;exact og<|gP [4,10,13,14,15,50,51,52,67,68,69] [0,1,2,3,4,5]<|po1<|po1<|po1<|po1<|pn1 (nL 3 Bz) J.Arcs<|po1<|Pl.z)
  refine bk 5<|sr<|ck 1<|bx H λ w aj H=>sp (AY Ay aj)<|ck 4<|en<|sr<|ck 3<|bx H λ o V H=>ca false (M4 V)<|ck 6<|en<|sq<|sr<|ck 2<|en<|cn H (λ H=>?_)<|λ H=>?_
  ·exact ex 5<|qx<|qH<|qs (gP [4,10,13,14,15,50,51,52,67,68,69] [0,1,2,3,4,5]<|po1<|po1<|po1<|po1<|pn1 (nL 3 Bz) e.Arcs<|po1<|Pl.z)<|g e H
  ·exact sk<|qz<|sr<|ck 1<|en<|sq<|sr<|ck 2<|sp (AU eU8 w.Cells)<|ck 1<|en<|bk 6<|bx H λ ak W H=>lX J5 W (tr (An.nilo 20 1 (by kernel_rfl))<|gP [4,10,13,14,15,17,18,20,50,51,52,67,68,69,84,85,86] [0,1,2,3,6,7,8,4,5]<|po1<|po1<|po1<|po1<|po1<|po1<|po1<|pn1 (nL 3 Bz) e.Arcs<|po1<|Pl.z) rfl λ s X=>qH<|qs (X)<|bx H λ O E H=>rg (tr (tr (so1 (encN:=(nL 3 Bz)) 7 1 E)<|sno (encN:=(nL 3 Bz)) (enc:=Bz) E [.own 3<|O.map Bz] O 1 7 0 3)<|fz (enc:=eU8) (xs:=ak) 20 6 1)<|ck 10<|sp (Bl 7 1 E)<|sp (Ib (encN:=(nL 3 Bz)) (row:=[.osl 9 3 0<|O.length]) (k:=7) (sz:=1) (off:=0) (t:=ty 122) (v:=.osl 9 3 0<|O.length) E)<|ck 3<|bx H λ s1 Y H=>sp (Jci Y)<|ck 2<|sp (S7 (enc:=AX) (encK:=AP) (k:=1) (e1:=λ x=>.int .i64 x) (m:=f) (l:=[.d<|.int .i64 o.1.Mode,.d<|.int .i64 o.1.Last,.d<|.int .u8 o.1.Need]) (key:=o.1) (z:=0) (vz:=[.int .i64 0]) Tc false)<|ck 2<|bx H λ B Z H=>sp (Cf Bz 9 3 Z)<|sp (Bl 7 1 E)<|sp (Rs (encN:=(nL 3 Bz)) (row:=[.osl 9 3 0<|O.length]) (row':=[.osl 11 3 0<|B.length]) (k:=7) (sz:=1) (off:=0) (t:=ty 122) (v:=.osl 11 3 0<|B.length) E)<|ae<|qN<|qs (tr (tr (tr (tr (tr (sni (encN:=(nL 3 Bz)) (xs:=e.Arcs) (n:=a) (enc:=Bz) [.osl 11 3 0<|B.length] B 1 7 0 11 3)<|scl (encN:=(nL 3 Bz)) (xss:=e.Arcs) a [.own 3<|B.map Bz] 1 7 B)<|sn 98 7 1<|lsS e.Arcs a.toNat B)<|sn 103 7 1<|lsS e.Arcs a.toNat B)<|snc 2 3 7 1<|lsS e.Arcs a.toNat B)<|gP [4,10,13,14,15,50,51,52,67,68,69] [0,1,2,3,7,8]<|po1<|po1<|po1<|po1<|pn1 (nL 3 Bz) (List.set e.Arcs a.toNat B)<|po1<|Pl.z)<|g ({ Felt:=e.Felt,Budget:=e.Budget,Most:=e.Most,Arcs:=List.set e.Arcs a.toNat B,Accepts:=e.Accepts,Before:=e.Before }:Aa) H
 ·exact ex 4<|qx (by cases H;exact xo rfl<|gP [4,10,13,50,51,52] [0,1,2,4,5]<|po1<|po1<|po1<|pn1 (nL 3 Bz) e.Arcs<|po1<|Pl.z)
theorem J7 (x:(Aa×Int)) (z:((Aa×Int)⊕Aa)) (H:CI n b c f x.1 x.2=some z):WP (cxk 121 0) (AR Try.f40) [1,1,1,1,1,0,1,0,0] (AT 0 (Gi b c f) (KF) z) (Gi b c f x):=by
 obtain⟨G,a⟩:=x;refine sr<|ck 1<|en<|sq<|cn H (λ H=>?_)<|λ H=>?_
 ·exact sk<|qz<|sq<|bk 3<|sr<|ck 1<|bx H λ i al H=>sp (AY AP al)<|ck 4<|en<|sr<|ck 7<|bx H λ a0 am H=>ca false (OX am)<|bx H λ a2 aa H=>sp (Bl 4 1 aa)<|bx H λ a3 S H=>stA eB 4 0 (ty 4) aa S<|en<|sq<|rg (tr (sn 60 4 1<|Es S)<|snc 2 4 4 1<|Es S)<|ck 2<|sp (AU Ay b.Rules)<|ck 1<|en<|bk 4<|bx H λ ap ab H=>lX J6 ab (gP [4,10,13,14,15,50,51,52,67,68,69] [0,1,2,5,3,4]<|po1<|po1<|po1<|po1<|pn1 (nL 3 Bz) G.Arcs<|po1<|Pl.z) rfl λ s ac=>qH<|qN<|qs (ac)<|rz<|ck 2<|ae (by cases H;exact og<|gP [4,10,13,50,51,52] [0,1,2,3,4]<|po1<|po1<|po1<|pn1 (nL 3 Bz) ap.Arcs<|po1<|Pl.z)
 ·exact ex 2<|qx (by cases H;exact xo rfl<|gP [13] [2,3,4]<|po1<|pn1 (nL 3 Bz) G.Arcs<|po1<|Pl.z)
theorem Mn {z} (H:E6 n b q r u=some z):Bw Try.prog 40 [.agg (Bo b),.d (.sl (q.map Bu)),.d (.int .i64 r),.d (.int .i64 u)] [] 0 (.ptr 0 0) [some (.box (JO z (.osl 1 1 0 (z.Accepts.length)))),some (.arr 1 (z.Accepts.map eB))]:=by
 exact fL 121 0 (Zx b q r u) Try.func40<|sr<|ck 2<|en<|sr<|ck 1<|bx H λ c ar H=>ca false (PJ ar)<|ck 1<|en<|sr<|ck 1<|sp (AU AP c)<|ck 2<|en<|sq<|sr<|ck 1<|sp (AU AP c)<|ck 1<|en<|bk 0<|bx H λ f au H=>lX J4 au (sg [1,2,3,4,9,10,28,29,30]) rfl λ s af=>qH<|qs (af)<|sr<|ck 4<|sp (AU AP c)<|bx H λ av R H=>sp (Y0 1 (ez:=[.nil]) R)<|ck 1<|sp (AU AP c)<|bx H λ a4 aw H=>sp (Jgu eB 1 aw)<|ck 3<|en<|sq<|sq<|rg (tr (tr (Jd0 (encN:=(nL 3 Bz)) (sz:=1) (z:=[.nil]) (n:=((c.length:Nat):Int)) 2 (Ru R) (by kernel_rfl) (by kernel_rfl))<|sn 44 2 1<|Nu R)<|snc 4 3 2 1<|Nu R)<|ck 1<|sp (AU AP c)<|ck 1<|en<|bk 2<|bx H λ a5 ag H=>lX J7 ag (tr (YN 4 5 (by kernel_rfl))<|gP [4,10,13,50,51,52] [0,1,4,2,3]<|po1<|po1<|po1<|pn1 (nL 3 Bz) av<|po1<|Pl.z) rfl λ s ah=>qH<|qs (ah)<|sr<|ck 2<|en<|re (by cases H;exact pL<|rl (s':=Zy z)<|tr (YW (encN:=(nL 3 Bz)) (encD:=(eL Bz)) (xss:=z.Arcs) (sz:=1) 0 3 1 (by kernel_rfl) (by kernel_rfl) (λ _=>rfl)<|λ _=>rfl)<|sg [8])
end
section
variable (c:Int) (b:(List UInt8)) (a:Aa) (h:Int) (i:Bool) (e:Int) (f:Int) (g:Int)
def ZG:St:=⟨(0,.ptr 0 0)::(1,.d<|.int .i64 c)::(2,.d<|.str b)::[],[some<|.box<|Am a (.osl 1 1 0<|a.Accepts.length)<|.osl 2 1 0<|a.Before.length,some<|.arr 1<|a.Accepts.map eB,some<|.narr 1<|List.map (eMr (λ k=>.int .i64 k)<|λ v=>.int .i64 v) a.Before]⟩
def Tf:St:=⟨(6,.d<|.int .i64 h)::(7,.d<|.bool i)::[],[some<|.box<|Am a (.osl 1 1 0<|a.Accepts.length)<|.osl 2 1 0<|a.Before.length,some<|.arr 1<|a.Accepts.map eB,some<|.narr 1<|List.map (eMr (λ k=>.int .i64 k)<|λ v=>.int .i64 v) a.Before]⟩
def ZH:St:=⟨(0,.ptr 0 0)::(1,.d<|.int .i64 c)::(2,.d<|.str b)::(8,.d<|.int .i64 e)::(21,.d<|.int .i64 ((b.length:Nat):Int))::(22,.d<|.int .i64 f)::[],[some<|.box<|Am a (.osl 1 1 0<|a.Accepts.length)<|.osl 2 1 0<|a.Before.length,some<|.arr 1<|a.Accepts.map eB,some<|.narr 1<|List.map (eMr (λ k=>.int .i64 k)<|λ v=>.int .i64 v) a.Before]⟩
def ZI:St:=⟨(8,.d<|.int .i64 g)::[],[some<|.box<|Am a (.osl 1 1 0<|a.Accepts.length)<|.osl 2 1 0<|a.Before.length,some<|.arr 1<|a.Accepts.map eB,some<|.narr 1<|List.map (eMr (λ k=>.int .i64 k)<|λ v=>.int .i64 v) a.Before]⟩
def Jm:Int->Ex->St->Prop:=xX 3 0<|λ (y:Int)=>ZI a y
def Fr:(Int×Int)->St:=(λ (x:(Int×Int))=>ZH c b a x.1 x.2)
variable {c b a h i e f g}
theorem IK (x:(Int×Int)) (z:((Int×Int)⊕Int)) (H:Cp n c b a x.1 x.2=some z):WP (cxk 42 3) (AR Try.f56) [1,1,1,0,1,0,0] (AT 3 (Fr c b a) (Jm a) z) (Fr c b a x):=by
 obtain⟨e,f⟩:=x;refine sr<|ck 1<|en<|sq<|cn H (λ H=>?_)<|λ H=>?_
 ·exact sk<|qz<|sq<|bk 1<|sr<|ck 2<|en<|rz<|ck 8<|bx H λ r j H=>sp (AY Bu j)<|ck 3<|bx H λ u l H=>sp (GI l)<|bx H λ t m H=>ca false (Te m)<|ck 2<|ae<|qN<|qz<|rz<|ck 2<|ae (by cases H;exact og<|gP [0,1,2,8,21,22] [0,1,2]<|po1<|po1<|pn1 (eMr (λ k=>.int .i64 k)<|λ v=>.int .i64 v) a.Before<|Pl.z)
 ·exact ex 0<|qx (by cases H;exact xo rfl<|gP [8] [0,1,2]<|po1<|po1<|pn1 (eMr (λ k=>.int .i64 k)<|λ v=>.int .i64 v) a.Before<|Pl.z)
theorem Gj {z} (H:C7 n c b a=some z):Bw Try.prog 56 [.ptr 0 0,.d (.int .i64 c),.d (.str b)] [some (.box (Am a (.osl 1 1 0 (a.Accepts.length)) (.osl 2 1 0 (a.Before.length)))),some (.arr 1 (a.Accepts.map eB)),some (.narr 1 (List.map (eMr (λ k=>.int .i64 k) (λ v=>.int .i64 v)) a.Before))] 3 (.tup [.d (.int .i64 z.1),.d (.bool z.2)]) [some (.box (Am a (.osl 1 1 0 (a.Accepts.length)) (.osl 2 1 0 (a.Before.length)))),some (.arr 1 (a.Accepts.map eB)),some (.narr 1 (List.map (eMr (λ k=>.int .i64 k) (λ v=>.int .i64 v)) a.Before))]:=by
 refine fL 42 3 (ZG c b a) Try.func56<|sr<|ck 2<|en<|sq<|sr<|ck 6<|sp (AU Bu a.Felt)<|ck 3<|en<|cn H (λ H=>?_)<|λ H=>?_
 ·exact sr<|ck 2<|en<|re<|qr (by cases H;exact pL<|rl (s':=Tf a 0 false)<|gP [6,7] [0,1,2]<|po1<|po1<|pn1 (eMr (λ k=>.int .i64 k)<|λ v=>.int .i64 v) a.Before<|Pl.z)
 ·exact sk<|qz<|sr<|ck 1<|en<|sq<|sr<|ck 3<|en<|bk 0<|bx H λ q o H=>lX IK o (gP [0,1,2,8,21,22] [0,1,2]<|po1<|po1<|pn1 (eMr (λ k=>.int .i64 k)<|λ v=>.int .i64 v) a.Before<|Pl.z) rfl λ s p=>qH<|qs (p)<|sr<|ck 3<|en<|re (by cases H;exact pL<|rl (s':=Tf a q true)<|gP [6,7] [0,1,2]<|po1<|po1<|pn1 (eMr (λ k=>.int .i64 k)<|λ v=>.int .i64 v) a.Before<|Pl.z)
end
section
variable (L:Aa) (r:Aa) (J:(List (Option (Bool×(List (Int×Int)))))) (l:Aa) (s:Int) (K:Aa) (h:Aa) (G:(List (Int×Int))) (C:Aa) (c:Int) (u:Aa) (M:(List (Int×Int))) (E:Aa) (o:Aa) (e1:(Int×Int)) (l19:(List (Int×Int))) (l20:(List (Int×Int))) (q:(List G4)) (b:Aa) (w:Int) (p:Aa) (i:Aa)
def ZJ:St:=⟨(0,.ptr 0 0)::[],[some<|.box<|JO L<|.osl 1 1 0<|L.Accepts.length,some<|.arr 1<|L.Accepts.map eB]⟩
def ZK:St:=⟨[],[some<|.box<|Am r (.osl 1 1 0<|r.Accepts.length)<|.osl 2 1 0<|r.Before.length,some<|.arr 1<|r.Accepts.map eB,some<|.narr 1<|List.map (eMr (λ k=>.int .i64 k)<|λ v=>.int .i64 v) r.Before]⟩
def ZL:St:=⟨(0,.ptr 0 0)::(28,.d<|.int .i64 ((J.length:Nat):Int))::(29,.d<|.int .i64 s)::[],[some<|.box<|Am l (.osl 1 1 0<|l.Accepts.length)<|.osl 2 1 0<|l.Before.length,some<|.arr 1<|l.Accepts.map eB,some<|.narr 1<|List.map (eMr (λ k=>.int .i64 k)<|λ v=>.int .i64 v) l.Before]⟩
def ZM:St:=⟨(0,.ptr 0 0)::[],[some<|.box<|Am K (.osl 1 1 0<|K.Accepts.length)<|.osl 2 1 0<|K.Before.length,some<|.arr 1<|K.Accepts.map eB,some<|.narr 1<|List.map (eMr (λ k=>.int .i64 k)<|λ v=>.int .i64 v) K.Before]⟩
def HB:Aa->Ex->St->Prop:=xX 2 0<|λ (y:Aa)=>ZM y
def Ed:(Aa×Int)->St:=(λ (x:(Aa×Int))=>ZL J x.1 x.2)
def ZN:St:=⟨(0,.ptr 0 0)::(49,.osl 2 1 0<|C.Before.length)::(50,.d<|.int .i64 ((List.length (List.set h.Before (Int.toNat 0)<|some (false,B4<|BJ 0 0 G)):Nat):Int))::(51,.d<|.int .i64 c)::[],[some<|.box<|Am C (.osl 1 1 0<|C.Accepts.length)<|.osl 2 1 0<|C.Before.length,some<|.arr 1<|C.Accepts.map eB,some<|.narr 1<|List.map (eMr (λ k=>.int .i64 k)<|λ v=>.int .i64 v) C.Before]⟩
def ZO:St:=⟨[],[some<|.box<|Am u (.osl 1 1 0<|u.Accepts.length)<|.osl 2 1 0<|u.Before.length,some<|.arr 1<|u.Accepts.map eB,some<|.narr 1<|List.map (eMr (λ k=>.int .i64 k)<|λ v=>.int .i64 v) u.Before]⟩
def ZP:St:=⟨(0,.ptr 0 0)::(3,.d<|.int .i64 c)::(49,.osl 2 1 0<|E.Before.length)::(50,.d<|.int .i64 ((List.length (List.set h.Before (Int.toNat 0)<|some (false,B4<|BJ 0 0 G)):Nat):Int))::(51,.d<|.int .i64 c)::(57,.ptr 3 0)::[],[some<|.box<|Am E (.osl 1 1 0<|E.Accepts.length)<|.osl 2 1 0<|E.Before.length,some<|.arr 1<|E.Accepts.map eB,some<|.narr 1<|List.map (eMr (λ k=>.int .i64 k)<|λ v=>.int .i64 v) E.Before,some<|.iter false false none<|Bp AX AX M]⟩
def ZQ:St:=⟨(0,.ptr 0 0)::(49,.osl 2 1 0<|o.Before.length)::(50,.d<|.int .i64 ((List.length (List.set h.Before (Int.toNat 0)<|some (false,B4<|BJ 0 0 G)):Nat):Int))::(51,.d<|.int .i64 c)::[],[some<|.box<|Am o (.osl 1 1 0<|o.Accepts.length)<|.osl 2 1 0<|o.Before.length,some<|.arr 1<|o.Accepts.map eB,some<|.narr 1<|List.map (eMr (λ k=>.int .i64 k)<|λ v=>.int .i64 v) o.Before]⟩
def ZR:St:=⟨(0,.ptr 0 0)::(3,.d<|.int .i64 c)::(6,.d<|.int .i64 e1.2)::(49,.osl 2 1 0<|b.Before.length)::(50,.d<|.int .i64 ((List.length (List.set h.Before (Int.toNat 0)<|some (false,B4<|BJ 0 0 G)):Nat):Int))::(51,.d<|.int .i64 c)::(57,.ptr 3 0)::(69,.d<|.sl<|q.map Bz)::(70,.d<|.int .i64 ((q.length:Nat):Int))::(71,.d<|.int .i64 w)::[],[some<|.box<|Am b (.osl 1 1 0<|b.Accepts.length)<|.osl 2 1 0<|b.Before.length,some<|.arr 1<|b.Accepts.map eB,some<|.narr 1<|List.map (eMr (λ k=>.int .i64 k)<|λ v=>.int .i64 v) b.Before,some<|.iter false false none<|Bp AX AX<|l19++l20]⟩
def Xr:St:=⟨(0,.ptr 0 0)::(3,.d<|.int .i64 c)::(49,.osl 2 1 0<|p.Before.length)::(50,.d<|.int .i64 ((List.length (List.set h.Before (Int.toNat 0)<|some (false,B4<|BJ 0 0 G)):Nat):Int))::(51,.d<|.int .i64 c)::(57,.ptr 3 0)::[],[some<|.box<|Am p (.osl 1 1 0<|p.Accepts.length)<|.osl 2 1 0<|p.Before.length,some<|.arr 1<|p.Accepts.map eB,some<|.narr 1<|List.map (eMr (λ k=>.int .i64 k)<|λ v=>.int .i64 v) p.Before,some<|.iter false false none<|Bp AX AX<|l19++l20]⟩
def Xs:St:=⟨(0,.ptr 0 0)::(3,.d<|.int .i64 c)::(6,.d<|.int .i64 e1.2)::(49,.osl 2 1 0<|i.Before.length)::(50,.d<|.int .i64 ((List.length (List.set h.Before (Int.toNat 0)<|some (false,B4<|BJ 0 0 G)):Nat):Int))::(51,.d<|.int .i64 c)::(57,.ptr 3 0)::(69,.d<|.sl<|q.map Bz)::(70,.d<|.int .i64 ((q.length:Nat):Int))::(71,.d<|.int .i64 w)::[],[some<|.box<|Am i (.osl 1 1 0<|i.Accepts.length)<|.osl 2 1 0<|i.Before.length,some<|.arr 1<|i.Accepts.map eB,some<|.narr 1<|List.map (eMr (λ k=>.int .i64 k)<|λ v=>.int .i64 v) i.Before,some<|.iter false false none<|Bp AX AX<|l19++l20]⟩
def HC:Aa->Ex->St->Prop:=xX 2 6<|λ (y:Aa)=>Xr h G c l19 l20 y
def Ee:(Aa×Int)->St:=(λ (x:(Aa×Int))=>ZR h G c e1 l19 l20 q x.1 x.2)
def Ef:Empty->Ex->St->Prop:=(λ (_:Empty) _ _=>False)
variable {L r J l s K h G C c u M E o e1 l19 l20 q b w p i}
theorem G6 (x:(Aa×Int)) (z:((Aa×Int)⊕Aa)) (H:BZ n J x.1 x.2=some z):WP (cxk 130 2) (AR Try.f41) [1,0,1,0,0] (AT 2 (Ed J) (HB) z) (Ed J x):=by
 obtain⟨l,s⟩:=x;refine sr<|ck 1<|en<|sq<|cn H (λ H=>?_)<|λ H=>?_
 ·exact sk<|qz<|sq<|bk 1<|sr<|ck 2<|en<|bx H λ Q I H=>rg (so1 (encN:=(eMr (λ k=>.int .i64 k)<|λ v=>.int .i64 v)) 2 1 I)<|ck 6<|sp (Bl 2 1 I)<|sp (Rs (encN:=(eMr (λ k=>.int .i64 k)<|λ v=>.int .i64 v)) (row:=[Zb (λ k=>.int .i64 k) (λ v=>.int .i64 v) Q]) (row':=[.mp 3]) (k:=2) (sz:=1) (off:=0) (t:=ty 125) (v:=.mp 3) I)<|ae<|qN<|qz<|rg (tr (tr (Ja (ek:=(λ k=>.int .i64 k)) (ev:=(λ v=>.int .i64 v)) 2 3 ([]:(List<|Int×Int)) I (by kernel_rfl) (by kernel_rfl))<|sn 35 2 1<|lsS l.Before s.toNat<|some (false,([]:(List<|Int×Int))))<|snc 0 5 2 1<|lsS l.Before s.toNat<|some (false,([]:(List<|Int×Int))))<|ck 2<|ae (by cases H;exact og<|gP [0,28,29] [0,1,2]<|po1<|po1<|pn1 (eMr (λ k=>.int .i64 k)<|λ v=>.int .i64 v) (List.set l.Before s.toNat<|some (false,([]:(List<|Int×Int))))<|Pl.z)
 ·exact ex 0<|qx (by cases H;exact xo rfl<|gP [0] [0,1,2]<|po1<|po1<|pn1 (eMr (λ k=>.int .i64 k)<|λ v=>.int .i64 v) l.Before<|Pl.z)
theorem G7 (x:(Aa×Int)) (z:((Aa×Int)⊕Aa)) (H:BA n h G c e1 q x.1 x.2=some z):WP (cxk 130 2) (AR Try.f41) [1,1,1,1,0,0,1,1,0,0,1,1,0,0,1,1,0,1,1,0,0] (AT 2 (Ee h G c e1 l19 l20 q) (HC h G c l19 l20) z) (Ee h G c e1 l19 l20 q x):=by
 obtain⟨b,w⟩:=x;refine sr<|ck 1<|en<|sq<|cn H (λ H=>?_)<|λ H=>?_
 ·refine sk<|qz<|sj (λ (x:Aa)=>Xs h G c e1 l19 l20 q w x) (λ (x:Aa)=>B0 n w x) z ?_ (λ e=>?_)
  ·intro i H;exact rz<|ck 2<|ae (by cases H;exact og<|gP [0,3,6,49,50,51,57,69,70,71] [0,1,2,3]<|po1<|po1<|pn1 (eMr (λ k=>.int .i64 k)<|λ v=>.int .i64 v) i.Before<|po1<|Pl.z)
  refine bk 7<|sr<|bx H λ g O H=>sp (AY Bz O)<|ck 3<|en<|sr<|ck 4<|bx H λ j P H=>ltP [0,1,2] (Gj P) (po1<|po1<|pn1 (eMr (λ k=>.int .i64 k)<|λ v=>.int .i64 v) b.Before<|Pl.z)<|tb (f:=EI<|Cw [0,1,2] 5 3) [some<|.box<|Am b (.osl 1 1 0<|b.Accepts.length)<|.osl 2 1 0<|b.Before.length,some<|.arr 1<|b.Accepts.map eB,some<|.narr 1<|List.map (eMr (λ k=>.int .i64 k)<|λ v=>.int .i64 v) b.Before,some<|.iter false false none<|Bp AX AX<|l19++l20,some<|.box<|Jhf g] (po1<|po1<|pn1 (eMr (λ k=>.int .i64 k)<|λ v=>.int .i64 v) b.Before<|po1<|po1<|Pl.z)<|ck 5<|en<|sq<|sr<|ck 5<|gc 1 (!(!j.2))<|ck 1<|gc 4 (!(!j.2))<|pO<|en<|cn H (λ H=>?_)<|λ H=>?_
  ·exact ex 7<|qx<|qH<|qs (gP [0,3,6,49,50,51,57,69,70,71] [0,1,2,3]<|po1<|po1<|pn1 (eMr (λ k=>.int .i64 k)<|λ v=>.int .i64 v) b.Before<|po1<|Pl.z)<|e b H
  ·refine sk<|qz<|sq<|bx H λ A B H=>rg (OL (ek:=(λ k=>.int .i64 k)) (ev:=(λ v=>.int .i64 v)) 2 (BY B) (by kernel_rfl))<|ck 9<|sp (Bl 2 1<|BY B)<|sp (Ib (encN:=(eMr (λ k=>.int .i64 k)<|λ v=>.int .i64 v)) (row:=[.mp 5]) (k:=2) (sz:=1) (off:=0) (t:=ty 125) (v:=.mp 5)<|BY B)<|ck 1<|en<|sr<|ck 3<|sp (Lm (enc:=AX) (encK:=AX) (ka:=false) (va:=false) (k:=5) (m:=A) (a:=.d<|.int .i64 g.To) (key:=g.To) (z:=(0:Int)) (vz:=[.int .i64 0]) Xo true)<|ck 5<|en<|sr<|ck 5<|gc 1 (!(!(Option.isSome<|AO g.To A)))<|ck 1<|gc 1 (!(!(Option.isSome<|AO g.To A)))<|pO<|en<|cn H (λ H=>?_)<|λ H=>?_
   ·exact rz<|ck 6<|sp (Nx (enc:=AX) (encK:=AX) (ka:=false) (va:=false) (k:=5) (m:=A) (a:=.d<|.int .i64 g.To) (key:=g.To) (y:=A0 .i64 e1.2 j.1) (v:=.d<|.int .i64<|A0 .i64 e1.2 j.1) (vz:=[.int .i64 0]) Xo)<|ae<|qN<|qs (tr (tr (tr (tr (tr (UW (ka:=false) (va:=false) (e2:=Bp AX AX<|B4<|BJ g.To (A0 .i64 e1.2 j.1) A) 5 (Mc (D4<|BJ g.To (A0 .i64 e1.2 j.1) A).symm) (by kernel_rfl))<|Ja (ek:=(λ k=>.int .i64 k)) (ev:=(λ v=>.int .i64 v)) 2 5 (B4<|BJ g.To (A0 .i64 e1.2 j.1) A) (BY B) (by kernel_rfl) (by kernel_rfl))<|sn 49 2 1<|lsS b.Before (Int.toNat<|A0 .i64 c ((g.Cells.length:Nat):Int))<|some (false,B4<|BJ g.To (A0 .i64 e1.2 j.1) A))<|sn 98 2 1<|lsS b.Before (Int.toNat<|A0 .i64 c ((g.Cells.length:Nat):Int))<|some (false,B4<|BJ g.To (A0 .i64 e1.2 j.1) A))<|snc 0 5 2 1<|lsS b.Before (Int.toNat<|A0 .i64 c ((g.Cells.length:Nat):Int))<|some (false,B4<|BJ g.To (A0 .i64 e1.2 j.1) A))<|gP [0,3,6,49,50,51,57,69,70,71] [0,1,2,3]<|po1<|po1<|pn1 (eMr (λ k=>.int .i64 k)<|λ v=>.int .i64 v) (List.set b.Before (Int.toNat<|A0 .i64 c ((g.Cells.length:Nat):Int))<|some (false,B4<|BJ g.To (A0 .i64 e1.2 j.1) A))<|po1<|Pl.z)<|e ({ Felt:=b.Felt,Budget:=b.Budget,Most:=b.Most,Arcs:=b.Arcs,Accepts:=b.Accepts,Before:=List.set b.Before (Int.toNat<|A0 .i64 c ((g.Cells.length:Nat):Int)) (some (false,B4<|BJ g.To (A0 .i64 e1.2 j.1) A)) }:Aa) H
   ·exact sk<|qN<|qs (tr (tr (tr (tr (Ja (ek:=(λ k=>.int .i64 k)) (ev:=(λ v=>.int .i64 v)) 2 5 A (BY B) (by kernel_rfl) (by kernel_rfl))<|sn 49 2 1<|lsS b.Before (Int.toNat<|A0 .i64 c ((g.Cells.length:Nat):Int))<|some (false,A))<|sn 98 2 1<|lsS b.Before (Int.toNat<|A0 .i64 c ((g.Cells.length:Nat):Int))<|some (false,A))<|snc 0 5 2 1<|lsS b.Before (Int.toNat<|A0 .i64 c ((g.Cells.length:Nat):Int))<|some (false,A))<|gP [0,3,6,49,50,51,57,69,70,71] [0,1,2,3]<|po1<|po1<|pn1 (eMr (λ k=>.int .i64 k)<|λ v=>.int .i64 v) (List.set b.Before (Int.toNat<|A0 .i64 c ((g.Cells.length:Nat):Int))<|some (false,A))<|po1<|Pl.z)<|e ({ Felt:=b.Felt,Budget:=b.Budget,Most:=b.Most,Arcs:=b.Arcs,Accepts:=b.Accepts,Before:=List.set b.Before (Int.toNat<|A0 .i64 c ((g.Cells.length:Nat):Int)) (some (false,A)) }:Aa) H
 ·exact ex 6<|qx (by cases H;exact xo rfl<|gP [0,3,49,50,51,57] [0,1,2,3]<|po1<|po1<|pn1 (eMr (λ k=>.int .i64 k)<|λ v=>.int .i64 v) b.Before<|po1<|Pl.z)
end
def DR (b:Aa) (c:(List<|Int×Int)) (a:Int):Aa->Ex->St->Prop:=(λ (x:Aa)=>xX 2 4 (λ (y:Aa)=>ZQ b c a y) x)
section
variable (c:Aa) (f:(List (Int×Int))) (b:Int) (g:Aa)
def Eg:(List<|Int×Int)->Aa->St:=(λ (l:(List<|Int×Int)) (x:Aa)=>ZP c f b l x)
def HD:Aa->Ex->St->Prop:=xX 2 2<|λ (y:Aa)=>ZO y
def Eh:(Aa×Int)->St:=(λ (x:(Aa×Int))=>ZN c f x.1 x.2)
variable {c f b g}
theorem G8 (q:(List (Int×Int))) (x:Aa) (hz:∀ e,e∈q->∃ z,Bb n c f b e x=some z):WP (cxk 130 2) (AR Try.f41) [1,1,1,1,0,0,1,1,0,0,1,1,0,0] (Xj 2 (Eg c f b) (DR c f b) (Ef) (λ (e:(Int×Int)) (x:Aa)=>Bb n c f b e x) q x) (Eg c f b q x):=by
 revert hz;generalize x=u;intro hz;refine sq<|rn 0 (.refl _)<|nd0<|nxt (yok _ _) (encK:=AX) (enc:=AX) (ka:=false) (va:=false) 3 (λ hl=>?_)<|λ e1 l19 l20 hl1=>bE (hz e1<|Jd6 hl1) λ z hF=>?_
 ·exact ck 1<|en<|sq<|cF<|ex 4<|qx<|mE hl rfl<|gP [0,49,50,51] [0,1,2]<|po1<|po1<|pn1 (eMr (λ k=>.int .i64 k)<|λ v=>.int .i64 v) u.Before<|Pl.z
 ·have H:=hF;exact ck 1<|en<|sq<|cT<|sk<|qz<|bk 5<|sr<|xr (xok _ _)<|ck 4<|en<|sr<|ck 5<|bx H λ M w H=>sp (AY (eL Bz) w)<|ck 1<|sp (AU Bz M)<|ck 1<|en<|bk 6<|bx H λ O A H=>lX (G7 (l19:=l19) (l20:=l20)) A (tr (VR 3 (by kernel_rfl))<|gP [0,3,6,49,50,51,57,69,70,71] [0,1,2,3]<|po1<|po1<|pn1 (eMr (λ k=>.int .i64 k)<|λ v=>.int .i64 v) u.Before<|po1<|Pl.z) rfl λ s B=>qH<|qN (by cases H;exact mg hl1 hF<|tr (B)<|gP [0,3,49,50,51,57] [0,1,2,3]<|po1<|po1<|pn1 (eMr (λ k=>.int .i64 k)<|λ v=>.int .i64 v) O.Before<|po1<|Pl.z)
theorem G9 (x:(Aa×Int)) (z:((Aa×Int)⊕Aa)) (H:BB n c f x.1 x.2=some z):WP (cxk 130 2) (AR Try.f41) [1,1,1,1,0,0] (AT 2 (Eh c f) (HD) z) (Eh c f x):=by
 obtain⟨j,b⟩:=x;refine sr<|ck 1<|en<|sq<|cn H (λ H=>?_)<|λ H=>?_
 ·refine sk<|qz<|sq<|bk 3<|sq<|bx H λ p o H=>rg (Zc (ek:=(λ k=>.int .i64 k)) (ev:=(λ v=>.int .i64 v)) 2 (Hu o) (by kernel_rfl))<|ck 1<|sp (Bl 2 1<|Hu o)<|sp (Ib (encN:=(eMr (λ k=>.int .i64 k)<|λ v=>.int .i64 v)) (row:=[.fmp<|F7 (λ k=>.int .i64 k) (λ v=>.int .i64 v) p.2]) (k:=2) (sz:=1) (off:=0) (t:=ty 125) (v:=.fmp<|F7 (λ k=>.int .i64 k) (λ v=>.int .i64 v) p.2)<|Hu o)<|ck 2<|en<|sq<|rg (tr (tr (scl (encN:=(eMr (λ k=>.int .i64 k)<|λ v=>.int .i64 v)) (xss:=j.Before) b [.fmp<|F7 (λ k=>.int .i64 k) (λ v=>.int .i64 v) p.2] 1 2<|some (true,p.2))<|sn 49 2 1<|lsS j.Before b.toNat<|some (true,p.2))<|snc 0 5 2 1<|lsS j.Before b.toNat<|some (true,p.2))<|ck 1<|xr (xok _ _)<|xri (ek:=(λ k=>.int .i64 k)) (ev:=(λ v=>.int .i64 v)) (m:=p.2) 3<|en<|bk 4 ?_;have hD:=Rv H;refine lM (F:=(λ (e:(Int×Int)) (x:Aa)=>Bb n c f b e x)) (E:=Ef) (E0:=DR c f b) G8 (gP [0,3,49,50,51,57] [0,1,2,3]<|po1<|po1<|pn1 (eMr (λ k=>.int .i64 k)<|λ v=>.int .i64 v) (List.set j.Before b.toNat<|some (true,p.2))<|po1<|Pl.z) (λ ord ho=>bI<|hD ord ho) (λ ord P ho hy e s hE=>xQ hE<|λ he C=>?_)<|λ ord r ho hy e s hE=>?_
  ·subst he;have H:=bK (hD ord ho) hy;exact qH<|qN<|qs (C)<|rz<|ck 2<|ae (by cases H;exact og<|gP [0,49,50,51] [0,1,2]<|po1<|po1<|pn1 (eMr (λ k=>.int .i64 k)<|λ v=>.int .i64 v) P.Before<|Pl.z)
  ·cases r
 ·exact ex 2<|qx (by cases H;exact xo rfl<|gP [] [0,1,2]<|po1<|po1<|pn1 (eMr (λ k=>.int .i64 k)<|λ v=>.int .i64 v) j.Before<|Pl.z)
theorem IL {z} (H:CZ n g=some z):Bw Try.prog 41 [.ptr 0 0] [some (.box (JO g (.osl 1 1 0 (g.Accepts.length)))),some (.arr 1 (g.Accepts.map eB))] 2 (.tup []) [some (.box (Am z (.osl 1 1 0 (z.Accepts.length)) (.osl 2 1 0 (z.Before.length)))),some (.arr 1 (z.Accepts.map eB)),some (.narr 1 (List.map (eMr (λ k=>.int .i64 k) (λ v=>.int .i64 v)) z.Before))]:=by
 exact fL 130 2 (ZJ g) Try.func41<|sr<|ck 5<|sp (AU Bu g.Felt)<|ck 1<|bx H λ G h H=>sp (Y0 1 (ez:=[.nilm]) h)<|ck 3<|en<|sq<|sq<|rg (tr (tr (Jd8 (ek:=(λ k=>.int .i64 k)) (ev:=(λ v=>.int .i64 v)) (zs:=G) 2 (Int.toNat<|A0 .i64 ((g.Felt.length:Nat):Int) 1) (Ru h) (by kernel_rfl))<|sn 21 2 1<|Nu h)<|snc 0 5 2 1<|Nu h)<|ck 6<|en<|bk 0<|bx H λ c I H=>lX G6 I (gP [0,28,29] [0,1,2]<|po1<|po1<|pn1 (eMr (λ k=>.int .i64 k)<|λ v=>.int .i64 v) G<|Pl.z) rfl λ s J=>qH<|qs (J)<|sq<|bx H λ f i H=>rg (OL (ek:=(λ k=>.int .i64 k)) (ev:=(λ v=>.int .i64 v)) 2 (BY i) (by kernel_rfl))<|ck 4<|sp (Bl 2 1<|BY i)<|sp (Ib (encN:=(eMr (λ k=>.int .i64 k)<|λ v=>.int .i64 v)) (row:=[.mp 3]) (k:=2) (sz:=1) (off:=0) (t:=ty 125) (v:=.mp 3)<|BY i)<|sp (Nx (enc:=AX) (encK:=AX) (ka:=false) (va:=false) (k:=3) (m:=f) (a:=.d<|.int .i64 0) (key:=0) (y:=0) (v:=.d<|.int .i64 0) (vz:=[.int .i64 0]) Xo)<|en<|sq<|rg (tr (tr (tr (UW (ka:=false) (va:=false) (e2:=Bp AX AX<|B4<|BJ 0 0 f) 3 (Mc (D4<|BJ 0 0 f).symm) (by kernel_rfl))<|Ja (ek:=(λ k=>.int .i64 k)) (ev:=(λ v=>.int .i64 v)) 2 3 (B4<|BJ 0 0 f) (BY i) (by kernel_rfl) (by kernel_rfl))<|sn 43 2 1<|lsS c.Before (Int.toNat 0)<|some (false,B4<|BJ 0 0 f))<|snc 0 5 2 1<|lsS c.Before (Int.toNat 0)<|some (false,B4<|BJ 0 0 f))<|ck 6<|en<|bk 2<|bx H λ Q K H=>lX G9 K (gP [0,49,50,51] [0,1,2]<|po1<|po1<|pn1 (eMr (λ k=>.int .i64 k)<|λ v=>.int .i64 v) (List.set c.Before (Int.toNat 0)<|some (false,B4<|BJ 0 0 f))<|Pl.z) rfl λ s L=>qH (by cases H;exact pL'<|rl (s':=ZK z)<|tr (L)<|gP [] [0,1,2]<|po1<|po1<|pn1 (eMr (λ k=>.int .i64 k)<|λ v=>.int .i64 v) z.Before<|Pl.z)
end
section
variable (a:Ah)
def ZS:St:=⟨(0,.agg [.d<|.str a.Arc.Print,.d<|.str a.Arc.Cells,.d<|.int .i64 a.Arc.To,.d<|.int .i64 a.More,.d<|.sl<|a.List.map Ar,.d<|.int .i64 a.First.Cost,.d<|.str a.First.Text,.d<|.str a.First.Cells])::[],[]⟩
def ZT:St:=⟨(2,.d<|.bool<|((a.List.length:Nat):Int)==0)::[],[]⟩
variable {a}
theorem ED {z} (H:DK n a=some z):Bw Try.prog 68 [.agg (DD a)] [] 0 (.d (.bool (((a.List.length:Nat):Int)==0))) []:=by
 exact fL 7 0 (ZS a) Try.func68<|sr<|ck 2<|en<|sr<|ck 2<|sp (AU Ar a.List)<|ck 2<|en<|re (by cases H;exact pL<|rl (s':=ZT a)<|sg [2])
end
section
variable (a:(List Ah)) (c:Int) (b:Int)
def ZU:St:=⟨(0,.osl 0 8 0<|a.length)::(1,.clo 68 [])::[],[some<|.arr 8<|a.map AE]⟩
def Tg:St:=⟨(4,.d<|.int .i64 c)::[],[some<|.arr 8<|a.map AE]⟩
def ZV:St:=⟨(0,.osl 0 8 0<|a.length)::(1,.clo 68 [])::(7,.d<|.int .i64 ((a.length:Nat):Int))::(8,.d<|.int .i64 b)::[],[some<|.arr 8<|a.map AE]⟩
def ZW:St:=⟨[],[some<|.arr 8<|a.map AE]⟩
def PK:(Unit⊕Int)->Ex->St->Prop:=xS (xX 1 0<|λ (_:Unit)=>ZW a)<|xL 1 ty Try.f72 (λ (y:Int)=>.d<|.int .i64 y)<|λ (_:Int)=>[some<|.arr 8<|a.map AE]
def Kh:Int->St:=(λ (x:Int)=>ZV a x)
variable {a c b}
theorem Jn (x:Int) (z:(Int⊕(Unit⊕Int))) (H:Fl n a x=some z):WP (cxk 19 1) (AR Try.f72) [1,0,1,0,0] (AT 1 (Kh a) (PK a) z) (Kh a x):=by
 revert H;generalize x=b;intro H;refine sr<|ck 1<|en<|sq<|cn H (λ H=>?_)<|λ H=>?_
 ·refine sk<|qz<|sq<|bk 1<|sr<|ck 2<|en<|sr<|ck 3<|bx H λ k e H=>sp (Bl 0 8 e)<|sp (Co AE 0 0 (ty 132) e)<|bx H λ l g H=>xc (xok _ _) [] (ED g)<|en<|cn H (λ H=>?_)<|λ H=>?_
  ·exact sr<|ck 2<|en<|re<|qR<|qr (by cases H;exact lo rfl<|rl (s':=Tg a b)<|sg [4])
  ·exact sk<|qN<|qz<|rz<|ck 2<|ae (by cases H;exact og<|sg [0,1,7,8])
 ·exact ex 0<|qx (by cases H;exact xo rfl<|sg [])
theorem Th {z} (H:Lp n a=some z):Bw Try.prog 72 [.osl 0 8 0 (a.length),.clo 68 []] [some (.arr 8 (a.map AE))] 1 (.d (.int .i64 z)) [some (.arr 8 (a.map AE))]:=by
 refine fL 19 1 (ZU a) Try.func72<|sr<|ck 1<|en<|sq<|sr<|ck 3<|en<|bk 0<|bx H λ j f H=>?_;rcases j with m|o
 ·exact lX Jn f (sg [0,1,7,8]) rfl λ s h=>qH<|qs (h)<|sr<|ck 1<|en<|re (by cases H;exact pL<|rl (s':=Tg a (-1))<|sg [4])
 ·exact lL Jn f (sg [0,1,7,8]) rfl λ s i=>qR<|qr (by cases H;exact pL i)
end
section
variable (b:(List Ah)) (i:(List Ah)) (c:(List Ah)) (j:Int) (h:Int) (l:(List Ah)) (t:Int) (f:(List Ah)) (q:Int)
def ZX:St:=⟨(0,.osl 0 8 0<|b.length)::(1,.clo 68 [])::[],[some<|.arr 8<|b.map AE]⟩
def Ti:St:=⟨(4,.osl 1 8 0<|i.length)::[],[none,some<|.arr 8<|i.map AE]⟩
def ZY:St:=⟨(0,.osl 0 8 0<|c.length)::(1,.clo 68 [])::(5,.d<|.int .i64 j)::(6,.d<|.int .i64 h)::[],[some<|.arr 8<|c.map AE]⟩
def ZZ:St:=⟨(0,.osl 0 8 0<|l.length)::(5,.d<|.int .i64 t)::[],[some<|.arr 8<|l.map AE]⟩
def Z0:St:=⟨(0,.osl 0 8 0<|f.length)::(1,.clo 68 [])::(5,.d<|.int .i64 q)::(6,.d<|.int .i64 h)::[],[some<|.arr 8<|f.map AE]⟩
def O2:((List Ah)×Int)->Ex->St->Prop:=xX 1 0<|λ (y:((List Ah)×Int))=>ZZ y.1 y.2
def Jo:((List Ah)×Int×Int)->St:=(λ (x:((List Ah)×Int×Int))=>ZY x.1 x.2.1 x.2.2)
variable {b i c j h l t f q}
theorem Nh (x:((List Ah)×Int×Int)) (z:(((List Ah)×Int×Int)⊕((List Ah)×Int))) (H:FK n x.1 x.2.1 x.2.2=some z):WP (cxk 42 1) (AR Try.f67) [1,1,1,0,1,0,0] (AT 1 (Jo) (O2) z) (Jo x):=by
 obtain⟨c,j,h⟩:=x;refine sq<|sr<|ck 4<|en<|cn H (λ H=>?_)<|λ H=>?_
 ·refine sk<|qz<|sj (λ (x:((List Ah)×Int))=>Z0 h x.1 x.2) (λ (x:((List Ah)×Int))=>Id n h x.1 x.2) z ?_ (λ a=>?_)
  ·rintro⟨f,q⟩ H;exact rz<|ck 3<|ae (by cases H;exact og<|sg [0,1,5,6])
  refine bk 1<|sr<|ck 2<|bx H λ E o H=>sp (Bl 0 8 o)<|sp (Co AE 0 0 (ty 132) o)<|ck 2<|en<|sr<|ck 2<|bx H λ G u H=>xc (xok _ _) [] (ED u)<|ck 1<|en<|cn H (λ H=>?_)<|λ H=>?_
  ·exact sr<|ck 3<|bx H λ I p H=>sp (Bl 0 8 p)<|bx H λ C e H=>stA AE 0 0 (ty 132) p e<|en<|rg (tr (tr (tr (sn 0 0 8<|Es e)<|sn 17 0 8<|Es e)<|sn 22 0 8<|Es e)<|sn 30 0 8<|Es e)<|ck 3<|ae<|qN<|qs (sg [0,1,5,6])<|a (C,(A0 .i64 j 1)) H
  ·exact sk<|qN<|qs (sg [0,1,5,6])<|a (c,j) H
 ·exact ex 0<|qx (by cases H;exact xo rfl<|sg [0,5])
theorem RP {z} (H:JL n b=some z):Bw Try.prog 67 [.osl 0 8 0 (b.length),.clo 68 []] [some (.arr 8 (b.map AE))] 1 (.osl 1 8 0 (z.length)) [none,some (.arr 8 (z.map AE))]:=by
 refine fL 42 1 (ZX b) Try.func67<|sr<|ck 1<|en<|sr<|ck 2<|bx H λ J v H=>lt [0] (Th v)<|ck 1<|en<|sq<|sr<|ck 2<|en<|cn H (λ H=>?_)<|λ H=>?_
 ·exact sr<|ck 2<|en<|re<|qr (by cases H;exact pL<|rl (s':=Ti b)<|tr (YO (k:=0) (sz:=8) 4 (b.map AE) (b.length) (by kernel_rfl) F6 leM rfl)<|sg [4])
 ·exact sk<|qz<|sq<|sr<|ck 3<|en<|bk 0<|bx H λ r w H=>lX Nh w (sg [0,1,5,6]) rfl λ s A=>qH<|qs (A)<|sr<|ck 2<|bx H λ K B H=>sp (UO 0 8 B)<|bx H λ L m H=>xzP (xok _ _) AE 0 8 (0+Int.toNat r.2) (Int.toNat ((r.1.length:Nat):Int)-Int.toNat r.2) m<|en<|sq<|rg (tr (sn 0 0 8<|S8 m)<|sn 36 0 8<|S8 m)<|ck 2<|bx H λ M g H=>sp (UO 0 8 g)<|ck 1<|en<|re (by cases H;exact pL<|rl (s':=Ti z)<|tr (YO (k:=0) (sz:=8) 4 (z.map AE) (z.length) (by kernel_rfl) (VJ g) (YS (enc:=AE) g)<|VK g)<|sg [4])
end
end Go.AI
end
section
namespace Go.AI
open Go.Proofs
set_option maxRecDepth 10000
variable {n:Nat}
section
variable (a:Int) (b:(List Ah)) (c:(List Ah))
def Z1:St:=⟨(0,.eptr 0 8 (0+Int.toNat a) 0)::[],[some<|.arr 8<|b.map AE]⟩
def Z2:St:=⟨[],[some<|.arr 8<|c.map AE]⟩
variable {a b c}
theorem HE {z} (H:DO n a b=some z):Bw Try.prog 69 [.eptr 0 8 (0+Int.toNat a) 0] [some (.arr 8 (b.map AE))] 1 (.tup []) [some (.arr 8 (z.map AE))]:=by
 exact fL 31 1 (Z1 a b) Try.func69<|rz<|ck 4<|bx H λ m d H=>sp (Co AE 0 3 (ty 3) d)<|ck 3<|bx H λ o e H=>sp (Co AE 0 4 (ty 99) e)<|bx H λ p f H=>sp (AY Ar f)<|ck 7<|bx H λ q g H=>sp (Co AE 0 0 (ty 9) g)<|ck 3<|bx H λ r h H=>sp (Co AE 0 4 (ty 99) h)<|bx H λ s i H=>sp (AY Ar i)<|ck 2<|bx H λ v j H=>sp (UM j)<|ck 3<|bx H λ t k H=>bx H λ u l H=>stA AE 0 5 (ty 102) k l<|ae (by cases H;exact pL'<|rl (s':=Z2 z)<|sg [])
end
section
variable (a:Ah) (b:Ah) (c:Int)
def Z3:St:=⟨(0,.agg [.d<|.str a.Arc.Print,.d<|.str a.Arc.Cells,.d<|.int .i64 a.Arc.To,.d<|.int .i64 a.More,.d<|.sl<|a.List.map Ar,.d<|.int .i64 a.First.Cost,.d<|.str a.First.Text,.d<|.str a.First.Cells])::(1,.agg [.d<|.str b.Arc.Print,.d<|.str b.Arc.Cells,.d<|.int .i64 b.Arc.To,.d<|.int .i64 b.More,.d<|.sl<|b.List.map Ar,.d<|.int .i64 b.First.Cost,.d<|.str b.First.Text,.d<|.str b.First.Cells])::[],[]⟩
def Z4:St:=⟨(4,.d<|.int .i64 c)::[],[]⟩
variable {a b c}
theorem Jp {z} (H:Ey n a b=some z):Bw Try.prog 71 [.agg (DD a),.agg (DD b)] [] 0 (.d (.int .i64 z)) []:=by
 exact fL 10 0 (Z3 a b) Try.func71<|sr<|ck 3<|en<|sr<|ck 4<|bx H λ f e H=>ca true (DL e)<|ck 1<|en<|re (by cases H;exact pL<|rl (s':=Z4 z)<|sg [4])
end
section
variable (a:(List Ah)) (f:Ah) (e:Ah) (c:Int) (k:Ah) (j:Ah)
def Z5:St:=⟨(0,.osl 0 8 0<|a.length)::(1,.clo 71 [])::[],[some<|.arr 8<|a.map AE]⟩
def Z6:St:=⟨(4,.ptr 1 0)::[],[some<|.arr 8<|a.map AE,some<|.box<|DD f]⟩
def Z7:St:=⟨(0,.osl 0 8 0<|a.length)::(1,.clo 71 [])::(4,.ptr 1 0)::(5,.ptr 2 0)::(6,.d<|.int .i64 c)::[],[some<|.arr 8<|a.map AE,some<|.box [.d<|.str [],.d<|.str [],.d<|.int .i64 0,.d<|.int .i64 0,.osl 3 3 0<|List.length ([]:List Af),.d<|.int .i64 0,.d<|.str [],.d<|.str []],some<|.box<|DD e,some<|.arr 3<|List.map Ar ([]:List Af)]⟩
def Z8:St:=⟨(4,.ptr 1 0)::(5,.ptr 2 0)::[],[some<|.arr 8<|a.map AE,some<|.box [.d<|.str [],.d<|.str [],.d<|.int .i64 0,.d<|.int .i64 0,.osl 3 3 0<|List.length ([]:List Af),.d<|.int .i64 0,.d<|.str [],.d<|.str []],some<|.box<|DD k,some<|.arr 3<|List.map Ar ([]:List Af)]⟩
def Z9:St:=⟨(0,.osl 0 8 0<|a.length)::(1,.clo 71 [])::(4,.ptr 1 0)::(5,.ptr 2 0)::(6,.d<|.int .i64 c)::[],[some<|.arr 8<|a.map AE,some<|.box [.d<|.str [],.d<|.str [],.d<|.int .i64 0,.d<|.int .i64 0,.osl 3 3 0<|List.length ([]:List Af),.d<|.int .i64 0,.d<|.str [],.d<|.str []],some<|.box<|DD j,some<|.arr 3<|List.map Ar ([]:List Af)]⟩
def Ni:Ah->Ex->St->Prop:=xX 1 0<|λ (y:Ah)=>Z8 a y
def ID:(Ah×Int)->St:=(λ (x:(Ah×Int))=>Z7 a x.1 x.2)
variable {a f e c k j}
theorem Mo (x:(Ah×Int)) (z:((Ah×Int)⊕Ah)) (H:E8 n a x.1 x.2=some z):WP (cxk 33 1) (AR Try.f70) [1,1,1,0,1,0,0] (AT 1 (ID a) (Ni a) z) (ID a x):=by
 obtain⟨e,c⟩:=x;refine sq<|sr<|ck 4<|en<|cn H (λ H=>?_)<|λ H=>?_
 ·refine sk<|qz<|sj (λ (x:Ah)=>Z9 a c x) (λ (x:Ah)=>E7 n c x) z ?_ (λ b=>?_)
  ·intro j H;exact rz<|ck 3<|ae (by cases H;exact og<|sg [0,1,4,5,6])
  refine bk 1<|sq<|rx 8 6 (.refl _)<|ck 3<|bx H λ q g H=>sp (Bl 0 8 g)<|sp (Co AE 0 0 (ty 132) g)<|ck 1<|mx<|bx H λ r l H=>xc (xok _ _) [] (Jp l)<|nx 8 7<|mx<|ck 1<|nz<|qz<|cn H (λ H=>?_)<|λ H=>?_
  ·exact rz<|ck 2<|bx H λ p h H=>sp (Bl 0 8 h)<|sp (Co AE 0 0 (ty 132) h)<|ck 1<|ae<|qN<|qs (sg [0,1,4,5,6])<|b p H
  ·exact sk<|qN<|qs (sg [0,1,4,5,6])<|b e H
 ·exact ex 0<|qx (by cases H;exact xo rfl<|sg [4,5])
theorem PL {z} (H:Ie n a=some z):Bw Try.prog 70 [.osl 0 8 0 (a.length),.clo 71 []] [some (.arr 8 (a.map AE))] 1 (.agg [.d (.str z.Arc.Print),.d (.str z.Arc.Cells),.d (.int .i64 z.Arc.To),.d (.int .i64 z.More),.d (.sl (z.List.map Ar)),.d (.int .i64 z.First.Cost),.d (.str z.First.Text),.d (.str z.First.Cells)]) [some (.arr 8 (a.map AE)),some (.box (DD z))]:=by
 refine fL 33 1 (Z5 a) Try.func70<|sr<|ck 1<|en<|sq<|sr<|ck 3<|en<|cn H (λ H=>?_)<|λ H=>?_
 ·cases H
 ·exact sk<|qz<|sr<|ck 1<|bx H λ t i H=>sp (Bl 0 8 i)<|sp (Co AE 0 0 (ty 132) i)<|ck 2<|en<|sq<|sr<|ck 1<|en<|bk 0<|bx H λ u m H=>lX Mo m (tr (Er 1 4 3 (by kernel_rfl))<|sg [0,1,4,5,6]) rfl λ s o=>qH<|qs (o)<|sr<|ck 2<|en<|re (by cases H;exact pL<|rl (s':=Z6 a z)<|sg [4])
end
section
variable (a:Ah) (b:Ah) (c:Bool)
def Jaa:St:=⟨(0,.agg [.d<|.str a.Arc.Print,.d<|.str a.Arc.Cells,.d<|.int .i64 a.Arc.To,.d<|.int .i64 a.More,.d<|.sl<|a.List.map Ar,.d<|.int .i64 a.First.Cost,.d<|.str a.First.Text,.d<|.str a.First.Cells])::(1,.ptr 0 0)::[],[some<|.box<|DD b]⟩
def Jab:St:=⟨(3,.d<|.bool c)::[],[some<|.box<|DD b]⟩
variable {a b c}
theorem IM {z} (H:D5 n a b=some z):Bw Try.prog 73 [.agg (DD a),.ptr 0 0] [some (.box (DD b))] 1 (.d (.bool z)) [some (.box (DD b))]:=by
 exact fL 8 1 (Jaa a b) Try.func73<|sr<|ck 2<|en<|sr<|ck 2<|bx H λ f e H=>ca false (J3 e)<|ck 2<|en<|re (by cases H;exact pL<|rl (s':=Jab b<|f==0)<|sg [3])
end
section
variable (b:Ah) (a:(List Ah)) (e:Int) (c:Int)
def Jac:St:=⟨(0,.osl 0 8 0<|a.length)::(1,.clo 73 [.ptr 1 0])::[],[some<|.arr 8<|a.map AE,some<|.box<|DD b]⟩
def Tj:St:=⟨(4,.d<|.int .i64 e)::[],[some<|.arr 8<|a.map AE,some<|.box<|DD b]⟩
def Jad:St:=⟨(0,.osl 0 8 0<|a.length)::(1,.clo 73 [.ptr 1 0])::(7,.d<|.int .i64 ((a.length:Nat):Int))::(8,.d<|.int .i64 c)::[],[some<|.arr 8<|a.map AE,some<|.box<|DD b]⟩
def Jae:St:=⟨[],[some<|.arr 8<|a.map AE,some<|.box<|DD b]⟩
def Mp:(Unit⊕Int)->Ex->St->Prop:=xS (xX 2 0<|λ (_:Unit)=>Jae b a)<|xL 2 ty Try.f72 (λ (y:Int)=>.d<|.int .i64 y)<|λ (_:Int)=>[some<|.arr 8<|a.map AE,some<|.box<|DD b]
def HF:Int->St:=(λ (x:Int)=>Jad b a x)
variable {b a e c}
theorem GU (x:Int) (z:(Int⊕(Unit⊕Int))) (H:Ez n b a x=some z):WP (cxk 19 2) (AR Try.f72) [1,0,1,0,0] (AT 2 (HF b a) (Mp b a) z) (HF b a x):=by
 revert H;generalize x=c;intro H;refine sr<|ck 1<|en<|sq<|cn H (λ H=>?_)<|λ H=>?_
 ·refine sk<|qz<|sq<|bk 1<|sr<|ck 2<|en<|sr<|ck 3<|bx H λ l f H=>sp (Bl 0 8 f)<|sp (Co AE 0 0 (ty 132) f)<|bx H λ m h H=>xc (xok _ _) [1] (IM h)<|en<|cn H (λ H=>?_)<|λ H=>?_
  ·exact sr<|ck 2<|en<|re<|qR<|qr (by cases H;exact lo rfl<|rl (s':=Tj b a c)<|sg [4])
  ·exact sk<|qN<|qz<|rz<|ck 2<|ae (by cases H;exact og<|sg [0,1,7,8])
 ·exact ex 0<|qx (by cases H;exact xo rfl<|sg [])
theorem O3 {z} (H:GO n b a=some z):Bw Try.prog 72 [.osl 0 8 0 (a.length),.clo 73 [.ptr 1 0]] [some (.arr 8 (a.map AE)),some (.box (DD b))] 2 (.d (.int .i64 z)) [some (.arr 8 (a.map AE)),some (.box (DD b))]:=by
 refine fL 19 2 (Jac b a) Try.func72<|sr<|ck 1<|en<|sq<|sr<|ck 3<|en<|bk 0<|bx H λ k g H=>?_;rcases k with o|p
 ·exact lX GU g (sg [0,1,7,8]) rfl λ s i=>qH<|qs (i)<|sr<|ck 1<|en<|re (by cases H;exact pL<|rl (s':=Tj b a (-1))<|sg [4])
 ·exact lL GU g (sg [0,1,7,8]) rfl λ s j=>qR<|qr (by cases H;exact pL j)
end
theorem Xt {n:Nat} {b c:Int} {a:(List Ah)} {z:(List Ah)} (H:RE n b c a=some z):Bw Try.prog 74 [.osl 0 8 0 (a.length),.d (.int .i64 b),.d (.int .i64 c)] [some (.arr 8 (a.map AE))] 1 (.osl 1 8 0 (z.length)) [none,some (.arr 8 (z.map AE))]:=Zs (λ _=>rfl) H
theorem Tk {n:Nat} {a:(List Af)} {z:(List Af)} (H:Jd n a=some z):Bw Try.prog 75 [.osl 0 3 0 (a.length),.clo 76 []] [some (.arr 3 (a.map Ar))] 1 (.tup []) [some (.arr 3 (z.map Ar))]:=U4 Jit (by decide) Try.isAgg102 Try.sizeOf102 (enc:=Ar) (λ _=>rfl) (λ x d hd=>by simp only[Ar,List.mem_cons,List.not_mem_nil,or_false]at hd;rcases hd with rfl|rfl|rfl<;>rfl) (RD Try.func76) (λ h=>DL h) ⟨_,_,Try.func75,rfl,rfl⟩ H
section
variable (l:Int) (f:Aa) (I:(List Ah)) (B:(List Af)) (w:(List Ah)) (o:(List Ah)) (C:Int) (r:(List Ah)) (j:(List Ah)) (e:(List ((List UInt8)×Af))) (t:(List ((List UInt8)×Af))) (A:Int) (s:(List ((List UInt8)×Af))) (J:(List ((List UInt8)×Af))) (p:(List Af)) (q:(List Af))
def Jaf:St:=⟨(0,.ptr 0 0)::(1,.osl 1 8 0<|I.length)::(2,.d<|.int .i64 l)::[],[some<|.box<|Am f (.osl 2 1 0<|f.Accepts.length)<|.osl 3 1 0<|f.Before.length,some<|.arr 8<|I.map AE,some<|.arr 1<|f.Accepts.map eB,some<|.narr 1<|List.map (eMr (λ k=>.int .i64 k)<|λ v=>.int .i64 v) f.Before]⟩
def Jag:St:=⟨(6,.osl 4 3 0<|B.length)::[],[some<|.box<|Am f (.osl 2 1 0<|f.Accepts.length)<|.osl 3 1 0<|f.Before.length,none,some<|.arr 1<|f.Accepts.map eB,some<|.narr 1<|List.map (eMr (λ k=>.int .i64 k)<|λ v=>.int .i64 v) f.Before,some<|.arr 3<|B.map Ar]⟩
def Jah:St:=⟨(0,.ptr 0 0)::(1,.osl 4 8 0<|o.length)::(2,.d<|.int .i64 l)::(21,.d<|.int .i64 ((w.length:Nat):Int))::(22,.d<|.int .i64 C)::[],[some<|.box<|Am f (.osl 2 1 0<|f.Accepts.length)<|.osl 3 1 0<|f.Before.length,none,some<|.arr 1<|f.Accepts.map eB,some<|.narr 1<|List.map (eMr (λ k=>.int .i64 k)<|λ v=>.int .i64 v) f.Before,some<|.arr 8<|o.map AE]⟩
def Jai:St:=⟨(0,.ptr 0 0)::(1,.osl 4 8 0<|r.length)::(2,.d<|.int .i64 l)::[],[some<|.box<|Am f (.osl 2 1 0<|f.Accepts.length)<|.osl 3 1 0<|f.Before.length,none,some<|.arr 1<|f.Accepts.map eB,some<|.narr 1<|List.map (eMr (λ k=>.int .i64 k)<|λ v=>.int .i64 v) f.Before,some<|.arr 8<|r.map AE]⟩
def IN:(List Ah)->Ex->St->Prop:=xX 4 0<|λ (y:(List Ah))=>Jai l f y
def EJ:((List Ah)×Int)->St:=(λ (x:((List Ah)×Int))=>Jah l f w x.1 x.2)
def Jaj:St:=⟨(0,.ptr 0 0)::(1,.osl 4 8 0<|j.length)::(2,.d<|.int .i64 l)::(8,.mp 5)::[],[some<|.box<|Am f (.osl 2 1 0<|f.Accepts.length)<|.osl 3 1 0<|f.Before.length,none,some<|.arr 1<|f.Accepts.map eB,some<|.narr 1<|List.map (eMr (λ k=>.int .i64 k)<|λ v=>.int .i64 v) f.Before,some<|.arr 8<|j.map AE,some<|.map false true<|Bp eS Ar e]⟩
def Jak:St:=⟨(8,.mp 4)::[],[some<|.box<|Am f (.osl 2 1 0<|f.Accepts.length)<|.osl 3 1 0<|f.Before.length,none,some<|.arr 1<|f.Accepts.map eB,some<|.narr 1<|List.map (eMr (λ k=>.int .i64 k)<|λ v=>.int .i64 v) f.Before,some<|.map false true<|Bp eS Ar t]⟩
def Jal:St:=⟨(0,.ptr 0 0)::(1,.osl 4 8 0<|j.length)::(2,.d<|.int .i64 l)::(8,.mp 5)::(10,.d<|.int .i64 A)::(11,.eptr 4 8 (0+Int.toNat A) 0)::[],[some<|.box<|Am f (.osl 2 1 0<|f.Accepts.length)<|.osl 3 1 0<|f.Before.length,none,some<|.arr 1<|f.Accepts.map eB,some<|.narr 1<|List.map (eMr (λ k=>.int .i64 k)<|λ v=>.int .i64 v) f.Before,some<|.arr 8<|j.map AE,some<|.map false true<|Bp eS Ar s]⟩
def IP:(List<|(List UInt8)×Af)->Ex->St->Prop:=xX 4 2<|λ (y:(List<|(List UInt8)×Af))=>Jak f y
def EK:((List Ah)×(List<|(List UInt8)×Af))->St:=(λ (x:((List Ah)×(List<|(List UInt8)×Af)))=>Jaj l f x.1 x.2)
def Jam:St:=⟨(15,.osl 4 3 0<|p.length)::(126,.ptr 5 0)::[],[some<|.box<|Am f (.osl 2 1 0<|f.Accepts.length)<|.osl 3 1 0<|f.Before.length,none,some<|.arr 1<|f.Accepts.map eB,some<|.narr 1<|List.map (eMr (λ k=>.int .i64 k)<|λ v=>.int .i64 v) f.Before,some<|.arr 3<|p.map Ar,some<|.iter false true none<|Bp eS Ar J]⟩
def Jan:St:=⟨(15,.osl 4 3 0<|q.length)::[],[some<|.box<|Am f (.osl 2 1 0<|f.Accepts.length)<|.osl 3 1 0<|f.Before.length,none,some<|.arr 1<|f.Accepts.map eB,some<|.narr 1<|List.map (eMr (λ k=>.int .i64 k)<|λ v=>.int .i64 v) f.Before,some<|.arr 3<|q.map Ar]⟩
def EL:Empty->Ex->St->Prop:=(λ (_:Empty) _ _=>False)
variable {l f I B w o C r j e t A s J p q}
theorem Ij (x:((List Ah)×Int)) (z:(((List Ah)×Int)⊕(List Ah))) (H:BT n l f w x.1 x.2=some z):WP (cxk 138 4) (AR Try.f57) [1,1,0,1,0,0] (AT 4 (EJ l f w) (IN l f) z) (EJ l f w x):=by
 obtain⟨o,C⟩:=x;refine sr<|ck 1<|en<|sq<|cn H (λ H=>?_)<|λ H=>?_
 ·exact sk<|qz<|sq<|bk 1<|sr<|ck 2<|en<|rz<|ck 2<|bx H λ aa K H=>sp (Bl 4 8 K)<|bx H λ ab L H=>lt [4] (HE L)<|bx H λ _ E H=>ae<|qN<|qz<|rg (tr (sn 1 4 8<|Ht E)<|sn 25 4 8<|Ht E)<|ck 2<|ae (by cases H;exact og<|gP [0,1,2,21,22] [0,1,2,3,4]<|po1<|po1<|po1<|pn1 (eMr (λ k=>.int .i64 k)<|λ v=>.int .i64 v) f.Before<|po1<|Pl.z)
 ·exact ex 0<|qx (by cases H;exact xo rfl<|gP [0,1,2] [0,1,2,3,4]<|po1<|po1<|po1<|pn1 (eMr (λ k=>.int .i64 k)<|λ v=>.int .i64 v) f.Before<|po1<|Pl.z)
theorem Ik (x:((List Ah)×(List ((List UInt8)×Af)))) (z:(((List Ah)×(List ((List UInt8)×Af)))⊕(List ((List UInt8)×Af)))) (H:Ce n l f x.1 x.2=some z):WP (cxk 138 4) (AR Try.f57) [1,1,1,1,0,0,0] (AT 4 (EK l f) (IP f) z) (EK l f x):=by
 obtain⟨j,e⟩:=x;refine sq<|sr<|ck 3<|en<|cn H (λ H=>?_)<|λ H=>?_
 ·refine sk<|qz<|bk 3<|sr<|ck 1<|bx H λ ac M H=>lt [4] (PL M)<|ck 2<|en<|sr<|ck 1<|xm (xok _ _)<|bx H λ A O H=>lt [4,7] (O3 O)<|ck 1<|en<|sr<|ck 2<|bx H λ h u H=>sp (Bl 4 8 u)<|ck 1<|en<|sr<|ck 3<|sp (Co AE 4 5 (ty 102) u)<|ck 2<|en<|sr<|ck 3<|sp (Lm (enc:=Ar) (encK:=eS) (ka:=false) (va:=true) (k:=5) (m:=e) (a:=.d<|.str h.First.Text) (key:=h.First.Text) (z:=(⟨0,[],[]⟩:Af)) (vz:=[.int .i64 0,.str [],.str []]) Jhg true)<|ck 6<|en<|sq<|sr<|ck 6<|gc 2 (!(decide<|h.First.Cost>l))<|ck 1<|sE (g:=((!(decide<|h.First.Cost>l))&&(!(Option.isSome<|AO h.First.Text e)))) (λ hg=>Jcw eS Ar e)<|ck 1<|gc 4 ((!(decide<|h.First.Cost>l))&&(!(Option.isSome<|AO h.First.Text e)))<|pG (g:=(!(decide<|h.First.Cost>l))) (v:=.d<|.bool<|(!(Option.isSome<|AO h.First.Text e))&&(((e.length:Nat):Int)==f.Most)) (λ hg=>Hs (c:=.gv (!(decide<|h.First.Cost>l))<|.d<|.bool<|!(Option.isSome<|AO h.First.Text e)) (a:=.gv ((!(decide<|h.First.Cost>l))&&(!(Option.isSome<|AO h.First.Text e)))<|.d<|.bool<|((e.length:Nat):Int)==f.Most) (b:=.d<|.bool false) rfl rfl rfl ((λ hh=>hh) hg) (λ ht=>by rw[(λ hh=>hh) hg,ht];rfl) trivial)<|pO<|en<|cn H (λ H=>?_)<|λ H=>?_
  ·exact ex 2<|qx<|qX rfl (by cases H;exact xo rfl<|gP [8] [0,1,2,3,5]<|po1<|po1<|po1<|pn1 (eMr (λ k=>.int .i64 k)<|λ v=>.int .i64 v) f.Before<|po1<|Pl.z)
  ·refine sk<|qz<|sr<|ck 4<|sp (Co AE 4 1 (ty 9) u)<|ck 3<|sp (Co AE 4 4 (ty 99) u)<|bx H λ af P H=>sp (AY Ar P)<|ck 2<|bx H λ Q R H=>sp (UM R)<|ck 2<|en<|sj (λ (x:(List<|(List UInt8)×Af))=>Jal l f j A x) (λ (x:(List<|(List UInt8)×Af))=>BU n j A x) z ?_ (λ i=>?_)
   ·intro s H;refine sr<|ck 4<|bx H λ ag S H=>sp (Co AE 4 4 (ty 99) S)<|bx H λ ah T H=>sp (Jco Ar 3 T)<|ck 2<|bx H λ ai U H=>bx H λ aj G H=>stA AE 4 4 (ty 99) U G<|en<|sq<|rg (sn 1 4 8<|Es G)<|ck 3<|bx H λ Z V H=>sp (Co AE 4 4 (ty 99) V)<|sp (AU Ar Z.List)<|ck 1<|en<|cn H (λ H=>?_)<|λ H=>?_
    ·exact rz<|ck 1<|bx H λ ak W H=>lt [4] (HE W)<|bx H λ _ X H=>ae<|qN (by cases H;exact og<|tr (sn 1 4 8<|Ht X)<|gP [0,1,2,8] [0,1,2,3,4,5]<|po1<|po1<|po1<|pn1 (eMr (λ k=>.int .i64 k)<|λ v=>.int .i64 v) f.Before<|po1<|po1<|Pl.z)
    ·exact rz<|ck 4<|bx H λ al Y H=>lt [4] (Xt Y)<|ck 1<|ae<|qN (by cases H;exact og<|gP [0,1,2,8] [0,1,2,3,6,5]<|po1<|po1<|po1<|pn1 (eMr (λ k=>.int .i64 k)<|λ v=>.int .i64 v) f.Before<|po1<|po1<|Pl.z)
   refine sr<|ck 4<|gc 1 (!(!(Option.isSome<|AO h.First.Text e)))<|ck 1<|gc 3 (!(!(Option.isSome<|AO h.First.Text e)))<|ck 1<|gc 1 ((!(!(Option.isSome<|AO h.First.Text e)))&&(((Option.getD (AO h.First.Text e) (⟨0,[],[]⟩:Af)).Cost)==h.First.Cost))<|ck 1<|gc 2 ((!(!(Option.isSome<|AO h.First.Text e)))&&(((Option.getD (AO h.First.Text e) (⟨0,[],[]⟩:Af)).Cost)==h.First.Cost))<|pG (g:=(!(!(Option.isSome<|AO h.First.Text e)))) (v:=.d<|.bool<|(((Option.getD (AO h.First.Text e) (⟨0,[],[]⟩:Af)).Cost)==h.First.Cost)&&(Op.bytesLess Q<|(Option.getD (AO h.First.Text e) (⟨0,[],[]⟩:Af)).Cells)) (λ hg=>Hs (c:=.gv (!(!(Option.isSome<|AO h.First.Text e)))<|.d<|.bool<|((Option.getD (AO h.First.Text e) (⟨0,[],[]⟩:Af)).Cost)==h.First.Cost) (a:=.gv ((!(!(Option.isSome<|AO h.First.Text e)))&&(((Option.getD (AO h.First.Text e) (⟨0,[],[]⟩:Af)).Cost)==h.First.Cost))<|.d<|.bool<|Op.bytesLess Q<|(Option.getD (AO h.First.Text e) (⟨0,[],[]⟩:Af)).Cells) (b:=.d<|.bool false) rfl rfl rfl ((λ hh=>hh) hg) (λ ht=>by rw[(λ hh=>hh) hg,ht];rfl) trivial)<|pO<|en<|cn H (λ H=>?_)<|λ H=>?_
   ·exact rz<|ck 4<|sp (Nx (enc:=Ar) (encK:=eS) (ka:=false) (va:=true) (k:=5) (m:=e) (a:=.d<|.str h.First.Text) (key:=h.First.Text) (y:=({ Cost:=h.First.Cost,Text:=h.First.Text,Cells:=Q }:Af)) (v:=.agg [.d<|.int .i64 h.First.Cost,.d<|.str h.First.Text,.d<|.str Q]) (vz:=[.int .i64 0,.str [],.str []]) Jhg)<|ae<|qs (gP [0,1,2,8,10,11] [0,1,2,3,4,5]<|po1<|po1<|po1<|pn1 (eMr (λ k=>.int .i64 k)<|λ v=>.int .i64 v) f.Before<|po1<|po1<|Pl.z)<|i (BJ h.First.Text ({ Cost:=h.First.Cost,Text:=h.First.Text,Cells:=Q }:Af) e) H
   ·exact sk<|qs (gP [0,1,2,8,10,11] [0,1,2,3,4,5]<|po1<|po1<|po1<|pn1 (eMr (λ k=>.int .i64 k)<|λ v=>.int .i64 v) f.Before<|po1<|po1<|Pl.z)<|i e H
 ·exact ex 2<|qx (by cases H;exact xo rfl<|gP [8] [0,1,2,3,5]<|po1<|po1<|po1<|pn1 (eMr (λ k=>.int .i64 k)<|λ v=>.int .i64 v) f.Before<|po1<|Pl.z)
end
def EE (a:Aa):(List Af)->Ex->St->Prop:=(λ (x:(List Af))=>xX 4 4 (λ (y:(List Af))=>Jan a y) x)
section
variable (a:Aa) (c:Int) (b:(List Ah))
def EM:(List<|(List UInt8)×Af)->(List Af)->St:=(λ (l:(List<|(List UInt8)×Af)) (x:(List Af))=>Jam a l x)
variable {a c b}
theorem Il (g:(List ((List UInt8)×Af))) (x:(List Af)) (hz:∀ e,e∈g->∃ z,Bx n e x=some z):WP (cxk 138 4) (AR Try.f57) [1,1,1,1,1,1,0,1,0,0] (Xj 4 (EM a) (EE a) (EL) (λ (e:((List UInt8)×Af)) (x:(List Af))=>Bx n e x) g x) (EM a g x):=by
 revert hz;generalize x=h;intro hz;refine sq<|rn 0 (.refl _)<|nd0<|nxt (yok _ _) (encK:=eS) (enc:=Ar) (ka:=false) (va:=true) 5 (λ hl=>?_)<|λ e2 w y hl2=>bE (hz e2<|Jd6 hl2) λ z hF=>?_
 ·exact ck 1<|en<|sq<|cF<|ex 4<|qx<|mE hl rfl<|gP [15] [0,1,2,3,4]<|po1<|po1<|po1<|pn1 (eMr (λ k=>.int .i64 k)<|λ v=>.int .i64 v) a.Before<|po1<|Pl.z
 ·have H:=hF;exact ck 1<|en<|sq<|cT<|sk<|qz<|bk 5<|sr<|xr (xok _ _)<|ck 3<|en<|rz<|ck 3<|bx H λ A i H=>sp (Cf Ar 4 3 i)<|ck 1<|ae<|qN (by cases H;exact mg hl2 hF<|tr (VR 5 (by kernel_rfl))<|gP [15,126] [0,1,2,3,8,5]<|po1<|po1<|po1<|pn1 (eMr (λ k=>.int .i64 k)<|λ v=>.int .i64 v) a.Before<|po1<|po1<|Pl.z)
theorem J8 {z} (H:CJ n c a b=some z):Bw Try.prog 57 [.ptr 0 0,.osl 1 8 0 (b.length),.d (.int .i64 c)] [some (.box (Am a (.osl 2 1 0 (a.Accepts.length)) (.osl 3 1 0 (a.Before.length)))),some (.arr 8 (b.map AE)),some (.arr 1 (a.Accepts.map eB)),some (.narr 1 (List.map (eMr (λ k=>.int .i64 k) (λ v=>.int .i64 v)) a.Before))] 4 (.osl 4 3 0 (z.length)) [some (.box (Am a (.osl 2 1 0 (a.Accepts.length)) (.osl 3 1 0 (a.Before.length)))),none,some (.arr 1 (a.Accepts.map eB)),some (.narr 1 (List.map (eMr (λ k=>.int .i64 k) (λ v=>.int .i64 v)) a.Before)),some (.arr 3 (z.map Ar))]:=by
 refine fL 138 4 (Jaf c a b) Try.func57<|sr<|ck 1<|en<|sr<|ck 1<|bx H λ B j H=>lt [1] (RP j)<|ck 1<|en<|sq<|sr<|ck 3<|en<|bk 0<|bx H λ C m H=>lX Ij m (gP [0,1,2,21,22] [0,1,2,3,4]<|po1<|po1<|po1<|pn1 (eMr (λ k=>.int .i64 k)<|λ v=>.int .i64 v) a.Before<|po1<|Pl.z) rfl λ s o=>qH<|qs (o)<|sr<|ck 2<|en<|sq<|bk 2<|bx H λ G p H=>lX Ik p (gP [0,1,2,8] [0,1,2,3,4,5]<|po1<|po1<|po1<|pn1 (eMr (λ k=>.int .i64 k)<|λ v=>.int .i64 v) a.Before<|po1<|po1<|Pl.z) rfl λ s q=>qH<|qs (q)<|sr<|ck 1<|en<|sq<|sr<|ck 1<|xr (xok _ _)<|en<|bk 4 ?_;have hD:=Rv H;refine lM (F:=(λ (e:((List UInt8)×Af)) (x:(List Af))=>Bx n e x)) (E:=EL) (E0:=EE a) Il (tr (An.nilo 15 3 (by kernel_rfl))<|gP [15,126] [0,1,2,3,6,5]<|po1<|po1<|po1<|pn1 (eMr (λ k=>.int .i64 k)<|λ v=>.int .i64 v) a.Before<|po1<|po1<|Pl.z) (λ ord ho=>bI<|hD ord ho) (λ ord I ho hy e s hE=>xQ hE<|λ he t=>?_)<|λ ord r ho hy e s hE=>?_
 ·subst he;have H:=bK (hD ord ho) hy;exact qH<|qs (t)<|sr<|ck 1<|bx H λ J u H=>lt [4] (Tk u)<|bx H λ _ f H=>en<|sq<|rg (tr (sn 15 4 3<|Ht f)<|sn 135 4 3<|Ht f)<|ck 2<|en<|re (by cases H;exact pL<|rl (s':=Jag a z)<|gP [6] [0,1,2,3,4]<|po1<|po1<|po1<|pn1 (eMr (λ k=>.int .i64 k)<|λ v=>.int .i64 v) a.Before<|po1<|Pl.z)
 ·cases r
end
section
variable (J:Aa) (s:Aa) (M:(List Af)) (u:Aa) (C:(List (Option (Bool×(List (Int×(List Af))))))) (c:Int) (w:Aa) (E:(List (Option (Bool×(List (Int×(List Af))))))) (O:(List (Int×Int))) (b:Aa) (o:(List (Option (Bool×(List (Int×(List Af))))))) (A:Aa) (G:(List (Option (Bool×(List (Int×(List Af))))))) (e3:(Int×Int)) (l33:(List (Int×Int))) (l34:(List (Int×Int))) (p:(List Ah)) (r:(List G4)) (g:(List (Option (Bool×(List (Int×(List Af))))))) (h:(List Ah)) (B:Int) (I:(List (Option (Bool×(List (Int×(List Af))))))) (q:(List Ah)) (i:(List (Option (Bool×(List (Int×(List Af))))))) (l:(List Ah))
def Jao:St:=⟨(0,.ptr 0 0)::[],[some<|.box<|Am J (.osl 1 1 0<|J.Accepts.length)<|.osl 2 1 0<|J.Before.length,some<|.arr 1<|J.Accepts.map eB,some<|.narr 1<|List.map (eMr (λ k=>.int .i64 k)<|λ v=>.int .i64 v) J.Before]⟩
def Jap:St:=⟨(2,.d<|.sl<|M.map Ar)::[],[some<|.box<|Am s (.osl 1 1 0<|s.Accepts.length)<|.osl 2 1 0<|s.Before.length,some<|.arr 1<|s.Accepts.map eB,some<|.narr 1<|List.map (eMr (λ k=>.int .i64 k)<|λ v=>.int .i64 v) s.Before]⟩
def Jaq:St:=⟨(0,.ptr 0 0)::(3,.eptr 3 1 0 0)::(4,.d<|.int .i64 c)::[],[some<|.box<|Am u (.osl 1 1 0<|u.Accepts.length)<|.osl 2 1 0<|u.Before.length,some<|.arr 1<|u.Accepts.map eB,some<|.narr 1<|List.map (eMr (λ k=>.int .i64 k)<|λ v=>.int .i64 v) u.Before,some<|.narr 1<|List.map (eMr (λ k=>.int .i64 k)<|λ v=>.sl<|List.map Ar v) C]⟩
def Jar:St:=⟨(3,.eptr 3 1 0 0)::[],[some<|.box<|Am w (.osl 1 1 0<|w.Accepts.length)<|.osl 2 1 0<|w.Before.length,some<|.arr 1<|w.Accepts.map eB,some<|.narr 1<|List.map (eMr (λ k=>.int .i64 k)<|λ v=>.int .i64 v) w.Before,some<|.narr 1<|List.map (eMr (λ k=>.int .i64 k)<|λ v=>.sl<|List.map Ar v) E]⟩
def Jas:St:=⟨(0,.ptr 0 0)::(3,.eptr 3 1 0 0)::(4,.d<|.int .i64 c)::(34,.ptr 4 0)::[],[some<|.box<|Am b (.osl 1 1 0<|b.Accepts.length)<|.osl 2 1 0<|b.Before.length,some<|.arr 1<|b.Accepts.map eB,some<|.narr 1<|List.map (eMr (λ k=>.int .i64 k)<|λ v=>.int .i64 v) b.Before,some<|.narr 1<|List.map (eMr (λ k=>.int .i64 k)<|λ v=>.sl<|List.map Ar v) o,some<|.iter false false none<|Bp AX AX O]⟩
def Jat:St:=⟨(0,.ptr 0 0)::(3,.eptr 3 1 0 0)::(4,.d<|.int .i64 c)::[],[some<|.box<|Am A (.osl 1 1 0<|A.Accepts.length)<|.osl 2 1 0<|A.Before.length,some<|.arr 1<|A.Accepts.map eB,some<|.narr 1<|List.map (eMr (λ k=>.int .i64 k)<|λ v=>.int .i64 v) A.Before,some<|.narr 1<|List.map (eMr (λ k=>.int .i64 k)<|λ v=>.sl<|List.map Ar v) G]⟩
def Jau:St:=⟨(0,.ptr 0 0)::(3,.eptr 3 1 0 0)::(4,.d<|.int .i64 c)::(5,.d<|.int .i64 e3.1)::(6,.d<|.int .i64 e3.2)::(7,.osl 4 8 0<|p.length)::(34,.ptr 5 0)::[],[some<|.box<|Am b (.osl 1 1 0<|b.Accepts.length)<|.osl 2 1 0<|b.Before.length,some<|.arr 1<|b.Accepts.map eB,some<|.narr 1<|List.map (eMr (λ k=>.int .i64 k)<|λ v=>.int .i64 v) b.Before,some<|.narr 1<|List.map (eMr (λ k=>.int .i64 k)<|λ v=>.sl<|List.map Ar v) o,some<|.arr 8<|p.map AE,some<|.iter false false none<|Bp AX AX<|l33++l34]⟩
def Jav:St:=⟨(0,.ptr 0 0)::(3,.eptr 3 1 0 0)::(4,.d<|.int .i64 c)::(5,.d<|.int .i64 e3.1)::(6,.d<|.int .i64 e3.2)::(7,.osl 4 8 0<|h.length)::(34,.ptr 5 0)::(68,.d<|.sl<|r.map Bz)::(69,.d<|.int .i64 ((r.length:Nat):Int))::(70,.d<|.int .i64 B)::[],[some<|.box<|Am b (.osl 1 1 0<|b.Accepts.length)<|.osl 2 1 0<|b.Before.length,some<|.arr 1<|b.Accepts.map eB,some<|.narr 1<|List.map (eMr (λ k=>.int .i64 k)<|λ v=>.int .i64 v) b.Before,some<|.narr 1<|List.map (eMr (λ k=>.int .i64 k)<|λ v=>.sl<|List.map Ar v) g,some<|.arr 8<|h.map AE,some<|.iter false false none<|Bp AX AX<|l33++l34]⟩
def Jaw:St:=⟨(0,.ptr 0 0)::(3,.eptr 3 1 0 0)::(4,.d<|.int .i64 c)::(5,.d<|.int .i64 e3.1)::(6,.d<|.int .i64 e3.2)::(7,.osl 4 8 0<|q.length)::(34,.ptr 5 0)::[],[some<|.box<|Am b (.osl 1 1 0<|b.Accepts.length)<|.osl 2 1 0<|b.Before.length,some<|.arr 1<|b.Accepts.map eB,some<|.narr 1<|List.map (eMr (λ k=>.int .i64 k)<|λ v=>.int .i64 v) b.Before,some<|.narr 1<|List.map (eMr (λ k=>.int .i64 k)<|λ v=>.sl<|List.map Ar v) I,some<|.arr 8<|q.map AE,some<|.iter false false none<|Bp AX AX<|l33++l34]⟩
def Xu:St:=⟨(0,.ptr 0 0)::(3,.eptr 3 1 0 0)::(4,.d<|.int .i64 c)::(5,.d<|.int .i64 e3.1)::(6,.d<|.int .i64 e3.2)::(7,.osl 4 8 0<|l.length)::(34,.ptr 5 0)::(68,.d<|.sl<|r.map Bz)::(69,.d<|.int .i64 ((r.length:Nat):Int))::(70,.d<|.int .i64 B)::[],[some<|.box<|Am b (.osl 1 1 0<|b.Accepts.length)<|.osl 2 1 0<|b.Before.length,some<|.arr 1<|b.Accepts.map eB,some<|.narr 1<|List.map (eMr (λ k=>.int .i64 k)<|λ v=>.int .i64 v) b.Before,some<|.narr 1<|List.map (eMr (λ k=>.int .i64 k)<|λ v=>.sl<|List.map Ar v) i,some<|.arr 8<|l.map AE,some<|.iter false false none<|Bp AX AX<|l33++l34]⟩
def Ha:((List<|Option<|Bool×(List<|Int×(List Af)))×(List Ah))->Ex->St->Prop:=xX 3 4<|λ (y:((List<|Option<|Bool×(List<|Int×(List Af)))×(List Ah)))=>Jaw c b e3 l33 l34 y.1 y.2
def DS:((List<|Option<|Bool×(List<|Int×(List Af)))×(List Ah)×Int)->St:=(λ (x:((List<|Option<|Bool×(List<|Int×(List Af)))×(List Ah)×Int))=>Jav c b e3 l33 l34 r x.1 x.2.1 x.2.2)
def DT:Empty->Ex->St->Prop:=(λ (_:Empty) _ _=>False)
variable {J s M u C c w E O b o A G e3 l33 l34 p r g h B I q i l}
theorem Gv (x:((List (Option (Bool×(List (Int×(List Af))))))×(List Ah)×Int)) (z:(((List (Option (Bool×(List (Int×(List Af))))))×(List Ah)×Int)⊕((List (Option (Bool×(List (Int×(List Af))))))×(List Ah)))) (H:Bs n c b e3 r x.1 x.2.1 x.2.2=some z):WP (cxk 123 3) (AR Try.f42) [1,1,0,1,0,0,1,0,0,1,1,0,0,1,1,0,1,1,1,0,1,0,0] (AT 3 (DS c b e3 l33 l34 r) (Ha c b e3 l33 l34) z) (DS c b e3 l33 l34 r x):=by
 obtain⟨g,h,B⟩:=x;refine sr<|ck 1<|en<|sq<|cn H (λ H=>?_)<|λ H=>?_
 ·refine sk<|qz<|sj (λ (x:((List<|Option<|Bool×(List<|Int×(List Af)))×(List Ah)))=>Xu c b e3 l33 l34 r B x.1 x.2) (λ (x:((List<|Option<|Bool×(List<|Int×(List Af)))×(List Ah)))=>C0 n B x.1 x.2) z ?_ (λ e=>?_)
  ·rintro⟨i,l⟩ H;exact rz<|ck 2<|ae (by cases H;exact og<|gP [0,3,4,5,6,7,34,68,69,70] [0,1,2,3,4,5]<|po1<|po1<|pn1 (eMr (λ k=>.int .i64 k)<|λ v=>.int .i64 v) b.Before<|pn1 (eMr (λ k=>.int .i64 k)<|λ v=>.sl<|List.map Ar v) i<|po1<|po1<|Pl.z)
  refine bk 5<|sr<|bx H λ K P H=>sp (AY Bz P)<|ck 3<|en<|sr<|ck 4<|bx H λ V Q H=>ltP [0,1,2] (Gj Q) (po1<|po1<|pn1 (eMr (λ k=>.int .i64 k)<|λ v=>.int .i64 v) b.Before<|Pl.z)<|tb (f:=EI<|Cw [0,1,2] 7 3) [some<|.box<|Am b (.osl 1 1 0<|b.Accepts.length)<|.osl 2 1 0<|b.Before.length,some<|.arr 1<|b.Accepts.map eB,some<|.narr 1<|List.map (eMr (λ k=>.int .i64 k)<|λ v=>.int .i64 v) b.Before,some<|.narr 1<|List.map (eMr (λ k=>.int .i64 k)<|λ v=>.sl<|List.map Ar v) g,some<|.arr 8<|h.map AE,some<|.iter false false none<|Bp AX AX<|l33++l34,some<|.box<|Jhf K] (po1<|po1<|pn1 (eMr (λ k=>.int .i64 k)<|λ v=>.int .i64 v) b.Before<|po1<|po1<|po1<|po1<|Pl.z)<|ck 5<|en<|sr<|ck 1<|en<|cn H (λ H=>?_)<|λ H=>?_
  ·exact sq<|bx H λ T L H=>rg (OL (ek:=(λ k=>.int .i64 k)) (ev:=(λ v=>.sl<|List.map Ar v)) 3 (BY L) (by kernel_rfl))<|ck 6<|bx H λ W R H=>sp (Nv 3 1 0 5 (j:=0) R)<|sp (Ib (encN:=(eMr (λ k=>.int .i64 k)<|λ v=>.sl<|List.map Ar v)) (row:=[.mp 7]) (k:=3) (sz:=1) (off:=0) (t:=ty 128) (v:=.mp 7)<|BY L)<|ck 2<|sp (Lm (enc:=(eL Ar)) (encK:=AX) (ka:=false) (va:=false) (k:=7) (m:=T) (a:=.d<|.int .i64 K.To) (key:=K.To) (z:=([]:(List Af))) (vz:=[.nil]) Xo false)<|ck 1<|en<|rg (Ja (ek:=(λ k=>.int .i64 k)) (ev:=(λ v=>.sl<|List.map Ar v)) 3 7 T (BY L) (by kernel_rfl) (by kernel_rfl))<|ck 6<|bx H λ U S H=>sp (Cf AE 4 8 S)<|ck 1<|ae<|qN<|qs (gP [0,3,4,5,6,7,34,68,69,70] [0,1,2,3,9,5]<|po1<|po1<|pn1 (eMr (λ k=>.int .i64 k)<|λ v=>.int .i64 v) b.Before<|pn1 (eMr (λ k=>.int .i64 k)<|λ v=>.sl<|List.map Ar v) (List.set g (Int.toNat<|A8 (A0 .i64 c ((K.Cells.length:Nat):Int)) 5)<|some (false,T))<|po1<|po1<|Pl.z)<|e ((List.set g (Int.toNat<|A8 (A0 .i64 c ((K.Cells.length:Nat):Int)) 5)<|some (false,T)),U) H
  ·exact sk<|qN<|qs (gP [0,3,4,5,6,7,34,68,69,70] [0,1,2,3,4,5]<|po1<|po1<|pn1 (eMr (λ k=>.int .i64 k)<|λ v=>.int .i64 v) b.Before<|pn1 (eMr (λ k=>.int .i64 k)<|λ v=>.sl<|List.map Ar v) g<|po1<|po1<|Pl.z)<|e (g,h) H
 ·exact ex 4<|qx (by cases H;exact xo rfl<|gP [0,3,4,5,6,7,34] [0,1,2,3,4,5]<|po1<|po1<|pn1 (eMr (λ k=>.int .i64 k)<|λ v=>.int .i64 v) b.Before<|pn1 (eMr (λ k=>.int .i64 k)<|λ v=>.sl<|List.map Ar v) g<|po1<|po1<|Pl.z)
end
def DE (a:Int):(Aa×(List<|Option<|Bool×(List<|Int×(List Af))))->Ex->St->Prop:=(λ (x:(Aa×(List<|Option<|Bool×(List<|Int×(List Af)))))=>xX 3 2 (λ (y:(Aa×(List<|Option<|Bool×(List<|Int×(List Af)))))=>Jat a y.1 y.2) (x.1,x.2))
section
variable (b:Int) (o:Aa)
def DU:(List<|Int×Int)->(Aa×(List<|Option<|Bool×(List<|Int×(List Af))))->St:=(λ (l:(List<|Int×Int)) (x:(Aa×(List<|Option<|Bool×(List<|Int×(List Af)))))=>Jas b l x.1 x.2)
def Hb:(Aa×(List<|Option<|Bool×(List<|Int×(List Af))))->Ex->St->Prop:=xX 3 0<|λ (y:(Aa×(List<|Option<|Bool×(List<|Int×(List Af)))))=>Jar y.1 y.2
def DV:(Aa×(List<|Option<|Bool×(List<|Int×(List Af)))×Int)->St:=(λ (x:(Aa×(List<|Option<|Bool×(List<|Int×(List Af)))×Int))=>Jaq x.1 x.2.1 x.2.2)
variable {b o}
theorem Gw (J:(List (Int×Int))) (x:(Aa×(List (Option (Bool×(List (Int×(List Af)))))))) (hz:∀ e,e∈J->∃ z,A7 n b e x.1 x.2=some z):WP (cxk 123 3) (AR Try.f42) [1,1,0,1,0,0,1,0,0,1,1,0,0] (Xj 3 (DU b) (DE b) (DT) (λ (e:(Int×Int)) (x:(Aa×(List (Option (Bool×(List (Int×(List Af))))))))=>A7 n b e x.1 x.2) J x) (DU b J x):=by
 obtain⟨h,i⟩:=x;refine sq<|rn 0 (.refl _)<|nd0<|nxt (yok _ _) (encK:=AX) (enc:=AX) (ka:=false) (va:=false) 4 (λ hl=>?_)<|λ e3 l33 l34 hl3=>bE (hz e3<|Jd6 hl3) λ z hF=>?_
 ·exact ck 1<|en<|sq<|cF<|ex 2<|qx<|mE hl rfl<|gP [0,3,4] [0,1,2,3]<|po1<|po1<|pn1 (eMr (λ k=>.int .i64 k)<|λ v=>.int .i64 v) h.Before<|pn1 (eMr (λ k=>.int .i64 k)<|λ v=>.sl<|List.map Ar v) i<|Pl.z
 ·have H:=hF;refine ck 1<|en<|sq<|cT<|sk<|qz<|bk 3<|sr<|xr (xok _ _)<|ck 4<|en<|sr<|ck 1<|en<|sj (λ (x:(List Ah))=>Jau b h i e3 l33 l34 x) (λ (x:(List Ah))=>BP n b h i e3 x) z ?_ (λ c=>?_)
  ·intro L H;refine sq<|sr<|ck 5<|bx H λ ab M H=>sp (AY (eL Bz) M)<|ck 1<|sp (AU Bz ab)<|ck 1<|en<|bk 4<|bx H λ K O H=>lX (Gv (l33:=l33) (l34:=l34)) O (gP [0,3,4,5,6,7,34,68,69,70] [0,1,2,3,4,5]<|po1<|po1<|pn1 (eMr (λ k=>.int .i64 k)<|λ v=>.int .i64 v) h.Before<|pn1 (eMr (λ k=>.int .i64 k)<|λ v=>.sl<|List.map Ar v) i<|po1<|po1<|Pl.z) rfl λ s P=>qH<|qs (P)<|sr<|ck 8<|bx H λ p Q H=>ltP [0,4,1,2] (J8 Q) (po1<|po1<|po1<|pn1 (eMr (λ k=>.int .i64 k)<|λ v=>.int .i64 v) h.Before<|Pl.z)<|tb (f:=EI<|Cw [0,4,1,2] 6 4) [some<|.box<|Am h (.osl 1 1 0<|h.Accepts.length)<|.osl 2 1 0<|h.Before.length,some<|.arr 1<|h.Accepts.map eB,some<|.narr 1<|List.map (eMr (λ k=>.int .i64 k)<|λ v=>.int .i64 v) h.Before,some<|.narr 1<|List.map (eMr (λ k=>.int .i64 k)<|λ v=>.sl<|List.map Ar v) K.1,none,some<|.iter false false none<|Bp AX AX<|l33++l34,some<|.arr 3<|p.map Ar] (po1<|po1<|pn1 (eMr (λ k=>.int .i64 k)<|λ v=>.int .i64 v) h.Before<|po1<|po1<|po1<|po1<|Pl.z)<|ck 1<|en<|sr<|ck 3<|en<|cn H (λ H=>?_)<|λ H=>?_
   ·exact bx H λ R w H=>rg (tr (OL (ek:=(λ k=>.int .i64 k)) (ev:=(λ v=>.sl<|List.map Ar v)) 3 (BY w) (by kernel_rfl))<|fz (enc:=Ar) (xs:=p) 13 6 3)<|ck 2<|bx H λ ah S H=>sp (Nv 3 1 0 5 (j:=0) S)<|sp (Ib (encN:=(eMr (λ k=>.int .i64 k)<|λ v=>.sl<|List.map Ar v)) (row:=[.mp 7]) (k:=3) (sz:=1) (off:=0) (t:=ty 128) (v:=.mp 7)<|BY w)<|ck 2<|sp (Nx (enc:=(eL Ar)) (encK:=AX) (ka:=false) (va:=false) (k:=7) (m:=R) (a:=.d<|.int .i64 e3.1) (key:=e3.1) (y:=p) (v:=.d<|.sl<|p.map Ar) (vz:=[.nil]) Xo)<|ae<|qN (by cases H;exact mg hl3 hF<|tr (tr (UW (ka:=false) (va:=false) (e2:=Bp AX (eL Ar)<|B4<|BJ e3.1 p R) 7 (Mc (D4<|BJ e3.1 p R).symm) (by kernel_rfl))<|Ja (ek:=(λ k=>.int .i64 k)) (ev:=(λ v=>.sl<|List.map Ar v)) 3 7 (B4<|BJ e3.1 p R) (BY w) (by kernel_rfl) (by kernel_rfl))<|gP [0,3,4,34] [0,1,2,3,5]<|po1<|po1<|pn1 (eMr (λ k=>.int .i64 k)<|λ v=>.int .i64 v) h.Before<|pn1 (eMr (λ k=>.int .i64 k)<|λ v=>.sl<|List.map Ar v) (List.set K.1 (Int.toNat<|A8 b 5)<|some (false,B4<|BJ e3.1 p R))<|po1<|Pl.z)
   ·exact sk<|qN (by cases H;exact mg hl3 hF<|gP [0,3,4,34] [0,1,2,3,5]<|po1<|po1<|pn1 (eMr (λ k=>.int .i64 k)<|λ v=>.int .i64 v) h.Before<|pn1 (eMr (λ k=>.int .i64 k)<|λ v=>.sl<|List.map Ar v) K.1<|po1<|Pl.z)
  refine sr<|ck 5<|sp (AU Bu h.Felt)<|ck 3<|gc 3 (b==((h.Felt.length:Nat):Int))<|ck 1<|bx H λ ai G H=>sE (λ hg=>Bl 1 1<|G1 G hg)<|sE (g:=(b==((h.Felt.length:Nat):Int))) (λ hg=>Co eB 1 0 (ty 4)<|G1 G hg)<|pA<|en<|cn H (λ H=>?_)<|λ H=>?_
  ·exact rz<|ck 2<|sF<|ck 2<|bx H λ ac T H=>sp (YX AE 8 T)<|ck 1<|ae<|qs (tr (VR 4 (by kernel_rfl))<|gP [0,3,4,5,6,7,34] [0,1,2,3,6,4]<|po1<|po1<|pn1 (eMr (λ k=>.int .i64 k)<|λ v=>.int .i64 v) h.Before<|pn1 (eMr (λ k=>.int .i64 k)<|λ v=>.sl<|List.map Ar v) i<|po1<|po1<|Pl.z)<|c ac H
  ·exact sk<|qs (tr (tr (VR 4 (by kernel_rfl))<|An.nilo 7 8 (by kernel_rfl))<|gP [0,3,4,5,6,7,34] [0,1,2,3,5,4]<|po1<|po1<|pn1 (eMr (λ k=>.int .i64 k)<|λ v=>.int .i64 v) h.Before<|pn1 (eMr (λ k=>.int .i64 k)<|λ v=>.sl<|List.map Ar v) i<|po1<|po1<|Pl.z)<|c ([]:List Ah) H
theorem Gx (x:(Aa×(List (Option (Bool×(List (Int×(List Af))))))×Int)) (z:((Aa×(List (Option (Bool×(List (Int×(List Af))))))×Int)⊕(Aa×(List (Option (Bool×(List (Int×(List Af))))))))) (H:Bt n x.1 x.2.1 x.2.2=some z):WP (cxk 123 3) (AR Try.f42) [1,1,0,1,0,0] (AT 3 (DV) (Hb) z) (DV x):=by
 obtain⟨q,u,b⟩:=x;refine sq<|sr<|ck 2<|en<|cn H (λ H=>?_)<|λ H=>?_
 ·refine sk<|qz<|sq<|bk 1<|sq<|bx H λ af A H=>rg (so1 (encN:=(eMr (λ k=>.int .i64 k)<|λ v=>.sl<|List.map Ar v)) 3 1 A)<|ck 3<|bx H λ aj U H=>sp (Nv 3 1 0 5 (j:=0) U)<|sp (Rs (encN:=(eMr (λ k=>.int .i64 k)<|λ v=>.sl<|List.map Ar v)) (row:=[Zb (λ k=>.int .i64 k) (λ v=>.sl<|List.map Ar v) af]) (row':=[.mp 4]) (k:=3) (sz:=1) (off:=0) (t:=ty 128) (v:=.mp 4) A)<|en<|sq<|bx H λ I B H=>rg (tr (Ja (ek:=(λ k=>.int .i64 k)) (ev:=(λ v=>.sl<|List.map Ar v)) 3 4 ([]:(List<|Int×(List Af))) A (by kernel_rfl) (by kernel_rfl))<|Zc (ek:=(λ k=>.int .i64 k)) (ev:=(λ v=>.int .i64 v)) 2 (Hu B) (by kernel_rfl))<|ck 5<|sp (Bl 2 1<|Hu B)<|sp (Ib (encN:=(eMr (λ k=>.int .i64 k)<|λ v=>.int .i64 v)) (row:=[.fmp<|F7 (λ k=>.int .i64 k) (λ v=>.int .i64 v) I.2]) (k:=2) (sz:=1) (off:=0) (t:=ty 125) (v:=.fmp<|F7 (λ k=>.int .i64 k) (λ v=>.int .i64 v) I.2)<|Hu B)<|xr (xok _ _)<|xri (ek:=(λ k=>.int .i64 k)) (ev:=(λ v=>.int .i64 v)) (m:=I.2) 5<|en<|bk 2 ?_;have hD:=Rv H;refine lM (F:=(λ (e:(Int×Int)) (x:(Aa×(List<|Option<|Bool×(List<|Int×(List Af)))))=>A7 n b e x.1 x.2)) (E:=DT) (E0:=DE b) Gw (tr (tr (tr (scl (encN:=(eMr (λ k=>.int .i64 k)<|λ v=>.int .i64 v)) (xss:=q.Before) b [.fmp<|F7 (λ k=>.int .i64 k) (λ v=>.int .i64 v) I.2] 1 2<|some (true,I.2))<|sn 30 2 1<|lsS q.Before b.toNat<|some (true,I.2))<|snc 0 5 2 1<|lsS q.Before b.toNat<|some (true,I.2))<|gP [0,3,4,34] [0,1,2,3,5]<|po1<|po1<|pn1 (eMr (λ k=>.int .i64 k)<|λ v=>.int .i64 v) (List.set q.Before b.toNat<|some (true,I.2))<|pn1 (eMr (λ k=>.int .i64 k)<|λ v=>.sl<|List.map Ar v) (List.set u (Int.toNat<|A8 b 5)<|some (false,([]:(List<|Int×(List Af)))))<|po1<|Pl.z) (λ ord ho=>bI<|hD ord ho) (λ ord V ho hy e s hE=>xQ hE<|λ he W=>?_)<|λ ord r ho hy e s hE=>?_
  ·subst he;have H:=bK (hD ord ho) hy;exact qH<|qN<|qs (W)<|rz<|ck 3<|ae (by cases H;exact og<|gP [0,3,4] [0,1,2,3]<|po1<|po1<|pn1 (eMr (λ k=>.int .i64 k)<|λ v=>.int .i64 v) V.1.Before<|pn1 (eMr (λ k=>.int .i64 k)<|λ v=>.sl<|List.map Ar v) V.2<|Pl.z)
  ·cases r
 ·exact ex 0<|qx (by cases H;exact xo rfl<|gP [3] [0,1,2,3]<|po1<|po1<|pn1 (eMr (λ k=>.int .i64 k)<|λ v=>.int .i64 v) q.Before<|pn1 (eMr (λ k=>.int .i64 k)<|λ v=>.sl<|List.map Ar v) u<|Pl.z)
theorem Im {z} (H:CC n o=some z):Bw Try.prog 42 [.ptr 0 0] [some (.box (Am o (.osl 1 1 0 (o.Accepts.length)) (.osl 2 1 0 (o.Before.length)))),some (.arr 1 (o.Accepts.map eB)),some (.narr 1 (List.map (eMr (λ k=>.int .i64 k) (λ v=>.int .i64 v)) o.Before))] 3 (.d (.sl (z.2.map Ar))) [some (.box (Am z.1 (.osl 1 1 0 (z.1.Accepts.length)) (.osl 2 1 0 (z.1.Before.length)))),some (.arr 1 (z.1.Accepts.map eB)),some (.narr 1 (List.map (eMr (λ k=>.int .i64 k) (λ v=>.int .i64 v)) z.1.Before))]:=by
 exact fL 123 3 (Jao o) Try.func42<|sr<|ck 1<|en<|sr<|ck 1<|en<|sq<|sq<|rg (tr (Jd9 (ek:=(λ k=>.int .i64 k)) (ev:=(λ v=>.sl<|List.map Ar v)) 3 5 (by kernel_rfl))<|Jgs 3 3 1 (by kernel_rfl))<|ck 4<|sp (AU Bu o.Felt)<|ck 1<|en<|bk 0<|bx H λ X Y H=>lX Gx Y (gP [0,3,4] [0,1,2,3]<|po1<|po1<|pn1 (eMr (λ k=>.int .i64 k)<|λ v=>.int .i64 v) o.Before<|pn1 (eMr (λ k=>.int .i64 k)<|λ v=>.sl<|List.map Ar v) (List.replicate 5 (none:(Option<|Bool×(List<|Int×(List Af)))))<|Pl.z) rfl λ s Z=>qH<|qs (Z)<|sq<|bx H λ m7 C H=>rg (OL (ek:=(λ k=>.int .i64 k)) (ev:=(λ v=>.sl<|List.map Ar v)) 3 (BY C) (by kernel_rfl))<|bx H λ ak aa H=>sp (Nv 3 1 0 5 (j:=0) aa)<|sp (Ib (encN:=(eMr (λ k=>.int .i64 k)<|λ v=>.sl<|List.map Ar v)) (row:=[.mp 4]) (k:=3) (sz:=1) (off:=0) (t:=ty 128) (v:=.mp 4)<|BY C)<|sp (Lm (enc:=(eL Ar)) (encK:=AX) (ka:=false) (va:=false) (k:=4) (m:=m7) (a:=.d<|.int .i64 0) (key:=0) (z:=([]:(List Af))) (vz:=[.nil]) Xo false)<|ck 1<|en<|re (by cases H;exact pL<|rl (s':=Jap X.1<|Option.getD (AO 0 m7) ([]:(List Af)))<|tr (Ja (ek:=(λ k=>.int .i64 k)) (ev:=(λ v=>.sl<|List.map Ar v)) 3 4 m7 (BY C) (by kernel_rfl) (by kernel_rfl))<|gP [2] [0,1,2]<|po1<|po1<|pn1 (eMr (λ k=>.int .i64 k)<|λ v=>.int .i64 v) X.1.Before<|Pl.z)
end
section
variable (e:Ad) (h:(List AB)) (i:Int) (j:Int) (b:(Aa×(List Af))) (a:(List AK)) (l:Int) (c:(List AK))
def Jfc:St:=⟨(0,.agg [.d<|.int .i64 e.Modes,.d<|.int .u8 e.Accept,.d<|.sl<|e.Rules.map Ay])::(1,.d<|.sl<|h.map Bu)::(2,.d<|.int .i64 i)::(3,.d<|.int .i64 j)::[],[]⟩
def Jfd:St:=⟨(10,.osl 0 3 0<|a.length)::(24,.d<|.sl<|b.2.map Ar)::(25,.d<|.int .i64 ((b.2.length:Nat):Int))::(26,.d<|.int .i64 l)::[],[some<|.arr 3<|a.map A2]⟩
def Jfe:St:=⟨(10,.osl 0 3 0<|c.length)::[],[some<|.arr 3<|c.map A2]⟩
def PM:(List AK)->Ex->St->Prop:=xX 0 0<|λ (y:(List AK))=>Jfe y
def Ki:((List AK)×Int)->St:=(λ (x:((List AK)×Int))=>Jfd b x.1 x.2)
variable {e h i j b a l c}
theorem O4 (x:((List AK)×Int)) (z:(((List AK)×Int)⊕(List AK))) (H:Fm n b x.1 x.2=some z):WP (cxk 43 0) (AR Try.f23) [1,1,1,1,1,0,1,0,0] (AT 0 (Ki b) (PM) z) (Ki b x):=by
 obtain⟨a,l⟩:=x;refine sr<|ck 1<|en<|sq<|cn H (λ H=>?_)<|λ H=>?_
 ·exact sk<|qz<|sq<|bk 1<|sr<|bx H λ A m H=>sp (AY Ar m)<|ck 3<|en<|rz<|ck 5<|xsb (xok _ _) A.Cells<|ck 4<|bx H λ B o H=>sp (Cf A2 0 3 o)<|ck 1<|ae<|qN<|qz<|rz<|ck 2<|ae (by cases H;exact og<|sg [10,24,25,26])
 ·exact ex 0<|qx (by cases H;exact xo rfl<|sg [10])
theorem M5 {z} (H:Je n e h i j=some z):AN Try.prog 23 [.agg (Bo e),.d (.sl (h.map Bu)),.d (.int .i64 i),.d (.int .i64 j)] (.own 3 (z.map A2)):=by
 refine fO 43 (Jfc e h i j) Try.func23<|sr<|ck 2<|en<|sq<|sr<|ck 1<|bx H λ C p H=>ca false (RN p)<|ck 1<|en<|cn H (λ H=>?_)<|λ H=>?_
 ·exact sr<|ck 1<|en<|re<|qr (by cases H;exact pr<|rO (v:=.d<|.nil) []<|ad vz)
 ·exact sk<|qz<|sr<|ck 4<|bx H λ E q H=>lt [] (Mn q)<|ck 1<|en<|sr<|ck 1<|bx H λ g r H=>lt [1,2] (IL r)<|tb (f:=EI<|Cw [1,2] 3 2) [some<|.box<|Bo e,some<|.box<|Am g (.osl 2 1 0<|g.Accepts.length)<|.osl 3 1 0<|g.Before.length,some<|.arr 1<|g.Accepts.map eB,some<|.narr 1<|List.map (eMr (λ k=>.int .i64 k)<|λ v=>.int .i64 v) g.Before] (po1<|po1<|po1<|pn1 (eMr (λ k=>.int .i64 k)<|λ v=>.int .i64 v) g.Before<|Pl.z)<|en<|sr<|ck 1<|en<|sq<|sr<|ck 1<|bx H λ b t H=>ltP [1,2,3] (Im t) (po1<|po1<|pn1 (eMr (λ k=>.int .i64 k)<|λ v=>.int .i64 v) g.Before<|Pl.z)<|tb (f:=EI<|Cw [1,2,3] 4 3) [some<|.box<|Bo e,some<|.box<|Am b.1 (.osl 2 1 0<|b.1.Accepts.length)<|.osl 3 1 0<|b.1.Before.length,some<|.arr 1<|b.1.Accepts.map eB,some<|.narr 1<|List.map (eMr (λ k=>.int .i64 k)<|λ v=>.int .i64 v) b.1.Before] (po1<|po1<|po1<|pn1 (eMr (λ k=>.int .i64 k)<|λ v=>.int .i64 v) b.1.Before<|Pl.z)<|sp (AU Ar b.2)<|ck 1<|en<|bk 0<|bx H λ G u H=>lX O4 u (tr (An.nilo 10 3 (by kernel_rfl))<|sg [10,24,25,26]) rfl λ s w=>qH<|qs (w)<|sr<|ck 2<|en<|re (by cases H;exact pr<|rO (v:=.osl 0 3 0<|z.length) [0]<|ao vo)
end
section
variable (a:Ad) (b:(List AB)) (c:Int)
def Jff:St:=⟨(0,.agg [.d<|.int .i64 a.Modes,.d<|.int .u8 a.Accept,.d<|.sl<|a.Rules.map Ay])::(1,.d<|.sl<|b.map Bu)::(2,.d<|.int .i64 c)::[],[]⟩
variable {a b c}
theorem BQ {z} (H:Be n a b c=some z):AN Try.prog 10 [.agg (Bo a),.d (.sl (b.map Bu)),.d (.int .i64 c)] (.tup [.own 3 (z.1.map A2),.d (.int .i64 z.2)]):=by
 refine fO 19 (Jff a b c) Try.func10<|sr<|ck 3<|en<|sq<|sr<|ck 2<|en<|cn H (λ H=>?_)<|λ H=>?_
 ·exact sr<|ck 2<|en<|re<|qr (by cases H;exact pr<|rT (vs:=[.d<|.nil,.d<|.int .i64 1]) []<|t1 (ad vz)<|t1 (ad vd)<|t0)
 ·refine sk<|qz<|sr<|ck 3<|bx H λ e f H=>cl [List.length e] (M5 f)<|ck 1<|en<|sq<|sr<|ck 3<|en<|cn H (λ H=>?_)<|λ H=>?_
  ·exact sr<|ck 2<|en<|re<|qr (by cases H;exact pr<|rT (vs:=[.d<|.nil,.d<|.int .i64 2]) []<|t1 (ad vz)<|t1 (ad vd)<|t0)
  ·exact sk<|qz<|sr<|ck 3<|en<|re (by cases H;exact pr<|rT (vs:=[.osl 1 3 0<|e.length,.d<|.int .i64 0]) [1]<|t1 (ao vo)<|t1 (ad vd)<|t0)
end
section
variable (a:Ad) (b:(List AB)) (c:Int)
def Jfg:St:=⟨(0,.agg [.d<|.int .i64 a.Modes,.d<|.int .u8 a.Accept,.d<|.sl<|a.Rules.map Ay])::(1,.d<|.sl<|b.map Bu)::(2,.d<|.int .i64 c)::[],[]⟩
variable {a b c}
theorem M6 {z} (H:Gb n a b c=some z):AN Try.prog 11 [.agg (Bo a),.d (.sl (b.map Bu)),.d (.int .i64 c)] (.tup [.agg [.d (.str z.1.Text),.d (.sl (z.1.Cells.map eU8)),.d (.int .i64 z.1.Cost)],.d (.bool z.2)]):=by
 refine fO 23 (Jfg a b c) Try.func11<|sr<|ck 3<|en<|sq<|sr<|ck 2<|en<|cn H (λ H=>?_)<|λ H=>?_
 ·exact sr<|ck 3<|en<|re<|qr (by cases H;exact pr<|rT (vs:=[.agg [.d<|.str [],.d<|.nil,.d<|.int .i64 0],.d<|.bool false]) []<|t1 (a1<|c1 vd<|c1 vn<|c1 vd<|c0)<|t1 (ad vd)<|t0)
 ·refine sk<|qz<|sr<|ck 3<|bx H λ g e H=>ca false (M5 e)<|ck 1<|en<|sq<|sr<|ck 1<|sp (AU A2 g)<|ck 1<|en<|cn H (λ H=>?_)<|λ H=>?_
  ·exact sr<|ck 3<|en<|re<|qr (by cases H;exact pr<|rT (vs:=[.agg [.d<|.str [],.d<|.nil,.d<|.int .i64 0],.d<|.bool false]) []<|t1 (a1<|c1 vd<|c1 vn<|c1 vd<|c0)<|t1 (ad vd)<|t0)
  ·exact sk<|qz<|sr<|ck 1<|bx H λ h f H=>sp (AY A2 f)<|ck 3<|en<|re (by cases H;exact pr rdT)
end
section
variable (a:(List Int)) (b:(List Int)) (e:Int)
def Jfh:St:=⟨(0,.d<|.sl<|a.map eU8)::(1,.d<|.sl<|b.map eU8)::[],[]⟩
def Jfi:St:=⟨(0,.d<|.sl<|a.map eU8)::(1,.d<|.sl<|b.map eU8)::(5,.d<|.int .i64 e)::[],[]⟩
def Jfj:St:=⟨[],[]⟩
def KG:(Unit⊕Bool)->Ex->St->Prop:=xS (xX 0 0<|λ (_:Unit)=>Jfj)<|xR ty Try.f24<|λ (y:Bool)=>.d<|.bool y
def Gk:Int->St:=(λ (x:Int)=>Jfi a b x)
variable {a b e}
theorem FB (x:Int) (z:(Int⊕(Unit⊕Bool))) (H:DA n a b x=some z):WP (cxk 26 0) (AR Try.f24) [1,1,0,1,0,0] (AT 0 (Gk a b) (KG) z) (Gk a b x):=by
 revert H;generalize x=e;intro H;refine sq<|sr<|ck 2<|sp (AU eU8 a)<|ck 1<|en<|cn H (λ H=>?_)<|λ H=>?_
 ·refine sk<|qz<|sq<|bk 1<|sr<|ck 2<|bx H λ k f H=>sp (AY eU8 f)<|ck 3<|bx H λ l g H=>sp (AY eU8 g)<|ck 2<|en<|cn H (λ H=>?_)<|λ H=>?_
  ·exact sr<|ck 1<|en<|re<|qR<|qr (by cases H;exact ro rfl rd)
  ·exact sk<|qN<|qz<|rz<|ck 3<|ae (by cases H;exact og<|sg [0,1,5])
 ·exact ex 0<|qx (by cases H;exact xo rfl<|sg [])
theorem HG {z} (H:DP n a b=some z):AN Try.prog 24 [.d (.sl (a.map eU8)),.d (.sl (b.map eU8))] (.d (.bool z)):=by
 refine fO 26 (Jfh a b) Try.func24<|sr<|ck 1<|en<|sq<|sr<|ck 1<|sp (AU eU8 a)<|ck 1<|sp (AU eU8 b)<|ck 1<|en<|cn H (λ H=>?_)<|λ H=>?_
 ·exact sr<|ck 1<|en<|re<|qr (by cases H;exact pr rd)
 ·refine sk<|qz<|sq<|sr<|ck 1<|en<|bk 0<|bx H λ j c H=>?_;rcases j with m|o
  ·exact lX FB c (sg [0,1,5]) rfl λ s h=>qH<|qs (h)<|sr<|ck 1<|en<|re (by cases H;exact pr rd)
  ·exact lR FB c (sg [0,1,5]) rfl λ s i=>qR<|qr (by cases H;exact pr i)
end
section
variable (a:AK) (b:AK)
def Jfk:St:=⟨(0,.agg [.d<|.str a.Text,.d<|.sl<|a.Cells.map eU8,.d<|.int .i64 a.Cost])::(1,.agg [.d<|.str b.Text,.d<|.sl<|b.Cells.map eU8,.d<|.int .i64 b.Cost])::[],[]⟩
variable {a b}
theorem Tl {z} (H:Lq n a b=some z):AN Try.prog 12 [.agg (Zw a),.agg (Zw b)] (.d (.bool z)):=by
 exact fO 24 (Jfk a b) Try.func12<|sr<|ck 3<|en<|sr<|ck 7<|gc 1 (a.Text==b.Text)<|ck 1<|gc 2 (a.Text==b.Text)<|pA<|ck 2<|gc 1 ((a.Text==b.Text)&&(a.Cost==b.Cost))<|ck 1<|gc 1 ((a.Text==b.Text)&&(a.Cost==b.Cost))<|bx H λ e c H=>cG false (leZ) rfl (λ hg=>HG<|G1 c hg) (Or.inl rfl) (FG (λ hh=>hh)<|FG (λ hh=>hh)<|Kw) rfl<|pA<|ck 1<|en<|re (by cases H;exact pr rd)
end
section
variable (a:(List AK)) (b:(List AK)) (e:Int)
def Jfl:St:=⟨(0,.d<|.sl<|a.map A2)::(1,.d<|.sl<|b.map A2)::[],[]⟩
def Jfm:St:=⟨(0,.d<|.sl<|a.map A2)::(1,.d<|.sl<|b.map A2)::(5,.d<|.int .i64 e)::[],[]⟩
def Jfn:St:=⟨[],[]⟩
def Mq:(Unit⊕Bool)->Ex->St->Prop:=xS (xX 0 0<|λ (_:Unit)=>Jfn)<|xR ty Try.f14<|λ (y:Bool)=>.d<|.bool y
def HH:Int->St:=(λ (x:Int)=>Jfm a b x)
variable {a b e}
theorem GV (x:Int) (z:(Int⊕(Unit⊕Bool))) (H:Dr n a b x=some z):WP (cxk 27 0) (AR Try.f14) [1,1,0,1,0,0] (AT 0 (HH a b) (Mq) z) (HH a b x):=by
 revert H;generalize x=e;intro H;refine sq<|sr<|ck 2<|sp (AU A2 a)<|ck 1<|en<|cn H (λ H=>?_)<|λ H=>?_
 ·refine sk<|qz<|sq<|bk 1<|sr<|ck 2<|bx H λ l f H=>sp (AY A2 f)<|ck 3<|bx H λ m g H=>sp (AY A2 g)<|ck 1<|bx H λ o h H=>ca false (Tl h)<|ck 1<|en<|cn H (λ H=>?_)<|λ H=>?_
  ·exact sr<|ck 1<|en<|re<|qR<|qr (by cases H;exact ro rfl rd)
  ·exact sk<|qN<|qz<|rz<|ck 3<|ae (by cases H;exact og<|sg [0,1,5])
 ·exact ex 0<|qx (by cases H;exact xo rfl<|sg [])
theorem EF {z} (H:Ds n a b=some z):AN Try.prog 14 [.d (.sl (a.map A2)),.d (.sl (b.map A2))] (.d (.bool z)):=by
 refine fO 27 (Jfl a b) Try.func14<|sr<|ck 1<|en<|sq<|sr<|ck 1<|sp (AU A2 a)<|ck 1<|sp (AU A2 b)<|ck 1<|en<|cn H (λ H=>?_)<|λ H=>?_
 ·exact sr<|ck 1<|en<|re<|qr (by cases H;exact pr rd)
 ·refine sk<|qz<|sq<|sr<|ck 1<|en<|bk 0<|bx H λ k c H=>?_;rcases k with p|q
  ·exact lX GV c (sg [0,1,5]) rfl λ s i=>qH<|qs (i)<|sr<|ck 1<|en<|re (by cases H;exact pr rd)
  ·exact lR GV c (sg [0,1,5]) rfl λ s j=>qR<|qr (by cases H;exact pr j)
end
section
variable (f:Ad) (c:(List AB)) (o:Int) (i:(List AB))
def Jhh:St:=⟨[],[]⟩
def Jhi:St:=⟨(1,.ptr 0 0)::(2,.osl 1 2 0<|List.length [({ Up:=3,Maybe:=0 }:AB)])::(3,.osl 2 2 0<|c.length)::(4,.d<|.int .i64 o)::[],[some<|.box<|Bo f,some<|.arr 2<|List.map Bu [({ Up:=3,Maybe:=0 }:AB)],some<|.arr 2<|c.map Bu]⟩
def Jhj:St:=⟨(1,.ptr 0 0)::(2,.osl 1 2 0<|List.length [({ Up:=3,Maybe:=0 }:AB)])::(3,.osl 2 2 0<|i.length)::[],[some<|.box<|Bo f,some<|.arr 2<|List.map Bu [({ Up:=3,Maybe:=0 }:AB)],some<|.arr 2<|i.map Bu]⟩
def Nj:(List AB)->Ex->St->Prop:=xX 0 0<|λ (y:(List AB))=>Jhj f y
def IE:((List AB)×Int)->St:=(λ (x:((List AB)×Int))=>Jhi f x.1 x.2)
variable {f c o i}
theorem Mr (x:((List AB)×Int)) (z:(((List AB)×Int)⊕(List AB))) (H:DQ n f x.1 x.2=some z):WP (cxk 148 0) (AR Try.f7) [1,1,1,0,1,0,0] (AT 0 (IE f) (Nj f) z) (IE f x):=by
 obtain⟨c,o⟩:=x;refine sq<|sr<|ck 2<|en<|cn H (λ H=>?_)<|λ H=>?_
 ·exact sk<|qz<|sq<|bk 1<|rz<|ck 3<|bx H λ P p H=>sp (Cf Bu 2 2 p)<|ck 1<|ae<|qN<|qz<|rz<|ck 3<|ae (by cases H;exact og<|sg [1,2,3,4])
 ·exact ex 0<|qx (by cases H;exact xo rfl<|sg [1,2,3])
theorem PN {z} (H:If n=some z):AN Try.prog 7 [] (.d (.bool z)):=by
 exact fO 148 Jhh Try.func7<|sr<|ck 1<|en<|sr<|bx H λ f q H=>ca false (M3 q)<|ck 2<|en<|sr<|ck 5<|en<|sq<|sr<|ck 1<|en<|bk 0<|bx H λ M r H=>lX Mr r (sg [1,2,3,4]) rfl λ s t=>qH<|qs (t)<|sr<|ck 8<|en<|sq<|rg (fz (enc:=Bu) (xs:=([({ Up:=3,Maybe:=0 }:AB)])) 2 1 2)<|ck 2<|bx H λ b u H=>ca false (BQ u)<|ck 5<|en<|sr<|ck 2<|bx H λ h v H=>ca false (BQ v)<|ck 5<|en<|sr<|ck 2<|sF<|bx H λ a w H=>ca false (BQ w)<|ck 5<|en<|sq<|rg (fz (enc:=Bu) (xs:=M) 3 2 2)<|ck 2<|bx H λ l A H=>ca false (BQ A)<|ck 5<|en<|sr<|ck 2<|bx H λ m B H=>ca false (BQ B)<|ck 5<|en<|sr<|ck 2<|bx H λ k C H=>ca false (M6 C)<|ck 6<|en<|sr<|ck 2<|sF<|bx H λ E G H=>ca false (M6 G)<|ck 6<|en<|sr<|ck 1<|bx H λ O I H=>ca false (BQ I)<|ck 5<|en<|sq<|rg (tr (fzc (enc:=eU8) (xs:=[3]) 5 1 3 1)<|fzc (enc:=eU8) (xs:=[1]) 6 1 4 1)<|ck 5<|gc 1 (b.2==0)<|bx H λ e J H=>cG (ks:=[9]) (obl:=[(0+List.length ([({ Text:=[98],Cells:=[3],Cost:=0 }:AK)]),List.length<|List.map A2<|[({ Text:=[98],Cells:=[3],Cost:=0 }:AK)])]) false (leK leM<|leZ) (I9 rfl<|I9 S5 rfl) (λ hg=>EF<|G1 J hg) (Or.inr trivial) (FG (λ hh=>hh)<|FG (λ hh=>hh)<|Kw) rfl<|pA<|ck 2<|gc 1 ((b.2==0)&&e)<|pA<|ck 4<|gc 1 (((b.2==0)&&e)&&(h.2==0))<|bx H λ j K H=>cG (ks:=[10]) (obl:=[(0+List.length ([({ Text:=[98],Cells:=[3],Cost:=0 }:AK),({ Text:=[97],Cells:=[1],Cost:=1 }:AK)]),List.length<|List.map A2<|[({ Text:=[98],Cells:=[3],Cost:=0 }:AK),({ Text:=[97],Cells:=[1],Cost:=1 }:AK)])]) false (leK leM<|leZ) (I9 rfl<|I9 S5 rfl) (λ hg=>EF<|G1 K hg) (Or.inr trivial) (FG (λ hh=>hh)<|FG (λ hh=>hh)<|Kw) rfl<|pA<|ck 2<|gc 1 ((((b.2==0)&&e)&&(h.2==0))&&j)<|pA<|ck 2<|sE (g:=(((((b.2==0)&&e)&&(h.2==0))&&j)&&(a.2==0))) (λ hg=>AU A2 a.1)<|gc 1 (((((b.2==0)&&e)&&(h.2==0))&&j)&&(a.2==0))<|pA<|ck 1<|en<|sr<|ck 3<|gc 1 ((((((b.2==0)&&e)&&(h.2==0))&&j)&&(a.2==0))&&(((a.1.length:Nat):Int)==3))<|pA<|ck 2<|gc 1 (((((((b.2==0)&&e)&&(h.2==0))&&j)&&(a.2==0))&&(((a.1.length:Nat):Int)==3))&&(l.2==2))<|pA<|ck 2<|pA<|ck 2<|gc 2 (((((((((b.2==0)&&e)&&(h.2==0))&&j)&&(a.2==0))&&(((a.1.length:Nat):Int)==3))&&(l.2==2))&&(m.2==1))&&k.2)<|pA<|ck 2<|gc 1 ((((((((((b.2==0)&&e)&&(h.2==0))&&j)&&(a.2==0))&&(((a.1.length:Nat):Int)==3))&&(l.2==2))&&(m.2==1))&&k.2)&&(k.1.Text==[97,97,97,97,97]))<|pA<|ck 2<|gc 1 (((((((((((b.2==0)&&e)&&(h.2==0))&&j)&&(a.2==0))&&(((a.1.length:Nat):Int)==3))&&(l.2==2))&&(m.2==1))&&k.2)&&(k.1.Text==[97,97,97,97,97]))&&(!E.2))<|pA<|ck 3<|gc 1 ((((((((((((b.2==0)&&e)&&(h.2==0))&&j)&&(a.2==0))&&(((a.1.length:Nat):Int)==3))&&(l.2==2))&&(m.2==1))&&k.2)&&(k.1.Text==[97,97,97,97,97]))&&(!E.2))&&(O.2==0))<|bx H λ Q L H=>cG (ks:=[11]) (obl:=[(0+List.length ([({ Text:=[],Cells:=[],Cost:=0 }:AK)]),List.length<|List.map A2<|[({ Text:=[],Cells:=[],Cost:=0 }:AK)])]) false (leK leM<|leZ) (I9 rfl<|I9 S5 rfl) (λ hg=>EF<|G1 L hg) (Or.inr trivial) (FG (λ hh=>hh)<|FG (λ hh=>hh)<|Kw) rfl<|pA<|ck 1<|en<|re (by cases H;exact pr rd)
end
section
variable (a:Cz) (g:Int) (b:Aw) (h:Int) (e:Aw) (c:Aw) (i:Int) (f:Aw)
def Jfo:St:=⟨(0,.agg [.d<|.sl<|a.P.map eU8,.d<|.sl<|a.C.map eU8,.d<|.int .u8 a.L,.d<|.int .u8 a.R,.d<|.int .u8 a.W.a0,.d<|.int .u8 a.W.a1])::(1,.d<|.int .i64 g)::[],[]⟩
def Jfp:St:=⟨(2,.ptr 0 0)::(4,.ptr 1 0)::(5,.d<|.str [97,98,99,65,66,49,50,45,46])::(7,.ptr 2 0)::(8,.d<|.int .i64 h)::[],[some<|.box<|Lu a,some<|.box [.d<|.str [],.osl 3 1 0<|List.length ([]:List Int),.d<|.int .u8 0,.d<|.int .u8 0,.d<|.int .i64 0,.d<|.int .i64 0],some<|.box<|Ny b<|.osl 4 1 0<|b.Cells.length,some<|.arr 1<|List.map eU8 ([]:List Int),some<|.arr 1<|b.Cells.map eU8]⟩
def Jfq:St:=⟨(2,.ptr 0 0)::(4,.ptr 1 0)::(7,.ptr 2 0)::[],[some<|.box<|Lu a,some<|.box [.d<|.str [],.osl 3 1 0<|List.length ([]:List Int),.d<|.int .u8 0,.d<|.int .u8 0,.d<|.int .i64 0,.d<|.int .i64 0],some<|.box<|Ny e<|.osl 4 1 0<|e.Cells.length,some<|.arr 1<|List.map eU8 ([]:List Int),some<|.arr 1<|e.Cells.map eU8]⟩
def PO:Aw->Ex->St->Prop:=xX 0 0<|λ (y:Aw)=>Jfq a y
def Kj:(Aw×Int)->St:=(λ (x:(Aw×Int))=>Jfp a x.1 x.2)
def Jfr:St:=⟨(2,.ptr 0 0)::(4,.ptr 1 0)::(7,.ptr 2 0)::(10,.osl 3 1 0<|List.length [1,3,9,5,7,32,44,60])::(11,.d<|.int .i64 i)::[],[some<|.box<|Lu a,some<|.box [.d<|.str [],.osl 4 1 0<|List.length ([]:List Int),.d<|.int .u8 0,.d<|.int .u8 0,.d<|.int .i64 0,.d<|.int .i64 0],some<|.box<|Ny c<|.osl 5 1 0<|c.Cells.length,some<|.arr 1<|List.map eU8 [1,3,9,5,7,32,44,60],some<|.arr 1<|List.map eU8 ([]:List Int),some<|.arr 1<|c.Cells.map eU8]⟩
def Jfs:St:=⟨(4,.ptr 0 0)::(7,.ptr 1 0)::[],[some<|.box [.d<|.str [],.osl 2 1 0<|List.length ([]:List Int),.d<|.int .u8 0,.d<|.int .u8 0,.d<|.int .i64 0,.d<|.int .i64 0],some<|.box<|Ny f<|.osl 3 1 0<|f.Cells.length,some<|.arr 1<|List.map eU8 ([]:List Int),some<|.arr 1<|f.Cells.map eU8]⟩
def PP:Aw->Ex->St->Prop:=xX 0 2<|λ (y:Aw)=>Jfs y
def Kk:(Aw×Int)->St:=(λ (x:(Aw×Int))=>Jfr a x.1 x.2)
variable {a g b h e c i f}
theorem O5 (x:(Aw×Int)) (z:((Aw×Int)⊕Aw)) (H:Ea n a x.1 x.2=some z):WP (cxk 101 0) (AR Try.f21) [1,1,1,0,1,0,0] (AT 0 (Kj a) (PO a) z) (Kj a x):=by
 obtain⟨b,h⟩:=x;refine sq<|sr<|ck 3<|sp (AU eU8 a.P)<|ck 3<|gc 1 (decide<|h<((a.P.length:Nat):Int))<|pA<|en<|cn H (λ H=>?_)<|λ H=>?_
 ·exact sk<|qz<|sq<|bk 1<|sr<|ck 3<|bx H λ I o H=>sp (AY eU8 o)<|ck 4<|en<|rz<|ck 6<|bx H λ Y p H=>sp (Jch p)<|bx H λ Z q H=>sp (UM q)<|ck 2<|ae<|qN<|qz<|rz<|ck 3<|ae (by cases H;exact og<|sg [2,4,5,7,8])
 ·exact ex 0<|qx (by cases H;exact xo rfl<|sg [2,4,7])
theorem O6 (x:(Aw×Int)) (z:((Aw×Int)⊕Aw)) (H:CQ n a x.1 x.2=some z):WP (cxk 101 0) (AR Try.f21) [1,1,1,1,1,1,0,1,0,0] (AT 0 (Kk a) (PP) z) (Kk a x):=by
 obtain⟨c,i⟩:=x;refine sq<|sr<|ck 3<|sp (AU eU8 a.C)<|ck 3<|gc 1 (decide<|i<((a.C.length:Nat):Int))<|pA<|en<|cn H (λ H=>?_)<|λ H=>?_
 ·exact sk<|qz<|sq<|bk 3<|rz<|ck 6<|bx H λ J r H=>sp (AY eU8 r)<|ck 2<|bx H λ K j H=>sp (Bl 3 1 j)<|sp (Co eU8 3 0 (ty 60) j)<|ck 1<|bx H λ M t H=>sp (Cf eU8 5 1 t)<|ck 2<|ae<|qN<|qz<|rz<|ck 3<|ae (by cases H;exact og<|sg [2,4,7,10,11])
 ·exact ex 2<|qx (by cases H;exact xo rfl<|sg [4,7])
theorem Tm {z} (H:Hw n a g=some z):AN Try.prog 21 [.agg (Lu a),.d (.int .i64 g)] (.agg [.d (.str z.Print),.own 1 (z.Cells.map eU8),.d (.int .u8 z.Left),.d (.int .u8 z.Right),.d (.int .i64 z.From),.d (.int .i64 z.To)]):=by
 exact fO 101 (Jfo a g) Try.func21<|sr<|ck 2<|en<|sr<|ck 3<|en<|sr<|ck 4<|bx H λ O k H=>sp (Bl 2 1 k)<|sp (Co eU8 2 0 (ty 5) k)<|ck 4<|bx H λ Q l H=>sp (Bl 2 1 l)<|sp (Co eU8 2 0 (ty 5) l)<|ck 5<|bx H λ S u H=>so (OF u)<|ck 5<|bx H λ T w H=>so (OF w)<|ck 3<|en<|sq<|sr<|ck 1<|en<|bk 0<|bx H λ U A H=>lX O5 A (tr (tr (Er 1 1 1 (by kernel_rfl))<|Er 3 1 1 (by kernel_rfl))<|sg [2,4,5,7,8]) rfl λ s B=>qH<|qs (B)<|sr<|ck 2<|en<|sr<|ck 5<|bx H λ V m H=>sp (Bl 5 1 m)<|sp (Co eU8 5 0 (ty 60) m)<|ck 3<|en<|sq<|sr<|ck 1<|en<|bk 2<|bx H λ X E H=>lX O6 E (sg [2,4,7,10,11]) rfl λ s G=>qH<|qs (G)<|sr<|ck 2<|en<|re (by cases H;exact pr<|rO (v:=.agg [.d<|.str z.Print,.osl 3 1 0<|z.Cells.length,.d<|.int .u8 z.Left,.d<|.int .u8 z.Right,.d<|.int .i64 z.From,.d<|.int .i64 z.To]) [3]<|a1<|c1 vd<|c1 vo<|c1 vd<|c1 vd<|c1 vd<|c1 vd<|c0)
end
section
variable (a:Int)
def Jft:St:=⟨(0,.d<|.int .u8 a)::[],[]⟩
variable {a}
theorem Ms {z} (H:G5 n a=some z):AN Try.prog 89 [.d (.int .u8 a)] (.d (.bool z)):=by
 exact fO 11 (Jft a) Try.func89<|sr<|ck 1<|en<|sr<|ck 5<|gc 2 (decide<|CN .u8 a 127>=32)<|pA<|ck 1<|en<|re (by cases H;exact pr rd)
end
section
variable (a:(List UInt8)) (b:Int)
def Jfu:St:=⟨(0,.d<|.str a)::[],[]⟩
def Jfv:St:=⟨(0,.d<|.str a)::(4,.d<|.int .i64 b)::[],[]⟩
def Jfw:St:=⟨(0,.d<|.str a)::[],[]⟩
def PR:(Unit⊕(Int×Int))->Ex->St->Prop:=xS (xX 0 0<|λ (_:Unit)=>Jfw a)<|xR ty Try.f77<|λ (y:(Int×Int))=>.tup [.d<|.int .i64 y.1,.d<|.int .i64 y.2]
def Kl:Int->St:=(λ (x:Int)=>Jfv a x)
variable {a b}
theorem Jq (x:Int) (z:(Int⊕(Unit⊕(Int×Int)))) (H:GP n a x=some z):WP (cxk 19 0) (AR Try.f77) [1,0,1,0,0] (AT 0 (Kl a) (PR a) z) (Kl a x):=by
 revert H;generalize x=b;intro H;refine sq<|sr<|ck 4<|en<|cn H (λ H=>?_)<|λ H=>?_
 ·refine sk<|qz<|sq<|bk 1<|sr<|ck 2<|bx H λ m e H=>sp (GI e)<|bx H λ j f H=>ca false (Ms f)<|ck 1<|en<|cn H (λ H=>?_)<|λ H=>?_
  ·exact sr<|ck 3<|en<|re<|qR<|qr (by cases H;exact ro rfl rdT)
  ·exact sk<|qN<|qz<|rz<|ck 3<|ae (by cases H;exact og<|sg [0,4])
 ·exact ex 0<|qx (by cases H;exact xo rfl<|sg [0])
theorem Tn {z} (H:Lr n a=some z):AN Try.prog 77 [.d (.str a)] (.tup [.d (.int .i64 z.1),.d (.int .i64 z.2)]):=by
 refine fO 19 (Jfu a) Try.func77<|sr<|ck 2<|en<|sq<|sr<|ck 1<|en<|bk 0<|bx H λ i c H=>?_;rcases i with k|l
 ·exact lX Jq c (sg [0,4]) rfl λ s g=>qH<|qs (g)<|sr<|ck 4<|en<|re (by cases H;exact pr rdT)
 ·exact lR Jq c (sg [0,4]) rfl λ s h=>qR<|qr (by cases H;exact pr h)
end
section
variable (a:(List UInt8))
def Jfx:St:=⟨(0,.d<|.str a)::[],[]⟩
variable {a}
theorem PS {z} (H:Ig n a=some z):AN Try.prog 59 [.d (.str a)] (.d (.bool z)):=by
 exact fO 12 (Jfx a) Try.func59<|sr<|ck 1<|en<|sr<|ck 1<|bx H λ c b H=>ca false (Tn b)<|ck 5<|en<|sr<|ck 3<|en<|re (by cases H;exact pr rd)
end
section
variable (a:Int)
def Jfy:St:=⟨(0,.d<|.int .u8 a)::[],[]⟩
variable {a}
theorem RQ {z} (H:Mi n a=some z):AN Try.prog 60 [.d (.int .u8 a)] (.d (.bool z)):=by
 exact fO 6 (Jfy a) Try.func60<|sr<|ck 1<|en<|sr<|ck 4<|en<|re (by cases H;exact pr rd)
end
section
variable (a:Aw) (f:Int) (c:Bool) (k:Int) (h:Bool) (e:Bool) (b:Bool) (l:Int) (i:Bool)
def Jfz:St:=⟨(0,.agg [.d<|.str a.Print,.d<|.sl<|a.Cells.map eU8,.d<|.int .u8 a.Left,.d<|.int .u8 a.Right,.d<|.int .i64 a.From,.d<|.int .i64 a.To])::(1,.d<|.int .i64 f)::[],[]⟩
def JfA:St:=⟨(2,.ptr 0 0)::(5,.d<|.bool c)::(6,.d<|.bool false)::(7,.d<|.int .i64 k)::[],[some<|.box<|Hx a]⟩
def JfB:St:=⟨(2,.ptr 0 0)::(5,.d<|.bool h)::(6,.d<|.bool false)::[],[some<|.box<|Hx a]⟩
def O7:Bool->Ex->St->Prop:=xX 0 0<|λ (y:Bool)=>JfB a y
def Jr:(Bool×Int)->St:=(λ (x:(Bool×Int))=>JfA a x.1 x.2)
def JfC:St:=⟨(2,.ptr 0 0)::(5,.d<|.bool e)::(6,.d<|.bool b)::(8,.d<|.int .i64 l)::[],[some<|.box<|Hx a]⟩
def JfD:St:=⟨(2,.ptr 0 0)::(5,.d<|.bool e)::(6,.d<|.bool i)::[],[some<|.box<|Hx a]⟩
def O8:(Bool⊕Bool)->Ex->St->Prop:=xS (xX 0 2<|λ (y:Bool)=>JfD a e y)<|xR ty Try.f50<|λ (y:Bool)=>.d<|.bool y
def Js:(Bool×Int)->St:=(λ (x:(Bool×Int))=>JfC a e x.1 x.2)
variable {a f c k h e b l i}
theorem Nk (x:(Bool×Int)) (z:((Bool×Int)⊕Bool)) (H:DB n a x.1 x.2=some z):WP (cxk 125 0) (AR Try.f50) [1,1,1,1,0,1,0,0] (AT 0 (Jr a) (O7 a) z) (Jr a x):=by
 obtain⟨c,k⟩:=x;refine sq<|sr<|ck 5<|en<|cn H (λ H=>?_)<|λ H=>?_
 ·exact sk<|qz<|sq<|bk 1<|rz<|ck 3<|gc 1 (!c)<|ck 1<|bx H λ K o H=>sE (λ hg=>GI<|G1 o hg)<|bx H λ C p H=>cG false (leZ) rfl (λ hg=>RQ<|G1 p hg) (Or.inl rfl) (FG (λ hh=>hh)<|Kw) rfl<|pO<|ck 1<|ae<|qN<|qz<|rz<|ck 3<|ae (by cases H;exact og<|sg [2,5,6,7])
 ·exact ex 0<|qx (by cases H;exact xo rfl<|sg [2,5,6])
theorem IF (x:(Bool×Int)) (z:((Bool×Int)⊕(Bool⊕Bool))) (H:C1 n a e x.1 x.2=some z):WP (cxk 125 0) (AR Try.f50) [1,1,1,1,1,0,1,0,0] (AT 0 (Js a e) (O8 a e) z) (Js a e x):=by
 obtain⟨b,l⟩:=x;refine sq<|sr<|ck 3<|sp (AU eU8 a.Cells)<|ck 1<|en<|cn H (λ H=>?_)<|λ H=>?_
 ·refine sk<|qz<|sq<|bk 3<|sq<|sr<|ck 3<|bx H λ E q H=>sp (AY eU8 q)<|ck 2<|en<|cn H (λ H=>?_)<|λ H=>?_
  ·exact sr<|ck 1<|en<|re<|qr<|qR<|qr (by cases H;exact ro rfl rd)
  ·exact sk<|qz<|rz<|ck 3<|gc 1 (!b)<|ck 1<|bx H λ G r H=>sE (λ hg=>AY eU8<|G1 r hg)<|gc 2 (!b)<|pO<|ck 1<|ae<|qN<|qz<|rz<|ck 3<|ae (by cases H;exact og<|sg [2,5,6,8])
 ·exact ex 2<|qx (by cases H;exact xo rfl<|sg [2,5,6])
theorem RR {z} (H:JM n a f=some z):AN Try.prog 50 [.agg (Hx a),.d (.int .i64 f)] (.d (.bool z)):=by
 refine fO 125 (Jfz a f) Try.func50<|sr<|ck 2<|en<|sq<|sr<|ck 2<|bx H λ j t H=>ca false (PS t)<|ck 3<|gc 3 (!(!j))<|pO<|ck 2<|gc 1 (!((!j)||(decide<|((a.Print.length:Nat):Int)>4)))<|sE (g:=(!((!j)||(decide<|((a.Print.length:Nat):Int)>4)))) (λ hg=>AU eU8 a.Cells)<|gc 1 (!((!j)||(decide<|((a.Print.length:Nat):Int)>4)))<|pO<|ck 2<|gc 1 (!(((!j)||(decide<|((a.Print.length:Nat):Int)>4))||(decide<|((a.Cells.length:Nat):Int)<1)))<|sE (g:=(!(((!j)||(decide<|((a.Print.length:Nat):Int)>4))||(decide<|((a.Cells.length:Nat):Int)<1)))) (λ hg=>AU eU8 a.Cells)<|gc 1 (!(((!j)||(decide<|((a.Print.length:Nat):Int)>4))||(decide<|((a.Cells.length:Nat):Int)<1)))<|pO<|en<|cn H (λ H=>?_)<|λ H=>?_
 ·exact sr<|ck 1<|en<|re<|qr (by cases H;exact pr rd)
 ·refine sk<|qz<|sq<|sr<|ck 5<|gc 2 (!(decide<|a.Left<1))<|pO<|ck 2<|gc 2 (!((decide<|a.Left<1)||(decide<|a.Left>63)))<|pO<|ck 2<|gc 2 (!(((decide<|a.Left<1)||(decide<|a.Left>63))||(decide<|a.Right<1)))<|pO<|ck 2<|gc 2 (!((((decide<|a.Left<1)||(decide<|a.Left>63))||(decide<|a.Right<1))||(decide<|a.Right>63)))<|pO<|ck 2<|gc 1 (!(((((decide<|a.Left<1)||(decide<|a.Left>63))||(decide<|a.Right<1))||(decide<|a.Right>63))||(decide<|a.From<0)))<|ck 1<|gc 1 (!(((((decide<|a.Left<1)||(decide<|a.Left>63))||(decide<|a.Right<1))||(decide<|a.Right>63))||(decide<|a.From<0)))<|pO<|ck 2<|gc 2 (!((((((decide<|a.Left<1)||(decide<|a.Left>63))||(decide<|a.Right<1))||(decide<|a.Right>63))||(decide<|a.From<0))||(decide<|a.From>=f)))<|pO<|ck 2<|gc 1 (!(((((((decide<|a.Left<1)||(decide<|a.Left>63))||(decide<|a.Right<1))||(decide<|a.Right>63))||(decide<|a.From<0))||(decide<|a.From>=f))||(decide<|a.To<0)))<|ck 1<|gc 1 (!(((((((decide<|a.Left<1)||(decide<|a.Left>63))||(decide<|a.Right<1))||(decide<|a.Right>63))||(decide<|a.From<0))||(decide<|a.From>=f))||(decide<|a.To<0)))<|pO<|en<|cn H (λ H=>?_)<|λ H=>?_
  ·exact sr<|ck 1<|en<|re<|qr (by cases H;exact pr rd)
  ·refine sk<|qz<|sr<|ck 2<|en<|sq<|sr<|ck 1<|en<|bk 0<|bx H λ e u H=>lX Nk u (sg [2,5,6,7]) rfl λ s v=>qH<|qs (v)<|sq<|sr<|ck 1<|en<|bk 2<|bx H λ B m H=>?_;rcases B with I|J
   ·refine lX IF m (sg [2,5,6,8]) rfl λ s w=>qH<|qs (w)<|sq<|sr<|ck 2<|en<|cn H (λ H=>?_)<|λ H=>?_
    ·exact sr<|ck 3<|en<|re<|qr (by cases H;exact pr rd)
    ·exact sk<|qz<|sr<|ck 6<|gc 1 (((a.Print.length:Nat):Int)==1)<|sE (g:=(((a.Print.length:Nat):Int)==1)) (λ hg=>AU eU8 a.Cells)<|gc 1 (((a.Print.length:Nat):Int)==1)<|pA<|ck 2<|pA<|ck 1<|en<|re (by cases H;exact pr rd)
   ·exact lR IF m (sg [2,5,6,8]) rfl λ s A=>qR<|qr (by cases H;exact pr A)
end
section
variable (a:Aw) (b:Aw)
def JfE:St:=⟨(0,.agg [.d<|.str a.Print,.d<|.sl<|a.Cells.map eU8,.d<|.int .u8 a.Left,.d<|.int .u8 a.Right,.d<|.int .i64 a.From,.d<|.int .i64 a.To])::(1,.agg [.d<|.str b.Print,.d<|.sl<|b.Cells.map eU8,.d<|.int .u8 b.Left,.d<|.int .u8 b.Right,.d<|.int .i64 b.From,.d<|.int .i64 b.To])::[],[]⟩
variable {a b}
theorem Nl {z} (H:FL n a b=some z):AN Try.prog 51 [.agg (Hx a),.agg (Hx b)] (.d (.bool z)):=by
 exact fO 45 (JfE a b) Try.func51<|sr<|ck 3<|en<|sr<|ck 7<|gc 1 (a.Print==b.Print)<|ck 1<|gc 1 (a.Print==b.Print)<|bx H λ c e H=>cG false (leZ) rfl (λ hg=>HG<|G1 e hg) (Or.inl rfl) (FG (λ hh=>hh)<|FG (λ hh=>hh)<|Kw) rfl<|pA<|ck 2<|gc 1 ((a.Print==b.Print)&&c)<|ck 1<|gc 2 ((a.Print==b.Print)&&c)<|pA<|ck 2<|gc 1 (((a.Print==b.Print)&&c)&&(a.Left==b.Left))<|ck 1<|gc 2 (((a.Print==b.Print)&&c)&&(a.Left==b.Left))<|pA<|ck 2<|gc 1 ((((a.Print==b.Print)&&c)&&(a.Left==b.Left))&&(a.Right==b.Right))<|ck 1<|gc 2 ((((a.Print==b.Print)&&c)&&(a.Left==b.Left))&&(a.Right==b.Right))<|pA<|ck 2<|gc 1 (((((a.Print==b.Print)&&c)&&(a.Left==b.Left))&&(a.Right==b.Right))&&(a.From==b.From))<|ck 1<|gc 2 (((((a.Print==b.Print)&&c)&&(a.Left==b.Left))&&(a.Right==b.Right))&&(a.From==b.From))<|pA<|ck 1<|en<|re (by cases H;exact pr rd)
end
section
variable (a:Ad) (b:Int) (f:Int)
def JfF:St:=⟨(0,.agg [.d<|.int .i64 a.Modes,.d<|.int .u8 a.Accept,.d<|.sl<|a.Rules.map Ay])::[],[]⟩
def JfG:St:=⟨(1,.ptr 0 0)::(4,.d<|.int .i64 b)::[],[some<|.box<|Bo a]⟩
def JfH:St:=⟨[],[]⟩
def JfI:St:=⟨(1,.ptr 0 0)::(4,.d<|.int .i64 b)::(5,.d<|.int .i64 f)::[],[some<|.box<|Bo a]⟩
def JfJ:St:=⟨(1,.ptr 0 0)::(4,.d<|.int .i64 b)::[],[some<|.box<|Bo a]⟩
def O9:(Unit⊕(Int×Int))->Ex->St->Prop:=xS (xX 0 2<|λ (_:Unit)=>JfJ a b)<|xR ty Try.f38<|λ (y:(Int×Int))=>.tup [.d<|.int .i64 y.1,.d<|.int .i64 y.2]
def Jt:Int->St:=(λ (x:Int)=>JfI a b x)
def Pa:(Unit⊕(Int×Int))->Ex->St->Prop:=xS (xX 0 0<|λ (_:Unit)=>JfH)<|xR ty Try.f38<|λ (y:(Int×Int))=>.tup [.d<|.int .i64 y.1,.d<|.int .i64 y.2]
def Ju:Int->St:=(λ (x:Int)=>JfG a x)
variable {a b f}
theorem IG (x:Int) (z:(Int⊕(Unit⊕(Int×Int)))) (H:EA n a b x=some z):WP (cxk 74 0) (AR Try.f38) [1,1,0,1,0,0,1,0,0,1,1,0,0] (AT 0 (Jt a b) (O9 a b) z) (Jt a b x):=by
 revert H;generalize x=f;intro H;refine sq<|sr<|ck 3<|en<|cn H (λ H=>?_)<|λ H=>?_
 ·refine sk<|qz<|sq<|bk 3<|sr<|ck 3<|bx H λ w h H=>sp (AY Ay h)<|ck 4<|bx H λ A i H=>sp (AY Ay i)<|ck 1<|bx H λ B j H=>ca false (Nl j)<|en<|cn H (λ H=>?_)<|λ H=>?_
  ·exact sr<|ck 3<|en<|re<|qR<|qr (by cases H;exact ro rfl rdT)
  ·exact sk<|qN<|qz<|rz<|ck 3<|ae (by cases H;exact og<|sg [1,4,5])
 ·exact ex 2<|qx (by cases H;exact xo rfl<|sg [1,4])
theorem IH (x:Int) (z:(Int⊕(Unit⊕(Int×Int)))) (H:EB n a x=some z):WP (cxk 74 0) (AR Try.f38) [1,1,0,1,0,0] (AT 0 (Ju a) (Pa) z) (Ju a x):=by
 revert H;generalize x=b;intro H;refine sq<|sr<|ck 3<|sp (AU Ay a.Rules)<|ck 1<|en<|cn H (λ H=>?_)<|λ H=>?_
 ·refine sk<|qz<|sq<|bk 1<|sq<|sr<|ck 3<|bx H λ C k H=>sp (AY Ay k)<|ck 3<|bx H λ E l H=>ca false (RR l)<|ck 1<|en<|cn H (λ H=>?_)<|λ H=>?_
  ·exact sr<|ck 3<|en<|re<|qr<|qR<|qr (by cases H;exact ro rfl rdT)
  ·refine sk<|qz<|sr<|ck 1<|en<|bk 2<|bx H λ t c H=>?_;rcases t with G|I
   ·exact lX IG c (sg [1,4,5]) rfl λ s m=>qH<|qN<|qs (m)<|rz<|ck 3<|ae (by cases H;exact og<|sg [1,4])
   ·exact lR IG c (sg [1,4,5]) rfl λ s o=>qR<|qR<|qr (by cases H;exact ro rfl o)
 ·exact ex 0<|qx (by cases H;exact xo rfl<|sg [])
theorem RT {z} (H:JN n a=some z):AN Try.prog 38 [.agg (Bo a)] (.tup [.d (.int .i64 z.1),.d (.int .i64 z.2)]):=by
 refine fO 74 (JfF a) Try.func38<|sr<|ck 3<|en<|sq<|sr<|ck 5<|gc 2 (!(decide<|a.Modes<1))<|pO<|ck 2<|gc 2 (!((decide<|a.Modes<1)||(decide<|a.Modes>8)))<|pO<|ck 2<|gc 2 (!(((decide<|a.Modes<1)||(decide<|a.Modes>8))||(a.Accept==0)))<|ck 1<|gc 1 (!(((decide<|a.Modes<1)||(decide<|a.Modes>8))||(a.Accept==0)))<|bx H λ v p H=>soG (λ hg=>Hq<|G1 p hg) (FG (λ hh=>hh)<|Kw)<|gc 1 (!(((decide<|a.Modes<1)||(decide<|a.Modes>8))||(a.Accept==0)))<|pO<|ck 2<|gc 1 (!((((decide<|a.Modes<1)||(decide<|a.Modes>8))||(a.Accept==0))||(decide<|IntKind.i64.wrap a.Accept>=FF .i64 1 a.Modes)))<|sE (g:=(!((((decide<|a.Modes<1)||(decide<|a.Modes>8))||(a.Accept==0))||(decide<|IntKind.i64.wrap a.Accept>=FF .i64 1 a.Modes)))) (λ hg=>AU Ay a.Rules)<|gc 1 (!((((decide<|a.Modes<1)||(decide<|a.Modes>8))||(a.Accept==0))||(decide<|IntKind.i64.wrap a.Accept>=FF .i64 1 a.Modes)))<|pO<|ck 2<|gc 1 (!(((((decide<|a.Modes<1)||(decide<|a.Modes>8))||(a.Accept==0))||(decide<|IntKind.i64.wrap a.Accept>=FF .i64 1 a.Modes))||(decide<|((a.Rules.length:Nat):Int)<1)))<|sE (g:=(!(((((decide<|a.Modes<1)||(decide<|a.Modes>8))||(a.Accept==0))||(decide<|IntKind.i64.wrap a.Accept>=FF .i64 1 a.Modes))||(decide<|((a.Rules.length:Nat):Int)<1)))) (λ hg=>AU Ay a.Rules)<|gc 1 (!(((((decide<|a.Modes<1)||(decide<|a.Modes>8))||(a.Accept==0))||(decide<|IntKind.i64.wrap a.Accept>=FF .i64 1 a.Modes))||(decide<|((a.Rules.length:Nat):Int)<1)))<|pO<|en<|cn H (λ H=>?_)<|λ H=>?_
 ·exact sr<|ck 2<|en<|re<|qr (by cases H;exact pr rdT)
 ·refine sk<|qz<|sq<|sr<|ck 1<|en<|bk 0<|bx H λ u e H=>?_;rcases u with J|K
  ·exact lX IH e (sg [1,4]) rfl λ s q=>qH<|qs (q)<|sr<|ck 2<|en<|re (by cases H;exact pr rdT)
  ·exact lR IH e (sg [1,4]) rfl λ s r=>qR<|qr (by cases H;exact pr r)
end
section
variable (a:Ad)
def JfK:St:=⟨(0,.agg [.d<|.int .i64 a.Modes,.d<|.int .u8 a.Accept,.d<|.sl<|a.Rules.map Ay])::[],[]⟩
variable {a}
theorem RU {z} (H:Mj n a=some z):AN Try.prog 22 [.agg (Bo a)] (.d (.bool z)):=by
 exact fO 12 (JfK a) Try.func22<|sr<|ck 2<|en<|sr<|ck 1<|bx H λ c b H=>ca false (RT b)<|ck 5<|en<|sr<|ck 3<|en<|re (by cases H;exact pr rd)
end
section
variable (b:IJ) (a:Ad) (j:Ad) (h:Int) (q:Ad) (m:Ad) (i:Ad) (g:Int) (r:Ad) (o:Ad) (p:Ad)
def Jhk:St:=⟨(0,.agg [.d<|.int .u8 b.Base,.d<|.int .u8 b.Drop,.d<|.sl<|b.More.map Ec])::[],[]⟩
def Jhl:St:=⟨(1,.ptr 0 0)::(2,.ptr 1 0)::(3,.ptr 2 0)::(4,.osl 3 6 0<|a.Rules.length)::(5,.d<|.int .i64 h)::[],[some<|.box<|U7 b,some<|.box [.d<|.int .i64 0,.d<|.int .u8 0,.osl 4 6 0<|List.length ([]:List Aw)],some<|.box<|Gc j<|.osl 5 6 0<|j.Rules.length,some<|.arr 6<|a.Rules.map Ay,some<|.arr 6<|List.map Ay ([]:List Aw),some<|.arr 6<|j.Rules.map Ay]⟩
def Jhm:St:=⟨(1,.ptr 0 0)::(2,.ptr 1 0)::(3,.ptr 2 0)::(4,.osl 3 6 0<|a.Rules.length)::[],[some<|.box<|U7 b,some<|.box [.d<|.int .i64 0,.d<|.int .u8 0,.osl 4 6 0<|List.length ([]:List Aw)],some<|.box<|Gc q<|.osl 5 6 0<|q.Rules.length,some<|.arr 6<|a.Rules.map Ay,some<|.arr 6<|List.map Ay ([]:List Aw),some<|.arr 6<|q.Rules.map Ay]⟩
def Jhn:St:=⟨(1,.ptr 0 0)::(2,.ptr 1 0)::(3,.ptr 2 0)::(4,.osl 3 6 0<|a.Rules.length)::(5,.d<|.int .i64 h)::[],[some<|.box<|U7 b,some<|.box [.d<|.int .i64 0,.d<|.int .u8 0,.osl 4 6 0<|List.length ([]:List Aw)],some<|.box<|Gc m<|.osl 5 6 0<|m.Rules.length,some<|.arr 6<|a.Rules.map Ay,some<|.arr 6<|List.map Ay ([]:List Aw),some<|.arr 6<|m.Rules.map Ay]⟩
def PT:Ad->Ex->St->Prop:=xX 0 0<|λ (y:Ad)=>Jhm b a y
def Km:(Ad×Int)->St:=(λ (x:(Ad×Int))=>Jhl b a x.1 x.2)
def Jho:St:=⟨(1,.ptr 0 0)::(2,.ptr 1 0)::(3,.ptr 2 0)::(4,.osl 3 6 0<|a.Rules.length)::(6,.d<|.int .i64 g)::[],[some<|.box<|U7 b,some<|.box [.d<|.int .i64 0,.d<|.int .u8 0,.osl 4 6 0<|List.length ([]:List Aw)],some<|.box<|Gc i<|.osl 5 6 0<|i.Rules.length,some<|.arr 6<|a.Rules.map Ay,some<|.arr 6<|List.map Ay ([]:List Aw),some<|.arr 6<|i.Rules.map Ay]⟩
def Jhp:St:=⟨(2,.ptr 0 0)::(3,.ptr 1 0)::(4,.osl 2 6 0<|a.Rules.length)::[],[some<|.box [.d<|.int .i64 0,.d<|.int .u8 0,.osl 3 6 0<|List.length ([]:List Aw)],some<|.box<|Gc r<|.osl 4 6 0<|r.Rules.length,some<|.arr 6<|a.Rules.map Ay,some<|.arr 6<|List.map Ay ([]:List Aw),some<|.arr 6<|r.Rules.map Ay]⟩
def Jhq:St:=⟨(1,.ptr 0 0)::(2,.ptr 1 0)::(3,.ptr 2 0)::(4,.osl 3 6 0<|a.Rules.length)::(6,.d<|.int .i64 g)::[],[some<|.box<|U7 b,some<|.box [.d<|.int .i64 0,.d<|.int .u8 0,.osl 4 6 0<|List.length ([]:List Aw)],some<|.box<|Gc o<|.osl 5 6 0<|o.Rules.length,some<|.arr 6<|a.Rules.map Ay,some<|.arr 6<|List.map Ay ([]:List Aw),some<|.arr 6<|o.Rules.map Ay]⟩
def PU:Ad->Ex->St->Prop:=xX 0 2<|λ (y:Ad)=>Jhp a y
def Kn:(Ad×Int)->St:=(λ (x:(Ad×Int))=>Jho b a x.1 x.2)
def Jhr:St:=⟨(2,.ptr 0 0)::(3,.ptr 1 0)::[],[some<|.box [.d<|.int .i64 0,.d<|.int .u8 0,.osl 2 6 0<|List.length ([]:List Aw)],some<|.box<|Gc p<|.osl 3 6 0<|p.Rules.length,some<|.arr 6<|List.map Ay ([]:List Aw),some<|.arr 6<|p.Rules.map Ay]⟩
variable {b a j h q m i g r o p}
theorem Pb (x:(Ad×Int)) (z:((Ad×Int)⊕Ad)) (H:CS n b a x.1 x.2=some z):WP (cxk 77 0) (AR Try.f8) [1,1,1,1,0,1,0,0] (AT 0 (Km b a) (PT b a) z) (Km b a x):=by
 obtain⟨j,h⟩:=x;refine sq<|sr<|ck 4<|en<|cn H (λ H=>?_)<|λ H=>?_
 ·refine sk<|qz<|sj (λ (x:Ad)=>Jhn b a h x) (λ (x:Ad)=>Dt n h x) z ?_ (λ c=>?_)
  ·intro m H;exact rz<|ck 3<|ae (by cases H;exact og<|sg [1,2,3,4,5])
  refine bk 1<|sr<|ck 3<|bx H λ R B H=>so (Hq B)<|ck 2<|en<|cn H (λ H=>?_)<|λ H=>?_
  ·exact rz<|ck 4<|bx H λ U t H=>sp (Bl 3 6 t)<|sp (Co Ay 3 0 (ty 66) t)<|ck 1<|bx H λ Q C H=>sp (Cf Ay 5 6 C)<|ck 2<|ae<|qN<|qs (sg [1,2,3,4,5])<|c ({ Modes:=j.Modes,Accept:=j.Accept,Rules:=Q }:Ad) H
  ·exact sk<|qN<|qs (sg [1,2,3,4,5])<|c j H
 ·exact ex 0<|qx (by cases H;exact xo rfl<|sg [1,2,3,4])
theorem Pc (x:(Ad×Int)) (z:((Ad×Int)⊕Ad)) (H:CT n b a x.1 x.2=some z):WP (cxk 77 0) (AR Try.f8) [1,1,1,1,1,0,1,0,0] (AT 0 (Kn b a) (PU a) z) (Kn b a x):=by
 obtain⟨i,g⟩:=x;refine sq<|sr<|ck 3<|sp (AU Ec b.More)<|ck 3<|gc 1 (decide<|g<((b.More.length:Nat):Int))<|pA<|en<|cn H (λ H=>?_)<|λ H=>?_
 ·refine sk<|qz<|sj (λ (x:Ad)=>Jhq b a g x) (λ (x:Ad)=>Du n g x) z ?_ (λ e=>?_)
  ·intro o H;exact rz<|ck 3<|ae (by cases H;exact og<|sg [1,2,3,4,6])
  refine bk 3<|sr<|ck 5<|bx H λ V E H=>sp (AY Ec E)<|ck 3<|bx H λ S G H=>ca false (Tm G)<|ck 1<|bx H λ u I H=>sp (Cf Ay 5 6 I)<|ck 2<|en<|sr<|ck 1<|bx H λ T J H=>cb (ks:=[7]) (obl:=[(0+List.length u,List.length<|u.map Ay)]) false (leK leM<|leZ) (I9 (JhL<|I9 rfl<|I9 rfl<|I9 S5 rfl) rfl) (RU J) (Or.inr trivial) rfl<|ck 1<|en<|cn H (λ H=>?_)<|λ H=>?_
  ·exact rz<|ck 6<|bx H λ w l H=>sp (UO 7 6 l)<|ck 2<|ae<|qN<|qs (tr (JbY (k:=7) (sz:=6) 2 2 (w.map Ay) (w.length) (by kernel_rfl) (VJ l) (YS (enc:=Ay) l)<|VK l)<|sg [1,2,3,4,6])<|e ({ Modes:=i.Modes,Accept:=i.Accept,Rules:=w }:Ad) H
  ·exact sk<|qN<|qs (sg [1,2,3,4,6])<|e ({ Modes:=i.Modes,Accept:=i.Accept,Rules:=u }:Ad) H
 ·exact ex 2<|qx (by cases H;exact xo rfl<|sg [2,3,4])
theorem Tp {z} (H:Fn n b=some z):AN Try.prog 8 [.agg (U7 b)] (.agg [.d (.int .i64 z.Modes),.d (.int .u8 z.Accept),.own 6 (z.Rules.map Ay)]):=by
 refine fO 77 (Jhk b) Try.func8<|sr<|ck 2<|en<|sr<|ck 2<|bx H λ a K H=>cl [List.length a.Rules] (M3 K)<|ck 2<|en<|sr<|ck 3<|en<|sr<|ck 3<|en<|sq<|sr<|ck 1<|en<|bk 0<|bx H λ W L H=>lX Pb L (tr (Er 1 2 6 (by kernel_rfl))<|sg [1,2,3,4,5]) rfl λ s M=>qH<|qs (M)<|sq<|sr<|ck 1<|en<|bk 2<|bx H λ A O H=>lX Pc O (sg [1,2,3,4,6]) rfl λ s P=>qH<|qs (P)<|sj (λ (x:Ad)=>Jhr x) (λ (x:Ad)=>Eb n x) z ?_ (λ f=>?_)
 ·intro p H;exact sr<|ck 2<|en<|re (by cases H;exact pr<|rO (v:=.agg [.d<|.int .i64 z.Modes,.d<|.int .u8 z.Accept,.osl 3 6 0<|z.Rules.length]) [3]<|a1<|c1 vd<|c1 vd<|c1 vo<|c0)
 refine sr<|ck 4<|en<|cn H (λ H=>?_)<|λ H=>?_
 ·exact rz<|ck 3<|ae<|qs (sg [2,3])<|f ({ Modes:=A.Modes,Accept:=A.Accept,Rules:=a.Rules }:Ad) H
 ·exact sk<|qs (sg [2,3])<|f A H
end
section
variable (a:(List (CY Int))) (b:(List AB)) (e:Int) (c:(List AB))
def Jhs:St:=⟨(0,.d<|.sl<|a.map<|Jf eU8)::[],[]⟩
def Jht:St:=⟨(0,.d<|.sl<|a.map<|Jf eU8)::(3,.osl 0 2 0<|b.length)::(4,.d<|.int .i64 e)::[],[some<|.arr 2<|b.map Bu]⟩
def Jhu:St:=⟨(3,.osl 0 2 0<|c.length)::[],[some<|.arr 2<|c.map Bu]⟩
def PV:(List AB)->Ex->St->Prop:=xX 0 0<|λ (y:(List AB))=>Jhu y
def Ko:((List AB)×Int)->St:=(λ (x:((List AB)×Int))=>Jht a x.1 x.2)
variable {a b e c}
theorem Pd (x:((List AB)×Int)) (z:(((List AB)×Int)⊕(List AB))) (H:Fp n a x.1 x.2=some z):WP (cxk 33 0) (AR Try.f9) [1,1,0,1,0,0] (AT 0 (Ko a) (PV) z) (Ko a x):=by
 obtain⟨b,e⟩:=x;refine sq<|sr<|ck 2<|sp (AU (Jf eU8) a)<|ck 3<|gc 1 (decide<|e<((a.length:Nat):Int))<|pA<|en<|cn H (λ H=>?_)<|λ H=>?_
 ·exact sk<|qz<|sq<|bk 1<|rz<|ck 3<|bx H λ k f H=>sp (AY (Jf eU8) f)<|ck 5<|bx H λ l g H=>sp (AY (Jf eU8) g)<|ck 5<|bx H λ m h H=>sp (Cf Bu 0 2 h)<|ck 1<|ae<|qN<|qz<|rz<|ck 3<|ae (by cases H;exact og<|sg [0,3,4])
 ·exact ex 0<|qx (by cases H;exact xo rfl<|sg [3])
theorem Tq {z} (H:Ls n a=some z):AN Try.prog 9 [.d (.sl (a.map (Jf eU8)))] (.own 2 (z.map Bu)):=by
 exact fO 33 (Jhs a) Try.func9<|sr<|ck 1<|en<|sr<|ck 2<|en<|sq<|sr<|ck 1<|en<|bk 0<|bx H λ o i H=>lX Pd i (sg [0,3,4]) rfl λ s j=>qH<|qs (j)<|sr<|ck 2<|en<|re (by cases H;exact pr<|rO (v:=.osl 0 2 0<|z.length) [0]<|ao vo)
end
end Go.AI
end
section
namespace Go.AI
open Go.Proofs
set_option maxRecDepth 10000
variable {n:Nat}
section
variable (a:(List AK)) (b:(List UInt8)) (c:Int)
def JfL:St:=⟨(0,.d<|.sl<|a.map A2)::(1,.d<|.str b)::[],[]⟩
def JfM:St:=⟨(0,.d<|.sl<|a.map A2)::(1,.d<|.str b)::(4,.ptr 0 0)::(6,.d<|.int .i64 c)::[],[some<|.box [.d<|.str [],.osl 1 1 0<|List.length ([]:List Int),.d<|.int .i64 0],some<|.arr 1<|List.map eU8 ([]:List Int)]⟩
def JfN:St:=⟨(4,.ptr 0 0)::[],[some<|.box [.d<|.str [],.osl 1 1 0<|List.length ([]:List Int),.d<|.int .i64 0],some<|.arr 1<|List.map eU8 ([]:List Int)]⟩
def PW:(Unit⊕(AK×Bool))->Ex->St->Prop:=xS (xX 0 0<|λ (_:Unit)=>JfN)<|xR ty Try.f19<|λ (y:(AK×Bool))=>.tup [.agg [.d<|.str y.1.Text,.d<|.sl<|y.1.Cells.map eU8,.d<|.int .i64 y.1.Cost],.d<|.bool y.2]
def Kp:Int->St:=(λ (x:Int)=>JfM a b x)
variable {a b c}
theorem Jv (x:Int) (z:(Int⊕(Unit⊕(AK×Bool)))) (H:Fq n a b x=some z):WP (cxk 25 0) (AR Try.f19) [1,0,1,0,0] (AT 0 (Kp a b) (PW) z) (Kp a b x):=by
 revert H;generalize x=c;intro H;refine sq<|sr<|ck 2<|sp (AU A2 a)<|ck 1<|en<|cn H (λ H=>?_)<|λ H=>?_
 ·refine sk<|qz<|sq<|bk 1<|sr<|ck 2<|bx H λ k f H=>sp (AY A2 f)<|ck 4<|en<|cn H (λ H=>?_)<|λ H=>?_
  ·exact sr<|ck 2<|bx H λ l g H=>sp (AY A2 g)<|ck 3<|en<|re<|qR<|qr (by cases H;exact ro rfl rdT)
  ·exact sk<|qN<|qz<|rz<|ck 3<|ae (by cases H;exact og<|sg [0,1,4,6])
 ·exact ex 0<|qx (by cases H;exact xo rfl<|sg [4])
theorem Tr {z} (H:Lt n a b=some z):AN Try.prog 19 [.d (.sl (a.map A2)),.d (.str b)] (.tup [.agg [.d (.str z.1.Text),.d (.sl (z.1.Cells.map eU8)),.d (.int .i64 z.1.Cost)],.d (.bool z.2)]):=by
 refine fO 25 (JfL a b) Try.func19<|sr<|ck 2<|en<|sq<|sr<|ck 1<|en<|bk 0<|bx H λ h e H=>?_;rcases h with m|o
 ·exact lX Jv e (tr (Er 0 1 1 (by kernel_rfl))<|sg [0,1,4,6]) rfl λ s i=>qH<|qs (i)<|sr<|ck 3<|en<|re (by cases H;exact pr<|rT (vs:=[.agg [.d<|.str [],.d<|.nil,.d<|.int .i64 0],.d<|.bool false]) []<|t1 (a1<|c1 vd<|c1 vn<|c1 vd<|c0)<|t1 (ad vd)<|t0)
 ·exact lR Jv e (tr (Er 0 1 1 (by kernel_rfl))<|sg [0,1,4,6]) rfl λ s j=>qR<|qr (by cases H;exact pr j)
end
section
variable (m:IJ) (o:(List (CY Int))) (k:(Zv Int)) (h:Bool) (e:((List AK)×Int)) (j:((List AK)×Int)) (p:Int)
def Jhv:St:=⟨(0,.agg [.d<|.int .u8 m.Base,.d<|.int .u8 m.Drop,.d<|.sl<|m.More.map Ec])::(1,.d<|.sl<|o.map<|Jf eU8)::(2,.agg [.d<|.int .u8 k.a0,.d<|.int .u8 k.a1,.d<|.int .u8 k.a2])::[],[]⟩
def Jhw:St:=⟨(7,.d<|.bool h)::(11,.d<|.sl<|e.1.map A2)::(16,.d<|.sl<|j.1.map A2)::(18,.d<|.int .i64 p)::[],[]⟩
def Jhx:St:=⟨(7,.d<|.bool h)::[],[]⟩
def J9:(Unit⊕Bool)->Ex->St->Prop:=xS (xX 0 0<|λ (_:Unit)=>Jhx h)<|xR ty Try.f6<|λ (y:Bool)=>.d<|.bool y
def FC:Int->St:=(λ (x:Int)=>Jhw h e j x)
variable {m o k h e j p}
theorem Fs (x:Int) (z:(Int⊕(Unit⊕Bool))) (H:B8 n h e j x=some z):WP (cxk 149 0) (AR Try.f6) [1,1,1,1,1,1,1,1,1,1,1,1,0,1,0,0] (AT 0 (FC h e j) (J9 h) z) (FC h e j x):=by
 revert H;generalize x=p;intro H;refine sq<|sr<|ck 2<|sp (AU A2 e.1)<|ck 1<|en<|cn H (λ H=>?_)<|λ H=>?_
 ·refine sk<|qz<|sq<|bk 1<|sr<|ck 3<|bx H λ W w H=>sp (AY A2 w)<|ck 2<|bx H λ q A H=>ca false (Tr A)<|ck 6<|en<|sr<|ck 4<|gc 1 (!(!q.2))<|ck 2<|bx H λ X B H=>sE (λ hg=>AY A2<|G1 B hg)<|gc 3 (!(!q.2))<|pO<|en<|cn H (λ H=>?_)<|λ H=>?_
  ·exact sr<|ck 1<|en<|re<|qR<|qr (by cases H;exact ro rfl rd)
  ·exact sk<|qN<|qz<|rz<|ck 3<|ae (by cases H;exact og<|sg [7,11,16,18])
 ·exact ex 0<|qx (by cases H;exact xo rfl<|sg [7])
theorem Ly {z} (H:EC n m o k=some z):AN Try.prog 6 [.agg (U7 m),.d (.sl (o.map (Jf eU8))),.agg [.d (.int .u8 k.a0),.d (.int .u8 k.a1),.d (.int .u8 k.a2)]] (.d (.bool z)):=by
 refine fO 149 (Jhv m o k) Try.func6<|sr<|ck 3<|en<|sr<|bx H λ h C H=>ca true (PN C)<|ck 1<|en<|sr<|ck 1<|bx H λ Y E H=>ca false (Tp E)<|ck 1<|bx H λ G I H=>ca false (Tq I)<|ck 8<|en<|sr<|ck 3<|bx H λ e J H=>ca false (BQ J)<|ck 5<|en<|sr<|ck 4<|bx H λ f K H=>ca false (BQ K)<|ck 5<|en<|sq<|sr<|ck 2<|en<|cn H (λ H=>?_)<|λ H=>?_
 ·exact sr<|ck 4<|pA<|ck 1<|en<|re<|qr (by cases H;exact pr rd)
 ·refine sk<|qz<|sq<|sr<|ck 4<|gc 2 (!(e.2 != 0))<|ck 1<|sE (g:=((!(e.2 != 0))&&(f.2==0))) (λ hg=>AU A2 f.1)<|ck 1<|sE (g:=((!(e.2 != 0))&&(f.2==0))) (λ hg=>AU A2 e.1)<|gc 2 ((!(e.2 != 0))&&(f.2==0))<|ck 2<|sE (g:=(((!(e.2 != 0))&&(f.2==0))&&!(decide<|((f.1.length:Nat):Int)<((e.1.length:Nat):Int)))) (λ hg=>AU A2 e.1)<|bx H λ ah L H=>sE (λ hg=>UN A2 3<|G1 L hg)<|ck 1<|bx H λ i M H=>cG false (leZ) rfl (λ hg=>EF<|G1 M hg) (Or.inl rfl) (FG (λ hh=>hh)<|FG (λ hh=>hh)<|Kw) rfl<|gc 1 (((!(e.2 != 0))&&(f.2==0))&&!(decide<|((f.1.length:Nat):Int)<((e.1.length:Nat):Int)))<|pG (g:=((!(e.2 != 0))&&(f.2==0))) (v:=.d<|.bool<|(decide<|((f.1.length:Nat):Int)<((e.1.length:Nat):Int))||(!i)) (λ hg=>Hs (c:=.gv ((!(e.2 != 0))&&(f.2==0))<|.d<|.bool<|decide<|((f.1.length:Nat):Int)<((e.1.length:Nat):Int)) (a:=.d<|.bool true) (b:=.gv (((!(e.2 != 0))&&(f.2==0))&&!(decide<|((f.1.length:Nat):Int)<((e.1.length:Nat):Int)))<|.d<|.bool<|!i) rfl rfl rfl ((λ hh=>hh) hg) trivial (λ ht=>by rw[(λ hh=>hh) hg,ht];rfl))<|pG (g:=(!(e.2 != 0))) (v:=.d<|.bool<|(f.2==0)&&((decide<|((f.1.length:Nat):Int)<((e.1.length:Nat):Int))||(!i))) (λ hg=>Hs (c:=.gv (!(e.2 != 0))<|.d<|.bool<|f.2==0) (a:=.gv ((!(e.2 != 0))&&(f.2==0))<|.d<|.bool<|(decide<|((f.1.length:Nat):Int)<((e.1.length:Nat):Int))||(!i)) (b:=.d<|.bool false) rfl rfl rfl ((λ hh=>hh) hg) (λ ht=>by rw[(λ hh=>hh) hg,ht];rfl) trivial)<|pO<|ck 2<|gc 2 (!((e.2 != 0)||((f.2==0)&&((decide<|((f.1.length:Nat):Int)<((e.1.length:Nat):Int))||(!i)))))<|ck 1<|gc 1 ((!((e.2 != 0)||((f.2==0)&&((decide<|((f.1.length:Nat):Int)<((e.1.length:Nat):Int))||(!i)))))&&(f.2 != 0))<|pG (g:=(!((e.2 != 0)||((f.2==0)&&((decide<|((f.1.length:Nat):Int)<((e.1.length:Nat):Int))||(!i)))))) (v:=.d<|.bool<|(f.2 != 0)&&(f.2 != 2)) (λ hg=>Hs (c:=.gv (!((e.2 != 0)||((f.2==0)&&((decide<|((f.1.length:Nat):Int)<((e.1.length:Nat):Int))||(!i)))))<|.d<|.bool<|f.2 != 0) (a:=.gv ((!((e.2 != 0)||((f.2==0)&&((decide<|((f.1.length:Nat):Int)<((e.1.length:Nat):Int))||(!i)))))&&(f.2 != 0))<|.d<|.bool<|f.2 != 2) (b:=.d<|.bool false) rfl rfl rfl ((λ hh=>hh) hg) (λ ht=>by rw[(λ hh=>hh) hg,ht];rfl) trivial)<|pO<|en<|cn H (λ H=>?_)<|λ H=>?_
  ·exact sr<|ck 1<|en<|re<|qr (by cases H;exact pr rd)
  ·refine sk<|qz<|sq<|sr<|ck 1<|sp (AU Bu G)<|ck 1<|en<|cn H (λ H=>?_)<|λ H=>?_
   ·exact sr<|ck 2<|en<|re<|qr (by cases H;exact pr rd)
   ·refine sk<|qz<|sr<|ck 2<|bx H λ ai O H=>sp (Jd1 Bu 3 2 O)<|ck 1<|en<|sr<|ck 6<|bx H λ Z P H=>so (OF P)<|bx H λ aa r H=>sp (Bl 4 2 r)<|ck 1<|sp (Co Bu 4 1 (ty 60) r)<|ck 3<|bx H λ ab Q H=>so (Hq Q)<|ck 1<|bx H λ ac t H=>sp (Bl 4 2 t)<|ck 1<|bx H λ V l H=>stA Bu 4 1 (ty 60) t l<|en<|sq<|rg (tr (tr (tr (tr (sn 88 4 2<|Es l)<|sn 15 4 2<|Es l)<|sn 89 4 2<|Es l)<|sn 93 4 2<|Es l)<|fz (enc:=Bu) (xs:=V) 15 4 2)<|ck 3<|bx H λ j R H=>ca false (BQ R)<|ck 5<|en<|sq<|sr<|ck 2<|en<|cn H (λ H=>?_)<|λ H=>?_
    ·exact sr<|ck 4<|pA<|ck 1<|en<|re<|qr (by cases H;exact pr rd)
    ·refine sk<|qz<|sq<|sr<|ck 1<|en<|bk 0<|bx H λ S u H=>?_;rcases S with af|ag
     ·exact lX Fs u (sg [7,11,16,18]) rfl λ s T=>qH<|qs (T)<|sr<|ck 2<|en<|re (by cases H;exact pr rd)
     ·exact lR Fs u (sg [7,11,16,18]) rfl λ s U=>qR<|qr (by cases H;exact pr U)
end
end Go.AI
end
section
namespace Go.AI
def CRd (F:Nat->Option Obj) (l:List D) (cs:List Value):Prop:=l.length=cs.length/\∀ (i:Nat) (y:D) (v:Value),l[i]?=some y->cs[i]?=some v->A5 F y v
def Ft {α:Type} (P:Program) (t:TypeId) (enc:α->List D) (ok:α->Prop):Prop:=
 ∀ (H:Type) (e:TypeId×Value->H) (w:World) (base:Nat) (spare:Nat->Bool) (held:Bool) (fuel:Nat) (cs:List Value) (x:DataW H×List MemPlace),DataW.trod e P w base spare held fuel t cs=some x->∃ a:α,ok a/\CRd (λ b=>w.heap[b]?) (enc a) cs
theorem RW {F:Nat->Option Obj} {y:D} {v:Value} (h:A5 F y v):CRd F [y] [v]:=by
 refine⟨rfl,λ i a b ha hb=>?_⟩;cases i with
 | zero=>simp at ha hb;subst ha;subst hb;exact h
 | succ i=>simp at ha
theorem Xv {P:Program} {t:TypeId} {k:IntKind} (ht:P.underlying t=some (.int k)):Ft P t (λ n=>[.int k n]) (λ n=>(Lit.int k n).wf=true):=by
 intro H e w base spare held fuel cs x h;obtain⟨n,rfl,_,hw⟩:=DataW.trod_int ht h;exact⟨n,hw,RW (.int k n)⟩
theorem Ts {α:Type} {Q:Nat->α->Prop}:∀ n,(∀ i,i<n->∃ a,Q i a)->∃ l:List α,l.length=n/\∀ i a,l[i]?=some a->Q i a:=by
 intro n;induction n with
 | zero=>intro _;exact⟨[],rfl,λ i a h=>by simp at h⟩
 | succ n ih=>
  intro h;obtain⟨l,hl,hq⟩:=ih λ i hi=>h i (by omega);obtain⟨a,ha⟩:=h n (by omega);refine⟨l++[a],by simp[hl],λ i b hb=>?_⟩;rcases JiO i l.length with hlt|hge
  ·rw[Ji6 hlt]at hb;exact hq i b hb
  ·rw[Jjg hge]at hb;have:i-l.length=0:=by have:=Ab hb;simp at this;omega
   rw[this]at hb;simp at hb;subst hb;have:i=n:=by omega
   subst this;exact ha
theorem Tt {α β:Type} {f:α->Option β}:∀ {l:List α} {r:List β},l.mapM f=some r->r.length=l.length/\∀ (i:Nat) (a:α),l[i]?=some a->r[i]?=f a:=by
 intro l;induction l with
 | nil=>intro r h;simp at h;subst h;exact⟨rfl,λ i a h=>by simp at h⟩
 | cons a l ih=>
  intro r h;rw[List.mapM_cons]at h;simp only[Option.bind_eq_bind,Option.bind_eq_some_iff,Option.pure_def,Ji8]at h;obtain⟨b,hb,r',hr',rfl⟩:=h;obtain⟨h1,h2⟩:=ih hr';refine⟨by simp[h1],λ i x hx=>?_⟩;cases i with
  | zero=>simp at hx;subst hx;simp[hb]
  | succ i=>simpa using h2 i x (by simpa using hx)
theorem RX {α:Type} {P:Program} {t e:TypeId} {enc:α->List D} {ok:α->Prop} {sz:Nat} (ht:P.underlying t=some (.slice e)) (hsz:P.cellsOf e=sz) (h1:Nat.ble 1 sz=true) (hl:∀ a,(enc a).length=sz) (he:Ft P e enc ok):Ft P t (eL enc) (λ l=>l.length<=9223372036854775807/\∀ a∈l,ok a):=by
 intro H en w base spare held fuel cs x h;have h1:=Jjd h1;rcases DataW.trod_slice ht h with⟨rfl,_⟩|⟨a,len,cap,elems,rest,n,_,rfl,_,_,hcap,hmx,hel,hget,_,_⟩
 ·exact⟨[],⟨by simp,λ a h=>by simp at h⟩,RW (.sl0 _ _)⟩
 ·rw[hsz]at hget;have hex:∀ i,i<len->∃ y:α,ok y/\∃ ci,w.cells? base (a.add (i*sz)) sz=some ci/\CRd (λ b=>w.heap[b]?) (enc y) ci:=λ i hi=>by
   have hg:=hget i hi;rw[JiY (show i<elems.length by omega)]at hg;simp only[Option.bind_eq_some_iff]at hg;obtain⟨ci,hc,htr⟩:=hg;obtain⟨y,hy,hcr⟩:=he H en w base spare held n ci _ htr;exact⟨y,hy,ci,hc,hcr⟩
  obtain⟨l,hll,hq⟩:=Ts len hex;refine⟨l,⟨by unfold maxLen at hmx;omega,λ y hy=>?_⟩,RW ?_⟩
  ·obtain⟨i,hi⟩:=List.mem_iff_getElem?.1 hy;exact(hq i y hi).1
  ·rcases Nat.eq_zero_or_pos len with h0|hpos
   ·have:l=[]:=List.length_eq_zero_iff.1 (by omega);subst this;subst h0;exact .sl0 _ _
   ·
    have hcell:∀ i y,l[i]?=some y->∀ j,j<sz->∃ v,w.cell? ((a.add (i*sz)).add j)=some v/\∀ d,(enc y)[j]?=some d->A5 (λ b=>w.heap[b]?) d v:=λ i y hy j hj=>by
     obtain⟨_,ci,hc,hcr⟩:=hq i y hy;unfold World.cells? at hc;split at hc
     ·obtain⟨g1,g2⟩:=Tt hc;have:=g2 j j (by simp[hj]);have hjc:j<ci.length:=by rw[g1];simpa using hj
      rw[JiY hjc]at this;exact⟨ci[j],this.symm,λ d hd=>hcr.2 j d _ hd (JiY hjc)⟩
     ·cases hc
    have h0:l[0]?=some l[0]:=JiY (by omega);obtain⟨v0,hv0,_⟩:=hcell 0 _ h0 0 (by omega);have ha0:(a.add (0*sz)).add 0=a:=by simp[Addr.add]
    rw[ha0]at hv0;obtain⟨b,off,spot⟩:=a;unfold World.cell? at hv0;simp only at hv0;split at hv0
    ·rename_i c ty fr hblk;cases spot with
     | some s=>simp at hv0
     | none=>
      have hcell':∀ i y,l[i]?=some y->∀ j d,(enc y)[j]?=some d->∃ v,c[off+i*sz+j]?=some v/\A5 (λ b=>w.heap[b]?) d v:=λ i y hy j d hd=>by
       have hj:j<sz:=by rw[← hl y];exact Ab hd
       obtain⟨v,hv,hr⟩:=hcell i y hy j hj;rw[BI,BI,IU hblk]at hv;exact⟨v,hv,hr d hd⟩
      have hlen:(l.map enc).length=len:=by simp[hll]
      have:=A5.sl (F:=λ b=>w.heap[b]?) (l.map enc) b off cap sz c ty fr (λ i j=>(c[off+i*sz+j]?).getD undef) hblk (λ e he=>by
        simp only[JiQ]at he;obtain⟨y,_,rfl⟩:=he;exact hl y) (by omega) (λ i e hi j d hd=>by
        simp only[Ji2,Ji1]at hi;obtain⟨y,hy,rfl⟩:=hi;obtain⟨v,hv,_⟩:=hcell' i y hy j d hd;simp only[hv,JiJ]) (λ i e hi j d hd=>by
        simp only[Ji2,Ji1]at hi;obtain⟨y,hy,rfl⟩:=hi;obtain⟨v,hv,hr⟩:=hcell' i y hy j d hd;simp only[hv,JiJ];exact hr)
      rw[hlen]at this;exact this
    ·cases hv0
theorem Jw {α:Type} {P:Program} {t e:TypeId} {enc:α->List D} {ok:α->Prop} {sz:Nat} (ht:P.underlying t=some (.slice e)) (hsz:P.cellsOf e=sz) (h1:Nat.ble 1 sz=true) (hl:∀ a,(enc a).length=sz) (he:Ft P e enc ok):Ft P t (eL enc) (λ l=>∀ a∈l,ok a):=by
 intro H en w base spare held fuel cs x h;obtain⟨l,h1,h2⟩:=RX ht hsz h1 hl he H en w base spare held fuel cs x h;exact⟨l,h1.2,h2⟩
theorem CK {F:Nat->Option Obj} {l m:List D} {cs:List Value} {o n:Nat} (h:CRd F l ((cs.drop o).take n)) (hn:Nat.beq l.length n=true) (h':CRd F m (cs.drop (o+n))):CRd F (l++m) (cs.drop o):=by
 have hn:=Ji5 hn;have e:cs.drop o=(cs.drop o).take n++cs.drop (o+n):=by rw[← List.drop_drop,List.take_append_drop]
 rw[e];refine⟨by simp only[List.length_append,h.1,h'.1],λ i y v hy hv=>?_⟩;rcases JiO i l.length with hlt|hge
 ·rw[Ji6 hlt]at hy;rw[Ji6 (by rw[← h.1];exact hlt)]at hv;exact h.2 i y v hy hv
 ·rw[Jjg hge]at hy;rw[Jjg (by rw[← h.1];exact hge),← h.1]at hv;exact h'.2 _ y v hy hv
theorem Nz {F:Nat->Option Obj} {cs:List Value} {o:Nat} (h:cs.length<=o):CRd F [] (cs.drop o):=by
 rw[List.drop_eq_nil_of_le h];exact⟨rfl,λ i y v hy=>by simp at hy⟩
theorem Pe {H:Type} {enc:TypeId×Value->H} {P:Program} {w:World} {base:Nat} {spare:Nat->Bool} {held:Bool} {fuel:Nat} {t e:TypeId} {n:Nat} {cs:List Value} {x:DataW H×List MemPlace} (ht:P.underlying t=some (.array n e)) (h:DataW.trod enc P w base spare held fuel t cs=some x) :
  ∃ m,cs.length=P.cellsOf t/\∀ i,i<n->∃ y,DataW.trod enc P w base spare held m e ((cs.drop (i*P.cellsOf e)).take (P.cellsOf e))=some y:=by
 cases fuel with
 | zero=>simp[DataW.trod]at h
 | succ m=>
  unfold DataW.trod at h;rw[ht]at h;split at h<;>simp_all;obtain⟨xs,hp,_⟩:=h.2;refine⟨m,λ i hi=>?_⟩;obtain⟨g1,g2⟩:=Tt hp;have:=g2 i i (by simp[hi]);have hlt:i<xs.length:=by rw[g1];simpa using hi
  rw[JiY hlt]at this;exact⟨_,_,this.symm⟩
end Go.AI
end
section
namespace Go.AI
open Go.ChangeShapes Go.WideShapes Go.ChangeAt Go.RowKit
variable {P:Program} {H:Type} {en:TypeId×Value->H} {W W':World} {base:Nat} {spare:Nat->Bool} {held:Bool} {t e:TypeId} {v:Value} {d:DataW H} {ps:List MemPlace} {α:Type} {enc:α->List D} {ok:α->Prop}
theorem RY {P:Program} {w:World} {r:Go.Reach} {base:Nat} {t e:TypeId} {n:Nat} {v:Value} (ht:P.underlying t=some (.array n e)) (h:Value.okWide P w r base t v):∃ cs,v=.agg cs/\cs.size=P.cellsOf t:=by
 simp only[Value.okWide,ht]at h;obtain⟨cs,h1,h2,_⟩:=h;exact⟨cs,h1,h2⟩
theorem VX {cs:Array Value} (hv:v=.agg cs) (hd:DataW.Trod en P W base spare held t v d ps) (hr:Ft P t enc ok):∃ a,ok a/\Ag (λ b=>W.heap[b]?) noR (.agg ((enc a).map .d)) v:=by
 subst hv;obtain⟨fuel,hf⟩:=hd;obtain⟨a,h1,h2,h3⟩:=hr H en W base spare held fuel _ _ hf;refine⟨a,h1,.agg _ _ (by simpa [Value.cells]using h2) λ i x u hx hu=>?_⟩;simp only[Ji2,Ji1]at hx;obtain⟨y,hy,rfl⟩:=hx;exact .d _ _ (h3 i y u hy (by simpa [Value.cells]using hu))
theorem Jcy {y:α->D} (hc:v.cells=#[v]) (hd:DataW.Trod en P W base spare held t v d ps) (hr:Ft P t enc ok) (he:∀ a,enc a=[y a]):∃ a,ok a/\Ag (λ b=>W.heap[b]?) noR (.d (y a)) v:=by
 obtain⟨fuel,hf⟩:=hd;obtain⟨a,h1,h2,h3⟩:=hr H en W base spare held fuel _ _ hf;refine⟨a,h1,.d _ _ (h3 0 (y a) v (by rw[he];rfl) (by rw[hc];rfl))⟩
theorem JfO {F:Nat->Option Obj} {ρ:Nat->Option Loc}:CR F ρ [] []:=⟨rfl,λ i a v h=>by simp at h⟩
theorem RZ {F:Nat->Option Obj} {ρ:Nat->Option Loc} {a:AV} {v:Value} {l:List AV} {vs:List Value} (h:Ag F ρ a v) (h':CR F ρ l vs):CR F ρ (a::l) (v::vs):=by
 refine⟨by simp[h'.1],λ i x u hx hu=>?_⟩;cases i with
 | zero=>simp at hx hu;subst hx;subst hu;exact h
 | succ i=>exact h'.2 i x u (by simpa using hx) (by simpa using hu)
theorem fld {w:World} {fuel:Nat} {cs:List Value} {fs:Array Field} {xs:List (DataW H×List MemPlace)} (hg:∀ (i:Nat) (f:Field),fs[i]?=some f->DataW.trod en P w base spare held fuel f.type ((cs.drop f.offset).take (P.cellsOf f.type))=xs[i]?) (hxl:xs.length=fs.size) (i:Nat) {f:Field} (hf:fs[i]?=some f) (u o n:Nat) (hu:f.type=u) (ho:f.offset=o) (hn:P.cellsOf u=n) (hr:Ft P u enc ok) :
  ∃ a,ok a/\CRd (λ b=>w.heap[b]?) (enc a) ((cs.drop o).take n):=by
 have:=hg i f hf;have hi:i<xs.length:=by rw[hxl];exact Aj hf
 rw[JiY hi,hu,ho,hn]at this;exact hr H en w base spare held fuel _ _ this
theorem Jax {w:World} {fuel:Nat} {cs:List Value} {m:Nat} (hg:∀ i,i<m->∃ y,DataW.trod en P w base spare held fuel e ((cs.drop (i*P.cellsOf e)).take (P.cellsOf e))=some y) (i:Nat) (hi:Nat.ble (i+1) m=true) (o n:Nat) (hn:P.cellsOf e=n) (ho:i*n=o) (hr:Ft P e enc ok) :
  ∃ a,ok a/\CRd (λ b=>w.heap[b]?) (enc a) ((cs.drop o).take n):=by
 obtain⟨y,hy⟩:=hg i (Jjd hi);rw[hn,ho]at hy;exact hr H en w base spare held fuel _ _ hy
theorem Jay {f:FuncId} {args:List AV} {vs:Array Value} (hc:AN P f args (.d (.bool true))) (hcr:CR (λ b=>W.heap[b]?) noR args vs.toList):Calls P f vs W λ e W'=>e=.returned (.bool true)/\(∀ before:List MemPlace,W.keptBut W' (·∈before))/\∀ b,b<W.heap.size->W'.heap[b]?=W.heap[b]? := by
 refine(hc.2 (λ b=>W.heap[b]?) W vs hcr λ b o h=>h).mono λ e W' h=>?_;obtain⟨v,F',ρ,rfl,hS,hr,hmu⟩:=h;have hv:v=.bool true:=by
  have:(BM true 0 (.d (.bool true))).1=.d (.bool true):=rfl;rw[this]at hr;exact hr.bool
 subst hv;have hold:∀ b,b<W.heap.size->W'.heap[b]?=W.heap[b]? := λ b hb=>hS.old b (by omega);refine⟨rfl,λ before=>World.keptBut_mono (λ p hp=>hp.elim) (?_:W.keptBut W' λ _=>False),hold⟩;refine⟨hmu.os,hmu.out,λ i hi=>?_⟩;rw[hold i hi];cases hh:W.heap[i]? with
 | none=>rfl
 | some o=>cases o<;>first|exact⟨rfl,rfl,rfl,λ _ _=>rfl⟩|exact .inr ⟨rfl,rfl⟩|rfl
theorem Xw {f:Func} {s:ChangeSpec} {apart fresh handsOn again:Bool} {args:Array Value} {ds gs:List (DataW H)} {before pa pv:List MemPlace}
  (hW:DataW.Whole en P f.params.toList s.vars apart W args.toList ds gs before)
  (hres:∀ (b:Nat) (sp:Nat->Bool) (hd:Bool),DataW.TrodAll en P W' b sp hd f.resultTypes.toList (v.resultList f.resultTypes.size) (s.fn H (ds++gs)).results [])
  (hargs:∀ sp:Nat->Bool,(∀ p∈before,sp p.block=true)->DataW.TrodAll en P W' 0 sp true f.params.toList args.toList (s.fn H (ds++gs)).args pa)
  (hvars:∀ sp:Nat->Bool,(∀ p∈before,sp p.block=true)->DataW.TrodVars en P W' sp s.vars (s.fn H (ds++gs)).vars pv)
  (hps:before=pa++pv) (hk:W.keptBut W' (·∈before)) (hold:∀ b,b<W.heap.size->W'.heap[b]?=W.heap[b]?)
  (hok:∀ (j:Nat) (t:TypeId) (r:Value),f.resultTypes[j]?=some t->(v.resultList f.resultTypes.size)[j]?=some r->Value.okWide P W' .any 0 t r) :
  s.post en P f apart fresh handsOn again W args v W':=by
 have hin:∀ p∈before,(λ b=>decide (b<W.heap.size)) p.block=true:=λ p hp=>by simpa using hW.lt p hp
 have hlt:=hW.lt;refine⟨ds,gs,before,[],pa,pv,hW,hres _ _ _,hargs _ hin,hvars _ hin,World.keptBut_mono (λ p hp=>⟨hp,?_⟩) hk,λ _=>?_⟩
 ·rw[hps,List.mem_append]at hp;exact Or.inr hp
 ·obtain⟨_,_,_,_,_,hz,hn⟩:=hW;refine⟨hok,_,_,([]++pa)++pv,⟨[]++pa,pv,trodAll_append (hargs _ (λ _ _=>rfl)) (hres _ _ _),hvars _ (λ _ _=>rfl),rfl,?_,?_⟩,?_⟩
  ·intro b off hp;have hp:MemPlace.cell b off∈before:=by rw[hps];simpa using hp
   have:=hz b off hp;simp only[World.frozen?,hold b (hlt _ hp)]at this⊢;exact this
  ·intro ha;have:=hn ha;rw[hps]at this;simpa using this
  ·intro p hp _;rw[hps];simpa using hp
theorem Jaz (hl:laidOutB P=true) (hr:P.readableRec t=true) (hrow:t<P.types.size) (h:DataW.Trod en P W 0 (λ _=>true) true t v d ps) (hb:∀ p∈ps,p.block<W.heap.size) {sp:Nat->Bool} (hs:∀ p∈ps,sp p.block=true) (hold:∀ b,b<W.heap.size->W'.heap[b]?=W.heap[b]?):DataW.Trod en P W' 0 sp true t v d ps:=by
 refine WideElems.Trod_stays hl hr hrow h (λ p hp=>?_) hs;have:=hb p hp;cases p with
 | cell b o=>exact World.cell?_of_block (w:=W) (hold b this)
 | map b=>exact hold b this
end Go.AI
end
section
namespace Go.AI
open Go.Proofs Go.ChangeShapes Go.WideShapes Go.ChangeAt Go.RowKit
def okI (k:IntKind) (n:Int):Prop:=(Lit.int k n).wf=true
theorem rd5:Ft Try.prog 5 eU8 (okI .u8):=Xv Try.underlying5
theorem Jhy:Ft Try.prog 52 (eL eU8) (λ l=>∀ a∈l,okI .u8 a):=Jw (sz:=1) Try.underlying52 (by kernel_rfl) rfl (λ _=>rfl) rd5
theorem Jhz:Ft Try.prog 68 (Jf eU8) (λ x=>okI .u8 x.a0/\okI .u8 x.a1):=by
 intro H e w base spare held fuel cs x h;obtain⟨m,hcl,hg⟩:=Pe Try.underlying68 h;have hcl:cs.length=2:=hcl.trans (by kernel_rfl);obtain⟨a0,k0,c0⟩:=Jax hg 0 rfl 0 1 (by kernel_rfl) rfl rd5;obtain⟨a1,k1,c1⟩:=Jax hg 1 rfl 1 1 (by kernel_rfl) rfl rd5;refine⟨⟨a0,a1⟩,⟨k0,k1⟩,?_⟩;have:=CK c0 rfl (CK c1 rfl (Nz (Nat.le_of_eq hcl)));exact this
def Io (x:Cz):Prop:=(∀ a∈x.P,okI .u8 a)/\(∀ a∈x.C,okI .u8 a)/\okI .u8 x.L/\okI .u8 x.R/\(okI .u8 x.W.a0/\okI .u8 x.W.a1)
theorem Jii:Ft Try.prog 70 Ec Io:=by
 intro H e w base spare held fuel cs x h;obtain⟨xs,n,_,_,hcl,hxl,hg⟩:=DataW.trod_struct Try.underlying70 h;have hcl:cs.length=6:=hcl.trans (by kernel_rfl);obtain⟨a0,k0,c0⟩:=fld hg hxl 0 rfl 52 0 1 rfl rfl (by kernel_rfl) Jhy;obtain⟨a1,k1,c1⟩:=fld hg hxl 1 rfl 52 1 1 rfl rfl (by kernel_rfl) Jhy;obtain⟨a2,k2,c2⟩:=fld hg hxl 2 rfl 5 2 1 rfl rfl (by kernel_rfl) rd5;obtain⟨a3,k3,c3⟩:=fld hg hxl 3 rfl 5 3 1 rfl rfl (by kernel_rfl) rd5;obtain⟨a4,k4,c4⟩:=fld hg hxl 4 rfl 68 4 2 rfl rfl (by kernel_rfl) Jhz;refine⟨⟨a0,a1,a2,a3,a4⟩,⟨k0,k1,k2,k3,k4⟩,?_⟩;have:=CK c0 rfl (CK c1 rfl (CK c2 rfl (CK c3 rfl (CK c4 rfl (Nz (Nat.le_of_eq hcl))))));exact this
theorem Jij:Ft Try.prog 22 (eL Ec) (λ l=>∀ a∈l,Io a):=Jw (sz:=6) Try.underlying22 (by kernel_rfl) rfl (λ _=>rfl) Jii
def U9 (x:IJ):Prop:=okI .u8 x.Base/\okI .u8 x.Drop/\(∀ a∈x.More,Io a)
theorem Jik:Ft Try.prog 24 Jhd U9:=by
 intro H e w base spare held fuel cs x h;obtain⟨xs,n,_,_,hcl,hxl,hg⟩:=DataW.trod_struct Try.underlying24 h;have hcl:cs.length=3:=hcl.trans (by kernel_rfl);obtain⟨a0,k0,c0⟩:=fld hg hxl 0 rfl 5 0 1 rfl rfl (by kernel_rfl) rd5;obtain⟨a1,k1,c1⟩:=fld hg hxl 1 rfl 5 1 1 rfl rfl (by kernel_rfl) rd5;obtain⟨a2,k2,c2⟩:=fld hg hxl 2 rfl 22 2 1 rfl rfl (by kernel_rfl) Jij;refine⟨⟨a0,a1,a2⟩,⟨k0,k1,k2⟩,?_⟩;have:=CK c0 rfl (CK c1 rfl (CK c2 rfl (Nz (Nat.le_of_eq hcl))));exact this
theorem Jil:Ft Try.prog 25 (eL (Jf eU8)) (λ l=>∀ a∈l,(okI .u8 a.a0/\okI .u8 a.a1)):=Jw (sz:=2) Try.underlying25 (by kernel_rfl) rfl (λ _=>rfl) Jhz
theorem Jim:Ft Try.prog 59 (Jhe eU8) (λ x=>okI .u8 x.a0/\okI .u8 x.a1/\okI .u8 x.a2):=by
 intro H e w base spare held fuel cs x h;obtain⟨m,hcl,hg⟩:=Pe Try.underlying59 h;have hcl:cs.length=3:=hcl.trans (by kernel_rfl);obtain⟨a0,k0,c0⟩:=Jax hg 0 rfl 0 1 (by kernel_rfl) rfl rd5;obtain⟨a1,k1,c1⟩:=Jax hg 1 rfl 1 1 (by kernel_rfl) rfl rd5;obtain⟨a2,k2,c2⟩:=Jax hg 2 rfl 2 1 (by kernel_rfl) rfl rd5;refine⟨⟨a0,a1,a2⟩,⟨k0,k1,k2⟩,?_⟩;have:=CK c0 rfl (CK c1 rfl (CK c2 rfl (Nz (Nat.le_of_eq hcl))));exact this
end Go.AI
end
section
namespace Go.AI
def Le {α:Type} (a b:Option α):Prop:=∀ z,a=some z->b=some z
theorem Le.refl {α:Type} (a:Option α):Le a a:=λ _ h=>h
theorem Le.bind {α β:Type} {a a':Option α} {f f':α->Option β} (h:Le a a') (hf:∀ x,Le (f x) (f' x)):Le (a.bind f) (a'.bind f'):=by
 intro z hz;obtain⟨x,h1,h2⟩:=bind_some hz;rw[h x h1];exact hf x z h2
theorem Le.ite {α:Type} {c:Prop} [Decidable c] {a a' b b':Option α} (h:Le a a') (h':Le b b'):Le (if c then a else b) (if c then a' else b'):=by
 split
 ·exact h
 ·exact h'
theorem Le.whl {σ ρ:Type} {body body':σ->Option (σ⊕ρ)} (hb:∀ x,Le (body x) (body' x)):∀ {n m:Nat},n<=m->∀ x,Le (whl body n x) (whl body' m x):=by
 intro n;induction n with
 | zero=>intro m _ x z hz;cases hz
 | succ n ih=>
  intro m hm x z hz;cases m with
  | zero=>omega
  | succ m=>
   simp only[Go.AI.whl]at hz⊢;cases hx:body x with
   | none=>rw[hx]at hz;cases hz
   | some y=>
    rw[hb x y hx];rw[hx]at hz;cases y with
    | inl y=>exact ih (by omega) y z hz
    | inr r=>exact hz
theorem Le.sum {α β γ:Type} {y:α⊕β} {f f':α->Option γ} {g g':β->Option γ} (hf:∀ a,Le (f a) (f' a)) (hg:∀ b,Le (g b) (g' b)):Le (match y with | .inl a=>f a | .inr b=>g b) (match y with | .inl a=>f' a | .inr b=>g' b):=by
 cases y with
 | inl a=>exact hf a
 | inr b=>exact hg b
def Ev {α:Type} (f:Nat->Option α) (z:α):Prop:=∃ n,∀ m,n<=m->f m=some z
theorem Ev.const {α:Type} {z:α}:Ev (λ _=>some z) z:=⟨0,λ _ _=>rfl⟩
theorem Ev.of {α:Type} {f:Nat->Option α} {z:α} (hm:∀ n m,n<=m->Le (f n) (f m)) {n:Nat} (h:f n=some z):Ev f z:=⟨n,λ m hnm=>hm n m hnm z h⟩
theorem Ev.all {α:Type} {f:Nat->Option α} {z:α} (h:∀ n,f n=some z):Ev f z:=⟨0,λ m _=>h m⟩
theorem Ev.bind {α β:Type} {f:Nat->Option α} {g:Nat->α->Option β} {x:α} {z:β} (h:Ev f x) (hg:Ev (λ n=>g n x) z):Ev (λ n=>(f n).bind (g n)) z:=by
 obtain⟨n,hn⟩:=h;obtain⟨m,hm⟩:=hg;refine⟨max n m,λ k hk=>?_⟩;show(f k).bind (g k)=_;rw[hn k (by omega)];exact hm k (by omega)
theorem Ev.out {α:Type} {f:Nat->Option α} {z:α} (h:Ev f z):∃ n,f n=some z:=by
 obtain⟨n,hn⟩:=h;exact⟨n,hn n (JiN n)⟩
theorem Ev.congr {α:Type} {f g:Nat->Option α} {z:α} (h:Ev f z) (e:∀ n,g n=f n):Ev g z:=by
 obtain⟨n,hn⟩:=h;exact⟨n,λ m hm=>by rw[e m];exact hn m hm⟩
theorem Ev.whl {σ ρ:Type} {body:Nat->σ->Option (σ⊕ρ)} {r:ρ} (I:Nat->σ->Prop) (h:∀ k x,I k x->(∃ y j,j<k/\I j y/\Ev (λ n=>body n x) (.inl y))\/Ev (λ n=>body n x) (.inr r)):∀ (k:Nat) (x:σ),I k x->Ev (λ n=>Go.AI.whl (body n) n x) r:=by
 have key:∀ (k:Nat) (x:σ),I k x->∃ N c,∀ n fuel,N<=n->c<=fuel->Go.AI.whl (body n) fuel x=some r:=by
  intro k;induction k using Nat.strongRecOn with
  | _ k ih=>
   intro x hx;rcases h k x hx with⟨y,j,hj,hy,N1,h1⟩|⟨N1,h1⟩
   ·obtain⟨N2,c,h2⟩:=ih j hj y hy;refine⟨max N1 N2,c+1,λ n fuel hn hf=>?_⟩;cases fuel with
    | zero=>omega
    | succ fuel=>
     have e:=h1 n (by omega);simp only at e;simp only[Go.AI.whl,e];exact h2 n fuel (by omega) (by omega)
   ·refine⟨N1,1,λ n fuel hn hf=>?_⟩;cases fuel with
    | zero=>omega
    | succ fuel=>
     have e:=h1 n hn;simp only at e;simp only[Go.AI.whl,e]
 intro k x hx;obtain⟨N,c,hh⟩:=key k x hx;exact⟨max N c,λ m hm=>hh m m (by omega) (by omega)⟩
end Go.AI
end
section
namespace Go.AI
variable {α ε σ ρ ζ β:Type}
theorem Le.dem {S:α->Prop} {k k':α->Option ζ} (h:∀ a,Le (k a) (k' a)):Le (dem S k) (dem S k'):=by
 intro z hz;have h1:=Rv hz;have h0:∃ a,S a:=by
  unfold Go.AI.dem at hz;split at hz
  ·rename_i hx;exact hx.choose_spec.1
  ·cases hz
 exact Y7 h0 λ a ha=>h a _ (h1 a ha)
theorem Le.mapW {F F':ε->σ->Option (σ⊕ρ)} (h:∀ e x,Le (F e x) (F' e x)) (l:List ε) (x:σ):Le (mapW F l x) (mapW F' l x):=by
 induction l generalizing x with
 | nil=>intro z hz;exact hz
 | cons e l ih=>
  intro z hz;unfold Go.AI.mapW at hz⊢;split at hz
  ·cases hz
  ·rename_i y hy;rw[h e x _ hy];exact ih y z hz
  ·rename_i r hy;rw[h e x _ hy];exact hz
theorem Le.sortC {c c':β->β->Option Int} (h:∀ x y,Le (c x y) (c' x y)) {xs:List β}:Le (sortC c xs) (sortC c' xs):=by
 intro z hz;obtain⟨hc,hz⟩:=OO hz;have e:c'=c:=by
  funext x y;have:=hc.1.tot x y;rw[Option.isSome_iff_exists]at this;obtain⟨n,hn⟩:=this;rw[hn,h x y _ hn]
 rw[e];unfold Go.AI.sortC;rw[if_pos hc];exact hz
end Go.AI
end
section
namespace Go.AI
theorem Va (a:Int):IntKind.i64.wrap a=if decide (a % 18446744073709551616>=9223372036854775808)=true then a % 18446744073709551616-18446744073709551616 else a % 18446744073709551616:=rfl
theorem Qu (a:Int):IntKind.u8.wrap a=a % 256:=rfl
theorem Pf {a:Int} (h:-9223372036854775808<=a) (h':a<9223372036854775808):IntKind.i64.wrap a=a:=by
 rw[Va];split
 ·rename_i hc;simp at hc;omega
 ·rename_i hc;simp at hc;omega
theorem Pg {a b:Int} (h:-9223372036854775808<=a+b) (h':a+b<9223372036854775808):A0 .i64 a b=a+b:=Pf h h'
theorem JfP {a b:Int} (h:-9223372036854775808<=a-b) (h':a-b<9223372036854775808):PE .i64 a b=a-b:=Pf h h'
theorem JhA {a:Int} (h:0<=a) (h':a<256):IntKind.u8.wrap a=a:=by
 rw[Qu];omega
theorem Tu (a:Int):0<=IntKind.u8.wrap a/\IntKind.u8.wrap a<256:=by
 rw[Qu];omega
def R0 (m k:Int):Bool:=decide (0<=k)&&decide (k<8)&&(CN .u8 (JbM .u8 m k) 1==1)
theorem JaA (n:Nat) (m k:Int):Ic n m k=some (R0 m k):=by
 unfold Ic R0;by_cases h:0<=k
 ·by_cases h':k<8<;>simp[h,h',B1]
 ·simp[h]
def Gl (b:Int):Int:=
 if(decide (97<=CN .u8 b 127)&&decide (CN .u8 b 127<=122))=true then 1
 else if(decide (65<=CN .u8 b 127)&&decide (CN .u8 b 127<=90))=true then 2
 else if(decide (48<=CN .u8 b 127)&&decide (CN .u8 b 127<=57))=true then 3
 else if(CN .u8 b 127==32)=true then 4 else 5
theorem Tv (n:Nat) (b:Int):FO n b=some (Gl b):=by
 unfold FO Gl;split
 ·rfl
 ·split
  ·rfl
  ·split
   ·rfl
   ·split<;>rfl
theorem Tw (b:Int):1<=Gl b/\Gl b<=5:=by
 unfold Gl;split
 ·omega
 ·split
  ·omega
  ·split
   ·omega
   ·split<;>omega
def Qv (s:List UInt8) (i:Nat):Int:=(s[i]?.getD 0).toNat
theorem R1 {s:List UInt8} {i:Nat} (h:i<s.length):JZ s (i:Int)=some (Qv s i):=by
 unfold JZ Qv;rw[if_pos (by omega)];simp
def VY:Ae:=⟨0,0,0⟩
def JaB (r:Aw) (s:Ae):Ae×Bool:=
 if((r.From != s.Mode)||!R0 r.Left s.Last)=true then(VY,false)
 else if(r.Print==[])=true then
  (if(CN .u8 s.Need r.Right==0)=true then(VY,false)else(⟨r.To,s.Last,CN .u8 s.Need r.Right⟩,true))
 else if(!R0 s.Need (Gl (Qv r.Print 0)))=true then(VY,false)
 else(⟨r.To,Gl (Qv r.Print (r.Print.length-1)),r.Right⟩,true)
def BK (t:Ad) (s:Ae) (k:Int):Ae×Bool:=
 if(decide (k<0)||decide (k>=(t.Rules.length:Int)))=true then(VY,false)else JaB (t.Rules[k.toNat]?.getD default) s
def Jdm (t:Ad):Prop:=∀ r∈t.Rules,r.Print.length<9223372036854775808
theorem Tx {α:Type} [Inhabited α] {l:List α} {k:Int} (h:0<=k) (h':k<l.length):idx l k=some (l[k.toNat]?.getD default):=by
 unfold idx;rw[if_pos h];have:k.toNat<l.length:=by omega
 simp[this]
theorem NA {t:Ad} (ht:Jdm t) (n:Nat) (s:Ae) (k:Int):Jb n t s k=some (BK t s k):=by
 unfold Jb BK;by_cases hk:(decide (k<0)||decide (k>=(t.Rules.length:Int)))=true
 ·rw[if_pos hk,if_pos hk];rfl
 ·rw[if_neg hk,if_neg hk];simp only[Jjh,decide_eq_true_eq,not_or,Int.not_lt,ge_iff_le,Int.not_le]at hk;rw[Tx hk.1 hk.2];have hmem:(t.Rules[k.toNat]?.getD default)∈t.Rules:=by
   have:k.toNat<t.Rules.length:=by omega
   simp[this]
  have hlen:=ht _ hmem;generalize t.Rules[k.toNat]?.getD default=r at hlen⊢;simp only[JiE,JaA,Tv];unfold JaB;by_cases h1:r.From=s.Mode
  ·simp only[h1,bne_self_eq_false,Bool.not_false,if_true,JiE,Bool.false_or];by_cases h2:R0 r.Left s.Last=true
   ·simp only[h2,JiL,Jja,if_false];by_cases h3:r.Print=[]
    ·simp only[h3,beq_self_eq_true,if_true];split<;>rfl
    ·have h3':(r.Print==[])=false:=by simpa using h3
     have hpos:0<r.Print.length:=List.length_pos_iff.2 h3;simp only[h3',Jja,if_false];have e0:=R1 (s:=r.Print) (i:=0) hpos;simp only[Int.natCast_zero]at e0;rw[e0];have e1:PE .i64 ((r.Print.length:Nat):Int) 1=((r.Print.length-1:Nat):Int):=by rw[JfP (by omega) (by omega)];omega
     rw[e1,R1 (by omega)];simp only[JiE];split<;>rfl
   ·have h2:R0 r.Left s.Last=false:=by simpa using h2
    simp only[h2,Bool.not_false,if_true];rfl
  ·have h1':(r.From != s.Mode)=true:=by simpa using h1
   simp only[h1',JiL,Jja,if_false,JiE,Bool.true_or,if_true];rfl
end Go.AI
end
section
namespace Go.AI
theorem Az {α:Type} {l:List α} {i:Nat} {x:α} (h:l[i]?=some x):i<l.length:=(List.getElem?_eq_some_iff.1 h).1
def Bj (t:Ad) (s:Ae):Bool:=decide (s.Mode<t.Modes)&&R0 t.Accept s.Mode&&R0 s.Need 0
theorem Vb (n:Nat) (t:Ad) (s:Ae):GM n t s=some (Bj t s):=by
 unfold GM Bj;simp only[JaA];by_cases h1:s.Mode<t.Modes
 ·cases h2:R0 t.Accept s.Mode<;>simp[h1]
 ·simp[h1]
end Go.AI
end
section
namespace Go.AI
theorem Vc (a b:Int) (h:0<=b) (h':b<256):0<=CN .u8 a b/\CN .u8 a b<=b:=by
 unfold CN;have hb:(BitVec.ofInt 8 b).toNat=b.toNat:=by
  rw[BitVec.toNat_ofInt];omega
 have hle:(BitVec.ofInt 8 a &&& BitVec.ofInt 8 b).toNat<=b.toNat:=by
  rw[BitVec.toNat_and,hb];exact Nat.and_le_right
 have e:(BitVec.ofInt IntKind.u8.bits a &&& BitVec.ofInt IntKind.u8.bits b).toNat=(BitVec.ofInt 8 a &&& BitVec.ofInt 8 b).toNat:=rfl;rw[e,JhA (by omega) (by omega)];omega
def KH (r:Aw):Prop:=0<=r.To/\r.To<2/\0<=r.Right/\r.Right<=63/\r.Print.length<=3
def HI (t:Ad):Prop:=t.Rules.length<=11/\∀ r∈t.Rules,KH r
theorem HI.short {t:Ad} (h:HI t):Jdm t:=λ r hr=>by have:=(h.2 r hr).2.2.2.2;omega
def InU (s:Ae):Prop:=0<=s.Mode/\s.Mode<2/\0<=s.Last/\s.Last<=5/\0<=s.Need/\s.Need<=63
def JfQ:List Ae:=(List.range 768).map λ i=>⟨(i / 384:Nat),(i / 64 % 6:Nat),(i % 64:Nat)⟩
theorem JaC {s:Ae} (h:InU s):s∈JfQ:=by
 obtain⟨h1,h2,h3,h4,h5,h6⟩:=h;obtain⟨m,l,d⟩:=s;simp only at h1 h2 h3 h4 h5 h6;simp only[JfQ,JiQ,List.mem_range];refine⟨m.toNat*384+l.toNat*64+d.toNat,by omega,?_⟩;have e1:(m.toNat*384+l.toNat*64+d.toNat) / 384=m.toNat:=by omega
 have e2:(m.toNat*384+l.toNat*64+d.toNat) / 64 % 6=l.toNat:=by omega
 have e3:(m.toNat*384+l.toNat*64+d.toNat) % 64=d.toNat:=by omega
 rw[e1,e2,e3];congr 1<;>omega
theorem JaD {l m:List Ae} (h:l.Nodup) (hs:∀ x∈l,x∈m):l.length<=m.length:=by
 induction l generalizing m with
 | nil=>simp
 | cons a l ih=>
  rw[List.nodup_cons]at h;have ha:=hs a (by simp);have hlen:(m.erase a).length=m.length-1:=List.length_erase_of_mem ha;have hpos:0<m.length:=List.length_pos_of_mem ha;have:=ih (m:=m.erase a) h.2 λ x hx=>by
   have hne:x≠a:=λ e=>h.1 (e▸hx);exact(List.mem_erase_of_ne hne).2 (hs x (by simp[hx]))
  simp;omega
theorem JaE {l:List Ae} (h:l.Nodup) (hs:∀ x∈l,InU x):l.length<=768:=by
 have:=JaD h λ x hx=>JaC (hs x hx);simpa [JfQ]using this
theorem JaF {t:Ad} (ht:HI t) {s:Ae} (hs:InU s) {k:Int} (h:(BK t s k).2=true):InU (BK t s k).1:=by
 unfold BK at h⊢;split at h
 ·cases h
 ·rename_i hk;rw[if_neg hk];simp only[Jjh,decide_eq_true_eq,not_or,Int.not_lt,ge_iff_le,Int.not_le]at hk;have hmem:(t.Rules[k.toNat]?.getD default)∈t.Rules:=by
   have:k.toNat<t.Rules.length:=by omega
   simp[this]
  have hr:=ht.2 _ hmem;generalize t.Rules[k.toNat]?.getD default=r at hr h⊢;obtain⟨a1,a2,a3,a4,a5⟩:=hr;obtain⟨b1,b2,b3,b4,b5,b6⟩:=hs;unfold JaB at h⊢;split at h
  ·cases h
  ·rename_i h1;rw[if_neg h1];split at h
   ·rename_i h2;rw[if_pos h2];split at h
    ·cases h
    ·rename_i h3;rw[if_neg h3];have:=Vc s.Need r.Right a3 (by omega);exact⟨a1,a2,b3,b4,this.1,by show CN .u8 s.Need r.Right<=63;omega⟩
   ·rename_i h2;rw[if_neg h2];split at h
    ·cases h
    ·rename_i h3;rw[if_neg h3];have:=Tw (Qv r.Print (r.Print.length-1));exact⟨a1,a2,by show 0<=Gl _;omega,by show Gl _<=5;omega,a3,a4⟩
def Ca:Ae:=⟨0,0,63⟩
def Ka (t:Ad) (s:Ae) (st:List Ae) (k:Nat):List Ae:=if(BK t s k).2=true/\(BK t s k).1 ∉ st then st++[(BK t s k).1]else st
def Nm (t:Ad) (s:Ae) (m:Nat) (st:List Ae):List Ae:=(List.range m).foldl (Ka t s) st
theorem JP (t:Ad) (s:Ae) (m:Nat) (st:List Ae):Nm t s (m+1) st=Ka t s (Nm t s m st) m:=by
 simp[Nm,List.range_succ]
def Tz (t:Ad):Nat->Nat->List Ae->List Ae
 | 0,_,st=>st
 | f+1,i,st=>match st[i]? with
  | some s=>Tz t f (i+1) (Nm t s t.Rules.length st)
  | none=>st
def AH (t:Ad):List Ae:=Tz t 800 0 [Ca]
structure Gm (t:Ad) (st:List Ae):Prop where
 nodup:st.Nodup
 inU:∀ s∈st,InU s
 first:st[0]?=some Ca
 origin:∀ (j:Nat) (s:Ae),st[j]?=some s->0<j->∃ (i:Nat) (s':Ae) (k:Nat),i<j/\st[i]?=some s'/\k<t.Rules.length/\BK t s' k=(s,true)
theorem Gm.len {t:Ad} {st:List Ae} (h:Gm t st):st.length<=768:=JaE h.nodup h.inU
theorem Gm.add {t:Ad} (ht:HI t) {st:List Ae} (h:Gm t st) {i:Nat} {s:Ae} (hi:st[i]?=some s) {k:Nat} (hk:k<t.Rules.length):Gm t (Ka t s st k):=by
 unfold Ka;split
 ·rename_i hc;have hil:=Az hi;refine⟨?_,λ x hx=>?_,?_,λ j x hj h0=>?_⟩
  ·rw[List.nodup_append];refine⟨h.nodup,by simp,λ a ha b hb=>?_⟩;simp at hb;subst hb;exact λ e=>hc.2 (e▸ha)
  ·simp only[List.mem_append,List.mem_singleton]at hx;rcases hx with hx|rfl
   ·exact h.inU x hx
   ·exact JaF ht (h.inU s (Ji0 hi)) hc.1
  ·rw[Ji6 (by omega)];exact h.first
  ·rcases JiO j st.length with hlt|hge
   ·rw[Ji6 hlt]at hj;obtain⟨i',s',k',a1,a2,a3,a4⟩:=h.origin j x hj h0;exact⟨i',s',k',a1,by rw[Ji6 (by omega)];exact a2,a3,a4⟩
   ·rw[Jjg hge]at hj;have:j-st.length=0:=by have:=Az hj;simp at this;omega
    rw[this]at hj;simp at hj;subst hj;refine⟨i,s,k,by omega,by rw[Ji6 hil];exact hi,hk,?_⟩;exact Prod.ext rfl hc.1
 ·exact h
theorem TA (t:Ad) (s:Ae) (st:List Ae) (k:Nat):st <+: Ka t s st k:=by
 unfold Ka;split
 ·exact List.prefix_append _ _
 ·exact List.prefix_refl _
theorem HJ (t:Ad) (s:Ae) (st:List Ae):∀ m,st <+: Nm t s m st:=by
 intro m;induction m with
 | zero=>exact List.prefix_refl _
 | succ m ih=>rw[JP];exact ih.trans (TA _ _ _ _)
theorem NB {α:Type} {l m:List α} (h:l <+: m) {i:Nat} {x:α} (hi:l[i]?=some x):m[i]?=some x:=by
 obtain⟨r,rfl⟩:=h;rw[Ji6 (Az hi)];exact hi
theorem Gm.exp {t:Ad} (ht:HI t) {st:List Ae} (h:Gm t st) {i:Nat} {s:Ae} (hi:st[i]?=some s):∀ m,m<=t.Rules.length->Gm t (Nm t s m st):=by
 intro m;induction m with
 | zero=>intro _;exact h
 | succ m ih=>
  intro hm;rw[JP];exact(ih (by omega)).add ht (NB (HJ t s st m) hi) (by omega)
theorem JaG (t:Ad) (s:Ae) (st:List Ae):∀ m k:Nat,k<m->(BK t s k).2=true->(BK t s k).1∈Nm t s m st:=by
 intro m;induction m with
 | zero=>intro k hk;omega
 | succ m ih=>
  intro k hk h;rw[JP];by_cases e:k=m
  ·subst e;unfold Ka;by_cases hc:(BK t s k).1∈Nm t s k st
   ·rw[if_neg (λ hh=>hh.2 hc)];exact hc
   ·rw[if_pos ⟨h,hc⟩];simp
  ·exact(TA t s _ m).subset (ih k (by omega) h)
def JfR (t:Ad) (i:Nat) (st:List Ae):Prop:=∀ (j:Nat) (s:Ae),j<i->st[j]?=some s->∀ k:Nat,k<t.Rules.length->(BK t s k).2=true->(BK t s k).1∈st
theorem JfS {t:Ad} (ht:HI t):∀ (f i:Nat) (st:List Ae),Gm t st->JfR t i st->768<f+i->Gm t (Tz t f i st)/\∀ i',JfR t i' (Tz t f i st):=by
 intro f;induction f with
 | zero=>
  intro i st h hd hf;have:=h.len;refine⟨h,λ i' j s hj hs=>?_⟩;have hs:st[j]?=some s:=hs;exact hd j s (by have:=Az hs;omega) hs
 | succ f ih=>
  intro i st h hd hf;simp only[Tz];cases hi:st[i]? with
  | none=>
   refine⟨h,λ i' j s hj hs=>?_⟩;have hs:st[j]?=some s:=hs;exact hd j s (by have:=Az hs;rw[List.getElem?_eq_none_iff]at hi;omega) hs
  | some s=>
   refine ih (i+1) _ (h.exp ht hi _ (JiN _)) (λ j x hj hx k hk hk2=>?_) (by omega);by_cases e:j=i
   ·subst e;have:=NB (HJ t s st t.Rules.length) hi;rw[this]at hx;cases hx;exact JaG t s st _ k hk hk2
   ·have hjl:j<st.length:=by have:=Az hi;omega
    have hxx:st[j]?=some st[j]:=JiY hjl;have:=NB (HJ t s st t.Rules.length) hxx;rw[this]at hx;cases hx;exact(HJ t s st t.Rules.length).subset (hd j _ (by omega) hxx k hk hk2)
theorem Ei {t:Ad} (ht:HI t):Gm t (AH t)/\∀ i,JfR t i (AH t):=by
 refine JfS ht 800 0 [Ca] ⟨by simp,λ s hs=>?_,rfl,λ j s hj h0=>?_⟩ (λ j s hj=>by omega) (by omega)
 ·simp at hs;subst hs;exact⟨by decide,by decide,by decide,by decide,by decide,by decide⟩
 ·cases j with
  | zero=>omega
  | succ j=>simp at hj
end Go.AI
end
section
namespace Go.AI
theorem Jiw {σ ρ:Type} {body:Nat->σ->Option (σ⊕ρ)} {R:ρ->Prop} (I:Nat->σ->Prop) (h:∀ k x,I k x->(∃ y j,j<k/\I j y/\Ev (λ n=>body n x) (.inl y))\/∃ r,R r/\Ev (λ n=>body n x) (.inr r)):∀ (k:Nat) (x:σ),I k x->∃ r,R r/\Ev (λ n=>Go.AI.whl (body n) n x) r:=by
 have key:∀ (k:Nat) (x:σ),I k x->∃ r,R r/\∃ N c,∀ n fuel,N<=n->c<=fuel->Go.AI.whl (body n) fuel x=some r:=by
  intro k;induction k using Nat.strongRecOn with
  | _ k ih=>
   intro x hx;rcases h k x hx with⟨y,j,hj,hy,N1,h1⟩|⟨r,hr,N1,h1⟩
   ·obtain⟨r,hr,N2,c,h2⟩:=ih j hj y hy;refine⟨r,hr,max N1 N2,c+1,λ n fuel hn hf=>?_⟩;cases fuel with
    | zero=>omega
    | succ fuel=>
     have e:=h1 n (by omega);simp only at e;simp only[Go.AI.whl,e];exact h2 n fuel (by omega) (by omega)
   ·refine⟨r,hr,N1,1,λ n fuel hn hf=>?_⟩;cases fuel with
    | zero=>omega
    | succ fuel=>
     have e:=h1 n hn;simp only at e;simp only[Go.AI.whl,e]
 intro k x hx;obtain⟨r,hr,N,c,hh⟩:=key k x hx;exact⟨r,hr,max N c,λ m hm=>hh m m (by omega) (by omega)⟩
def II (st:List Ae) (nb:List (Ae×Int)):Prop:=∀ s,AO s nb=(st.findIdx? λ x=>decide (x=s)).map λ i=>(i:Int)
theorem C2 {st:List Ae} {s:Ae} {i:Nat} (hn:st.Nodup) (h:st[i]?=some s):(st.findIdx? λ x=>decide (x=s))=some i:=by
 have hi:=Az h;rw[List.findIdx?_eq_some_iff_getElem];have he:st[i]=s:=by rw[JiY hi]at h;exact Option.some.inj h
 refine⟨hi,by simpa using he,λ j hj=>?_⟩;simp only[JiM,decide_eq_false_iff_not];intro e;have:=(List.getElem_inj (i:=j) (j:=i) (h₀:=by omega) (h₁:=hi) hn).1 (by rw[e,he]);omega
theorem Ip {st:List Ae} {s:Ae} (h:s ∉ st):(st.findIdx? λ x=>decide (x=s))=none:=by
 rw[List.findIdx?_eq_none_iff];intro y hy;simp only[decide_eq_false_iff_not];exact λ e=>h (e▸hy)
theorem HK {κ α:Type} [DecidableEq κ] (k k':κ) (v:α) (m:List (κ×α)):AO k' (BJ k v m)=if k'=k then some v else AO k' m:=by
 induction m with
 | nil=>simp[BJ,AO]
 | cons p m ih=>
  simp only[BJ];by_cases h:k=p.1
  ·rw[if_pos h];simp only[AO];by_cases h':k'=k
   ·simp[h']
   ·have:k'≠p.1:=λ e=>h' (e.trans h.symm);simp[h',this]
  ·rw[if_neg h];simp only[AO];by_cases h':k'=p.1
   ·have:k'≠k:=λ e=>h (e▸h');rw[if_pos h',if_neg this,if_pos h']
   ·rw[if_neg h',if_neg h',ih]
theorem II.snoc {st:List Ae} {nb:List (Ae×Int)} (h:II st nb) (hn:st.Nodup) {p:Ae} (hp:p ∉ st):II (st++[p]) (BJ p (st.length:Nat) nb):=by
 intro s;rw[HK];have hnd:(st++[p]).Nodup:=by
  rw[List.nodup_append];exact⟨hn,by simp,λ a ha b hb=>by simp at hb;subst hb;exact λ e=>hp (e▸ha)⟩
 by_cases e:s=p
 ·subst e;rw[if_pos rfl,C2 hnd (i:=st.length) (by simp)];rfl
 ·rw[if_neg e,h s];by_cases hs:s∈st
  ·obtain⟨i,hi⟩:=List.mem_iff_getElem?.1 hs;rw[C2 hn hi,C2 hnd (i:=i) (by rw[Ji6 (Az hi)];exact hi)]
  ·rw[Ip hs,Ip (by simp[hs,e])]
def Gn (i m j k:Nat):Prop:=j<i\/(j=i/\k<m)
structure CL (t:Ad) (st:List Ae) (fr:List (List Int)) (i m:Nat):Prop where
 len:fr.length=st.length
 cov:∀ j s k,Gn i m j k->st[j]?=some s->k<t.Rules.length->(BK t s (k:Nat)).2=true->(BK t s (k:Nat)).1∈st
 sound:∀ (n:Nat) l,fr[n]?=some l->∀ x∈l,∃ (j:Nat) (s:Ae) (k:Nat) (s':Ae),x=(j:Int)/\st[j]?=some s/\k<t.Rules.length/\st[n]?=some s'/\BK t s (k:Nat)=(s',true)
 compl:∀ (n:Nat) l,fr[n]?=some l->∀ (j:Nat) (s:Ae) (k:Nat) (s':Ae),Gn i m j k->st[j]?=some s->k<t.Rules.length->st[n]?=some s'->BK t s (k:Nat)=(s',true)->(j:Int)∈l
 small:∀ (n:Nat) l,fr[n]?=some l->l.length<=i*11+m
theorem CL.snoc {t:Ad} {st:List Ae} {fr:List (List Int)} {i m:Nat} (h:CL t st fr i m) {p:Ae} (hp:p ∉ st) (hi:i<st.length):CL t (st++[p]) (fr++[[]]) i m:=by
 have hget:∀ (j:Nat) s,Gn i m j 0\/j<=i->(st++[p])[j]?=some s->st[j]?=some s:=λ j s hj hs=>by
  rcases JiO j st.length with hlt|hge
  ·rwa[Ji6 hlt]at hs
  ·rcases hj with (h1|⟨h1,_⟩)|h1<;>omega
 have hle:∀ {j k},Gn i m j k->j<=i:=λ h=>by rcases h with h|⟨h,_⟩<;>omega
 refine⟨by simp[h.len],λ j s k ht hs hk h2=>?_,λ n l hl x hx=>?_,λ n l hl j s k s' ht hs hk hs' he=>?_,λ n l hl=>?_⟩
 ·exact List.mem_append_left _ (h.cov j s k ht (hget j s (.inr (hle ht)) hs) hk h2)
 ·rcases JiO n fr.length with hlt|hge
  ·rw[Ji6 hlt]at hl;obtain⟨j,s,k,s',a1,a2,a3,a4,a5⟩:=h.sound n l hl x hx;exact⟨j,s,k,s',a1,by rw[Ji6 (Az a2)];exact a2,a3,by rw[Ji6 (Az a4)];exact a4,a5⟩
  ·rw[Jjg hge]at hl;have:n-fr.length=0:=by have:=Az hl;simp at this;omega
   rw[this]at hl;simp at hl;subst hl;simp at hx
 ·have hs0:=hget j s (.inr (hle ht)) hs;have hmem:s'∈st:=by have:=h.cov j s k ht hs0 hk (by rw[he]);rwa[he]at this
  rcases JiO n fr.length with hlt|hge
  ·rw[Ji6 hlt]at hl;rw[Ji6 (by rw[← h.len];exact hlt)]at hs';exact h.compl n l hl j s k s' ht hs0 hk hs' he
  ·have hn:n=st.length:=by have:=Az hs';simp at this;rw[h.len]at hge;omega
   subst hn;simp at hs';subst hs';exact absurd hmem hp
 ·rcases JiO n fr.length with hlt|hge
  ·rw[Ji6 hlt]at hl;exact h.small n l hl
  ·rw[Jjg hge]at hl;have:n-fr.length=0:=by have:=Az hl;simp at this;omega
   rw[this]at hl;simp at hl;subst hl;simp
theorem CL.put {t:Ad} {st:List Ae} {fr:List (List Int)} {i m:Nat} (h:CL t st fr i m) (hnd:st.Nodup) {s p:Ae} {q:Nat} {l:List Int} (hs:st[i]?=some s) (hm:m<t.Rules.length) (hst:BK t s (m:Nat)=(p,true)) (hq:st[q]?=some p) (hl:fr[q]?=some l):CL t st (fr.set q (l++[(i:Int)])) i (m+1):=by
 have htk:∀ {j k},Gn i (m+1) j k->Gn i m j k\/(j=i/\k=m):=λ {j k} h=>by
  unfold Gn at *;omega
 have hql:=Az hl;refine⟨by simp[h.len],λ j x k ht hx hk h2=>?_,λ n l' hl' x hx=>?_,λ n l' hl' j x k x' ht hx hk hx' he=>?_,λ n l' hl'=>?_⟩
 ·rcases htk ht with ht|⟨rfl,rfl⟩
  ·exact h.cov j x k ht hx hk h2
  ·rw[hs]at hx;cases hx;rw[hst];exact Ji0 hq
 ·by_cases e:n=q
  ·subst e;rw[Ji9 hql]at hl';cases hl';simp only[List.mem_append,List.mem_singleton]at hx;rcases hx with hx|rfl
   ·exact h.sound n l hl x hx
   ·exact⟨i,s,m,p,rfl,hs,hm,hq,hst⟩
  ·rw[Jje (Ne.symm e)]at hl';exact h.sound n l' hl' x hx
 ·rcases htk ht with ht|⟨rfl,rfl⟩
  ·by_cases e:n=q
   ·subst e;rw[Ji9 hql]at hl';cases hl';exact List.mem_append_left _ (h.compl n l hl j x k x' ht hx hk hx' he)
   ·rw[Jje (Ne.symm e)]at hl';exact h.compl n l' hl' j x k x' ht hx hk hx' he
  ·rw[hs]at hx;cases hx;rw[hst]at he;cases he;have e:n=q:=by
    have h1:=Az hx';have h2:=Az hq;rw[JiY h1]at hx';rw[JiY h2]at hq;exact(List.getElem_inj (h₀:=h1) (h₁:=h2) hnd).1 ((Option.some.inj hx').trans (Option.some.inj hq).symm)
   subst e;rw[Ji9 hql]at hl';cases hl';simp
 ·by_cases e:n=q
  ·subst e;rw[Ji9 hql]at hl';cases hl';have:=h.small n l hl;simp;omega
  ·rw[Jje (Ne.symm e)]at hl';have:=h.small n l' hl';omega
theorem CL.skip {t:Ad} {st:List Ae} {fr:List (List Int)} {i m:Nat} (h:CL t st fr i m) {s:Ae} (hs:st[i]?=some s) (hst:(BK t s (m:Nat)).2=false):CL t st fr i (m+1):=by
 have htk:∀ {j k},Gn i (m+1) j k->Gn i m j k\/(j=i/\k=m):=λ {j k} h=>by
  unfold Gn at *;omega
 refine⟨h.len,λ j x k ht hx hk h2=>?_,h.sound,λ n l hl j x k x' ht hx hk hx' he=>?_,λ n l hl=>by have:=h.small n l hl;omega⟩
 ·rcases htk ht with ht|⟨rfl,rfl⟩
  ·exact h.cov j x k ht hx hk h2
  ·rw[hs]at hx;cases hx;rw[hst]at h2;cases h2
 ·rcases htk ht with ht|⟨rfl,rfl⟩
  ·exact h.compl n l hl j x k x' ht hx hk hx' he
  ·rw[hs]at hx;cases hx;rw[he]at hst;cases hst
end Go.AI
end
section
namespace Go.AI
theorem Iq {α:Type} {l:List α} {i:Nat} {x:α} (h:l[i]?=some x):idx l (i:Int)=some x:=by
 unfold idx;rw[if_pos (by omega)];simpa using h
theorem Ir {α:Type} {eb:Nat} {xs ys:List α} (h:(xs.length+ys.length)*eb<=70368744177664):app eb xs ys=some (xs++ys):=by
 unfold app;rw[if_pos h]
theorem TB {t:Ad} (ht:HI t) {i m:Nat} {s:Ae} {st:List Ae} {fr:List (List Int)} {nb:List (Ae×Int)} (hF:Gm t st) (hi:st[i]?=some s) (hN:II st nb) (hR:CL t st fr i m) (hm:m<t.Rules.length) :
  ∃ fr' nb',II (Ka t s st m) nb'/\CL t (Ka t s st m) fr' i (m+1)/\∀ n,BO n t (i:Int) st fr nb (m:Int)=some (.inl (Ka t s st m,fr',nb',((m+1:Nat):Int))):=by
 have hil:=Az hi;have hlen:=hF.len;have hrl:=ht.1;have hinc:A0 .i64 (m:Int) 1=((m+1:Nat):Int):=by rw[Pg (by omega) (by omega)];rfl
 have hcond:decide ((m:Int)<((t.Rules.length:Nat):Int))=true:=by simpa using hm
 cases hp:(BK t s (m:Nat)).2 with
 | false=>
  have ha:Ka t s st m=st:=by unfold Ka;rw[if_neg (by rw[hp];simp)]
  refine⟨fr,nb,by rw[ha];exact hN,by rw[ha];exact hR.skip hi hp,λ n=>?_⟩;unfold BO;rw[if_pos hcond,Iq hi];simp only[JiE,NA ht.short,hp,Bool.not_false,if_true,CE,hinc,ha]
 | true=>
  have hpe:BK t s (m:Nat)=((BK t s (m:Nat)).1,true):=Prod.ext rfl hp;generalize hpp:(BK t s (m:Nat)).1=p at hpe;by_cases hmem:p∈st
  ·have ha:Ka t s st m=st:=by unfold Ka;rw[if_neg (by rw[hpp];exact λ hh=>hh.2 hmem)]
   obtain⟨q,hq⟩:=List.mem_iff_getElem?.1 hmem;have hql:=Az hq;obtain⟨lq,hfq⟩:∃ lq,fr[q]?=some lq:=⟨_,JiY (by rw[hR.len];exact hql)⟩;have hsm:=hR.small q _ hfq;have hget:AO p nb=some (q:Int):=by rw[hN p,C2 hF.nodup hq];rfl
   have hiv:i<768:=by omega
   refine⟨fr.set q (lq++[(i:Int)]),nb,by rw[ha];exact hN,by rw[ha];exact hR.put hF.nodup hi hm hpe hq hfq,λ n=>?_⟩;unfold BO;rw[if_pos hcond,Iq hi];simp only[JiE,NA ht.short,hpe,hget,Option.isSome_some,JiL,Jja,if_false,JiJ,Dq];rw[Iq hfq];simp only[JiE];rw[Ir (by simp;omega)];simp only[JiE,CE,hinc,ha,Ji7]
  ·have ha:Ka t s st m=st++[p]:=by unfold Ka;rw[if_pos ⟨hp,by rw[hpp];exact hmem⟩,hpp]
   have hnd:(st++[p]).Nodup:=by have:=(hF.add ht hi hm).nodup;rwa[ha]at this
   have hget:AO p nb=none:=by rw[hN p,Ip hmem];rfl
   have hR':=hR.snoc hmem hil;have hfq:(fr++[[]])[st.length]?=some ([]:List Int):=by rw[← hR.len];simp
   refine⟨(fr++[[]]).set st.length ([]++[(i:Int)]),BJ p (st.length:Nat) nb,by rw[ha];exact hN.snoc hF.nodup hmem,by rw[ha];exact hR'.put hnd (by rw[Ji6 hil];exact hi) hm hpe (by simp) hfq,λ n=>?_⟩;unfold BO;rw[if_pos hcond,Iq hi];simp only[JiE,NA ht.short,hpe,hget,Option.isSome_none,Bool.not_false,JiL,Jja,if_true,if_false];rw[Ir (by simp;omega),JiE,Ir (by simp[hR.len];omega),JiE];simp only[Dq];rw[Iq hfq];simp only[JiE];rw[Ir (by simp)];simp only[JiE,CE,hinc,ha,Ji7]
theorem CL.next {t:Ad} {st:List Ae} {fr:List (List Int)} {i:Nat} (h:CL t st fr i t.Rules.length) (hr:t.Rules.length<=11):CL t st fr (i+1) 0:=by
 have htk:∀ {j k},k<t.Rules.length->Gn (i+1) 0 j k->Gn i t.Rules.length j k:=λ {j k} hk h=>by
  unfold Gn at *;omega
 exact⟨h.len,λ j s k ht hs hk=>h.cov j s k (htk hk ht) hs hk,h.sound,λ n l hl j s k s' ht hs hk=>h.compl n l hl j s k s' (htk hk ht) hs hk,λ n l hl=>by have:=h.small n l hl;omega⟩
theorem JaH {t:Ad} (ht:HI t) {i:Nat} {s:Ae} {st:List Ae} {fr:List (List Int)} {nb:List (Ae×Int)} (hF:Gm t st) (hi:st[i]?=some s) (hN:II st nb) (hR:CL t st fr i 0) :
  ∃ r:List Ae×List (List Int)×List (Ae×Int),(r.1=Nm t s t.Rules.length st/\II r.1 r.2.2/\CL t r.1 r.2.1 (i+1) 0) /\
   Ev (λ n=>whl (λ (x:((List Ae)×(List (List Int))×(List (Ae×Int))×Int))=>BO n t (i:Int) x.1 x.2.1 x.2.2.1 x.2.2.2) n (st,fr,nb,0)) r:=by
 refine Jiw (body:=λ n x=>BO n t (i:Int) x.1 x.2.1 x.2.2.1 x.2.2.2) (λ k x=>∃ m:Nat,m<=t.Rules.length/\k=t.Rules.length-m/\x.1=Nm t s m st/\x.2.2.2=(m:Int)/\II x.1 x.2.2.1/\CL t x.1 x.2.1 i m) ?_ t.Rules.length (st,fr,nb,0) ⟨0,by omega,by omega,rfl,rfl,hN,hR⟩;rintro k ⟨st',fr',nb',m'⟩ ⟨m,hm,rfl,h1,h2,h3,h4⟩;simp only at h1 h2 h3 h4;subst h1;subst h2;rcases JiO m t.Rules.length with hlt|hge
 ·left;have hi':(Nm t s m st)[i]?=some s:=NB (HJ t s st m) hi;obtain⟨fr2,nb2,g1,g2,g3⟩:=TB ht (hF.exp ht hi m hm) hi' h3 h4 hlt;exact⟨_,t.Rules.length-(m+1),by omega,⟨m+1,hlt,rfl,(JP t s m st).symm,rfl,g1,g2⟩,Ev.all g3⟩
 ·right;have e:m=t.Rules.length:=by omega
  subst e;refine⟨(Nm t s t.Rules.length st,fr',nb'),⟨rfl,h3,h4.next ht.1⟩,Ev.all λ n=>?_⟩;unfold BO;rw[if_neg (by simp)]
theorem Vd {t:Ad} (ht:HI t):∃ fr,CL t (AH t) fr (AH t).length 0/\Ev (λ n=>GL n t) (AH t,fr):=by
 have h0:Gm t [Ca]:=⟨by simp,λ s hs=>by simp at hs;subst hs;exact⟨by decide,by decide,by decide,by decide,by decide,by decide⟩,rfl,λ j s hj h0=>by cases j with|zero=>omega|succ j=>simp at hj⟩;have loop:∃ r:List Ae×List (List Int),(r.1=AH t/\CL t r.1 r.2 r.1.length 0) /\
   Ev (λ n=>whl (λ (x:((List Ae)×(List (List Int))×(List (Ae×Int))×Int))=>CF n t x.1 x.2.1 x.2.2.1 x.2.2.2) n ([Ca],([[]]:List (List Int)),(BJ Ca 0 []),0)) r:=by
  refine Jiw (body:=λ n x=>CF n t x.1 x.2.1 x.2.2.1 x.2.2.2) (λ k x=>∃ i:Nat,i<=x.1.length/\k=800-i/\Tz t (800-i) i x.1=AH t/\x.2.2.2=(i:Int)/\Gm t x.1/\II x.1 x.2.2.1/\CL t x.1 x.2.1 i 0) ?_ 800 _ ⟨0,by simp,by omega,rfl,rfl,h0,?_,?_⟩
  ·rintro k ⟨st,fr,nb,i'⟩ ⟨i,hil,rfl,hb,hi',hF,hN,hR⟩;simp only at hil hb hi' hF hN hR;subst hi';have hlen:=hF.len;rcases JiO i st.length with hlt|hge
   ·left;have hi:st[i]?=some st[i]:=JiY hlt;obtain⟨r,⟨g1,g2,g3⟩,g4⟩:=JaH ht hF hi hN hR;have hexp:=hF.exp ht hi _ (JiN _);refine⟨(r.1,r.2.1,r.2.2,((i+1:Nat):Int)),800-(i+1),by omega,⟨i+1,?_,rfl,?_,rfl,by rw[g1];exact hexp,g2,g3⟩,?_⟩
    ·simp only[g1];have:=(HJ t st[i] st t.Rules.length).length_le;omega
    ·simp only[g1];rw[← hb];have e:800-i=(800-(i+1))+1:=by omega
     rw[e];simp only[Tz,hi]
    ·refine(Ev.bind g4 (g:=λ _ y2=>some (.inl (y2.1,y2.2.1,y2.2.2,((i+1:Nat):Int)))) Ev.const).congr λ n=>?_;unfold CF;rw[if_pos (by simpa using hlt)];have hinc:A0 .i64 (i:Int) 1=((i+1:Nat):Int):=by rw[Pg (by omega) (by omega)];rfl
     rw[hinc]
   ·right;have e:i=st.length:=by omega
    subst e;have hst:st=AH t:=by
     rw[← hb];have e:800-st.length=(800-(st.length+1))+1:=by omega
     rw[e];simp[Tz]
    refine⟨(st,fr),⟨hst,hR⟩,Ev.all λ n=>?_⟩;unfold CF;rw[if_neg (by simp)]
  ·intro s;simp only[BJ,AO];by_cases e:s=Ca
   ·subst e;simp
   ·have:¬ Ca=s:=λ h=>e h.symm;simp[e,this]
  ·refine⟨rfl,λ j s k ht=>?_,λ n l hl x hx=>?_,λ n l hl j s k s' ht=>?_,λ n l hl=>?_⟩
   ·unfold Gn at ht;omega
   ·cases n with
    | zero=>simp at hl;subst hl;simp at hx
    | succ n=>simp at hl
   ·unfold Gn at ht;omega
   ·cases n with
    | zero=>simp at hl;subst hl;simp
    | succ n=>simp at hl
 obtain⟨⟨st,fr⟩,⟨g1,g2⟩,g3⟩:=loop;simp only at g1 g2;subst g1;refine⟨fr,g2,?_⟩;have hs:∀ n,Mh n=some Ca:=λ n=>rfl;refine(Ev.bind g3 (g:=λ _ y3=>some (y3.1,y3.2)) Ev.const).congr λ n=>?_;unfold GL;rw[hs,JiE]
theorem Ve {t:Ad} (ht:HI t):Ev (λ n=>KA n t) (AH t):=by
 obtain⟨fr,_,h⟩:=Vd ht;exact(Ev.bind h (g:=λ _ r=>some r.1) Ev.const).congr λ n=>rfl
end Go.AI
end
section
namespace Go.AI
def Tot {α:Type} (f:Nat->Option α) (P:α->Prop):Prop:=∃ z,P z/\Ev f z
def Rd2 {σ ρ:Type} (I:σ->Prop) (P:ρ->Prop):σ⊕ρ->Prop
 | .inl y=>I y
 | .inr r=>P r
variable {α β σ ρ:Type} {P R:α->Prop}
theorem Tot.ev {f:Nat->Option α} {z:α} (h:Tot f (λ x=>x=z)):Ev f z:=by obtain⟨_,rfl,h⟩:=h;exact h
theorem Ev.tot {f:Nat->Option α} {z:α} (h:Ev f z) (hp:P z):Tot f P:=⟨z,hp,h⟩
theorem Jix {z:α} (h:P z):Tot (λ _=>some z) P:=⟨z,h,Ev.const⟩
theorem Tot.all {f:Nat->Option α} {z:α} (h:∀ n,f n=some z) (hp:P z):Tot f P:=⟨z,hp,Ev.all h⟩
theorem Tot.mono {f:Nat->Option α} (h:Tot f R) (hp:∀ x,R x->P x):Tot f P:=by obtain⟨z,hz,h⟩:=h;exact⟨z,hp z hz,h⟩
theorem Tot.bind {f:Nat->Option β} {g:Nat->β->Option α} {R:β->Prop} (h:Tot f R) (k:∀ x,R x->Tot (λ n=>g n x) P):Tot (λ n=>(f n).bind (g n)) P:=by
 obtain⟨x,hx,h⟩:=h;obtain⟨z,hz,h'⟩:=k x hx;exact⟨z,hz,Ev.bind h h'⟩
theorem Jiy {f:Nat->Option β} {g:Nat->β->Option α} {x:β} (h:Ev f x) (k:Tot (λ n=>g n x) P):Tot (λ n=>(f n).bind (g n)) P:=by
 obtain⟨z,hz,h'⟩:=k;exact⟨z,hz,Ev.bind h h'⟩
theorem Tot.bindC {x:Option β} {y:β} {g:Nat->β->Option α} (h:x=some y) (k:Tot (λ n=>g n y) P):Tot (λ n=>x.bind (g n)) P:=by subst h;exact k
theorem Jiz {f:Nat->Option β} {y:β} {g:Nat->β->Option α} (h:∀ n,f n=some y) (k:Tot (λ n=>g n y) P):Tot (λ n=>(f n).bind (g n)) P:=Jiy (Ev.all h) k
theorem Tot.ite {c:Bool} {a b:Nat->Option α} (h1:c=true->Tot a P) (h2:c=false->Tot b P):Tot (λ n=>if c=true then a n else b n) P:=by
 cases c with
 | true=>exact h1 rfl
 | false=>exact h2 rfl
theorem Tot.iteT {c:Bool} {a b:Nat->Option α} (h:c=true) (k:Tot a P):Tot (λ n=>if c=true then a n else b n) P:=by subst h;exact k
theorem Tot.iteF {c:Bool} {a b:Nat->Option α} (h:c=false) (k:Tot b P):Tot (λ n=>if c=true then a n else b n) P:=by subst h;exact k
theorem Tot.guard {c:Bool} {f:Nat->Option β} {d:β} {g:Nat->β->Option α} {R:β->Prop} (h:c=true->Tot f R) (k:∀ x,(c=true->R x)->Tot (λ n=>g n x) P):Tot (λ n=>(if c=true then f n else some d).bind (g n)) P:=by
 cases c with
 | true=>exact Tot.bind (h rfl) λ x hx=>k x λ _=>hx
 | false=>exact k d λ h=>by cases h
theorem Tot.congr {f g:Nat->Option α} (h:Tot f P) (e:∀ n,g n=f n):Tot g P:=by obtain⟨z,hz,h⟩:=h;exact⟨z,hz,h.congr e⟩
theorem Tot.sum {y:β⊕σ} {f:Nat->β->Option α} {g:Nat->σ->Option α} (h1:∀ b,y=.inl b->Tot (λ n=>f n b) P) (h2:∀ b,y=.inr b->Tot (λ n=>g n b) P):Tot (λ n=>match y with | .inl b=>f n b | .inr b=>g n b) P:=by
 cases y with
 | inl b=>exact h1 b rfl
 | inr b=>exact h2 b rfl
theorem Tot.whl {body:Nat->σ->Option (σ⊕ρ)} {P:ρ->Prop} (I:Nat->σ->Prop) (h:∀ k x,I k x->Tot (λ n=>body n x) (Rd2 (λ y=>∃ j,j<k/\I j y) P)):∀ (k:Nat) (x:σ),I k x->Tot (λ n=>Go.AI.whl (body n) n x) P:=by
 have key:∀ (k:Nat) (x:σ),I k x->∃ r,P r/\∃ N c,∀ n fuel,N<=n->c<=fuel->Go.AI.whl (body n) fuel x=some r:=by
  intro k;induction k using Nat.strongRecOn with
  | _ k ih=>
   intro x hx;obtain⟨z,hz,N1,h1⟩:=h k x hx;cases z with
   | inl y=>
    obtain⟨j,hj,hy⟩:=hz;obtain⟨r,hr,N2,c,h2⟩:=ih j hj y hy;refine⟨r,hr,max N1 N2,c+1,λ n fuel hn hf=>?_⟩;cases fuel with
    | zero=>omega
    | succ fuel=>
     have e:=h1 n (by omega);simp only at e;simp only[Go.AI.whl,e];exact h2 n fuel (by omega) (by omega)
   | inr r=>
    refine⟨r,hz,N1,1,λ n fuel hn hf=>?_⟩;cases fuel with
    | zero=>omega
    | succ fuel=>
     have e:=h1 n hn;simp only at e;simp only[Go.AI.whl,e]
 intro k x hx;obtain⟨r,hr,N,c,hh⟩:=key k x hx;exact⟨r,hr,max N c,λ m hm=>hh m m (by omega) (by omega)⟩
theorem Tot.upto {body:Nat->σ->Option (σ⊕ρ)} {P:ρ->Prop} (N:Nat) (I:Nat->σ->Prop)
  (step:∀ i x,i<N->I i x->Tot (λ n=>body n x) (Rd2 (I (i+1)) P))
  (last:∀ x,I N x->Tot (λ n=>body n x) (Rd2 (λ _=>False) P)) (x:σ) (h0:I 0 x):Tot (λ n=>Go.AI.whl (body n) n x) P:=by
 refine Tot.whl (body:=body) (λ k x=>∃ i,i<=N/\k=N-i/\I i x) ?_ N x ⟨0,by omega,by omega,h0⟩;rintro k x ⟨i,hi,rfl,hx⟩;rcases JiO i N with hlt|hge
 ·refine(step i x hlt hx).mono λ z hz=>?_;cases z with
  | inl y=>exact⟨N-(i+1),by omega,i+1,by omega,rfl,hz⟩
  | inr r=>exact hz
 ·have:i=N:=by omega
  subst this;refine(last x hx).mono λ z hz=>?_;cases z with
  | inl y=>exact hz.elim
  | inr r=>exact hz
theorem C3 {l:List α} {i:Nat} {x:α} (h:l[i]?=some x):idx l (i:Int)=some x:=by
 unfold idx;rw[if_pos (by omega)];simpa using h
theorem Cg {l:List α} {i:Nat} (h:i<l.length):idx l (i:Int)=some l[i]:=C3 (JiY h)
theorem KI {eb:Nat} {xs ys:List α} (h:(xs.length+ys.length)*eb<=70368744177664):app eb xs ys=some (xs++ys):=by
 unfold app;rw[if_pos h]
theorem R2 {l:List α} {i:Nat} {y:α} (h:i<l.length):put l (i:Int) y=some (l.set i y):=by
 unfold put;rw[if_pos (by omega),Ji7]
theorem Vf {x y:List UInt8} (h:x.length+y.length<=9223372036854775807):cat x y=some (x++y):=by
 unfold cat;rw[if_pos h]
end Go.AI
end
section
namespace Go.AI
theorem Jcz (a:Int):IntKind.i64.wrap a=if decide (a % 18446744073709551616>=9223372036854775808)=true then a % 18446744073709551616-18446744073709551616 else a % 18446744073709551616:=rfl
theorem w64 {a:Int} (h:-9223372036854775808<=a) (h':a<9223372036854775808):IntKind.i64.wrap a=a:=by
 rw[Jcz];simp only[decide_eq_true_eq];split<;>omega
theorem Lz {a b:Int} (h:-9223372036854775808<=a+b) (h':a+b<9223372036854775808):A0 .i64 a b=a+b:=w64 h h'
theorem VZ {a b:Int} (h:-9223372036854775808<=a-b) (h':a-b<9223372036854775808):PE .i64 a b=a-b:=w64 h h'
theorem CA {i:Nat} (h:i<9223372036854775807):A0 .i64 (i:Int) 1=((i+1:Nat):Int):=by rw[Lz]<;>omega
theorem JfT (a:Int):IntKind.u8.wrap a=a % 256:=rfl
theorem JaI (a:Int):0<=IntKind.u8.wrap a/\IntKind.u8.wrap a<256:=by rw[JfT];omega
theorem Qx {a m:Int} (h:0<=a) (hm:0<m):A8 a m=a % m/\0<=A8 a m/\A8 a m<m:=by
 have e:A8 a m=a % m:=by unfold A8;rw[Int.tmod_eq_emod_of_nonneg h]
 rw[e];exact⟨rfl,Int.emod_nonneg _ (by omega),Int.emod_lt_of_pos _ hm⟩
variable {α β σ ρ:Type}
theorem JhB [Inhabited α] {l:List α} {i:Int} (h:0<=i) (h':i<l.length):idx l i=some (l.getD i.toNat default):=by
 unfold idx;rw[if_pos h,List.getD_eq_getElem?_getD,JiY (by omega)];rfl
theorem Gp [Inhabited α] {l:List α} {i:Nat} (h:i<l.length):idx l (i:Int)=some (l.getD i default):=by
 rw[JhB (by omega) (by omega),Ji7]
theorem JhC {l:List α} {i:Int} {y:α} (h:0<=i) (h':i<l.length):put l i y=some (l.set i.toNat y):=by
 unfold put;rw[if_pos ⟨h,h'⟩]
theorem V0 {l:List α} {a b:Int} (h:0<=a) (h1:a<=b) (h2:b<=l.length):sub l a b=some ((l.take b.toNat).drop a.toNat):=by
 unfold sub;rw[if_pos ⟨h,h1,h2⟩]
theorem R3 {l:List α} {k:Nat} (h:k<=l.length):sub l 0 (k:Int)=some (l.take k):=by
 rw[V0 (by omega) (by omega) (by omega)];simp
theorem JaJ {eb:Nat} {k:Int} {z:α} (h:0<=k) (h':k.toNat*eb<=70368744177664):mkl eb k z=some (List.replicate k.toNat z):=by
 unfold mkl;rw[if_pos ⟨h,h'⟩]
theorem Ct {b:Bool} (h:b=true):B1 b=some ():=by subst h;rfl
theorem Vg {body:σ->Option (σ⊕ρ)} {r:ρ} (st:Nat->σ) (k:Nat) (step:∀ i,i<k->body (st i)=some (.inl (st (i+1)))) (last:body (st k)=some (.inr r)):∀ n,k<n->whl body n (st 0)=some r:=by
 have key:∀ (j n i:Nat),i+j=k->j<n->whl body n (st i)=some r:=by
  intro j;induction j with
  | zero=>
   intro n i hi hn;cases n with
   | zero=>omega
   | succ n=>
    have:i=k:=by omega
    subst this;simp only[whl,last]
  | succ j ih=>
   intro n i hi hn;cases n with
   | zero=>omega
   | succ n=>simp only[whl,step i (by omega)];exact ih n (i+1) (by omega) (by omega)
 intro n hn;exact key k n 0 (by omega) hn
theorem Ev.to {body:Nat->σ->Option (σ⊕ρ)} {r:ρ} (st:Nat->σ) (k:Nat) (h:∃ N,∀ n,N<=n->(∀ i,i<k->body n (st i)=some (.inl (st (i+1))))/\body n (st k)=some (.inr r)):Ev (λ n=>Go.AI.whl (body n) n (st 0)) r:=by
 obtain⟨N,h⟩:=h;exact⟨max N (k+1),λ n hn=>Vg st k (h n (by omega)).1 (h n (by omega)).2 n (by omega)⟩
def GW (N:Nat) (stop:Nat->Option ρ) (d:ρ):ρ:=((List.range N).findSome? stop).getD d
theorem Xx {N:Nat} {stop:Nat->Option ρ} {d:ρ} (h:∀ i,i<N->stop i=none):GW N stop d=d:=by
 unfold GW;rw[List.findSome?_eq_none_iff.2 λ i hi=>h i (List.mem_range.1 hi)];rfl
theorem Xy {N:Nat} {stop:Nat->Option ρ} {d r:ρ} (k:Nat) (hk:k<N) (hr:stop k=some r) (h:∀ i,i<k->stop i=none):GW N stop d=r:=by
 unfold GW;have:(List.range N).findSome? stop=some r:=by
  have e:List.range N=List.range k++(List.range (N-k)).map (k+·):=by rw[← List.range_add];congr 1;omega
  rw[e,List.findSome?_append,List.findSome?_eq_none_iff.2 λ i hi=>h i (List.mem_range.1 hi)];have:N-k=(N-k-1)+1:=by omega
  rw[this,List.range_succ_eq_map];simp[hr]
 rw[this];rfl
theorem PX (N:Nat) (stop:Nat->Option ρ) (d:ρ):((∀ i,i<N->stop i=none)/\GW N stop d=d)\/∃ k r,k<N/\stop k=some r/\(∀ i,i<k->stop i=none)/\GW N stop d=r:=by
 by_cases h:∀ i,i<N->stop i=none
 ·exact .inl ⟨h,Xx h⟩
 ·right;have hex:∃ k,k<N/\stop k≠none:=by
   apply Classical.byContradiction;intro hh;exact h λ i hi=>Classical.byContradiction λ hn=>hh ⟨i,hi,hn⟩
  have key:∀ m,(∃ k,k<m/\k<N/\stop k≠none)->∃ k,k<N/\stop k≠none/\∀ i,i<k->stop i=none:=by
   intro m;induction m with
   | zero=>rintro⟨k,hk,_⟩;omega
   | succ m ih=>
    rintro⟨k,hk,h1,h2⟩;by_cases hm:∃ k,k<m/\k<N/\stop k≠none
    ·exact ih hm
    ·refine⟨k,h1,h2,λ i hi=>Classical.byContradiction λ hn=>hm ⟨i,by omega,by omega,hn⟩⟩
  obtain⟨k0,h1,h2⟩:=hex;obtain⟨k,h3,h4,h5⟩:=key (k0+1) ⟨k0,by omega,h1,h2⟩;obtain⟨r,hr⟩:=Option.ne_none_iff_exists'.1 h4;exact⟨k,r,h3,hr,h5,Xy k h3 hr h5⟩
theorem Xz {body:Int->Option (Int⊕ρ)} {N:Nat} (stop:Nat->Option ρ) {d:ρ} (h1:∀ i,i<N->body (i:Int)=some (match stop i with|some r=>.inr r|none=>.inl ((i+1:Nat):Int))) (h2:body (N:Int)=some (.inr d)):∀ n,N<n->whl body n 0=some (GW N stop d):=by
 intro n hn;rcases PX N stop d with⟨h,e⟩|⟨k,r,hk,hr,h,e⟩
 ·rw[e];exact Vg (λ i=>(i:Int)) N (λ i hi=>by rw[h1 i hi,h i hi]) h2 n hn
 ·rw[e];exact Vg (λ i=>(i:Int)) k (λ i hi=>by rw[h1 i (by omega),h i hi]) (by rw[h1 k hk,hr]) n (by omega)
theorem Ev.first {body:Nat->Int->Option (Int⊕ρ)} {N:Nat} (stop:Nat->Option ρ) {d:ρ} (h:∃ M,∀ n,M<=n->(∀ i,i<N->body n (i:Int)=some (match stop i with|some r=>.inr r|none=>.inl ((i+1:Nat):Int)))/\body n (N:Int)=some (.inr d)):Ev (λ n=>Go.AI.whl (body n) n 0) (GW N stop d):=by
 obtain⟨M,h⟩:=h;exact⟨max M (N+1),λ n hn=>Xz stop (h n (by omega)).1 (h n (by omega)).2 n (by omega)⟩
theorem JiA {P:α->Prop} {c:Bool} {f:Nat->Option β} {d x:β} {g:Nat->β->Option α} (hc:c=true) (h:Ev f x) (k:Tot (λ n=>g n x) P):Tot (λ n=>(if c=true then f n else some d).bind (g n)) P:=by
 subst hc;exact Jiy h k
theorem JiB {P:α->Prop} {c:Bool} {f:Nat->Option β} {d:β} {g:Nat->β->Option α} (hc:c=false) (k:Tot (λ n=>g n d) P):Tot (λ n=>(if c=true then f n else some d).bind (g n)) P:=by
 subst hc;exact k
theorem JiC {f:Nat->Nat->Option α} {z:Nat->α} (N:Nat) (h:∀ i,i<N->Ev (λ n=>f n i) (z i)):∃ M,∀ n,M<=n->∀ i,i<N->f n i=some (z i):=by
 induction N with
 | zero=>exact⟨0,λ n _ i hi=>by omega⟩
 | succ N ih=>
  obtain⟨M1,h1⟩:=ih λ i hi=>h i (by omega);obtain⟨M2,h2⟩:=h N (by omega);exact⟨max M1 M2,λ n hn i hi=>by
   by_cases e:i=N
   ·subst e;exact h2 n (by omega)
   ·exact h1 n (by omega) i (by omega)⟩
end Go.AI
end
section
namespace Go.AI
def scan {ρ:Type} (N:Nat) (stop:Nat->Option ρ):Unit⊕ρ:=match (List.range N).findSome? stop with
 | some r=>.inr r
 | none=>.inl ()
theorem E9 {ρ:Type} {body:Nat->Int->Option (Int⊕(Unit⊕ρ))} (N:Nat) (stop:Nat->Option ρ)
  (h:∀ i,i<N->Ev (λ n=>body n (i:Int)) (match stop i with|some r=>.inr (.inr r)|none=>.inl ((i+1:Nat):Int)))
  (h2:Ev (λ n=>body n (N:Int)) (.inr (.inl ()))):Ev (λ n=>whl (body n) n 0) (AI.scan N stop):=by
 have key:∀ (k i:Nat),i+k=N->(List.range N).findSome? stop=((List.range k).map (i+·)).findSome? stop->∃ M c,∀ n fuel,M<=n->c<=fuel->whl (body n) fuel (i:Int)=some (AI.scan N stop):=by
  intro k;induction k with
  | zero=>
   intro i hi hf;have:i=N:=by omega
   subst this;obtain⟨M,hM⟩:=h2;refine⟨M,1,λ n fuel hn hfu=>?_⟩;obtain⟨fuel,rfl⟩:∃ f,fuel=f+1:=⟨fuel-1,by omega⟩;have e:=hM n hn;simp only at e;simp only[AI.whl,e];unfold AI.scan;rw[hf];rfl
  | succ k ih=>
   intro i hi hf;obtain⟨M,hM⟩:=h i (by omega);have hs:(List.range (k+1)).map (i+·)=i::(List.range k).map ((i+1)+·):=by
    rw[List.range_succ_eq_map];simp only[JiU,Nat.add_zero,List.map_map,List.cons.injEq,true_and];apply JiW;intro a _;simp only[Function.comp];omega
   rw[hs,List.findSome?_cons]at hf;cases hst:stop i with
   | some r=>
    rw[hst]at hf hM;refine⟨M,1,λ n fuel hn hfu=>?_⟩;obtain⟨fuel,rfl⟩:∃ f,fuel=f+1:=⟨fuel-1,by omega⟩;have e:=hM n hn;simp only at e;simp only[AI.whl,e];unfold AI.scan;rw[hf]
   | none=>
    rw[hst]at hf hM;obtain⟨M2,c,h3⟩:=ih (i+1) (by omega) hf;refine⟨max M M2,c+1,λ n fuel hn hfu=>?_⟩;obtain⟨fuel,rfl⟩:∃ f,fuel=f+1:=⟨fuel-1,by omega⟩;have e:=hM n (by omega);simp only at e;simp only[AI.whl,e];exact h3 n fuel (by omega) (by omega)
 obtain⟨M,c,hh⟩:=key N 0 (by omega) (by simp);exact⟨max M c,λ m hm=>hh m m (by omega) (by omega)⟩
theorem FP {ρ:Type} {N:Nat} {stop:Nat->Option ρ} (h:∀ i,i<N->stop i=none):scan N stop=.inl ():=by
 unfold scan;rw[List.findSome?_eq_none_iff.2 λ i hi=>h i (List.mem_range.1 hi)]
theorem FQ {ρ:Type} {N:Nat} {stop:Nat->Option ρ} {i:Nat} (hi:i<N) (h:(stop i).isSome=true):∃ k r,k<N/\stop k=some r/\scan N stop=.inr r:=by
 unfold scan;cases hf:(List.range N).findSome? stop with
 | none=>rw[List.findSome?_eq_none_iff.1 hf i (List.mem_range.2 hi)]at h;cases h
 | some r=>
  obtain⟨k,hk,hr⟩:=List.exists_of_findSome?_eq_some hf;exact⟨k,r,List.mem_range.1 hk,hr,rfl⟩
def LA (b:UInt8):Int:=(b.toNat:Int)
def FD (b:UInt8):Bool:=decide (CN .u8 (LA b) 127>=32)&&decide (CN .u8 (LA b) 127<=126)
def CM (b:UInt8):Bool:=CN .u8 (LA b) 127==32
theorem Jx {s:List UInt8} {i:Nat} {b:UInt8} (h:s[i]?=some b):JZ s (i:Int)=some (LA b):=by
 rw[R1 (Az h)];unfold Qv LA;rw[h];rfl
theorem Hc {i n:Nat} (h:i<n):decide ((i:Int)<((n:Nat):Int))=true:=by simpa using h
theorem Kq (n:Nat):decide (((n:Nat):Int)<((n:Nat):Int))=false:=by simp
def M7 (s:List UInt8):Int×Int:=match scan s.length (λ i=>if FD (s.getD i 0)then none else some ((i:Int),(60:Int)))with
 | .inl _=>(((s.length:Nat):Int),0)
 | .inr p=>p
theorem B6 {α:Type} {l:List α} {i:Nat} {d:α} (h:i<l.length):l.getD i d=l[i]:=by
 rw[List.getD_eq_getElem?_getD,JiY h];rfl
theorem JcA {s:List UInt8} (hl:s.length<9223372036854775807):Ev (λ n=>Ln n s) (M7 s):=by
 unfold Ln M7;refine Ev.bind (E9 s.length (λ i=>if FD (s.getD i 0)then none else some ((i:Int),(60:Int))) (λ i hi=>Ev.all λ n=>?_) (Ev.all λ n=>?_)) ?_
 ·unfold GK;have hg:s[i]?=some s[i]:=JiY hi;rw[if_pos (Hc hi),Jx hg,B6 hi];have hc:Fx n (LA s[i])=some (FD s[i]):=rfl;simp only[JiE,hc];cases FD s[i]with
  | true=>simp[CA (show i<9223372036854775807 by omega)]
  | false=>simp
 ·unfold GK;rw[if_neg (by simp)]
 ·generalize scan s.length _=z;cases z<;>exact Ev.const
theorem JaK {s:List UInt8} (hl:s.length<9223372036854775807):Ev (λ n=>Lr n s) (M7 s):=by
 unfold Lr M7;refine Ev.bind (E9 s.length (λ i=>if FD (s.getD i 0)then none else some ((i:Int),(60:Int))) (λ i hi=>Ev.all λ n=>?_) (Ev.all λ n=>?_)) ?_
 ·unfold GP;have hg:s[i]?=some s[i]:=JiY hi;rw[if_pos (Hc hi),Jx hg,B6 hi];have hc:G5 n (LA s[i])=some (FD s[i]):=rfl;simp only[JiE,hc];cases FD s[i]with
  | true=>simp[CA (show i<9223372036854775807 by omega)]
  | false=>simp
 ·unfold GP;rw[if_neg (by simp)]
 ·generalize scan s.length _=z;cases z<;>exact Ev.const
theorem TC {s:List UInt8} (h:s.all FD=true):M7 s=(((s.length:Nat):Int),0):=by
 unfold M7;rw[FP λ i hi=>by rw[B6 hi,JiI.1 h _ (JiK hi)];rfl]
theorem Qy {s:List UInt8} (h:s.all FD=false):(M7 s).2=60:=by
 rw[List.all_eq_false]at h;obtain⟨b,hb,hc⟩:=h;obtain⟨i,hi,e⟩:=List.getElem_of_mem hb;unfold M7;obtain⟨k,r,hk,hr,hs⟩:=FQ (stop:=λ i=>if FD (s.getD i 0)then none else some ((i:Int),(60:Int))) hi (by
  rw[B6 hi,e];simp only[JiM]at hc;rw[hc];rfl)
 rw[hs];simp only at hr⊢;split at hr
 ·cases hr
 ·cases hr;rfl
theorem XA {s:List UInt8} (hl:s.length<9223372036854775807):Ev (λ n=>Ig n s) (s.all FD):=by
 unfold Ig;refine Ev.bind (JaK hl) ?_;cases h:s.all FD with
 | true=>rw[TC h];exact Ev.const
 | false=>rw[Qy h];exact Ev.const
def B2 (r:Aw) (m:Int):Bool:=
 r.Print.all FD&&decide (r.Print.length<=4)&&decide (1<=r.Cells.length)&&decide (r.Cells.length<=4) &&
 (decide (1<=r.Left)&&decide (r.Left<=63)&&decide (1<=r.Right)&&decide (r.Right<=63)&&decide (0<=r.From)&&decide (r.From<m)&&decide (0<=r.To)&&decide (r.To<m)) &&
 r.Cells.all (λ c=>decide (c<63)) &&
 (bif r.Print.any CM then decide (r.Print.length=1)&&decide (r.Cells.length=1)&&r.Cells.any (λ c=>c==0)else !r.Cells.any (λ c=>c==0))
end Go.AI
end
section
namespace Go.AI
theorem XB {r:Aw} (hl:r.Print.length<9223372036854775807):Ev (λ n=>whl (λ (x:(Bool×Int))=>DB n r x.1 x.2) n (false,0)) (r.Print.any CM):=by
 refine Ev.whl (body:=λ n x=>DB n r x.1 x.2) (λ k x=>∃ i:Nat,x.2=(i:Int)/\i<=r.Print.length/\k=r.Print.length-i/\x.1=(r.Print.take i).any CM) ?_ r.Print.length (false,0) ⟨0,rfl,by omega,by omega,by simp⟩;rintro k ⟨b,i'⟩ ⟨i,h1,hi,rfl,h2⟩;simp only at h1 h2;subst h1;subst h2;rcases JiO i r.Print.length with hlt|hge
 ·left;have hg:r.Print[i]?=some r.Print[i]:=JiY hlt;have hcond:decide ((i:Int)<((r.Print.length:Nat):Int))=true:=by simpa using hlt
  refine⟨((r.Print.take (i+1)).any CM,((i+1:Nat):Int)),r.Print.length-(i+1),by omega,⟨i+1,rfl,by omega,rfl,rfl⟩,Ev.all λ n=>?_⟩;unfold DB;rw[if_pos hcond];have ht:(r.Print.take (i+1)).any CM=((r.Print.take i).any CM||CM r.Print[i]):=by
   rw[List.take_add_one,hg];simp only[Option.toList_some,List.any_append,List.any_cons,List.any_nil,Bool.or_false]
  have hsp:∀ n,Mi n (LA r.Print[i])=some (CM r.Print[i]):=λ n=>rfl;rw[ht,Pg (by omega) (by omega),Jx hg];cases (r.Print.take i).any CM with
  | true=>simp
  | false=>simp[hsp]
 ·right;have e:i=r.Print.length:=by omega
  subst e;refine Ev.all λ n=>?_;unfold DB;rw[if_neg (by simp),List.take_length]
theorem Ev.upto {σ ρ:Type} {body:Nat->σ->Option (σ⊕ρ)} {R:ρ->Prop} (N:Nat) (I:Nat->σ->Prop)
  (step:∀ i x,i<N->I i x->(∃ y,I (i+1) y/\Ev (λ n=>body n x) (.inl y))\/∃ r,R r/\Ev (λ n=>body n x) (.inr r))
  (last:∀ x,I N x->∃ r,R r/\Ev (λ n=>body n x) (.inr r)) (x:σ) (h0:I 0 x):∃ r,R r/\Ev (λ n=>Go.AI.whl (body n) n x) r:=by
 refine Jiw (body:=body) (λ k x=>∃ i,i<=N/\k=N-i/\I i x) ?_ N x ⟨0,by omega,by omega,h0⟩;rintro k x ⟨i,hi,rfl,hx⟩;rcases JiO i N with hlt|hge
 ·rcases step i x hlt hx with⟨y,hy,hE⟩|h
  ·exact .inl ⟨y,N-(i+1),by omega,⟨i+1,by omega,rfl,hy⟩,hE⟩
  ·exact .inr h
 ·have:i=N:=by omega
  subst this;exact .inr (last x hx)
theorem XC {r:Aw} (hl:r.Cells.length<9223372036854775807) (y:Bool):∃ z:Bool⊕Bool,(if r.Cells.all (λ c=>decide (c<63))=true then z=.inl (r.Cells.any (λ c=>c==0))else z=.inr false)/\Ev (λ n=>whl (λ (x:(Bool×Int))=>C1 n r y x.1 x.2) n (false,0)) z:=by
 refine Ev.upto (body:=λ n x=>C1 n r y x.1 x.2) r.Cells.length (λ i x=>x.2=(i:Int)/\x.1=(r.Cells.take i).any (λ c=>c==0)/\(r.Cells.take i).all (λ c=>decide (c<63))=true) ?_ ?_ (false,0) ⟨rfl,by simp,by simp⟩
 ·rintro i ⟨b,i'⟩ hlt ⟨h1,h2,h3⟩;simp only at h1 h2;subst h1;subst h2;have hg:r.Cells[i]?=some r.Cells[i]:=JiY hlt;have hcond:decide ((i:Int)<((r.Cells.length:Nat):Int))=true:=by simpa using hlt
  by_cases hc:r.Cells[i]<63
  ·left;refine⟨((r.Cells.take (i+1)).any (λ c=>c==0),((i+1:Nat):Int)),⟨rfl,rfl,?_⟩,Ev.all λ n=>?_⟩
   ·rw[List.take_add_one,hg];simp only[Option.toList_some,List.all_append,h3,List.all_cons,decide_eq_true hc,List.all_nil,Bool.and_self]
   ·unfold C1;have ht:(r.Cells.take (i+1)).any (λ c=>c==0)=((r.Cells.take i).any (λ c=>c==0)||r.Cells[i]==0):=by
     rw[List.take_add_one,hg];simp only[Option.toList_some,List.any_append,List.any_cons,List.any_nil,Bool.or_false]
    rw[if_pos hcond,Iq hg,JiE,if_neg (by simpa using hc),ht,Pg (by omega) (by omega)];cases (r.Cells.take i).any (λ c=>c==0)with
    | true=>simp
    | false=>simp
  ·right;refine⟨.inr false,?_,Ev.all λ n=>?_⟩
   ·rw[if_neg];intro h;rw[JiI]at h;exact hc (by simpa using h r.Cells[i] (JiK hlt))
   ·unfold C1;rw[if_pos hcond,Iq hg,JiE,if_pos (by simp;omega)]
 ·rintro⟨b,i'⟩ ⟨h1,h2,h3⟩;simp only at h1 h2;subst h1;subst h2;rw[List.take_length]at h3⊢;refine⟨.inl (r.Cells.any (λ c=>c==0)),by rw[if_pos h3],Ev.all λ n=>?_⟩;unfold C1;rw[if_neg (by simp)]
theorem JaL {r:Aw} (hp:r.Print.length<9223372036854775807) (hc:r.Cells.length<9223372036854775807) (m:Int):Ev (λ n=>JM n r m) (B2 r m):=by
 obtain⟨z,hz,hE⟩:=XC hc (r.Print.any CM);have h1:=XA hp;have h2:=XB (r:=r) hp;unfold JM;refine Ev.bind h1 ?_;unfold B2;generalize r.Print.all FD=a;by_cases g1:((((!a)||(decide (((r.Print.length:Nat):Int)>4)))||(decide (((r.Cells.length:Nat):Int)<1)))||(decide (((r.Cells.length:Nat):Int)>4)))=true
 ·simp only[g1,if_true];have:(a&&decide (r.Print.length<=4)&&decide (1<=r.Cells.length)&&decide (r.Cells.length<=4))=false:=by
   rw[← JiM];intro h;simp only[JiZ,decide_eq_true_eq]at h;simp only[Jjh,decide_eq_true_eq,Bool.not_eq_true']at g1;rcases g1 with ((g|g)|g)|g
   ·rw[g]at h;simp at h
   all_goals omega
  rw[this];exact Ev.const
 ·simp only[g1];by_cases g2:((((((((decide (r.Left<1))||(decide (r.Left>63)))||(decide (r.Right<1)))||(decide (r.Right>63)))||(decide (r.From<0)))||(decide (r.From>=m)))||(decide (r.To<0)))||(decide (r.To>=m)))=true
  ·simp only[g2,if_true];have:(decide (1<=r.Left)&&decide (r.Left<=63)&&decide (1<=r.Right)&&decide (r.Right<=63)&&decide (0<=r.From)&&decide (r.From<m)&&decide (0<=r.To)&&decide (r.To<m))=false:=by
    rw[← JiM];intro h;simp only[JiZ,decide_eq_true_eq]at h;simp only[Jjh,decide_eq_true_eq]at g2;omega
   rw[this,Bool.and_false];exact Ev.const
  ·have e1:(a&&decide (r.Print.length<=4)&&decide (1<=r.Cells.length)&&decide (r.Cells.length<=4))=true:=by
    simp only[Jjh,decide_eq_true_eq,Bool.not_eq_true',not_or]at g1;simp only[JiZ,decide_eq_true_eq];refine⟨⟨⟨by simpa using g1.1.1.1,?_⟩,?_⟩,?_⟩<;>omega
   have e2:(decide (1<=r.Left)&&decide (r.Left<=63)&&decide (1<=r.Right)&&decide (r.Right<=63)&&decide (0<=r.From)&&decide (r.From<m)&&decide (0<=r.To)&&decide (r.To<m))=true:=by
    simp only[Jjh,decide_eq_true_eq,not_or]at g2;simp only[JiZ,decide_eq_true_eq];omega
   rw[e1,e2];simp only[g2,Jja,if_false];refine Ev.bind h2 (Ev.bind hE ?_);split at hz
   ·rename_i h;subst hz;rw[h];generalize r.Print.any CM=b;cases b with
    | false=>exact Ev.const
    | true=>
     refine Ev.all λ n=>?_;simp only[JiL,Jja,if_false,Bool.and_true,Bool.true_and,cond_true];congr 3<;>rw[Bool.eq_iff_iff]<;>simp<;>omega
   ·rename_i h;subst hz;rw[JiM]at h;rw[h];exact Ev.const
end Go.AI
end
section
namespace Go.AI
theorem Ev.iteT {α:Type} {c:Bool} {a b:Nat->Option α} {z:α} (h:c=true) (k:Ev a z):Ev (λ n=>if c=true then a n else b n) z:=by subst h;exact k
theorem Ev.iteF {α:Type} {c:Bool} {a b:Nat->Option α} {z:α} (h:c=false) (k:Ev b z):Ev (λ n=>if c=true then a n else b n) z:=by subst h;exact k
theorem Ev.bindC {α β:Type} {x:Option β} {y:β} {g:Nat->β->Option α} {z:α} (h:x=some y) (k:Ev (λ n=>g n y) z):Ev (λ n=>x.bind (g n)) z:=by subst h;exact k
theorem Ev.guard {α β:Type} {c:Bool} {f:Nat->Option β} {d x:β} {g:Nat->β->Option α} {z:α} (h:c=true->Ev f x) (k:Ev (λ n=>g n (if c=true then x else d)) z):Ev (λ n=>(if c=true then f n else some d).bind (g n)) z:=by
 cases c with
 | true=>exact Ev.bind (h rfl) k
 | false=>exact k
theorem JaM {α β:Type} {a:List α} {b:List β}:(((a.length:Nat):Int) != ((b.length:Nat):Int))=decide (a.length≠b.length):=by
 rw[Bool.eq_iff_iff];simp only[bne_iff_ne,ne_eq,decide_eq_true_eq];omega
theorem Qz {α:Type} [DecidableEq α] [Inhabited α] (a b:List α) (h:a.length=b.length):scan a.length (λ i=>if a.getD i default=b.getD i default then none else some false)=if a=b then .inl ()else .inr false:=by
 by_cases e:a=b
 ·subst e;rw[if_pos rfl];exact FP λ i _=>by rw[if_pos rfl]
 ·rw[if_neg e];have:∃ i,i<a.length/\a.getD i default≠b.getD i default:=by
   apply Classical.byContradiction;intro hn;refine e (List.ext_getElem h λ i h1 h2=>?_);have:=Classical.byContradiction λ hc=>hn ⟨i,h1,hc⟩;rwa[B6 h1,B6 h2]at this
  obtain⟨i,hi,hne⟩:=this;obtain⟨k,r,_,hr,hs⟩:=FQ (stop:=λ i=>if a.getD i default=b.getD i default then none else some false) hi (by rw[if_neg hne];rfl)
  rw[hs];split at hr
  ·cases hr
  ·cases hr;rfl
theorem LB (a b:List Int) (ha:a.length<9223372036854775807):Ev (λ n=>DP n a b) (decide (a=b)):=by
 unfold DP;rw[JaM];by_cases h:a.length=b.length
 ·refine Ev.iteF (by simp[h]) ?_;refine Ev.bind (E9 a.length (λ i=>if a.getD i default=b.getD i default then none else some false) (λ i hi=>Ev.all λ n=>?_) (Ev.all λ n=>?_)) ?_
  ·unfold DA;rw[if_pos (Hc hi),Gp hi,Gp (by omega)];simp only[JiE];by_cases e:a.getD i default=b.getD i default
   ·rw[if_neg (by simp only[bne_iff_ne,ne_eq];exact λ hh=>hh e),if_pos e,CA (by omega)]
   ·rw[if_pos (by simp only[bne_iff_ne,ne_eq];exact e),if_neg e]
  ·unfold DA;rw[if_neg (by simp)]
  ·rw[Qz a b h];by_cases e:a=b
   ·rw[if_pos e,decide_eq_true e];exact Ev.const
   ·rw[if_neg e,decide_eq_false e];exact Ev.const
 ·refine Ev.iteT (by simp[h]) ?_;rw[decide_eq_false (λ e=>h (by rw[e]))];exact Ev.const
theorem TD (a b:List Int) (ha:a.length<9223372036854775807):Ev (λ n=>JI n a b) (decide (a=b)):=by
 unfold JI;rw[JaM];by_cases h:a.length=b.length
 ·refine Ev.iteF (by simp[h]) ?_;refine Ev.bind (E9 a.length (λ i=>if a.getD i default=b.getD i default then none else some false) (λ i hi=>Ev.all λ n=>?_) (Ev.all λ n=>?_)) ?_
  ·unfold FJ;rw[if_pos (Hc hi),Gp hi,Gp (by omega)];simp only[JiE];by_cases e:a.getD i default=b.getD i default
   ·rw[if_neg (by simp only[bne_iff_ne,ne_eq];exact λ hh=>hh e),if_pos e,CA (by omega)]
   ·rw[if_pos (by simp only[bne_iff_ne,ne_eq];exact e),if_neg e]
  ·unfold FJ;rw[if_neg (by simp)]
  ·rw[Qz a b h];by_cases e:a=b
   ·rw[if_pos e,decide_eq_true e];exact Ev.const
   ·rw[if_neg e,decide_eq_false e];exact Ev.const
 ·refine Ev.iteT (by simp[h]) ?_;rw[decide_eq_false (λ e=>h (by rw[e]))];exact Ev.const
theorem V1 (a b:Aw):decide (a=b)=(a.Print==b.Print&&decide (a.Cells=b.Cells)&&a.Left==b.Left&&a.Right==b.Right&&a.From==b.From&&a.To==b.To):=by
 rw[Bool.eq_iff_iff];cases a;cases b;simp only[decide_eq_true_eq,Aw.mk.injEq,JiZ,beq_iff_eq];exact⟨λ⟨h1,h2,h3,h4,h5,h6⟩=>⟨⟨⟨⟨⟨h1,h2⟩,h3⟩,h4⟩,h5⟩,h6⟩,λ⟨⟨⟨⟨⟨h1,h2⟩,h3⟩,h4⟩,h5⟩,h6⟩=>⟨h1,h2,h3,h4,h5,h6⟩⟩
theorem TE (a b:Aw) (ha:a.Cells.length<9223372036854775807):Ev (λ n=>FL n a b) (decide (a=b)):=by
 unfold FL;refine Ev.guard (λ _=>LB a.Cells b.Cells ha) (Ev.all λ n=>?_);rw[V1];cases h:(a.Print==b.Print)<;>simp
theorem JaN (a b:Aw) (ha:a.Cells.length<9223372036854775807):Ev (λ n=>JJ n a b) (decide (a=b)):=by
 unfold JJ;refine Ev.guard (λ _=>TD a.Cells b.Cells ha) (Ev.all λ n=>?_);rw[V1];cases (a.Print==b.Print)<;>cases (a.Left==b.Left)<;>cases (a.Right==b.Right)<;>cases (a.From==b.From)<;>cases (a.To==b.To)<;>simp
theorem TF (b:UInt8):(Gl (LA b)==4)=CM b:=by
 have:∀ k:Nat,k<256->(Gl (k:Int)==4)=(CN .u8 (k:Int) 127==32):=by decide +kernel
 exact this b.toNat b.toNat_lt
theorem JaO {s:List UInt8} {f:UInt8->Bool}:scan s.length (λ i=>if f (s.getD i 0)then some true else none)=if s.any f then .inr true else .inl ():=by
 cases h:s.any f with
 | false=>
  rw[List.any_eq_false]at h;exact FP λ i hi=>by rw[B6 hi,if_neg (h _ (JiK hi))]
 | true=>
  rw[List.any_eq_true]at h;obtain⟨b,hb,hf⟩:=h;obtain⟨i,hi,e⟩:=List.getElem_of_mem hb;obtain⟨k,r,_,hr,hs⟩:=FQ (stop:=λ i=>if f (s.getD i 0)then some true else none) hi (by rw[B6 hi,e,hf];rfl)
  rw[hs];split at hr
  ·cases hr;rfl
  ·cases hr
theorem TG {s:List UInt8} (hl:s.length<9223372036854775807):Ev (λ n=>FH n s) (s.any CM):=by
 unfold FH;refine Ev.bind (E9 s.length (λ i=>if CM (s.getD i 0)then some true else none) (λ i hi=>Ev.all λ n=>?_) (Ev.all λ n=>?_)) ?_
 ·unfold DZ;have hg:s[i]?=some s[i]:=JiY hi;rw[if_pos (Hc hi),Jx hg,B6 hi];simp only[JiE,Tv,TF];cases CM s[i]with
  | true=>simp
  | false=>simp[CA (show i<9223372036854775807 by omega)]
 ·unfold DZ;rw[if_neg (by simp)]
 ·rw[JaO];cases s.any CM<;>exact Ev.const
theorem XD {l:List Int} {f:Int->Bool}:scan l.length (λ i=>if f (l.getD i 0)then none else some false)=if l.all f then .inl ()else .inr false:=by
 cases h:l.all f with
 | true=>
  rw[JiI]at h;exact FP λ i hi=>by rw[B6 hi,if_pos (h _ (JiK hi))]
 | false=>
  rw[List.all_eq_false]at h;obtain⟨b,hb,hf⟩:=h;obtain⟨i,hi,e⟩:=List.getElem_of_mem hb;obtain⟨k,r,_,hr,hs⟩:=FQ (stop:=λ i=>if f (l.getD i 0)then none else some false) hi (by rw[B6 hi,e,if_neg hf];rfl)
  rw[hs];split at hr
  ·cases hr
  ·cases hr;rfl
def M8 (c:Int):Bool:=decide (c<63)&&!(c==0)
theorem XE {r:Aw} (hp:r.Print.length<9223372036854775807) (hc:r.Cells.length<9223372036854775807) (m:Int):Ev (λ n=>JH n r m) (B2 r m):=by
 unfold JH;by_cases g1:(((decide (((r.Print.length:Nat):Int)>4))||(decide (((r.Cells.length:Nat):Int)<1)))||(decide (((r.Cells.length:Nat):Int)>4)))=true
 ·refine Ev.iteT g1 ?_;have:B2 r m=false:=by
   rw[← JiM];intro h;simp only[B2,JiZ,decide_eq_true_eq]at h;simp only[Jjh,decide_eq_true_eq]at g1;omega
  rw[this];exact Ev.const
 ·rw[JiM]at g1;refine Ev.iteF g1 (Ev.bind (JcA hp) ?_);cases ha:r.Print.all FD with
  | false=>
   refine Ev.iteT (by rw[Qy ha];rfl) ?_;have:B2 r m=false:=by simp[B2,ha]
   rw[this];exact Ev.const
  | true=>
   refine Ev.iteF (by rw[TC ha];rfl) ?_;by_cases g2:((((decide (r.Left<1))||(decide (r.Left>63)))||(decide (r.Right<1)))||(decide (r.Right>63)))=true
   ·refine Ev.iteT g2 ?_;have:B2 r m=false:=by
     rw[← JiM];intro h;simp only[B2,JiZ,decide_eq_true_eq]at h;simp only[Jjh,decide_eq_true_eq]at g2;omega
    rw[this];exact Ev.const
   ·rw[JiM]at g2;refine Ev.iteF g2 ?_;by_cases g3:((((decide (r.From<0))||(decide (r.From>=m)))||(decide (r.To<0)))||(decide (r.To>=m)))=true
    ·refine Ev.iteT g3 ?_;have:B2 r m=false:=by
      rw[← JiM];intro h;simp only[B2,JiZ,decide_eq_true_eq]at h;simp only[Jjh,decide_eq_true_eq]at g3;omega
     rw[this];exact Ev.const
    ·rw[JiM]at g3;refine Ev.iteF g3 (Ev.bind (TG hp) ?_);simp only[JiX,decide_eq_false_iff_not]at g1 g2 g3;have e1:B2 r m=(r.Cells.all (λ c=>decide (c<63))&&(bif r.Print.any CM then decide (r.Print.length=1)&&decide (r.Cells.length=1)&&r.Cells.any (λ c=>c==0)else !r.Cells.any (λ c=>c==0))):=by
      unfold B2;rw[ha];have:(true&&decide (r.Print.length<=4)&&decide (1<=r.Cells.length)&&decide (r.Cells.length<=4)&&(decide (1<=r.Left)&&decide (r.Left<=63)&&decide (1<=r.Right)&&decide (r.Right<=63)&&decide (0<=r.From)&&decide (r.From<m)&&decide (0<=r.To)&&decide (r.To<m)))=true:=by
       simp only[JiZ,decide_eq_true_eq,true_and];omega
      rw[this,Bool.true_and]
     rw[e1];cases hsp:r.Print.any CM with
     | true=>
      refine Ev.iteT rfl ?_;by_cases g4:((((r.Print.length:Nat):Int)==1)&&(((r.Cells.length:Nat):Int)==1))=true
      ·have hl:r.Print.length=1/\r.Cells.length=1:=by
        simp only[JiZ,beq_iff_eq]at g4;omega
       obtain⟨c,hcell⟩:=List.length_eq_one_iff.1 hl.2;have hi:idx r.Cells 0=some c:=by rw[hcell];rfl
       simp only[g4,if_true,hi,JiE];refine Ev.all λ n=>?_;rw[hcell];simp only[hl.1,List.all_cons,List.all_nil,List.any_cons,List.any_nil,List.length_cons,List.length_nil,Bool.and_true,Bool.or_false,decide_true,Bool.true_and,cond_true];cases h0:(c==0)with
       | false=>simp
       | true=>
        have:c=0:=by simpa using h0
        subst this;rfl
      ·rw[JiM]at g4;simp only[g4,Jja,if_false,JiE,Bool.false_and];refine Ev.all λ n=>?_;have:(decide (r.Print.length=1)&&decide (r.Cells.length=1))=false:=by
        rw[← JiM];intro h;simp only[JiZ,decide_eq_true_eq]at h;rw[← JiM]at g4;apply g4;simp[h.1,h.2]
       simp[this]
     | false=>
      refine Ev.iteF rfl ?_;refine Ev.bind (E9 r.Cells.length (λ i=>if M8 (r.Cells.getD i 0)then none else some false) (λ i hi=>Ev.all λ n=>?_) (Ev.all λ n=>?_)) ?_
      ·unfold FI;rw[if_pos (Hc hi),Gp hi,show r.Cells.getD i default=r.Cells.getD i 0 from rfl];generalize r.Cells.getD i 0=c;simp only[JiE,Mf];by_cases hcc:M8 c=true
       ·simp only[M8,JiZ,decide_eq_true_eq,Bool.not_eq_true',beq_eq_false_iff_ne,ne_eq]at hcc;rw[if_neg (by simp;omega),if_pos (by simp[M8];omega),CA (by omega)]
       ·rw[if_pos (by simp[M8]at hcc⊢;omega),if_neg hcc]
      ·unfold FI;rw[if_neg (by simp)]
      ·rw[XD];have e2:(r.Cells.all (λ c=>decide (c<63))&&!r.Cells.any (λ c=>c==0))=r.Cells.all M8:=by
        rw[Bool.eq_iff_iff];simp only[M8,JiZ,JiI,Bool.not_eq_true',List.any_eq_false,JiM];exact⟨λ h x hx=>⟨h.1 x hx,h.2 x hx⟩,λ h=>⟨λ x hx=>(h x hx).1,λ x hx=>(h x hx).2⟩⟩
       simp only[cond_false];rw[e2];cases r.Cells.all M8<;>exact Ev.const
end Go.AI
end
section
namespace Go.AI
def JaP (r:Aw):Prop:=r.Print.length<9223372036854775807/\r.Cells.length<9223372036854775807
def EY (t:Ad):Prop:=t.Rules.length<9223372036854775807/\∀ r∈t.Rules,JaP r
def TH (t:Ad) (i:Nat):Unit⊕(Int×Int):=scan i (λ k=>if t.Rules.getD k default=t.Rules.getD i default then some ((i:Int),(20:Int))else none)
def HL (t:Ad) (i:Nat):Option (Int×Int):=if B2 (t.Rules.getD i default) t.Modes=true then(match TH t i with | .inl _=>none | .inr p=>some p)else some ((i:Int),20)
def TI (t:Ad):Bool:=decide (t.Modes<1)||decide (t.Modes>8)||(t.Accept==0)||decide (IntKind.i64.wrap t.Accept>=FF .i64 1 t.Modes)||decide (((t.Rules.length:Nat):Int)<1)||decide (((t.Rules.length:Nat):Int)>64)
def Mt (t:Ad):Int×Int:=if TI t=true then(-1,1)else match scan t.Rules.length (HL t)with
 | .inl _=>(0,0)
 | .inr p=>p
theorem EY.get {t:Ad} (h:EY t) {i:Nat} (hi:i<t.Rules.length):JaP (t.Rules.getD i default):=by
 rw[B6 hi];exact h.2 _ (JiK hi)
theorem XF {t:Ad} (ht:EY t) {i:Nat} (hi:i<t.Rules.length):Ev (λ n=>whl (λ (x:Int)=>EA n t (i:Int) x) n 0) (TH t i):=by
 refine E9 i _ (λ k hk=>?_) (Ev.all λ n=>?_)
 ·unfold EA;refine Ev.iteT (by simpa using hk) (Ev.bindC (Gp (by omega)) (Ev.bindC (Gp hi) (Ev.bind (TE _ _ (ht.get (by omega)).2) (Ev.all λ n=>?_))));by_cases e:t.Rules.getD k default=t.Rules.getD i default
  ·rw[if_pos (decide_eq_true e),if_pos e]
  ·rw[if_neg (by simpa using e),if_neg e,CA (by have:=ht.1;omega)]
 ·unfold EA;rw[if_neg (by simp)]
theorem Vh {t:Ad} (ht:EY t) {i:Nat} (hi:i<t.Rules.length):Ev (λ n=>whl (λ (x:Int)=>Et n t (i:Int) (t.Rules.getD i default) (t.Rules.take i) x) n 0) (TH t i):=by
 refine E9 i _ (λ k hk=>?_) (Ev.all λ n=>?_)
 ·unfold Et;have hk':k<(t.Rules.take i).length:=by rw[List.length_take];omega
  have hg:(t.Rules.take i).getD k default=t.Rules.getD k default:=by rw[B6 hk',B6 (by omega),List.getElem_take]
  refine Ev.iteT (Hc hk') (Ev.bindC (Gp hk') ?_);rw[hg];refine Ev.bind (JaN _ _ (ht.get (by omega)).2) (Ev.all λ n=>?_);by_cases e:t.Rules.getD k default=t.Rules.getD i default
  ·rw[if_pos (decide_eq_true e),if_pos e]
  ·rw[if_neg (by simpa using e),if_neg e,CA (by have:=ht.1;omega)]
 ·unfold Et;rw[if_neg (by simp;omega)]
theorem XG {t:Ad} (ht:EY t):Ev (λ n=>whl (λ (x:Int)=>EB n t x) n 0) (scan t.Rules.length (HL t)):=by
 refine E9 _ _ (λ i hi=>?_) (Ev.all λ n=>?_)
 ·unfold EB;refine Ev.iteT (Hc hi) (Ev.bindC (Gp hi) (Ev.bind (JaL (ht.get hi).1 (ht.get hi).2 t.Modes) ?_));unfold HL;cases B2 (t.Rules.getD i default) t.Modes with
  | false=>exact Ev.iteT rfl Ev.const
  | true=>
   refine Ev.iteF rfl (Ev.bind (XF ht hi) ?_);cases TH t i with
   | inl u=>refine Ev.all λ n=>?_;simp[CA (show i<9223372036854775807 by have:=ht.1;omega)]
   | inr p=>exact Ev.const
 ·unfold EB;rw[if_neg (by simp)]
theorem Vi {t:Ad} (ht:EY t):Ev (λ n=>whl (λ (x:Int)=>Eu n t x) n 0) (scan t.Rules.length (HL t)):=by
 refine E9 _ _ (λ i hi=>?_) (Ev.all λ n=>?_)
 ·unfold Eu;refine Ev.iteT (Hc hi) (Ev.bindC (Gp hi) (Ev.bind (XE (ht.get hi).1 (ht.get hi).2 t.Modes) ?_));unfold HL;cases B2 (t.Rules.getD i default) t.Modes with
  | false=>exact Ev.iteT rfl Ev.const
  | true=>
   refine Ev.iteF rfl (Ev.bindC (R3 (by omega)) (Ev.bind (Vh ht hi) ?_));cases TH t i with
   | inl u=>refine Ev.all λ n=>?_;simp[CA (show i<9223372036854775807 by have:=ht.1;omega)]
   | inr p=>exact Ev.const
 ·unfold Eu;rw[if_neg (by simp)]
theorem JaQ {t:Ad} (ht:EY t):Ev (λ n=>JN n t) (Mt t):=by
 unfold JN Mt;refine Ev.bindC (y:=()) ?_ ?_
 ·split
  ·rename_i h;simp only[Bool.not_eq_true',JiX,decide_eq_false_iff_not]at h;exact Ct (by simp;omega)
  ·rfl
 ·show Ev (λ n=>if TI t=true then _ else _) _
  cases TI t with
  | true=>exact Ev.iteT rfl Ev.const
  | false=>
   refine Ev.iteF rfl (Ev.bind (XG ht) ?_);generalize scan t.Rules.length _=z;cases z<;>exact Ev.const
theorem XH {t:Ad} (ht:EY t):Ev (λ n=>JK n t) (Mt t):=by
 unfold JK Mt TI;cases h1:((decide (t.Modes<1))||(decide (t.Modes>8)))with
 | true=>exact Ev.iteT rfl (by simp only[Bool.true_or,if_true];exact Ev.const)
 | false=>
  refine Ev.iteF rfl (Ev.bindC (y:=()) ?_ ?_)
  ·split
   ·simp only[JiX,decide_eq_false_iff_not]at h1;exact Ct (by simp;omega)
   ·rfl
  ·simp only[Bool.false_or];cases h2:((t.Accept==0)||(decide (IntKind.i64.wrap t.Accept>=FF .i64 1 t.Modes)))with
   | true=>exact Ev.iteT rfl (by simp only[Bool.true_or,if_true];exact Ev.const)
   | false=>
    refine Ev.iteF rfl ?_;simp only[Bool.false_or];cases h3:((decide (((t.Rules.length:Nat):Int)<1))||(decide (((t.Rules.length:Nat):Int)>64)))with
    | true=>exact Ev.iteT rfl (by simp only[if_true];exact Ev.const)
    | false=>
     refine Ev.iteF rfl (Ev.bind (Vi ht) ?_);simp only[Jja,if_false];generalize scan t.Rules.length _=z;cases z<;>exact Ev.const
def DM (t:Ad):Bool:=!TI t&&t.Rules.all (λ r=>B2 r t.Modes)&&decide t.Rules.Nodup
theorem LC (t:Ad):((Mt t).2==0)=DM t:=by
 unfold Mt DM;cases TI t with
 | true=>rfl
 | false=>
  simp only[Jja,if_false,Bool.not_false,Bool.true_and];have h20:∀ i p,HL t i=some p->p.2=20:=by
   intro i p h;unfold HL at h;split at h
   ·split at h
    ·cases h
    ·rename_i q hq;cases h;unfold TH scan at hq;split at hq
     ·rename_i r hr;cases hq;obtain⟨k,_,hk⟩:=List.exists_of_findSome?_eq_some hr;split at hk
      ·cases hk;rfl
      ·cases hk
     ·cases hq
   ·cases h;rfl
  have hiff:(∀ i,i<t.Rules.length->HL t i=none)↔(t.Rules.all (λ r=>B2 r t.Modes)&&decide t.Rules.Nodup)=true:=by
   simp only[JiZ,JiI,decide_eq_true_eq];constructor
   ·intro h;have hs:∀ i,i<t.Rules.length->B2 (t.Rules.getD i default) t.Modes=true:=by
     intro i hi;have:=h i hi;unfold HL at this;split at this
     ·assumption
     ·cases this
    refine⟨λ r hr=>?_,?_⟩
    ·obtain⟨i,hi,e⟩:=List.getElem_of_mem hr;have:=hs i hi;rwa[B6 hi,e]at this
    ·rw[List.Nodup,List.pairwise_iff_getElem];intro k i hk hi hlt e;have h0:=h i hi;unfold HL at h0;rw[if_pos (hs i hi)]at h0;obtain⟨_,r,_,_,hsc⟩:=FQ (N:=i) (stop:=λ k=>if t.Rules.getD k default=t.Rules.getD i default then some ((i:Int),(20:Int))else none) hlt (by rw[B6 hk,B6 hi,if_pos e];rfl)
     unfold TH at h0;rw[hsc]at h0;cases h0
   ·rintro⟨h1,h2⟩ i hi;unfold HL;rw[if_pos (by rw[B6 hi];exact h1 _ (JiK hi))];have:TH t i=.inl ():=FP λ k hk=>by
     rw[B6 (show k<t.Rules.length by omega),B6 hi,if_neg];rw[List.Nodup,List.pairwise_iff_getElem]at h2;exact h2 k i (by omega) hi hk
    rw[this]
  cases hv:(t.Rules.all (λ r=>B2 r t.Modes)&&decide t.Rules.Nodup)with
  | true=>rw[FP (hiff.2 hv)];rfl
  | false=>
   have:¬∀ i,i<t.Rules.length->HL t i=none:=λ h=>by rw[hiff.1 h]at hv;cases hv
   have:∃ i,i<t.Rules.length/\HL t i≠none:=Classical.byContradiction λ hn=>this λ i hi=>Classical.byContradiction λ hc=>hn ⟨i,hi,hc⟩;obtain⟨i,hi,hne⟩:=this;obtain⟨k,r,_,hr,hs⟩:=FQ hi (Option.isSome_iff_ne_none.2 hne);rw[hs];show(r.2==0)=false;rw[h20 k r hr];rfl
theorem JaR {t:Ad} (ht:EY t):Ev (λ n=>Mj n t) (DM t):=by
 rw[← LC];exact Ev.bind (JaQ ht) Ev.const
theorem XI {t:Ad} (ht:EY t):Ev (λ n=>Mg n t) (DM t):=by
 rw[← LC];exact Ev.bind (XH ht) Ev.const
theorem Vj {t:Ad} {l:List Aw} (h:DM t=true) (hl:l.Sublist t.Rules) (h1:1<=l.length):DM ⟨t.Modes,t.Accept,l⟩=true:=by
 unfold DM TI at h⊢;simp only[JiZ,Bool.not_eq_true',JiX,decide_eq_false_iff_not,JiI,decide_eq_true_eq]at h⊢;have hle:=hl.length_le;exact⟨⟨⟨⟨h.1.1.1.1,by omega⟩,by omega⟩,λ r hr=>h.1.2 r (hl.subset hr)⟩,hl.nodup h.2⟩
theorem Is {t:Ad} (h:DM t=true):∀ r∈t.Rules,B2 r t.Modes=true:=by
 unfold DM at h;simp only[JiZ,JiI]at h;exact h.1.2
end Go.AI
end
section
namespace Go.AI
def EN (r:Int):Ad:=(Fk 0 r).getD default
theorem LD (n:Nat) (k:Int) (h0:0<=k):Fk n k=some (EN (A8 k 8))/\0<=A8 k 8/\A8 k 8<8:=by
 have e:A8 k 8=k % 8:=by unfold A8;rw[Int.tmod_eq_emod_of_nonneg h0]
 have hr:A8 k 8=0\/A8 k 8=1\/A8 k 8=2\/A8 k 8=3\/A8 k 8=4\/A8 k 8=5\/A8 k 8=6\/A8 k 8=7:=by rw[e];omega
 rcases hr with h|h|h|h|h|h|h|h
 all_goals
  refine⟨?_,by omega,by omega⟩;unfold Fk;rw[h];rfl
def R4 (r:Aw):Bool:=decide (0<=r.To)&&decide (r.To<2)&&decide (0<=r.Right)&&decide (r.Right<=63)&&decide (r.Print.length<=3)
theorem Ph {r:Aw} (h:R4 r=true):KH r:=by
 simp only[R4,JiZ,decide_eq_true_eq]at h;obtain⟨⟨⟨⟨h1,h2⟩,h3⟩,h4⟩,h5⟩:=h;exact⟨h1,h2,h3,h4,h5⟩
def NC (t:Ad):Bool:=decide (t.Rules.length<=8)&&t.Rules.all R4&&decide (1<=t.Modes)&&decide (t.Modes<=2)&&DM t
theorem V2 {r:Int} (h:0<=r) (h':r<8):NC (EN r)=true:=by
 have:∀ k:Nat,k<8->NC (EN (k:Int))=true:=by decide +kernel
 have e:=this r.toNat (by omega);rwa[Int.toNat_of_nonneg h]at e
def U8 (n:Int):Prop:=0<=n/\n<256
def V3 (x:Cz):Prop:=(∀ a∈x.P,U8 a)/\(∀ a∈x.C,U8 a)/\U8 x.L/\U8 x.R/\U8 x.W.a0/\U8 x.W.a1
theorem Cb {a m:Int} (h:0<=a) (hm:0<m):0<=A8 a m/\A8 a m<m:=(Qx h hm).2
theorem KJ {α:Type} {l:List α} {i:Int} (h:0<=i) (h':i<l.length):∃ x,x∈l/\idx l i=some x:=by
 have hl:i.toNat<l.length:=by omega
 refine⟨l[i.toNat],JiK hl,?_⟩;unfold idx;rw[if_pos h];exact JiY hl
theorem JcB {α:Type} {l:List α} {i:Int} (h:0<=i) (h':i<l.length):∃ z,z.length=1/\sub l i (i+1)=some z:=by
 refine⟨(l.take (i+1).toNat).drop i.toNat,?_,?_⟩
 ·simp;omega
 ·unfold sub;rw[if_pos (by omega)]
def V4 (a b:Aw):Prop:=a.Left=b.Left/\a.Right=b.Right/\a.From=b.From/\a.To=b.To
theorem JaS (x:Cz) (hx:∀ a∈x.P,U8 a) (r0:Aw) (h0:r0.Print=[]):Tot (λ n=>whl (λ (y:(Aw×Int))=>Ea n x y.1 y.2) n (r0,0)) (λ r=>r.Print.length<=3/\V4 r r0):=by
 refine Tot.upto (body:=λ n y=>Ea n x y.1 y.2) (min x.P.length 3) (λ i y=>y.2=(i:Int)/\y.1.Print.length=i/\V4 y.1 r0) ?_ ?_ (r0,0) ⟨rfl,by simp[h0],rfl,rfl,rfl,rfl⟩
 ·rintro i ⟨r,i'⟩ hi ⟨h1,h2,h3⟩;simp only at h1 h2 h3;subst h1;obtain⟨c,hcm,hci⟩:=KJ (l:=x.P) (i:=(i:Int)) (by omega) (by omega);have hu:=hx c hcm;have hr:=Cb (m:=9) hu.1 (by omega);have hw:IntKind.i64.wrap (A8 c 9)=A8 c 9:=Pf (by omega) (by omega);obtain⟨z,hz1,hz⟩:=JcB (l:=([97,98,99,65,66,49,50,45,46]:List UInt8)) (i:=A8 c 9) hr.1 (by simpa using hr.2);unfold Ea;refine Tot.iteT (by simp only[JiZ,decide_eq_true_eq];omega) (Tot.bindC hci ?_);simp only[hw];rw[Lz (by omega) (by omega)];refine Tot.bindC hz (Tot.bindC (Vf (by omega)) (Jix ⟨CA (by omega),by simp[h2,hz1],h3⟩))
 ·rintro⟨r,i'⟩ ⟨h1,h2,h3⟩;simp only at h1 h2 h3;subst h1;unfold Ea;exact Tot.iteF (by rw[← JiM];simp only[JiZ,decide_eq_true_eq];omega) (Jix ⟨by show r.Print.length<=3;omega,h3⟩)
theorem JaT (x:Cz) (hx:∀ a∈x.C,U8 a) (r0:Aw) (h0:r0.Cells.length=1):Tot (λ n=>whl (λ (y:(Aw×Int))=>CQ n x y.1 y.2) n (r0,0)) (λ r=>(r.Cells.length<=3/\1<=r.Cells.length)/\r.Print=r0.Print/\V4 r r0):=by
 refine Tot.upto (body:=λ n y=>CQ n x y.1 y.2) (min x.C.length 2) (λ i y=>y.2=(i:Int)/\y.1.Cells.length=i+1/\y.1.Print=r0.Print/\V4 y.1 r0) ?_ ?_ (r0,0) ⟨rfl,by simp[h0],rfl,rfl,rfl,rfl,rfl⟩
 ·rintro i ⟨r,i'⟩ hi ⟨h1,h2,h3,h4⟩;simp only at h1 h2 h3 h4;subst h1;obtain⟨c,hcm,hci⟩:=KJ (l:=x.C) (i:=(i:Int)) (by omega) (by omega);have hu:=hx c hcm;have hr:=Cb (m:=8) hu.1 (by omega);obtain⟨z,_,hz⟩:=KJ (l:=([1,3,9,5,7,32,44,60]:List Int)) (i:=A8 c 8) hr.1 (by simpa using hr.2);unfold CQ;refine Tot.iteT (by simp only[JiZ,decide_eq_true_eq];omega) (Tot.bindC hci (Tot.bindC hz (Tot.bindC (KI (by simp;omega)) (Jix ⟨CA (by omega),by simp[h2],h3,h4⟩))))
 ·rintro⟨r,i'⟩ ⟨h1,h2,h3,h4⟩;simp only at h1 h2 h3 h4;subst h1;unfold CQ;exact Tot.iteF (by rw[← JiM];simp only[JiZ,decide_eq_true_eq];omega) (Jix ⟨by show r.Cells.length<=3/\1<=r.Cells.length;omega,h3,h4⟩)
theorem JcC {x:Cz} (hx:V3 x) {m:Int} (hm:1<=m) (hm':m<=2):Tot (λ n=>Hw n x m) (λ r=>KH r/\(r.Cells.length<=3/\1<=r.Cells.length)/\0<=r.From/\r.From<m/\0<=r.To/\r.To<m):=by
 obtain⟨hP,hC,hL,hR,hW0,hW1⟩:=hx;have l8:=Cb (m:=8) hL.1 (by omega);have r8:=Cb (m:=8) hR.1 (by omega);obtain⟨a,ham,ha⟩:=KJ (l:=([63,63,2,8,17,62,4,1]:List Int)) (i:=A8 x.L 8) l8.1 (by simpa using l8.2);obtain⟨b,hbm,hb⟩:=KJ (l:=([63,63,2,8,17,62,4,1]:List Int)) (i:=A8 x.R 8) r8.1 (by simpa using r8.2);have hq:0<=JbL .u8 x.L 8:=by unfold JbL;exact(Tu _).1
 have q8:=Cb (m:=8) hq (by omega);obtain⟨c,_,hc⟩:=KJ (l:=([1,3,9,5,7,32,44,60]:List Int)) (i:=A8 (JbL .u8 x.L 8) 8) q8.1 (by simpa using q8.2);have hg:B1 (!(m==0))=some ():=Ct (by simp;omega);have w0:IntKind.i64.wrap x.W.a0=x.W.a0:=Pf (by have:=hW0.1;omega) (by have:=hW0.2;omega);have w1:IntKind.i64.wrap x.W.a1=x.W.a1:=Pf (by have:=hW1.1;omega) (by have:=hW1.2;omega);have hfr:=Cb (a:=x.W.a0) (m:=m) hW0.1 (by omega);have hto:=Cb (a:=x.W.a1) (m:=m) hW1.1 (by omega);have hbr:0<=b/\b<=63:=by
  simp at hbm;omega
 unfold Hw;refine Tot.bindC ha (Tot.bindC hb (Tot.bindC hg (Tot.bindC hg (Tot.bind (JaS x hP _ rfl) ?_))));rintro r1 ⟨p1,p2,p3,p4,p5⟩;refine Tot.bindC hc (Tot.bind (JaT x hC _ rfl) ?_);rintro r2 ⟨q1,q2,q3,q4,q5,q6⟩;simp only at q2 q3 q4 q5 q6;rw[p3]at q4;rw[p4]at q5;rw[p5]at q6;simp only[w0,w1]at q5 q6 q4;refine Jix ⟨⟨?_,?_,?_,?_,?_⟩,q1,?_,?_,?_,?_⟩
 all_goals first|(rw[q6];omega)|(rw[q4];omega)|(rw[q5];omega)|(rw[q2];exact p1)
def LE (x:IJ):Prop:=0<=x.Base/\∀ r∈x.More,V3 r
structure KK (t:Ad):Prop where
 tab:HI t
 lo:1<=t.Modes
 hi:t.Modes<=2
 valid:DM t=true
theorem KK.sound {t:Ad} (h:KK t):∀ r∈t.Rules,B2 r t.Modes=true:=Is h.valid
theorem Iu {r:Aw} {m:Int} (h:B2 r m=true):r.Print.length<=4/\1<=r.Cells.length/\r.Cells.length<=4:=by
 simp only[B2,JiZ,decide_eq_true_eq]at h;omega
theorem KK.small {t:Ad} (h:KK t):EY t:=⟨by have:=h.tab.1;omega,λ r hr=>by have:=Iu (h.sound r hr);exact⟨by omega,by omega⟩⟩
theorem JaU (x:IJ) (b:Ad) (hb:b.Rules.length<=8):Tot (λ n=>whl (λ (y:(Ad×Int))=>CS n x b y.1 y.2) n (({ Modes:=b.Modes,Accept:=b.Accept,Rules:=[] }:Ad),0)) (λ t=>t.Modes=b.Modes/\t.Accept=b.Accept/\t.Rules.Sublist b.Rules):=by
 refine Tot.upto (body:=λ n y=>CS n x b y.1 y.2) b.Rules.length (λ i y=>y.2=(i:Int)/\y.1.Modes=b.Modes/\y.1.Accept=b.Accept/\y.1.Rules.Sublist (b.Rules.take i)) ?_ ?_ _ ⟨rfl,rfl,rfl,by simp⟩
 ·rintro i ⟨t,i'⟩ hi ⟨h1,h2,h3,h4⟩;simp only at h1 h2 h3 h4;subst h1;have ht:b.Rules.take (i+1)=b.Rules.take i++[b.Rules.getD i default]:=by rw[List.take_add_one,B6 hi,JiY hi];rfl
  have hlen:=h4.length_le;rw[List.length_take]at hlen;unfold CS;refine Tot.iteT (Hc hi) (Tot.bindC (Ct (by simp)) (Tot.ite (λ _=>Tot.bindC (Gp hi) (Tot.bindC (KI (by simp;omega)) ?_)) λ _=>?_))
  ·unfold Dt;exact Jix ⟨CA (by omega),h2,h3,by rw[ht];exact h4.append (List.Sublist.refl _)⟩
  ·unfold Dt;exact Jix ⟨CA (by omega),h2,h3,by rw[ht];exact h4.trans (List.sublist_append_left _ _)⟩
 ·rintro⟨t,i'⟩ ⟨h1,h2,h3,h4⟩;simp only at h1 h2 h3 h4;subst h1;rw[List.take_length]at h4;unfold CS;exact Tot.iteF (by simp) (Jix ⟨h2,h3,h4⟩)
structure JfU (b t:Ad):Prop where
 modes:t.Modes=b.Modes
 accept:t.Accept=b.Accept
 rules:∀ r∈t.Rules,KH r/\r.Cells.length<=4
 valid:t.Rules=[]\/DM t=true
theorem QA {t:Ad} (hl:t.Rules.length<=11) (h:∀ r∈t.Rules,KH r/\r.Cells.length<=4):EY t:=⟨by omega,λ r hr=>⟨by have:=(h r hr).1.2.2.2.2;omega,by have:=(h r hr).2;omega⟩⟩
theorem JaV (x:IJ) (hx:∀ r∈x.More,V3 r) (b t0:Ad) (hlo:1<=b.Modes) (hhi:b.Modes<=2) (h0:JfU b t0) (hl0:t0.Rules.length<=8):Tot (λ n=>whl (λ (y:(Ad×Int))=>CT n x b y.1 y.2) n (t0,0)) (λ t=>JfU b t/\t.Rules.length<=10):=by
 refine Tot.upto (body:=λ n y=>CT n x b y.1 y.2) (min x.More.length 2) (λ i y=>y.2=(i:Int)/\JfU b y.1/\y.1.Rules.length<=8+i) ?_ ?_ _ ⟨rfl,h0,by simpa using hl0⟩
 ·rintro i ⟨t,i'⟩ hi ⟨h1,h2,h3⟩;simp only at h1 h2 h3;subst h1;unfold CT;refine Tot.iteT (by simp only[JiZ,decide_eq_true_eq];omega) (Tot.bindC (Cg (by omega)) ?_);rw[h2.modes];refine Tot.bind (JcC (hx _ (JiK _)) hlo hhi) ?_;rintro r ⟨hr1,hr2,-⟩;refine Tot.bindC (KI (by simp;omega)) ?_;have hall:∀ q∈t.Rules++[r],KH q/\q.Cells.length<=4:=by
   intro q hq;simp only[List.mem_append,List.mem_singleton]at hq;rcases hq with hq|rfl
   ·exact h2.rules q hq
   ·exact⟨hr1,by omega⟩
  refine Jiy (JaR (QA (t:=⟨b.Modes,t.Accept,t.Rules++[r]⟩) (by simp;omega) hall)) ?_;refine Tot.ite (λ _=>?_) λ hv=>?_
  ·have e:PE .i64 ((List.length (t.Rules++[r]):Nat):Int) 1=(t.Rules.length:Nat):=by
    rw[VZ (by simp<;>omega) (by simp<;>omega)];simp
   rw[e];refine Tot.bindC (R3 (by simp)) ?_;unfold Du;rw[List.take_left' rfl];exact Jix ⟨CA (by omega),⟨rfl,h2.accept,h2.rules,by have:=h2.valid;have hm:=h2.modes;cases t;simp only at hm this⊢;subst hm;exact this⟩,by simp only;omega⟩
  ·unfold Du;exact Jix ⟨CA (by omega),⟨rfl,h2.accept,hall,.inr (by simpa using hv)⟩,by simp;omega⟩
 ·rintro⟨t,i'⟩ ⟨h1,h2,h3⟩;simp only at h1 h2 h3;subst h1;unfold CT;exact Tot.iteF (by rw[← JiM];simp only[JiZ,decide_eq_true_eq];omega) (Jix ⟨h2,by show t.Rules.length<=10;omega⟩)
theorem XJ {x:IJ} (hx:LE x):∃ t,(KK t/\1<=t.Rules.length/\t.Rules.length<=10)/\Ev (λ n=>Fn n x) t:=by
 have hb:∀ n,Fk n x.Base=some (EN (A8 x.Base 8)):=λ n=>(LD n x.Base hx.1).1;have hok:=V2 (LD 0 x.Base hx.1).2.1 (LD 0 x.Base hx.1).2.2;generalize EN (A8 x.Base 8)=b at *;unfold NC at hok;simp only[JiZ,decide_eq_true_eq,JiI]at hok;obtain⟨⟨⟨⟨o1,o2⟩,o3⟩,o4⟩,o5⟩:=hok;have gb:∀ r∈b.Rules,KH r/\r.Cells.length<=4:=λ r hr=>⟨Ph (o2 r hr),(Iu (Is o5 r hr)).2.2⟩;have hne:∀ t:Ad,DM t=true->1<=t.Rules.length:=λ t h=>by
  unfold DM TI at h;simp only[JiZ,Bool.not_eq_true',JiX,decide_eq_false_iff_not]at h;omega
 have:Tot (λ n=>Fn n x) (λ t=>KK t/\1<=t.Rules.length/\t.Rules.length<=10):=by
  unfold Fn;refine Jiz hb (Tot.bind (JaU x b o1) ?_);rintro t1 ⟨a1,a2,a3⟩;refine Tot.bind (JaV x hx.2 b t1 o3 o4 ⟨a1,a2,λ r hr=>gb r (a3.subset hr),?_⟩ (by have:=a3.length_le;omega)) ?_
  ·rcases Nat.eq_zero_or_pos t1.Rules.length with h|h
   ·exact .inl (List.length_eq_zero_iff.1 h)
   ·right;have:=Vj o5 a3 h;cases t1;simp only at a1 a2 this⊢;subst a1 a2;exact this
  rintro t2 ⟨b1,b2⟩;refine Tot.ite (λ h=>?_) λ h=>?_
  ·unfold Eb;have e:(⟨t2.Modes,t2.Accept,b.Rules⟩:Ad)=b:=by rw[b1.modes,b1.accept]
   rw[e];exact Jix ⟨⟨⟨by omega,λ r hr=>(gb r hr).1⟩,o3,o4,o5⟩,hne b o5,by omega⟩
  ·unfold Eb;have hv:DM t2=true:=b1.valid.resolve_left λ e=>by rw[e]at h;cases h
   exact Jix ⟨⟨⟨by omega,λ r hr=>(b1.rules r hr).1⟩,by rw[b1.modes];exact o3,by rw[b1.modes];exact o4,hv⟩,hne t2 hv,b2⟩
 obtain⟨t,ht,hE⟩:=this;exact⟨t,ht,hE⟩
end Go.AI
end
section
namespace Go.AI
def EG (t:Ad) (k:Int):Aw:=t.Rules[k.toNat]?.getD default
theorem Pi {t:Ad} {s:Ae} {k:Int} (h:(BK t s k).2=true):0<=k/\k<t.Rules.length:=by
 unfold BK at h;split at h
 ·cases h
 ·rename_i hk;simp only[Jjh,decide_eq_true_eq,not_or]at hk;omega
theorem JaW {t:Ad} {k:Int} (h:0<=k) (h':k<t.Rules.length):idx t.Rules k=some (EG t k):=Tx h h'
theorem Vk {t:Ad} {k:Int} (h:0<=k) (h':k<t.Rules.length):EG t k∈t.Rules:=by
 unfold EG;rw[JiY (by omega)];exact JiK _
end Go.AI
end
section
namespace Go.AI
theorem V5 {st:List Ae} (hn:st.Nodup) {i j:Nat} {s:Ae} (h:st[i]?=some s) (h':st[j]?=some s):i=j:=by
 have a:=C2 hn h;rw[C2 hn h']at a;cases a;rfl
theorem DW {i:Nat} (h:i<9223372036854775807):A0 .i64 (i:Int) 1=((i+1:Nat):Int):=by
 rw[Pg (by omega) (by omega)];rfl
end Go.AI
end
section
namespace Go.AI
def Edge (t:Ad) (st:List Ae) (i:Nat) (k:Nat) (j:Nat):Prop:=∃ s s',st[i]?=some s/\k<t.Rules.length/\st[j]?=some s'/\BK t s (k:Nat)=(s',true)
inductive TJ (t:Ad) (st:List Ae):Nat->Prop
 | acc (i:Nat) (s:Ae) (h:st[i]?=some s) (ha:Bj t s=true):TJ t st i
 | step (i k j:Nat) (h:Edge t st i k j) (hj:TJ t st j):TJ t st i
def Pj (t:Ad) (st:List Ae) (l:List Bool):Prop:=l.length=st.length/\∀ i:Nat,l[i]?=some true↔TJ t st i
theorem TJ.lt {t:Ad} {st:List Ae} {i:Nat} (h:TJ t st i):i<st.length:=by
 cases h with
 | acc _ s h ha=>exact Az h
 | step _ k j h hj=>obtain⟨s,s',h,_⟩:=h;exact Az h
theorem Pj.uniq {t:Ad} {st:List Ae} {l m:List Bool} (h:Pj t st l) (h':Pj t st m):l=m:=by
 refine List.ext_getElem? λ i=>?_;rcases JiO i st.length with hi|hi
 ·have h1:i<l.length:=by rw[h.1];exact hi
  have h2:i<m.length:=by rw[h'.1];exact hi
  have e:=(h.2 i).trans (h'.2 i).symm;rw[JiY h1,JiY h2]at e⊢;cases ha:l[i]<;>cases hb:m[i]<;>simp_all
 ·rw[List.getElem?_eq_none_iff.2 (by rw[h.1];exact hi),List.getElem?_eq_none_iff.2 (by rw[h'.1];exact hi)]
theorem Pj.of {t:Ad} {st:List Ae} {l:List Bool} (hl:l.length=st.length) (hs:∀ i,l[i]?=some true->TJ t st i) (ha:∀ (i:Nat) s,st[i]?=some s->Bj t s=true->l[i]?=some true) (hc:∀ i k j,Edge t st i k j->l[j]?=some true->l[i]?=some true):Pj t st l:=by
 refine⟨hl,λ i=>⟨hs i,λ h=>?_⟩⟩;induction h with
 | acc i s h h'=>exact ha i s h h'
 | step i k j h _ ih=>exact hc i k j h ih
def JhD (l:List Bool):Nat:=l.count false
structure JaX (t:Ad) (st:List Ae) (out0 out:List Bool) (g:Bool) (i m:Nat):Prop where
 len:out.length=st.length
 snd:∀ j:Nat,out[j]?=some true->TJ t st j
 acc:∀ (j:Nat) s,st[j]?=some s->Bj t s=true->out[j]?=some true
 same:g=false->out=out0
 less:g=true->JhD out<JhD out0
 cl:g=false->∀ i' k j,(i'<i\/(i'=i/\k<m))->Edge t st i' k j->out[j]?=some true->out[i']?=some true
theorem JaX.stop {t:Ad} {st:List Ae} {out0 out:List Bool} {g:Bool} {i m:Nat} (h:JaX t st out0 out g i m) (hm:t.Rules.length<=m\/out[i]?=some true):JaX t st out0 out g (i+1) 0:=by
 refine⟨h.len,h.snd,h.acc,h.same,h.less,λ hg i' k j hi he hj=>?_⟩;rcases JiO i' i with hlt|hge
 ·exact h.cl hg i' k j (.inl hlt) he hj
 ·have:i'=i:=by omega
  subst this;rcases hm with hm|hm
  ·obtain⟨s,s',_,hk,_⟩:=id he;exact h.cl hg i' k j (.inr ⟨rfl,by omega⟩) he hj
  ·exact hm
end Go.AI
end
