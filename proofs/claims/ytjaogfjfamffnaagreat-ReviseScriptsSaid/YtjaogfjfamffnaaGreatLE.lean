/- Part 5 of 7 of the proof: lemmas about the model and the program's functions, with no condition beyond those that each states. -/
import Derived.Test.YtjaogfjfamffnaaGreatLD
section
namespace Go.AI
open Go.Proofs
set_option maxRecDepth 10000
theorem xok (n kl:Nat):XOK Tryz.prog (cxk n kl):=⟨tyOK,rfl⟩
theorem fO (k:Nat) (s:St) {fn:Func} {f:FuncId} {args:List AV} {r:AV} (hf:Tryz.prog.funcs[f]? = some fn) (h:WP (cxk k 0) (Az fn) [] (X0 (cxk k 0).ty fn.results.toList r) s) (hb:fn.body=some (Az fn):=by kernel_rfl) (hnm:(fn.name == "runtime.NumGoroutine")=false:=by kernel_rfl) (hnt:(cxk k 0).nt.n=fn.ntmps:=by kernel_rfl) (hlen:Nat.ble args.length fn.ntmps=true:=by kernel_rfl) (hs:(⟨(List.range args.length).zip args,[]⟩:St)=s:=by kernel_rfl):AL Tryz.prog f args r:=fo follows (Jhn k 0) hf h hb hnm hnt hlen hs
theorem fL (k nb:Nat) (s:St) {fn:Func} {f:FuncId} {args:List AV} {O0 O1:List (Option Ob)} {r:AV} (hf:Tryz.prog.funcs[f]? = some fn) (h:WP (cxk k nb) (Az fn) [] (Vp nb (cxk k nb).ty fn.results.toList r O1) s) (hb:fn.body=some (Az fn):=by kernel_rfl) (hnm:(fn.name == "runtime.NumGoroutine")=false:=by kernel_rfl) (hnt:(cxk k nb).nt=⟨fn.ntmps,[],nb⟩:=by kernel_rfl) (hlen:Nat.ble args.length fn.ntmps=true:=by kernel_rfl) (hs:(⟨(List.range args.length).zip args,O0⟩:St)=s:=by kernel_rfl):Ce Tryz.prog f args O0 nb r O1:=fl follows (Jhn k nb) hf h hb hnm hnt hlen hs
variable {n:Nat}
def Ao (x:AC):List D:=[.str x.Print,.sl<|x.Cells.map eU8,.int .u8 x.Left,.int .u8 x.Right,.int .i64 x.From,.int .i64 x.To]
def Ah (x:Ab):List D:=[.int .i64 x.Mode,.int .i64 x.Last,.int .u8 x.Need]
def AF (x:ON):List D:=[.str x.Print,.int .i64 x.Cells,.int .i64 x.To]
def M7 (x:AG):List D:=[.sl<|x.States.map Af,.sl<|x.Costs.map Af]
def Ak (x:AE):List D:=[.int .i64 x.Rule,.int .i64 x.To]
@[reducible] def JlO {α:Type} (e:α->List D) (x:GE α):List D:=e x.a0++e x.a1
def Gy (x:DY):List D:=[.sl<|x.P.map eU8,.sl<|x.C.map eU8,.int .u8 x.L,.int .u8 x.R,.int .u8 x.W.a0,.int .u8 x.W.a1]
def JlP (x:NY):List D:=[.int .u8 x.Base,.int .u8 x.Drop,.sl<|x.More.map Gy]
def Cp (x:BB):List D:=[.int .u8 x.At,.int .u8 x.Cut,.sl<|x.L.map eU8]
def GP (x:Ad) (v2:AV):List AV:=[.d<|.int .i64 x.Modes,.d<|.int .u8 x.Accept,v2]
def Ay (x:Ad):List AV:=[.d<|.int .i64 x.Modes,.d<|.int .u8 x.Accept,.d<|.sl<|x.Rules.map Ao]
def J4 (x:Ab):List AV:=[.d<|.int .i64 x.Mode,.d<|.int .i64 x.Last,.d<|.int .u8 x.Need]
def FI (x:A5):List AV:=[.d<|.str x.Text,.d<|.sl<|x.Costs.map<|eL Af,.d<|.sl<|x.Least.map Af]
def Iq (x:C5):List AV:=[.d<|.int .i64 x.At,.d<|.int .i64 x.Cut,.d<|.str x.Put]
def M8 (x:AC):List AV:=[.d<|.str x.Print,.d<|.sl<|x.Cells.map eU8,.d<|.int .u8 x.Left,.d<|.int .u8 x.Right,.d<|.int .i64 x.From,.d<|.int .i64 x.To]
def HW (x:Ae) (v5:AV) (v6:AV):List AV:=[.d<|.int .i64 x.T.Modes,.d<|.int .u8 x.T.Accept,.d<|.sl<|x.T.Rules.map Ao,.d<|.str x.S,.d<|.sl<|x.States.map Ah,v5,v6,.d<|.int .i64 x.Last]
def Am (x:Ae) (v6:AV):List AV:=[.d<|.int .i64 x.T.Modes,.d<|.int .u8 x.T.Accept,.d<|.sl<|x.T.Rules.map Ao,.d<|.str x.S,.d<|.sl<|x.States.map Ah,.d<|.sl<|x.Arcs.map<|eL Ak,v6,.d<|.int .i64 x.Last]
def PN (x:DY):List AV:=[.d<|.sl<|x.P.map eU8,.d<|.sl<|x.C.map eU8,.d<|.int .u8 x.L,.d<|.int .u8 x.R,.d<|.int .u8 x.W.a0,.d<|.int .u8 x.W.a1]
def SG (x:AC) (v1:AV):List AV:=[.d<|.str x.Print,v1,.d<|.int .u8 x.Left,.d<|.int .u8 x.Right,.d<|.int .i64 x.From,.d<|.int .i64 x.To]
def Zn (x:NY):List AV:=[.d<|.int .u8 x.Base,.d<|.int .u8 x.Drop,.d<|.sl<|x.More.map Gy]
def Wm (x:FB):List AV:=[.d<|.str x.S,.d<|.int .i64 x.I,.d<|.int .i64 x.State.Mode,.d<|.int .i64 x.State.Last,.d<|.int .u8 x.State.Need,.d<|.sl<|x.L.map Ah]
def Gz (x:A5) (v1:AV) (v2:AV):List AV:=[.d<|.str x.Text,v1,v2]
def Sa (x:BB):List AV:=[.d<|.int .u8 x.At,.d<|.int .u8 x.Cut,.d<|.sl<|x.L.map eU8]
def JD (x:CL) (v0:AV) (v1:AV):List AV:=[v0,v1,.d<|.int .i64 x.At,.d<|.int .i64 x.E]
def Ac (x:AG):List AV:=[.own 1<|x.States.map Af,.own 1<|x.Costs.map Af]
theorem TO:∀ a b:Ab,A3 [.int .i64,.int .i64,.int .u8] ((Ah a).map .d) ((Ah b).map .d)=some (decide (a=b)):=by
  intro a b;cases a;cases b;simp [A3,Ah,Bool.decide_and]
  try rfl
section
variable (a:Ad) (c:Int) (b:Ad)
def Jin:St:=⟨[],[]⟩
def Jio:St:=⟨(0,.ptr 0 0)::(1,.ptr 1 0)::(2,.osl 2 1 0<|List.length<|[[97],[98],[97,98]])::(3,.osl 3 1 0<|List.length [1,3,7])::(4,.d<|.int .i64 c)::[],[some<|.box [.d<|.int .i64 0,.d<|.int .u8 0,.osl 4 6 0<|List.length ([]:List AC)],some<|.box<|GP a<|.osl 5 6 0<|a.Rules.length,some<|.arr 1<|List.map eS<|[[97],[98],[97,98]],some<|.arr 1<|List.map eU8 [1,3,7],some<|.arr 6<|List.map Ao ([]:List AC),some<|.arr 6<|a.Rules.map Ao]⟩
def Jip:St:=⟨(0,.ptr 0 0)::(1,.ptr 1 0)::[],[some<|.box [.d<|.int .i64 0,.d<|.int .u8 0,.osl 2 6 0<|List.length ([]:List AC)],some<|.box<|GP b<|.osl 3 6 0<|b.Rules.length,some<|.arr 6<|List.map Ao ([]:List AC),some<|.arr 6<|b.Rules.map Ao]⟩
def Sb:Ad->Ex->St->Prop:=xX 0 0<|λ (y:Ad)=>Jip y
def Ma:(Ad×Int)->St:=(λ (x:(Ad×Int))=>Jio x.1 x.2)
variable {a c b}
theorem QS (x:(Ad×Int)) (z:((Ad×Int)⊕Ad)) (H:HE n x.1 x.2=some z):WP (cxk 28 0) (Az Tryz.f19) [1,1,1,1,0,1,0,0] (Aw 0 (Ma) (Sb) z) (Ma x):=by
 obtain ⟨a,c⟩:=x;refine sq<|sr<|ck 2<|en<|cn H (λ H=>?_)<|λ H=>?_
 ·exact sk<|qz<|sq<|bk 1<|rz<|ck 4<|bx H λ j f H=>sp (Av 2 1 f)<|sp (C0 eS 2 0 (ty 9) f)<|ck 2<|bx H λ k g H=>sp (Av 3 1 g)<|sp (C0 eU8 3 0 (ty 64) g)<|sF<|ck 2<|bx H λ l h H=>sp (Cv Ao 5 6 h)<|ck 2<|ae<|qN<|qz<|rz<|ck 3<|ae (by cases H;exact og<|sg [0,1,2,3,4])
 ·exact ex 0<|qx (by cases H;exact xo rfl<|sg [0,1])
theorem UI {z} (H:Ls n=some z):AL Tryz.prog 19 [] (.agg [.d (.int .i64 z.Modes),.d (.int .u8 z.Accept),.own 6 (z.Rules.map Ao)]):=by
 exact fO 28 Jin Tryz.func19<|sr<|ck 1<|en<|sr<|ck 3<|en<|sr<|ck 2<|en<|sr<|ck 2<|en<|sq<|sr<|ck 1<|en<|bk 0<|bx H λ m i H=>lX QS i (tr (tr (BO 0 2 6 (by kernel_rfl))<|BO 1 2 6 (by kernel_rfl))<|sg [0,1,2,3,4]) rfl λ s e=>qH<|qs (e)<|sr<|ck 2<|en<|re (by cases H;exact pr<|rO (v:=.agg [.d<|.int .i64 z.Modes,.d<|.int .u8 z.Accept,.osl 3 6 0<|z.Rules.length]) [3]<|a1<|c1 vd<|c1 vd<|c1 vo<|c0)
end
section
variable (a:Int)
def Jiq:St:=⟨(0,.d<|.int .u8 a)::[],[]⟩
variable {a}
theorem OO {z} (H:Ep n a=some z):AL Tryz.prog 49 [.d (.int .u8 a)] (.d (.bool z)):=by
 exact fO 12 (Jiq a) Tryz.func49<|sr<|ck 1<|en<|sr<|ck 3<|en<|sr<|ck 4<|gc 1 (decide<|32<=CW .u8 a 127)<|pA<|ck 1<|en<|re (by cases H;exact pr rd)
end
section
variable (a:(List UInt8)) (b:Int)
def Jir:St:=⟨(0,.d<|.str a)::[],[]⟩
def Jis:St:=⟨(0,.d<|.str a)::(6,.d<|.int .i64 ((a.length:Nat):Int))::(7,.d<|.int .i64 b)::[],[]⟩
def Jit:St:=⟨(0,.d<|.str a)::[],[]⟩
def UJ:(Unit⊕(Int×Int))->Ex->St->Prop:=xS (xX 0 0<|λ (_:Unit)=>Jit a)<|xR ty Tryz.f25<|λ (y:(Int×Int))=>.tup [.d<|.int .i64 y.1,.d<|.int .i64 y.2]
def Ol:Int->St:=(λ (x:Int)=>Jis a x)
variable {a b}
theorem M9 (x:Int) (z:(Int⊕(Unit⊕(Int×Int)))) (H:Gl n a x=some z):WP (cxk 19 0) (Az Tryz.f25) [1,0,1,0,0] (Aw 0 (Ol a) (UJ a) z) (Ol a x):=by
 revert H;generalize x=b;intro H;refine sr<|ck 1<|en<|sq<|cn H (λ H=>?_)<|λ H=>?_
 ·refine sk<|qz<|sq<|bk 1<|sr<|ck 2<|en<|sr<|ck 2<|bx H λ j g H=>sp (HD g)<|bx H λ k h H=>ca false (OO h)<|ck 1<|en<|cn H (λ H=>?_)<|λ H=>?_
  ·exact sr<|ck 3<|en<|re<|qR<|qr (by cases H;exact ro rfl rdT)
  ·exact sk<|qN<|qz<|rz<|ck 2<|ae (by cases H;exact og<|sg [0,6,7])
 ·exact ex 0<|qx (by cases H;exact xo rfl<|sg [0])
theorem JE {z} (H:GL n a=some z):AL Tryz.prog 25 [.d (.str a)] (.tup [.d (.int .i64 z.1),.d (.int .i64 z.2)]):=by
 refine fO 19 (Jir a) Tryz.func25<|sr<|ck 2<|en<|sq<|sr<|ck 3<|en<|bk 0<|bx H λ i f H=>?_;rcases i with l|m
 ·exact lX M9 f (sg [0,6,7]) rfl λ s c=>qH<|qs (c)<|sr<|ck 4<|en<|re (by cases H;exact pr rdT)
 ·exact lR M9 f (sg [0,6,7]) rfl λ s e=>qR<|qr (by cases H;exact pr e)
end
def Jiu:St:=⟨[],[]⟩
theorem Wn {z} (H:Ky n=some z):AL Tryz.prog 82 [] (.agg [.d (.int .i64 z.Mode),.d (.int .i64 z.Last),.d (.int .u8 z.Need)]):=by
 exact fO 2 Jiu Tryz.func82<|sr<|ck 1<|en<|sr<|ck 2<|en<|re (by cases H;exact pr rd)
section
variable (b:Int) (a:Int)
def Jiv:St:=⟨(0,.d<|.int .u8 b)::(1,.d<|.int .i64 a)::[],[]⟩
variable {b a}
theorem Lu {z} (H:Im n b a=some z):AL Tryz.prog 72 [.d (.int .u8 b),.d (.int .i64 a)] (.d (.bool z)):=by
 exact fO 18 (Jiv b a) Tryz.func72<|sr<|ck 1<|en<|sr<|ck 4<|gc 1 (decide<|0<=a)<|pA<|ck 3<|bx H λ c e H=>soG (λ hg=>IL<|BA e hg) (Cc (λ hh=>hh)<|Cc (λ hh=>hh)<|Ef)<|gc 2 ((decide<|0<=a)&&(decide<|a<8))<|pA<|ck 1<|en<|re (by cases H;exact pr rd)
end
section
variable (a:Int)
def Jiw:St:=⟨(0,.d<|.int .u8 a)::[],[]⟩
variable {a}
theorem Ir {z} (H:Ff n a=some z):AL Tryz.prog 73 [.d (.int .u8 a)] (.d (.int .i64 z)):=by
 refine fO 30 (Jiw a) Tryz.func73<|sr<|ck 1<|en<|sr<|ck 3<|en<|sq<|bk 0<|sr<|ck 4<|gc 1 (decide<|97<=CW .u8 a 127)<|pA<|ck 1<|en<|cn H (λ H=>?_)<|λ H=>?_
 ·exact sr<|ck 1<|en<|re<|qR<|qr (by cases H;exact pr rd)
 ·refine sr<|ck 4<|gc 1 (decide<|65<=CW .u8 a 127)<|pA<|ck 1<|en<|cn H (λ H=>?_)<|λ H=>?_
  ·exact sr<|ck 1<|en<|re<|qR<|qr (by cases H;exact pr rd)
  ·refine sr<|ck 4<|gc 1 (decide<|48<=CW .u8 a 127)<|pA<|ck 1<|en<|cn H (λ H=>?_)<|λ H=>?_
   ·exact sr<|ck 1<|en<|re<|qR<|qr (by cases H;exact pr rd)
   ·refine sr<|ck 3<|en<|cn H (λ H=>?_)<|λ H=>?_
    ·exact sr<|ck 1<|en<|re<|qR<|qr (by cases H;exact pr rd)
    ·exact sk<|qN<|qz<|sr<|ck 1<|en<|re (by cases H;exact pr rd)
end
section
variable (b:Ad) (a:Ab) (c:Int)
def Jix:St:=⟨(0,.agg [.d<|.int .i64 b.Modes,.d<|.int .u8 b.Accept,.d<|.sl<|b.Rules.map Ao])::(1,.agg [.d<|.int .i64 a.Mode,.d<|.int .i64 a.Last,.d<|.int .u8 a.Need])::(2,.d<|.int .i64 c)::[],[]⟩
variable {b a c}
theorem Na {z} (H:HN n b a c=some z):AL Tryz.prog 52 [.agg (Ay b),.agg (J4 a),.d (.int .i64 c)] (.tup [.agg [.d (.int .i64 z.1.Mode),.d (.int .i64 z.1.Last),.d (.int .u8 z.1.Need)],.d (.bool z.2)]):=by
 refine fO 78 (Jix b a c) Tryz.func52<|sr<|ck 4<|en<|sq<|sr<|ck 5<|gc 1 (!(decide<|c<0))<|sE (g:=(!(decide<|c<0))) (λ hg=>AB Ao b.Rules)<|gc 1 (!(decide<|c<0))<|pO<|en<|cn H (λ H=>?_)<|λ H=>?_
 ·exact sr<|ck 3<|en<|re<|qr (by cases H;exact pr rdT)
 ·refine sk<|qz<|sr<|ck 3<|bx H λ e m H=>sp (Ap Ao m)<|ck 3<|en<|sq<|sr<|ck 7<|gc 1 (!(e.From != a.Mode))<|ck 1<|gc 1 (!(e.From != a.Mode))<|bx H λ o f H=>cG false (leZ) rfl (λ hg=>Lu<|BA f hg) (Or.inl rfl) (Cc (λ hh=>hh)<|Cc (λ hh=>hh)<|Ef) rfl<|gc 1 (!(e.From != a.Mode))<|pO<|en<|cn H (λ H=>?_)<|λ H=>?_
  ·exact sr<|ck 3<|en<|re<|qr (by cases H;exact pr rdT)
  ·refine sk<|qz<|sq<|sr<|ck 3<|en<|cn H (λ H=>?_)<|λ H=>?_
   ·refine sr<|ck 6<|en<|sq<|sr<|ck 2<|en<|cn H (λ H=>?_)<|λ H=>?_
    ·exact sr<|ck 3<|en<|re<|qr<|qr (by cases H;exact pr rdT)
    ·exact sk<|qz<|sr<|ck 8<|en<|re<|qr (by cases H;exact pr rdT)
   ·refine sk<|qz<|sq<|sr<|ck 4<|bx H λ p h H=>sp (HD h)<|bx H λ q i H=>ca false (Ir i)<|bx H λ r j H=>ca false (Lu j)<|ck 1<|en<|cn H (λ H=>?_)<|λ H=>?_
    ·exact sr<|ck 3<|en<|re<|qr (by cases H;exact pr rdT)
    ·exact sk<|qz<|sr<|ck 8<|bx H λ s k H=>sp (HD k)<|bx H λ t l H=>ca false (Ir l)<|ck 5<|en<|re (by cases H;exact pr rdT)
end
section
variable (f:Ad) (o:(List Ab)) (p:(List (List Int))) (A:(List (Ab×Int))) (u:Int) (B:(List Ab)) (J:(List (List Int))) (a:(List Ab)) (g:(List (List Int))) (b:(List (Ab×Int))) (K:Int) (C:(List Ab)) (L:(List (List Int))) (I:(List (Ab×Int))) (q:(List Ab)) (w:(List (List Int))) (E:(List (Ab×Int))) (h:(List Ab)) (c:(List (List Int))) (r:(List (Ab×Int))) (G:Int)
def Jiy:St:=⟨(0,.agg [.d<|.int .i64 f.Modes,.d<|.int .u8 f.Accept,.d<|.sl<|f.Rules.map Ao])::[],[]⟩
def Jiz:St:=⟨(1,.ptr 0 0)::(5,.osl 1 3 0<|o.length)::(6,.osl 2 1 0<|p.length)::(7,.mp 3)::(8,.d<|.int .i64 u)::[],[some<|.box<|Ay f,some<|.arr 3<|o.map Ah,some<|.narr 1<|p.map<|nL 1 Af,some<|.map true false<|Fe Ah Af A]⟩
def JiA:St:=⟨(5,.osl 0 3 0<|B.length)::(6,.osl 1 1 0<|J.length)::[],[some<|.arr 3<|B.map Ah,some<|.narr 1<|J.map<|nL 1 Af]⟩
def JiB:St:=⟨(1,.ptr 0 0)::(5,.osl 1 3 0<|a.length)::(6,.osl 2 1 0<|g.length)::(7,.mp 3)::(8,.d<|.int .i64 u)::(29,.d<|.int .i64 ((f.Rules.length:Nat):Int))::(30,.d<|.int .i64 K)::[],[some<|.box<|Ay f,some<|.arr 3<|a.map Ah,some<|.narr 1<|g.map<|nL 1 Af,some<|.map true false<|Fe Ah Af b]⟩
def JiC:St:=⟨(1,.ptr 0 0)::(5,.osl 1 3 0<|C.length)::(6,.osl 2 1 0<|L.length)::(7,.mp 3)::(8,.d<|.int .i64 u)::[],[some<|.box<|Ay f,some<|.arr 3<|C.map Ah,some<|.narr 1<|L.map<|nL 1 Af,some<|.map true false<|Fe Ah Af I]⟩
def JiD:St:=⟨(1,.ptr 0 0)::(5,.osl 1 3 0<|q.length)::(6,.osl 2 1 0<|w.length)::(7,.mp 3)::(8,.d<|.int .i64 u)::(29,.d<|.int .i64 ((f.Rules.length:Nat):Int))::(30,.d<|.int .i64 K)::[],[some<|.box<|Ay f,some<|.arr 3<|q.map Ah,some<|.narr 1<|w.map<|nL 1 Af,some<|.map true false<|Fe Ah Af E]⟩
def JiE:St:=⟨(1,.ptr 0 0)::(5,.osl 1 3 0<|h.length)::(6,.osl 2 1 0<|c.length)::(7,.mp 3)::(8,.d<|.int .i64 u)::(12,.d<|.int .i64 G)::(29,.d<|.int .i64 ((f.Rules.length:Nat):Int))::(30,.d<|.int .i64 K)::[],[some<|.box<|Ay f,some<|.arr 3<|h.map Ah,some<|.narr 1<|c.map<|nL 1 Af,some<|.map true false<|Fe Ah Af r]⟩
def QT:((List Ab)×(List<|List Int)×(List<|Ab×Int))->Ex->St->Prop:=xX 0 2<|λ (y:((List Ab)×(List<|List Int)×(List<|Ab×Int)))=>JiC f u y.1 y.2.1 y.2.2
def KC:((List Ab)×(List<|List Int)×(List<|Ab×Int)×Int)->St:=(λ (x:((List Ab)×(List<|List Int)×(List<|Ab×Int)×Int))=>JiB f u x.1 x.2.1 x.2.2.1 x.2.2.2)
def QU:((List Ab)×(List<|List Int))->Ex->St->Prop:=xX 0 0<|λ (y:((List Ab)×(List<|List Int)))=>JiA y.1 y.2
def KD:((List Ab)×(List<|List Int)×(List<|Ab×Int)×Int)->St:=(λ (x:((List Ab)×(List<|List Int)×(List<|Ab×Int)×Int))=>Jiz f x.1 x.2.1 x.2.2.1 x.2.2.2)
variable {f o p A u B J a g b K C L I q w E h c r G}
theorem PO (x:((List Ab)×(List (List Int))×(List (Ab×Int))×Int)) (z:(((List Ab)×(List (List Int))×(List (Ab×Int))×Int)⊕((List Ab)×(List (List Int))×(List (Ab×Int))))) (H:BR n f u x.1 x.2.1 x.2.2.1 x.2.2.2=some z):WP (cxk 78 0) (Az Tryz.f71) [1,1,1,1,0,1,0,0,1,0,0,1,0,0] (Aw 0 (KC f u) (QT f u) z) (KC f u x):=by
 obtain ⟨a,g,b,K⟩:=x;refine sr<|ck 1<|en<|sq<|cn H (λ H=>?_)<|λ H=>?_
 ·refine sk<|qz<|sj (λ (x:((List Ab)×(List<|List Int)×(List<|Ab×Int)))=>JiD f u K x.1 x.2.1 x.2.2) (λ (x:((List Ab)×(List<|List Int)×(List<|Ab×Int)))=>C1 n K x.1 x.2.1 x.2.2) z ?_ (λ i=>?_)
  ·rintro ⟨q,w,E⟩ H;exact rz<|ck 2<|ae (by cases H;exact og<|gP [1,5,6,7,8,29,30] [0,1,2,3]<|po1<|po1<|pn1 (nL 1 Af) w<|po1<|Pl.z)
  refine bk 3<|sr<|ck 2<|en<|sr<|ck 3<|bx H λ x4 Q H=>sp (Av 1 3 Q)<|sp (C0 Ah 1 0 (ty 93) Q)<|ck 1<|bx H λ P U H=>ca false (Na U)<|ck 6<|en<|sq<|sr<|ck 2<|en<|cn H (λ H=>?_)<|λ H=>?_
  ·exact ex 3<|qx<|qH<|qs (gP [1,5,6,7,8,29,30] [0,1,2,3]<|po1<|po1<|pn1 (nL 1 Af) g<|po1<|Pl.z)<|i (a,g,b) H
  ·refine sk<|qz<|sr<|ck 2<|sp (TM (enc:=Af) (encK:=Ah) (k:=3) (e1:=λ x=>.int .i64 x) (m:=b) (l:=[.d<|.int .i64 P.1.Mode,.d<|.int .i64 P.1.Last,.d<|.int .u8 P.1.Need]) (key:=P.1) (z:=0) (vz:=[.int .i64 0]) TO true)<|ck 5<|en<|sj (λ (x:((List Ab)×(List<|List Int)×(List<|Ab×Int)×Int))=>JiE f u K x.1 x.2.1 x.2.2.1 x.2.2.2) (λ (x:((List Ab)×(List<|List Int)×(List<|Ab×Int)×Int))=>Dr n u K x.1 x.2.1 x.2.2.1 x.2.2.2) z ?_ (λ j=>?_)
   ·rintro ⟨h,c,r,G⟩ H;exact bx H λ R M H=>rg (tr (so1 (encN:=(nL 1 Af)) 2 1 M)<|sno (encN:=(nL 1 Af)) (enc:=Af) M [.own 1<|R.map Af] R 1 2 0 1)<|ck 4<|sp (Av 2 1 M)<|sp (Cj (encN:=(nL 1 Af)) (row:=[.osl 4 1 0<|R.length]) (k:=2) (sz:=1) (off:=0) (t:=ty 35) (v:=.osl 4 1 0<|R.length) M)<|ck 2<|bx H λ O V H=>sp (Cv Af 4 1 V)<|sp (Av 2 1 M)<|sp (Lq (encN:=(nL 1 Af)) (row:=[.osl 4 1 0<|R.length]) (row':=[.osl 6 1 0<|O.length]) (k:=2) (sz:=1) (off:=0) (t:=ty 35) (v:=.osl 6 1 0<|O.length) M)<|ae<|qN<|qs (tr (tr (tr (tr (tr (sni (encN:=(nL 1 Af)) (xs:=c) (n:=G) (enc:=Af) [.osl 6 1 0<|O.length] O 1 2 0 6 1)<|scl (encN:=(nL 1 Af)) (xss:=c) G [.own 1<|O.map Af] 1 2 O)<|sn 6 2 1<|lsS c G.toNat O)<|sn 65 2 1<|lsS c G.toNat O)<|sn 67 2 1<|lsS c G.toNat O)<|gP [1,5,6,7,8,29,30] [0,1,2,3]<|po1<|po1<|pn1 (nL 1 Af) (List.set c G.toNat O)<|po1<|Pl.z)<|i (h,(List.set c G.toNat O),r) H
   refine sr<|ck 2<|en<|cn H (λ H=>?_)<|λ H=>?_
   ·exact sr<|ck 3<|en<|sr<|ck 3<|sp (SE (enc:=Af) (encK:=Ah) (k:=3) (e1:=λ x=>.int .i64 x) (m:=b) (l:=[.d<|.int .i64 P.1.Mode,.d<|.int .i64 P.1.Last,.d<|.int .u8 P.1.Need]) (key:=P.1) (y:=((a.length:Nat):Int)) (v:=.d<|.int .i64 ((a.length:Nat):Int)) (vz:=[.int .i64 0]) TO)<|en<|rz<|ck 3<|bx H λ l3 W H=>sp (Cv Ah 1 3 W)<|ck 1<|sK false<|bx H λ X S H=>sp (Jf9 (encN:=(nL 1 Af)) (esz:=1) (k:=2) (e:=[.nil]) S)<|ck 2<|ae<|qs (tr (JhT (encN:=(nL 1 Af)) (xss:=g) (yss:=X) (y:=([]:(List Int))) (row:=[.own 0 []]) (sz:=1) 7 (by kernel_rfl) (Jf0 S) (by kernel_rfl))<|gP [1,5,6,7,8,12,29,30] [0,6,7,3]<|po1<|po1<|pn1 (nL 1 Af) X<|po1<|Pl.z)<|j (l3,X,(MU P.1 ((a.length:Nat):Int) b),((a.length:Nat):Int)) H
   ·exact sk<|qs (gP [1,5,6,7,8,12,29,30] [0,1,2,3]<|po1<|po1<|pn1 (nL 1 Af) g<|po1<|Pl.z)<|j (a,g,b,(Option.getD (G0 P.1 b) 0)) H
 ·exact ex 2<|qx (by cases H;exact xo rfl<|gP [1,5,6,7,8] [0,1,2,3]<|po1<|po1<|pn1 (nL 1 Af) g<|po1<|Pl.z)
theorem PP (x:((List Ab)×(List (List Int))×(List (Ab×Int))×Int)) (z:(((List Ab)×(List (List Int))×(List (Ab×Int))×Int)⊕((List Ab)×(List (List Int))))) (H:C2 n f x.1 x.2.1 x.2.2.1 x.2.2.2=some z):WP (cxk 78 0) (Az Tryz.f71) [1,1,1,1,0,1,0,0] (Aw 0 (KD f) (QU) z) (KD f x):=by
 obtain ⟨o,p,A,u⟩:=x;refine sq<|sr<|ck 4<|en<|cn H (λ H=>?_)<|λ H=>?_
 ·exact sk<|qz<|sq<|bk 1<|sr<|ck 2<|sp (AB Ao f.Rules)<|ck 1<|en<|bk 2<|bx H λ y5 Y H=>lX PO Y (gP [1,5,6,7,8,29,30] [0,1,2,3]<|po1<|po1<|pn1 (nL 1 Af) p<|po1<|Pl.z) rfl λ s Z=>qH<|qN<|qs (Z)<|rz<|ck 3<|ae (by cases H;exact og<|gP [1,5,6,7,8] [0,1,2,3]<|po1<|po1<|pn1 (nL 1 Af) y5.2.1<|po1<|Pl.z)
 ·exact ex 0<|qx (by cases H;exact xo rfl<|gP [5,6] [1,2]<|po1<|pn1 (nL 1 Af) p<|Pl.z)
theorem TP {z} (H:Gm n f=some z):AL Tryz.prog 71 [.agg (Ay f)] (.tup [.own 3 (z.1.map Ah),.d (.sl (z.2.map (eL Af)))]):=by
 exact fO 78 (Jiy f) Tryz.func71<|sr<|ck 3<|en<|sr<|bx H λ T aa H=>ca false (Wn aa)<|ck 2<|en<|sr<|ck 2<|sK true<|ck 2<|en<|sq<|rg (JcE (sz:=1) (es:=[[.nil]]) 3 (List.map (nL 1 Af) ([[]]:List (List Int))) (by kernel_rfl) (by kernel_rfl))<|ck 2<|sp (SE (enc:=Af) (encK:=Ah) (k:=4) (e1:=λ x=>.int .i64 x) (m:=[]) (l:=[.d<|.int .i64 T.Mode,.d<|.int .i64 T.Last,.d<|.int .u8 T.Need]) (key:=T) (y:=0) (v:=.d<|.int .i64 0) (vz:=[.int .i64 0]) TO)<|ck 2<|en<|sq<|sr<|ck 1<|en<|bk 0<|bx H λ y6 ac H=>lX PP ac (gP [1,5,6,7,8] [0,2,3,4]<|po1<|po1<|pn1 (nL 1 Af) ([[]]:List (List Int))<|po1<|Pl.z) rfl λ s af=>qH<|qs (af)<|sr<|ck 4<|ae<|qs (Z1 (encN:=(nL 1 Af)) (encD:=(eL Af)) (xss:=y6.2) (k:=1) (sz:=1) 3 (by kernel_rfl) (λ _=>rfl)<|λ _=>rfl)<|re (by cases H;exact pr<|rT (vs:=[.osl 0 3 0<|y6.1.length,.d<|.sl<|y6.2.map<|eL Af]) [0]<|t1 (ao vo)<|t1 (ad vd)<|t0)
end
section
variable (a:Ad)
def JiF:St:=⟨(0,.agg [.d<|.int .i64 a.Modes,.d<|.int .u8 a.Accept,.d<|.sl<|a.Rules.map Ao])::[],[]⟩
variable {a}
theorem Om {z} (H:Hr n a=some z):AL Tryz.prog 50 [.agg (Ay a)] (.own 3 (z.map Ah)):=by
 exact fO 11 (JiF a) Tryz.func50<|sr<|ck 2<|en<|sr<|ck 1<|bx H λ c b H=>cl [List.length c.1] (TP b)<|ck 5<|en<|sr<|ck 2<|en<|re (by cases H;exact pr<|rO (v:=.osl 1 3 0<|c.1.length) [1]<|ao vo)
end
section
variable (a:Ad) (b:Ab)
def JiG:St:=⟨(0,.agg [.d<|.int .i64 a.Modes,.d<|.int .u8 a.Accept,.d<|.sl<|a.Rules.map Ao])::(1,.agg [.d<|.int .i64 b.Mode,.d<|.int .i64 b.Last,.d<|.int .u8 b.Need])::[],[]⟩
variable {a b}
theorem Nb {z} (H:EW n a b=some z):AL Tryz.prog 51 [.agg (Ay a),.agg (J4 b)] (.d (.bool z)):=by
 exact fO 22 (JiG a b) Tryz.func51<|sr<|ck 3<|en<|sr<|ck 7<|gc 1 (decide<|b.Mode<a.Modes)<|ck 1<|gc 1 (decide<|b.Mode<a.Modes)<|bx H λ f c H=>cG false (leZ) rfl (λ hg=>Lu<|BA c hg) (Or.inl rfl) (Cc (λ hh=>hh)<|Cc (λ hh=>hh)<|Ef) rfl<|pA<|ck 2<|gc 1 ((decide<|b.Mode<a.Modes)&&f)<|bx H λ g e H=>cG false (leZ) rfl (λ hg=>Lu<|BA e hg) (Or.inl rfl) (Cc (λ hh=>hh)<|Ef) rfl<|pA<|ck 1<|en<|re (by cases H;exact pr rd)
end
section
variable (a:(List UInt8)) (b:(List UInt8))
def JiH:St:=⟨(0,.d<|.str a)::(1,.d<|.str b)::[],[]⟩
variable {a b}
theorem QV {z} (H:Ey n a b=some z):AL Tryz.prog 74 [.d (.str a),.d (.str b)] (.d (.bool z)):=by
 exact fO 18 (JiH a b) Tryz.func74<|sr<|ck 1<|en<|sr<|ck 8<|gc 1 (decide<|((a.length:Nat):Int)>=((b.length:Nat):Int))<|bx H λ e c H=>sE (λ hg=>Il<|BA c hg)<|ck 1<|gc 1 (decide<|((a.length:Nat):Int)>=((b.length:Nat):Int))<|pA<|ck 1<|en<|re (by cases H;exact pr rd)
end
section
variable (a:(List UInt8)) (b:(List UInt8))
def JiI:St:=⟨(0,.d<|.str a)::(1,.d<|.str b)::[],[]⟩
variable {a b}
theorem KE {z} (H:DN n a b=some z):AL Tryz.prog 55 [.d (.str a),.d (.str b)] (.d (.bool z)):=by
 exact fO 8 (JiI a b) Tryz.func55<|sr<|ck 1<|en<|sr<|ck 2<|bx H λ e c H=>ca true (QV c)<|ck 1<|en<|re (by cases H;exact pr rd)
end
section
variable (b:Ad) (w:AP) (a:(List Ab)) (g:(List (Ab×Int))) (A:Int) (i:(List (Ab×Int))) (o:(List (Ab×Int))) (p:AP) (c:Int) (B:AP) (j:Ab) (f:AP) (r:Int) (C:AP) (q:AP)
def Jc7:St:=⟨(0,.agg [.d<|.int .i64 b.Modes,.d<|.int .u8 b.Accept,.d<|.sl<|b.Rules.map Ao])::[],[]⟩
def Jc8:St:=⟨(2,.ptr 0 0)::[],[some<|.box [.osl 1 1 0<|w.Arcs.length,.osl 2 1 0<|w.Accepts.length],some<|.narr 1<|w.Arcs.map<|nL 3 AF,some<|.arr 1<|w.Accepts.map eB]⟩
def Jc9:St:=⟨(1,.ptr 0 0)::(3,.d<|.sl<|a.map Ah)::(4,.mp 1)::(19,.d<|.sl<|a.map Ah)::(20,.d<|.int .i64 ((a.length:Nat):Int))::(21,.d<|.int .i64 A)::[],[some<|.box<|Ay b,some<|.map true false<|Fe Ah Af g]⟩
def Jda:St:=⟨(1,.ptr 0 0)::(3,.d<|.sl<|a.map Ah)::(4,.mp 1)::[],[some<|.box<|Ay b,some<|.map true false<|Fe Ah Af i]⟩
def PR:(List<|Ab×Int)->Ex->St->Prop:=xX 0 0<|λ (y:(List<|Ab×Int))=>Jda b a y
def JF:((List<|Ab×Int)×Int)->St:=(λ (x:((List<|Ab×Int)×Int))=>Jc9 b a x.1 x.2)
def Jdb:St:=⟨(1,.ptr 0 0)::(4,.mp 1)::(7,.ptr 2 0)::(38,.d<|.sl<|a.map Ah)::(39,.d<|.int .i64 ((a.length:Nat):Int))::(40,.d<|.int .i64 c)::[],[some<|.box<|Ay b,some<|.map true false<|Fe Ah Af o,some<|.box [.osl 3 1 0<|p.Arcs.length,.osl 4 1 0<|p.Accepts.length],some<|.narr 1<|p.Arcs.map<|nL 3 AF,some<|.arr 1<|p.Accepts.map eB]⟩
def Jdc:St:=⟨(7,.ptr 0 0)::[],[some<|.box [.osl 1 1 0<|B.Arcs.length,.osl 2 1 0<|B.Accepts.length],some<|.narr 1<|B.Arcs.map<|nL 3 AF,some<|.arr 1<|B.Accepts.map eB]⟩
def Jdd:St:=⟨(1,.ptr 0 0)::(4,.mp 1)::(7,.ptr 2 0)::(8,.d<|.int .i64 c)::(9,.ptr 3 0)::(38,.d<|.sl<|a.map Ah)::(39,.d<|.int .i64 ((a.length:Nat):Int))::(40,.d<|.int .i64 c)::(55,.d<|.sl<|b.Rules.map Ao)::(56,.d<|.int .i64 ((b.Rules.length:Nat):Int))::(57,.d<|.int .i64 r)::[],[some<|.box<|Ay b,some<|.map true false<|Fe Ah Af o,some<|.box [.osl 4 1 0<|f.Arcs.length,.osl 5 1 0<|f.Accepts.length],some<|.box<|J4 j,some<|.narr 1<|f.Arcs.map<|nL 3 AF,some<|.arr 1<|f.Accepts.map eB]⟩
def Jde:St:=⟨(1,.ptr 0 0)::(4,.mp 1)::(7,.ptr 2 0)::(38,.d<|.sl<|a.map Ah)::(39,.d<|.int .i64 ((a.length:Nat):Int))::(40,.d<|.int .i64 c)::[],[some<|.box<|Ay b,some<|.map true false<|Fe Ah Af o,some<|.box [.osl 3 1 0<|C.Arcs.length,.osl 4 1 0<|C.Accepts.length],some<|.narr 1<|C.Arcs.map<|nL 3 AF,some<|.arr 1<|C.Accepts.map eB]⟩
def Jdf:St:=⟨(1,.ptr 0 0)::(4,.mp 1)::(7,.ptr 2 0)::(8,.d<|.int .i64 c)::(9,.ptr 3 0)::(38,.d<|.sl<|a.map Ah)::(39,.d<|.int .i64 ((a.length:Nat):Int))::(40,.d<|.int .i64 c)::(55,.d<|.sl<|b.Rules.map Ao)::(56,.d<|.int .i64 ((b.Rules.length:Nat):Int))::(57,.d<|.int .i64 r)::[],[some<|.box<|Ay b,some<|.map true false<|Fe Ah Af o,some<|.box [.osl 4 1 0<|q.Arcs.length,.osl 5 1 0<|q.Accepts.length],some<|.box<|J4 j,some<|.narr 1<|q.Arcs.map<|nL 3 AF,some<|.arr 1<|q.Accepts.map eB]⟩
def PS:AP->Ex->St->Prop:=xX 0 4<|λ (y:AP)=>Jde b a o c y
def JG:(AP×Int)->St:=(λ (x:(AP×Int))=>Jdd b a o c j x.1 x.2)
def PT:AP->Ex->St->Prop:=xX 0 2<|λ (y:AP)=>Jdc y
def JH:(AP×Int)->St:=(λ (x:(AP×Int))=>Jdb b a o x.1 x.2)
variable {b w a g A i o p c B j f r C q}
theorem OP (x:((List (Ab×Int))×Int)) (z:(((List (Ab×Int))×Int)⊕(List (Ab×Int)))) (H:CE n b a x.1 x.2=some z):WP (cxk 97 0) (Az Tryz.f26) [1,1,1,0,1,0,0] (Aw 0 (JF b a) (PR b a) z) (JF b a x):=by
 obtain ⟨g,A⟩:=x;refine sr<|ck 1<|en<|sq<|cn H (λ H=>?_)<|λ H=>?_
 ·exact sk<|qz<|sq<|bk 1<|sr<|ck 1<|bx H λ G M H=>sp (Ap Ah M)<|ck 4<|en<|rz<|ck 3<|sp (SE (enc:=Af) (encK:=Ah) (k:=1) (e1:=λ x=>.int .i64 x) (m:=g) (l:=[.d<|.int .i64 G.Mode,.d<|.int .i64 G.Last,.d<|.int .u8 G.Need]) (key:=G) (y:=A) (v:=.d<|.int .i64 A) (vz:=[.int .i64 0]) TO)<|ae<|qN<|qz<|rz<|ck 2<|ae (by cases H;exact og<|sg [1,3,4,19,20,21])
 ·exact ex 0<|qx (by cases H;exact xo rfl<|sg [1,3,4])
theorem OQ (x:(AP×Int)) (z:((AP×Int)⊕AP)) (H:CF n b a o c j x.1 x.2=some z):WP (cxk 97 0) (Az Tryz.f26) [1,1,1,1,1,0,1,0,0,1,1,0,0,1,1,1,0,0] (Aw 0 (JG b a o c j) (PS b a o c) z) (JG b a o c j x):=by
 obtain ⟨f,r⟩:=x;refine sr<|ck 1<|en<|sq<|cn H (λ H=>?_)<|λ H=>?_
 ·refine sk<|qz<|sj (λ (x:AP)=>Jdf b a o c j r x) (λ (x:AP)=>C7 n r x) z ?_ (λ e=>?_)
  ·intro q H;exact rz<|ck 2<|ae (by cases H;exact og<|gP [1,4,7,8,9,38,39,40,55,56,57] [0,1,2,3,4,5]<|po1<|po1<|po1<|po1<|pn1 (nL 3 AF) q.Arcs<|po1<|Pl.z)
  refine bk 5<|sr<|ck 1<|bx H λ O P H=>sp (Ap Ao P)<|ck 4<|en<|sr<|ck 3<|bx H λ I Q H=>ca false (Na Q)<|ck 6<|en<|sr<|ck 1<|en<|cn H (λ H=>?_)<|λ H=>?_
  ·exact bx H λ E u H=>rg (tr (so1 (encN:=(nL 3 AF)) 4 1 u)<|sno (encN:=(nL 3 AF)) (enc:=AF) u [.own 3<|E.map AF] E 1 4 0 3)<|ck 10<|sp (Av 4 1 u)<|sp (Cj (encN:=(nL 3 AF)) (row:=[.osl 8 3 0<|E.length]) (k:=4) (sz:=1) (off:=0) (t:=ty 116) (v:=.osl 8 3 0<|E.length) u)<|ck 4<|sp (AB eU8 O.Cells)<|ck 2<|sp (TM (enc:=Af) (encK:=Ah) (k:=1) (e1:=λ x=>.int .i64 x) (m:=o) (l:=[.d<|.int .i64 I.1.Mode,.d<|.int .i64 I.1.Last,.d<|.int .u8 I.1.Need]) (key:=I.1) (z:=0) (vz:=[.int .i64 0]) TO false)<|ck 2<|bx H λ h R H=>sp (Cv AF 8 3 R)<|sp (Av 4 1 u)<|sp (Lq (encN:=(nL 3 AF)) (row:=[.osl 8 3 0<|E.length]) (row':=[.osl 10 3 0<|h.length]) (k:=4) (sz:=1) (off:=0) (t:=ty 116) (v:=.osl 10 3 0<|h.length) u)<|ae<|qN<|qs (tr (tr (tr (tr (tr (sni (encN:=(nL 3 AF)) (xs:=f.Arcs) (n:=c) (enc:=AF) [.osl 10 3 0<|h.length] h 1 4 0 10 3)<|scl (encN:=(nL 3 AF)) (xss:=f.Arcs) c [.own 3<|h.map AF] 1 4 h)<|sn 73 4 1<|lsS f.Arcs c.toNat h)<|sn 78 4 1<|lsS f.Arcs c.toNat h)<|snc 2 0 4 1<|lsS f.Arcs c.toNat h)<|gP [1,4,7,8,9,38,39,40,55,56,57] [0,1,2,3,4,5]<|po1<|po1<|po1<|po1<|pn1 (nL 3 AF) (List.set f.Arcs c.toNat h)<|po1<|Pl.z)<|e ({ Arcs:=List.set f.Arcs c.toNat h,Accepts:=f.Accepts }:AP) H
  ·exact sk<|qN<|qs (gP [1,4,7,8,9,38,39,40,55,56,57] [0,1,2,3,4,5]<|po1<|po1<|po1<|po1<|pn1 (nL 3 AF) f.Arcs<|po1<|Pl.z)<|e f H
 ·exact ex 4<|qx (by cases H;exact xo rfl<|gP [1,4,7,38,39,40] [0,1,2,4,5]<|po1<|po1<|po1<|pn1 (nL 3 AF) f.Arcs<|po1<|Pl.z)
theorem OR (x:(AP×Int)) (z:((AP×Int)⊕AP)) (H:C8 n b a o x.1 x.2=some z):WP (cxk 97 0) (Az Tryz.f26) [1,1,1,1,1,0,1,0,0] (Aw 0 (JH b a o) (PT) z) (JH b a o x):=by
 obtain ⟨p,c⟩:=x;refine sr<|ck 1<|en<|sq<|cn H (λ H=>?_)<|λ H=>?_
 ·exact sk<|qz<|sq<|bk 3<|sr<|ck 1<|bx H λ j S H=>sp (Ap Ah S)<|ck 4<|en<|sr<|ck 7<|bx H λ ac T H=>ca false (Nb T)<|bx H λ af L H=>sp (Av 4 1 L)<|bx H λ ag K H=>stA eB 4 0 (ty 4) L K<|en<|sq<|rg (tr (sn 48 4 1<|Bb K)<|snc 2 1 4 1<|Bb K)<|ck 2<|sp (AB Ao b.Rules)<|ck 1<|en<|bk 4<|bx H λ y9 U H=>lX OQ U (gP [1,4,7,8,9,38,39,40,55,56,57] [0,1,2,5,3,4]<|po1<|po1<|po1<|po1<|pn1 (nL 3 AF) p.Arcs<|po1<|Pl.z) rfl λ s V=>qH<|qN<|qs (V)<|rz<|ck 2<|ae (by cases H;exact og<|gP [1,4,7,38,39,40] [0,1,2,3,4]<|po1<|po1<|po1<|pn1 (nL 3 AF) y9.Arcs<|po1<|Pl.z)
 ·exact ex 2<|qx (by cases H;exact xo rfl<|gP [7] [2,3,4]<|po1<|pn1 (nL 3 AF) p.Arcs<|po1<|Pl.z)
theorem Mb {z} (H:Eg n b=some z):Ce Tryz.prog 26 [.agg (Ay b)] [] 0 (.ptr 0 0) [some (.box [.osl 1 1 0 (z.Arcs.length),.osl 2 1 0 (z.Accepts.length)]),some (.narr 1 (z.Arcs.map (nL 3 AF))),some (.arr 1 (z.Accepts.map eB))]:=by
 exact fL 97 0 (Jc7 b) Tryz.func26<|sr<|ck 2<|en<|sr<|ck 1<|bx H λ a W H=>ca false (Om W)<|ck 1<|en<|sr<|ck 1<|sp (AB Ah a)<|ck 2<|en<|sq<|sr<|ck 1<|sp (AB Ah a)<|ck 1<|en<|bk 0<|bx H λ o X H=>lX OP X (sg [1,3,4,19,20,21]) rfl λ s Y=>qH<|qs (Y)<|sr<|ck 1<|sp (AB Ah a)<|bx H λ l9 J H=>sp (QK 1 (ez:=[.nil]) J)<|ck 1<|sp (AB Ah a)<|bx H λ aj Z H=>sp (TL eB 1 Z)<|ck 3<|en<|sq<|sq<|rg (tr (tr (TI (encN:=(nL 3 AF)) (sz:=1) (z:=[.nil]) (n:=((a.length:Nat):Int)) 2 (Lr J) (by kernel_rfl) (by kernel_rfl))<|sn 32 2 1<|FY J)<|snc 4 0 2 1<|FY J)<|ck 1<|sp (AB Ah a)<|ck 1<|en<|bk 2<|bx H λ ak aa H=>lX OR aa (gP [1,4,7,38,39,40] [0,1,4,2,3]<|po1<|po1<|po1<|pn1 (nL 3 AF) l9<|po1<|Pl.z) rfl λ s ab=>qH<|qs (ab)<|sr<|ck 2<|en<|re (by cases H;exact pL<|rl (s':=Jc8 z)<|gP [2] [0,1,2]<|po1<|pn1 (nL 3 AF) z.Arcs<|po1<|Pl.z)
end
section
variable (b:(List UInt8)) (a:AP) (j:(List (Nat×Nat))) (k:(List Int)) (i:(List Int)) (e:(List Int)) (f:(List Int)) (g:(List (Nat×Nat))) (c:Int) (l:(List (Nat×Nat)))
def Jdg:St:=⟨(0,.ptr 0 0)::(1,.d<|.str b)::[],[some<|.box [.d<|.sl<|a.Arcs.map<|eL AF,.d<|.sl<|a.Accepts.map eB]]⟩
def Jdh:St:=⟨(4,.ptr 1 0)::[],[some<|.box [.d<|.sl<|a.Arcs.map<|eL AF,.d<|.sl<|a.Accepts.map eB],some<|.box [.d<|.str b,.osl 2 1 0<|j.length,.osl 3 1 0<|k.length],some<|.cut 4 1 j,some<|.arr 1<|k.map Af,some<|.arr 1<|i.map Af]⟩
def Jdi:St:=⟨(4,.ptr 1 0)::(5,.d<|.int .i64 ((a.Arcs.length:Nat):Int))::(7,.ptr 2 0)::(8,.osl 3 1 0<|f.length)::(28,.d<|.int .i64<|An .i64 ((b.length:Nat):Int) 1)::(29,.d<|.int .i64 c)::[],[some<|.box [.d<|.sl<|a.Arcs.map<|eL AF,.d<|.sl<|a.Accepts.map eB],some<|.box [.d<|.str [],.osl 4 1 0<|List.length ([]:List (List Int)),.osl 5 1 0<|List.length ([]:List Int)],some<|.box [.d<|.str b,.osl 6 1 0<|g.length,.osl 7 1 0<|e.length],some<|.arr 1<|f.map Af,some<|.arr 1<|List.map (eL Af) ([]:List (List Int)),some<|.arr 1<|List.map Af ([]:List Int),some<|.cut 3 1 g,some<|.arr 1<|e.map Af]⟩
def Jdj:St:=⟨(4,.ptr 1 0)::(7,.ptr 2 0)::[],[some<|.box [.d<|.sl<|a.Arcs.map<|eL AF,.d<|.sl<|a.Accepts.map eB],some<|.box [.d<|.str [],.osl 3 1 0<|List.length ([]:List (List Int)),.osl 4 1 0<|List.length ([]:List Int)],some<|.box [.d<|.str b,.osl 5 1 0<|l.length,.osl 6 1 0<|e.length],some<|.arr 1<|List.map (eL Af) ([]:List (List Int)),some<|.arr 1<|List.map Af ([]:List Int),some<|.cut 7 1 l,some<|.arr 1<|e.map Af,some<|.arr 1<|f.map Af]⟩
def Mx:(List<|Nat×Nat)->Ex->St->Prop:=xX 1 0<|λ (y:(List<|Nat×Nat))=>Jdj b a e f y
def G1:((List<|Nat×Nat)×Int)->St:=(λ (x:((List<|Nat×Nat)×Int))=>Jdi b a e f x.1 x.2)
variable {b a j k i e f g c l}
theorem Lv (x:((List (Nat×Nat))×Int)) (z:(((List (Nat×Nat))×Int)⊕(List (Nat×Nat)))) (H:B2 n b a e f x.1 x.2=some z):WP (cxk 51 1) (Az Tryz.f28) [1,1,1,1,0,1,0,0] (Aw 1 (G1 b a e f) (Mx b a e f) z) (G1 b a e f x):=by
 obtain ⟨g,c⟩:=x;refine sr<|ck 1<|en<|sq<|cn H (λ H=>?_)<|λ H=>?_
 ·exact sk<|qz<|sq<|bk 1<|sr<|ck 2<|en<|rg (PJ (xs:=g) 6 3 1 (by kernel_rfl))<|ck 15<|bx H λ C q H=>sp (Jh4 3 1 (f.length) q)<|bx H λ E r H=>sp (Av 6 1 r)<|bx H λ u m H=>sp (Jh5 (t:=ty 35) 6 3 1 ((0+Int.toNat (Ln .i64 c ((a.Arcs.length:Nat):Int)),Int.toNat (Ln .i64 (An .i64 c 1) ((a.Arcs.length:Nat):Int))-Int.toNat (Ln .i64 c ((a.Arcs.length:Nat):Int))):Nat×Nat).1 ((0+Int.toNat (Ln .i64 c ((a.Arcs.length:Nat):Int)),Int.toNat (Ln .i64 (An .i64 c 1) ((a.Arcs.length:Nat):Int))-Int.toNat (Ln .i64 c ((a.Arcs.length:Nat):Int))):Nat×Nat).2 m)<|ae<|qN<|qz<|rg (tr (tr (Ok (xs:=u) 6 3 1 (by kernel_rfl))<|sn 33 6 1<|Bb m)<|snc 2 1 6 1<|Bb m)<|ck 2<|ae (by cases H;exact og<|sg [4,5,7,8,28,29])
 ·exact ex 0<|qx (by cases H;exact xo rfl<|sg [4,7])
theorem If {z} (H:CO n b a=some z):Ce Tryz.prog 28 [.ptr 0 0,.d (.str b)] [some (.box [.d (.sl (a.Arcs.map (eL AF))),.d (.sl (a.Accepts.map eB))])] 1 (.agg [.d (.str b),.osl 2 1 0 (z.1.length),.osl 3 1 0 (z.2.1.length)]) [some (.box [.d (.sl (a.Arcs.map (eL AF))),.d (.sl (a.Accepts.map eB))]),some (.box [.d (.str b),.osl 2 1 0 (z.1.length),.osl 3 1 0 (z.2.1.length)]),some (.cut 4 1 z.1),some (.arr 1 (z.2.1.map Af)),some (.arr 1 (z.2.2.map Af))]:=by
 exact fL 51 1 (Jdg b a) Tryz.func28<|sr<|ck 1<|en<|sr<|ck 4<|sp (AB (eL AF) a.Arcs)<|ck 5<|en<|sr<|ck 2<|bx H λ o h H=>sp (QK 1 (ez:=[.nil]) h)<|ck 1<|bx H λ e v H=>sp (TL Af 1 v)<|ck 3<|en<|sr<|ck 3<|bx H λ f w H=>sp (TL Af 1 w)<|ck 1<|en<|sq<|sq<|rg (tr (tr (tr (Jh6 (zs:=o) 2 5 1 (Lr h) (by kernel_rfl))<|Ok (xs:=List.replicate (o.length) ((0,0):Nat×Nat)) 2 5 1 (by kernel_rfl))<|sn 20 2 1<|(FY h).trans (lrN (x:=((0,0):Nat×Nat))))<|snc 4 1 2 1<|(FY h).trans (lrN (x:=((0,0):Nat×Nat))))<|ck 2<|en<|bk 0<|bx H λ A B H=>lX Lv B (tr (tr (BO 1 1 1 (by kernel_rfl))<|BO 1 2 1 (by kernel_rfl))<|sg [4,5,7,8,28,29]) rfl λ s p=>qH<|qs (p)<|sr<|ck 2<|en<|re (by cases H;exact pL<|rl (s':=Jdh b a A e f)<|sg [4])
end
section
variable (a:(List UInt8)) (b:AP) (c:(List (Nat×Nat))) (e:(List Int)) (f:(List Int))
def Jdk:St:=⟨(0,.ptr 0 0)::(1,.agg [.d<|.str a,.osl 1 1 0<|c.length,.osl 2 1 0<|e.length])::[],[some<|.box [.d<|.sl<|b.Arcs.map<|eL AF,.d<|.sl<|b.Accepts.map eB],some<|.cut 3 1 c,some<|.arr 1<|e.map Af,some<|.arr 1<|f.map Af]⟩
def Jdl:St:=⟨(4,.clo 53 [.ptr 4 0,.ptr 5 0])::[],[some<|.box [.d<|.sl<|b.Arcs.map<|eL AF,.d<|.sl<|b.Accepts.map eB],some<|.cut 3 1 c,some<|.arr 1<|e.map Af,some<|.arr 1<|f.map Af,some<|.box [.d<|.str a,.osl 1 1 0<|c.length,.osl 2 1 0<|e.length],some<|.box [.ptr 0 0]]⟩
variable {a b c e f}
theorem HX {z} (H:DG n a b c e f=some z):Ce Tryz.prog 29 [.ptr 0 0,.agg [.d (.str a),.osl 1 1 0 (c.length),.osl 2 1 0 (e.length)]] [some (.box [.d (.sl (b.Arcs.map (eL AF))),.d (.sl (b.Accepts.map eB))]),some (.cut 3 1 c),some (.arr 1 (e.map Af)),some (.arr 1 (f.map Af))] 4 (.clo 53 [.ptr 4 0,.ptr 5 0]) [some (.box [.d (.sl (b.Arcs.map (eL AF))),.d (.sl (b.Accepts.map eB))]),some (.cut 3 1 c),some (.arr 1 (e.map Af)),some (.arr 1 (f.map Af)),some (.box [.d (.str a),.osl 1 1 0 (c.length),.osl 2 1 0 (e.length)]),some (.box [.ptr 0 0])]:=by
 exact fL 6 4 (Jdk a b c e f) Tryz.func29<|sr<|ck 3<|en<|sr<|xm (xok _ _)<|ck 1<|en<|re (by cases H;exact pL<|rl (s':=Jdl a b c e f)<|sg [4])
end
section
variable (b:(List UInt8)) (f:Int) (g:Int) (a:(List (Nat×Nat))) (c:(List Int)) (e:(List Int)) (h:Int)
def Jdm:St:=⟨(0,.agg [.d<|.str b,.osl 0 1 0<|a.length,.osl 1 1 0<|c.length])::(1,.d<|.int .i64 f)::(2,.d<|.int .i64 g)::[],[some<|.cut 2 1 a,some<|.arr 1<|c.map Af,some<|.arr 1<|e.map Af]⟩
def X8:St:=⟨(6,.d<|.int .i64 h)::[],[some<|.cut 2 1 a,some<|.arr 1<|c.map Af,some<|.arr 1<|e.map Af]⟩
variable {b f g a c e h}
theorem TQ {z} (H:Gn n b f g a c e=some z):Ce Tryz.prog 56 [.agg [.d (.str b),.osl 0 1 0 (a.length),.osl 1 1 0 (c.length)],.d (.int .i64 f),.d (.int .i64 g)] [some (.cut 2 1 a),some (.arr 1 (c.map Af)),some (.arr 1 (e.map Af))] 3 (.d (.int .i64 z)) [some (.cut 2 1 a),some (.arr 1 (c.map Af)),some (.arr 1 (e.map Af))]:=by
 refine fL 30 3 (Jdm b f g a c e) Tryz.func56<|sr<|ck 2<|en<|sq<|sq<|rg (PJ (xs:=a) 0 2 1 (by kernel_rfl))<|ck 3<|bx H λ i j H=>sp (Av 0 1 j)<|sp (QM (t:=ty 35) 0 2 1 j)<|ck 1<|bx H λ s k H=>sp (FZ 2 1 i.1 i.2<|Hq k)<|sp (M3 Af 2 0 (ty 3)<|F3 k)<|ck 1<|en<|cn H (λ H=>?_)<|λ H=>?_
 ·exact sq<|rg (Ok (xs:=a) 0 2 1 (by kernel_rfl))<|ck 1<|en<|re<|qr (by cases H;exact pL<|rl (s':=X8 a c e (-1))<|sg [6])
 ·exact sk<|qz<|sq<|rg (tr (Ok (xs:=a) 0 2 1 (by kernel_rfl))<|PJ (xs:=a) 0 2 1 (by kernel_rfl))<|ck 3<|bx H λ q l H=>sp (Av 1 1 l)<|sp (C0 Af 1 0 (ty 3) l)<|ck 3<|bx H λ m o H=>sp (Av 0 1 o)<|sp (QM (t:=ty 35) 0 2 1 o)<|ck 1<|bx H λ r p H=>sp (FZ 2 1 m.1 m.2<|Hq p)<|sp (M3 Af 2 0 (ty 3)<|F3 p)<|ck 2<|en<|re (by cases H;exact pL<|rl (s':=X8 a c e<|An .i64 q r)<|tr (Ok (xs:=a) 0 2 1 (by kernel_rfl))<|sg [6])
end
section
variable (i:Int) (f:Int) (h:Int) (e:(Nat×Nat)) (j:(List Int)) (l:(List Int)) (m:Bool)
def Jdn:St:=⟨(0,.d<|.int .i64 i)::(1,.d<|.int .i64 f)::(2,.d<|.int .i64 h)::(3,.ptr 0 0)::[],[some<|.box [.osl 1 1 e.1 e.2],some<|.arr 1<|j.map Af]⟩
def X9:St:=⟨(7,.d<|.bool m)::[],[some<|.box [.osl 1 1 e.1 e.2],some<|.arr 1<|l.map Af]⟩
variable {i f h e j l m}
theorem FJ {z} (H:BJ n i f h e j=some z):Ce Tryz.prog 54 [.d (.int .i64 i),.d (.int .i64 f),.d (.int .i64 h),.ptr 0 0] [some (.box [.osl 1 1 e.1 e.2]),some (.arr 1 (j.map Af))] 2 (.d (.bool z.2)) [some (.box [.osl 1 1 e.1 e.2]),some (.arr 1 (z.1.map Af))]:=by
 refine fL 33 2 (Jdn i f h e j) Tryz.func54<|sr<|ck 1<|en<|sq<|sr<|ck 5<|bx H λ k o H=>sE (λ hg=>FZ 1 1 e.1 e.2<|Hq<|BA o hg)<|sE (g:=(!(decide<|f<0))) (λ hg=>M3 Af 1 0 (ty 3)<|F3<|BA o hg)<|gc 2 (!(decide<|f<0))<|ck 2<|bx H λ p q H=>sE (λ hg=>FZ 1 1 e.1 e.2<|Hq<|BA q hg)<|sE (g:=((!(decide<|f<0))&&(decide<|k>=0))) (λ hg=>M3 Af 1 0 (ty 3)<|F3<|BA q hg)<|ck 2<|gc 2 ((!(decide<|f<0))&&(decide<|k>=0))<|pG (g:=(!(decide<|f<0))) (v:=.d<|.bool<|(decide<|k>=0)&&(decide<|p<=An .i64 f h)) (λ hg=>Gk (c:=.gv (!(decide<|f<0))<|.d<|.bool<|decide<|k>=0) (a:=.gv ((!(decide<|f<0))&&(decide<|k>=0))<|.d<|.bool<|decide<|p<=An .i64 f h) (b:=.d<|.bool false) rfl rfl rfl ((λ hh=>hh) hg) (λ ht=>by rw [(λ hh=>hh) hg,ht];rfl) trivial)<|pO<|en<|cn H (λ H=>?_)<|λ H=>?_
 ·exact sr<|ck 1<|en<|re<|qr (by cases H;exact pL<|rl (s':=X9 e j false)<|sg [7])
 ·exact sk<|qz<|sr<|ck 5<|bx H λ u r H=>sp (FZ 1 1 e.1 e.2<|Hq r)<|bx H λ s t H=>stP Af 1 0 (e.1+Int.toNat i) (ty 3) (F3 r) t<|en<|sr<|ck 1<|en<|re (by cases H;exact pL<|rl (s':=X9 e s true)<|sg [7])
end
section
variable (e:(Nat×Nat)) (k:(List Int)) (u:(List Int)) (w:Int) (f:Int) (q:Int) (r:Int) (o:Int) (l:Int) (j:(List Int)) (p:Int) (A:(List Int)) (m:(List Int))
def Jdo:St:=⟨(0,.osl 0 1 e.1 e.2)::[],[some<|.arr 1<|k.map Af]⟩
def Jdp:St:=⟨(2,.d<|.int .i64 w)::[],[some<|.arr 1<|u.map Af]⟩
def Jdq:St:=⟨(0,.osl 0 1 e.1 e.2)::(3,.d<|.int .i64 f)::(8,.osl 0 1 e.1 e.2)::(9,.d<|.int .i64 ((e.2:Nat):Int))::(10,.d<|.int .i64 q)::[],[some<|.arr 1<|k.map Af]⟩
def Jdr:St:=⟨(0,.osl 0 1 e.1 e.2)::(3,.d<|.int .i64 r)::[],[some<|.arr 1<|k.map Af]⟩
def Jds:St:=⟨(0,.osl 0 1 e.1 e.2)::(3,.d<|.int .i64 o)::(8,.osl 0 1 e.1 e.2)::(9,.d<|.int .i64 ((e.2:Nat):Int))::(10,.d<|.int .i64 q)::[],[some<|.arr 1<|k.map Af]⟩
def Sc:Int->Ex->St->Prop:=xX 1 0<|λ (y:Int)=>Jdr e k y
def Mc:(Int×Int)->St:=(λ (x:(Int×Int))=>Jdq e k x.1 x.2)
def Jdt:St:=⟨(0,.osl 0 1 e.1 e.2)::(3,.d<|.int .i64 l)::(27,.osl 0 1 e.1 e.2)::(28,.d<|.int .i64 ((e.2:Nat):Int))::(29,.d<|.int .i64 p)::[],[some<|.arr 1<|j.map Af]⟩
def Jdu:St:=⟨(3,.d<|.int .i64 l)::[],[some<|.arr 1<|A.map Af]⟩
def Jdv:St:=⟨(0,.osl 0 1 e.1 e.2)::(3,.d<|.int .i64 l)::(27,.osl 0 1 e.1 e.2)::(28,.d<|.int .i64 ((e.2:Nat):Int))::(29,.d<|.int .i64 p)::[],[some<|.arr 1<|m.map Af]⟩
def Sd:(List Int)->Ex->St->Prop:=xX 1 2<|λ (y:(List Int))=>Jdu l y
def Md:((List Int)×Int)->St:=(λ (x:((List Int)×Int))=>Jdt e l x.1 x.2)
variable {e k u w f q r o l j p A m}
theorem QW (x:(Int×Int)) (z:((Int×Int)⊕Int)) (H:Di n e k x.1 x.2=some z):WP (cxk 44 1) (Az Tryz.f57) [1,1,0,1,0,0] (Aw 1 (Mc e k) (Sc e k) z) (Mc e k x):=by
 obtain ⟨f,q⟩:=x;refine sr<|ck 1<|en<|sq<|cn H (λ H=>?_)<|λ H=>?_
 ·refine sk<|qz<|sj (λ (x:Int)=>Jds e k q x) (λ (x:Int)=>DO n q x) z ?_ (λ h=>?_)
  ·intro o H;exact rz<|ck 2<|ae (by cases H;exact og<|sg [0,3,8,9,10])
  refine bk 1<|sr<|bx H λ t B H=>sp (FZ 0 1 e.1 e.2<|Hq B)<|sp (M3 Af 0 0 (ty 3)<|F3 B)<|ck 1<|en<|sr<|ck 4<|gc 2 (decide<|t>=0)<|ck 2<|gc 1 ((decide<|t>=0)&&!(decide<|f<0))<|pG (g:=decide<|t>=0) (v:=.d<|.bool<|(decide<|f<0)||(decide<|t<f)) (λ hg=>Gk (c:=.gv (decide<|t>=0)<|.d<|.bool<|decide<|f<0) (a:=.d<|.bool true) (b:=.gv ((decide<|t>=0)&&!(decide<|f<0))<|.d<|.bool<|decide<|t<f) rfl rfl rfl ((λ hh=>hh) hg) trivial (λ ht=>by rw [(λ hh=>hh) hg,ht];rfl))<|pA<|en<|cn H (λ H=>?_)<|λ H=>?_
  ·exact rz<|ck 2<|ae<|qN<|qs (sg [0,3,8,9,10])<|h t H
  ·exact sk<|qN<|qs (sg [0,3,8,9,10])<|h f H
 ·exact ex 0<|qx (by cases H;exact xo rfl<|sg [0,3])
theorem QX (x:((List Int)×Int)) (z:(((List Int)×Int)⊕(List Int))) (H:Dj n e l x.1 x.2=some z):WP (cxk 44 1) (Az Tryz.f57) [1,1,1,0,1,0,0] (Aw 1 (Md e l) (Sd l) z) (Md e l x):=by
 obtain ⟨j,p⟩:=x;refine sr<|ck 1<|en<|sq<|cn H (λ H=>?_)<|λ H=>?_
 ·refine sk<|qz<|sj (λ (x:(List Int))=>Jdv e l p x) (λ (x:(List Int))=>DP n p x) z ?_ (λ i=>?_)
  ·intro m H;exact rz<|ck 2<|ae (by cases H;exact og<|sg [0,3,27,28,29])
  refine bk 3<|sr<|ck 1<|bx H λ P C H=>sp (FZ 0 1 e.1 e.2<|Hq C)<|sp (M3 Af 0 0 (ty 3)<|F3 C)<|ck 2<|en<|sr<|ck 2<|en<|cn H (λ H=>?_)<|λ H=>?_
  ·exact rz<|ck 5<|bx H λ Q E H=>sp (FZ 0 1 e.1 e.2<|Hq E)<|bx H λ J K H=>stP Af 0 0 (e.1+Int.toNat p) (ty 3) (F3 E) K<|ae<|qN<|qs (sg [0,3,27,28,29])<|i J H
  ·exact sk<|qN<|qs (sg [0,3,27,28,29])<|i j H
 ·exact ex 2<|qx (by cases H;exact xo rfl<|sg [3])
theorem UK {z} (H:IP n e k=some z):Ce Tryz.prog 57 [.osl 0 1 e.1 e.2] [some (.arr 1 (k.map Af))] 1 (.d (.int .i64 z.2)) [some (.arr 1 (z.1.map Af))]:=by
 exact fL 44 1 (Jdo e k) Tryz.func57<|sr<|ck 1<|en<|sr<|ck 1<|en<|sq<|sr<|ck 3<|en<|bk 0<|bx H λ l L H=>lX QW L (sg [0,3,8,9,10]) rfl λ s G=>qH<|qs (G)<|sq<|sr<|ck 3<|en<|bk 2<|bx H λ M O H=>lX QX O (sg [0,3,27,28,29]) rfl λ s I=>qH<|qs (I)<|sr<|ck 2<|en<|re (by cases H;exact pL<|rl (s':=Jdp M l)<|sg [2])
end
section
variable (i:Int) (a:(List UInt8)) (b:AP) (c:(List (Nat×Nat))) (e:(List Int)) (X:(List Int)) (Z:(List Int)) (aa:Int) (f:(Nat×Nat)) (A:(List Int)) (J:Int) (Q:(List Int)) (B:(List Int)) (C:(List Int)) (l:Int) (R:(List Int)) (K:(List ON)) (q:(List Int)) (S:Int) (T:(List Int)) (r:(List Int)) (u:(List Int)) (E:Bool) (M:(List Int)) (v:(List Int)) (G:Bool) (m:Int) (O:(List Int)) (U:Bool) (L:(List ON)) (o:(List Int)) (p:Bool) (V:Int) (P:(List Int)) (W:Bool) (w:(List Int)) (I:Bool)
def Jdw:St:=⟨(0,.d<|.int .i64 i)::(1,.ptr 0 0)::(2,.ptr 1 0)::[],[some<|.box [.d<|.str a,.osl 2 1 0<|c.length,.osl 3 1 0<|e.length],some<|.box [.ptr 4 0],some<|.cut 5 1 c,some<|.arr 1<|e.map Af,some<|.box [.d<|.sl<|b.Arcs.map<|eL AF,.d<|.sl<|b.Accepts.map eB],some<|.arr 1<|X.map Af]⟩
def Jdx:St:=⟨(4,.d<|.int .i64 aa)::[],[some<|.box [.d<|.str a,.osl 2 1 0<|c.length,.osl 3 1 0<|e.length],some<|.box [.ptr 4 0],some<|.cut 5 1 c,some<|.arr 1<|e.map Af,some<|.box [.d<|.sl<|b.Arcs.map<|eL AF,.d<|.sl<|b.Accepts.map eB],some<|.arr 1<|Z.map Af]⟩
def Jdy:St:=⟨(0,.d<|.int .i64 i)::(1,.ptr 0 0)::(2,.ptr 1 0)::(5,.ptr 6 0)::(23,.d<|.int .i64 ((f.2:Nat):Int))::(24,.d<|.int .i64 J)::[],[some<|.box [.d<|.str a,.osl 2 1 0<|c.length,.osl 3 1 0<|e.length],some<|.box [.ptr 4 0],some<|.cut 5 1 c,some<|.arr 1<|e.map Af,some<|.box [.d<|.sl<|b.Arcs.map<|eL AF,.d<|.sl<|b.Accepts.map eB],some<|.arr 1<|A.map Af,some<|.box [.osl 5 1 f.1 f.2]]⟩
def Jdz:St:=⟨(0,.d<|.int .i64 i)::(1,.ptr 0 0)::(2,.ptr 1 0)::(5,.ptr 6 0)::[],[some<|.box [.d<|.str a,.osl 2 1 0<|c.length,.osl 3 1 0<|e.length],some<|.box [.ptr 4 0],some<|.cut 5 1 c,some<|.arr 1<|e.map Af,some<|.box [.d<|.sl<|b.Arcs.map<|eL AF,.d<|.sl<|b.Accepts.map eB],some<|.arr 1<|Q.map Af,some<|.box [.osl 5 1 f.1 f.2]]⟩
def JdA:St:=⟨(0,.d<|.int .i64 i)::(1,.ptr 0 0)::(2,.ptr 1 0)::(5,.ptr 6 0)::(23,.d<|.int .i64 ((f.2:Nat):Int))::(24,.d<|.int .i64 J)::[],[some<|.box [.d<|.str a,.osl 2 1 0<|c.length,.osl 3 1 0<|e.length],some<|.box [.ptr 4 0],some<|.cut 5 1 c,some<|.arr 1<|e.map Af,some<|.box [.d<|.sl<|b.Arcs.map<|eL AF,.d<|.sl<|b.Accepts.map eB],some<|.arr 1<|B.map Af,some<|.box [.osl 5 1 f.1 f.2]]⟩
def J5:(List Int)->Ex->St->Prop:=xX 6 0<|λ (y:(List Int))=>Jdz i a b c e f y
def FK:((List Int)×Int)->St:=(λ (x:((List Int)×Int))=>Jdy i a b c e f x.1 x.2)
def JdB:St:=⟨(0,.d<|.int .i64 i)::(1,.ptr 0 0)::(2,.ptr 1 0)::(5,.ptr 6 0)::(7,.clo 54 [.ptr 6 0])::(52,.d<|.sl<|b.Arcs.map<|eL AF)::(53,.d<|.int .i64 ((b.Arcs.length:Nat):Int))::(54,.d<|.int .i64 l)::[],[some<|.box [.d<|.str a,.osl 2 1 0<|c.length,.osl 3 1 0<|e.length],some<|.box [.ptr 4 0],some<|.cut 5 1 c,some<|.arr 1<|e.map Af,some<|.box [.d<|.sl<|b.Arcs.map<|eL AF,.d<|.sl<|b.Accepts.map eB],some<|.arr 1<|C.map Af,some<|.box [.osl 5 1 f.1 f.2]]⟩
def JdC:St:=⟨(2,.ptr 1 0)::(5,.ptr 6 0)::(7,.clo 54 [.ptr 6 0])::[],[some<|.box [.d<|.str a,.osl 2 1 0<|c.length,.osl 3 1 0<|e.length],some<|.box [.ptr 4 0],some<|.cut 5 1 c,some<|.arr 1<|e.map Af,some<|.box [.d<|.sl<|b.Arcs.map<|eL AF,.d<|.sl<|b.Accepts.map eB],some<|.arr 1<|R.map Af,some<|.box [.osl 5 1 f.1 f.2]]⟩
def JdD:St:=⟨(0,.d<|.int .i64 i)::(1,.ptr 0 0)::(2,.ptr 1 0)::(5,.ptr 6 0)::(7,.clo 54 [.ptr 6 0])::(8,.d<|.int .i64 l)::(52,.d<|.sl<|b.Arcs.map<|eL AF)::(53,.d<|.int .i64 ((b.Arcs.length:Nat):Int))::(54,.d<|.int .i64 l)::(59,.d<|.sl<|K.map AF)::(60,.d<|.int .i64 ((K.length:Nat):Int))::(61,.d<|.int .i64 S)::[],[some<|.box [.d<|.str a,.osl 2 1 0<|c.length,.osl 3 1 0<|e.length],some<|.box [.ptr 4 0],some<|.cut 5 1 c,some<|.arr 1<|e.map Af,some<|.box [.d<|.sl<|b.Arcs.map<|eL AF,.d<|.sl<|b.Accepts.map eB],some<|.arr 1<|q.map Af,some<|.box [.osl 5 1 f.1 f.2]]⟩
def JdE:St:=⟨(0,.d<|.int .i64 i)::(1,.ptr 0 0)::(2,.ptr 1 0)::(5,.ptr 6 0)::(7,.clo 54 [.ptr 6 0])::(52,.d<|.sl<|b.Arcs.map<|eL AF)::(53,.d<|.int .i64 ((b.Arcs.length:Nat):Int))::(54,.d<|.int .i64 l)::[],[some<|.box [.d<|.str a,.osl 2 1 0<|c.length,.osl 3 1 0<|e.length],some<|.box [.ptr 4 0],some<|.cut 5 1 c,some<|.arr 1<|e.map Af,some<|.box [.d<|.sl<|b.Arcs.map<|eL AF,.d<|.sl<|b.Accepts.map eB],some<|.arr 1<|T.map Af,some<|.box [.osl 5 1 f.1 f.2]]⟩
def Ja4:St:=⟨(0,.d<|.int .i64 i)::(1,.ptr 0 0)::(2,.ptr 1 0)::(5,.ptr 6 0)::(7,.clo 54 [.ptr 6 0])::(8,.d<|.int .i64 l)::(52,.d<|.sl<|b.Arcs.map<|eL AF)::(53,.d<|.int .i64 ((b.Arcs.length:Nat):Int))::(54,.d<|.int .i64 l)::(59,.d<|.sl<|K.map AF)::(60,.d<|.int .i64 ((K.length:Nat):Int))::(61,.d<|.int .i64 S)::[],[some<|.box [.d<|.str a,.osl 2 1 0<|c.length,.osl 3 1 0<|e.length],some<|.box [.ptr 4 0],some<|.cut 5 1 c,some<|.arr 1<|e.map Af,some<|.box [.d<|.sl<|b.Arcs.map<|eL AF,.d<|.sl<|b.Accepts.map eB],some<|.arr 1<|r.map Af,some<|.box [.osl 5 1 f.1 f.2]]⟩
def J6:(List Int)->Ex->St->Prop:=xX 6 4<|λ (y:(List Int))=>JdE i a b c e f l y
def FL:((List Int)×Int)->St:=(λ (x:((List Int)×Int))=>JdD i a b c e f l K x.1 x.2)
def J7:(List Int)->Ex->St->Prop:=xX 6 2<|λ (y:(List Int))=>JdC a b c e f y
def FM:((List Int)×Int)->St:=(λ (x:((List Int)×Int))=>JdB i a b c e f x.1 x.2)
def Ja5:St:=⟨(2,.ptr 1 0)::(5,.ptr 6 0)::(7,.clo 54 [.ptr 6 0])::(12,.d<|.bool E)::[],[some<|.box [.d<|.str a,.osl 2 1 0<|c.length,.osl 3 1 0<|e.length],some<|.box [.ptr 4 0],some<|.cut 5 1 c,some<|.arr 1<|e.map Af,some<|.box [.d<|.sl<|b.Arcs.map<|eL AF,.d<|.sl<|b.Accepts.map eB],some<|.arr 1<|u.map Af,some<|.box [.osl 5 1 f.1 f.2]]⟩
def Ja6:St:=⟨(5,.ptr 6 0)::[],[some<|.box [.d<|.str a,.osl 2 1 0<|c.length,.osl 3 1 0<|e.length],some<|.box [.ptr 4 0],some<|.cut 5 1 c,some<|.arr 1<|e.map Af,some<|.box [.d<|.sl<|b.Arcs.map<|eL AF,.d<|.sl<|b.Accepts.map eB],some<|.arr 1<|M.map Af,some<|.box [.osl 5 1 f.1 f.2]]⟩
def Ja7:St:=⟨(2,.ptr 1 0)::(5,.ptr 6 0)::(7,.clo 54 [.ptr 6 0])::(12,.d<|.bool G)::(97,.d<|.sl<|b.Arcs.map<|eL AF)::(98,.d<|.int .i64 ((b.Arcs.length:Nat):Int))::(99,.d<|.int .i64 m)::[],[some<|.box [.d<|.str a,.osl 2 1 0<|c.length,.osl 3 1 0<|e.length],some<|.box [.ptr 4 0],some<|.cut 5 1 c,some<|.arr 1<|e.map Af,some<|.box [.d<|.sl<|b.Arcs.map<|eL AF,.d<|.sl<|b.Accepts.map eB],some<|.arr 1<|v.map Af,some<|.box [.osl 5 1 f.1 f.2]]⟩
def Ja8:St:=⟨(2,.ptr 1 0)::(5,.ptr 6 0)::(7,.clo 54 [.ptr 6 0])::(12,.d<|.bool U)::[],[some<|.box [.d<|.str a,.osl 2 1 0<|c.length,.osl 3 1 0<|e.length],some<|.box [.ptr 4 0],some<|.cut 5 1 c,some<|.arr 1<|e.map Af,some<|.box [.d<|.sl<|b.Arcs.map<|eL AF,.d<|.sl<|b.Accepts.map eB],some<|.arr 1<|O.map Af,some<|.box [.osl 5 1 f.1 f.2]]⟩
def Ja9:St:=⟨(2,.ptr 1 0)::(5,.ptr 6 0)::(7,.clo 54 [.ptr 6 0])::(12,.d<|.bool p)::(13,.d<|.int .i64 m)::(97,.d<|.sl<|b.Arcs.map<|eL AF)::(98,.d<|.int .i64 ((b.Arcs.length:Nat):Int))::(99,.d<|.int .i64 m)::(104,.d<|.sl<|L.map AF)::(105,.d<|.int .i64 ((L.length:Nat):Int))::(106,.d<|.int .i64 V)::[],[some<|.box [.d<|.str a,.osl 2 1 0<|c.length,.osl 3 1 0<|e.length],some<|.box [.ptr 4 0],some<|.cut 5 1 c,some<|.arr 1<|e.map Af,some<|.box [.d<|.sl<|b.Arcs.map<|eL AF,.d<|.sl<|b.Accepts.map eB],some<|.arr 1<|o.map Af,some<|.box [.osl 5 1 f.1 f.2]]⟩
def Jba:St:=⟨(2,.ptr 1 0)::(5,.ptr 6 0)::(7,.clo 54 [.ptr 6 0])::(12,.d<|.bool W)::(97,.d<|.sl<|b.Arcs.map<|eL AF)::(98,.d<|.int .i64 ((b.Arcs.length:Nat):Int))::(99,.d<|.int .i64 m)::[],[some<|.box [.d<|.str a,.osl 2 1 0<|c.length,.osl 3 1 0<|e.length],some<|.box [.ptr 4 0],some<|.cut 5 1 c,some<|.arr 1<|e.map Af,some<|.box [.d<|.sl<|b.Arcs.map<|eL AF,.d<|.sl<|b.Accepts.map eB],some<|.arr 1<|P.map Af,some<|.box [.osl 5 1 f.1 f.2]]⟩
def Jbb:St:=⟨(2,.ptr 1 0)::(5,.ptr 6 0)::(7,.clo 54 [.ptr 6 0])::(12,.d<|.bool I)::(13,.d<|.int .i64 m)::(97,.d<|.sl<|b.Arcs.map<|eL AF)::(98,.d<|.int .i64 ((b.Arcs.length:Nat):Int))::(99,.d<|.int .i64 m)::(104,.d<|.sl<|L.map AF)::(105,.d<|.int .i64 ((L.length:Nat):Int))::(106,.d<|.int .i64 V)::[],[some<|.box [.d<|.str a,.osl 2 1 0<|c.length,.osl 3 1 0<|e.length],some<|.box [.ptr 4 0],some<|.cut 5 1 c,some<|.arr 1<|e.map Af,some<|.box [.d<|.sl<|b.Arcs.map<|eL AF,.d<|.sl<|b.Accepts.map eB],some<|.arr 1<|w.map Af,some<|.box [.osl 5 1 f.1 f.2]]⟩
def J8:((List Int)×Bool)->Ex->St->Prop:=xX 6 10<|λ (y:((List Int)×Bool))=>Jba a b c e f m y.1 y.2
def FN:((List Int)×Bool×Int)->St:=(λ (x:((List Int)×Bool×Int))=>Ja9 a b c e f m L x.1 x.2.1 x.2.2)
def J9:((List Int)×Bool)->Ex->St->Prop:=xX 6 8<|λ (y:((List Int)×Bool))=>Ja8 a b c e f y.1 y.2
def FO:((List Int)×Bool×Int)->St:=(λ (x:((List Int)×Bool×Int))=>Ja7 a b c e f x.1 x.2.1 x.2.2)
def Ka:(List Int)->Ex->St->Prop:=xX 6 6<|λ (y:(List Int))=>Ja6 a b c e f y
def FP:((List Int)×Bool)->St:=(λ (x:((List Int)×Bool))=>Ja5 a b c e f x.1 x.2)
variable {i a b c e X Z aa f A J Q B C l R K q S T r u E M v G m O U L o p V P W w I}
theorem I9 (x:((List Int)×Int)) (z:(((List Int)×Int)⊕(List Int))) (H:Bf n i a b c e f x.1 x.2=some z):WP (cxk 129 6) (Az Tryz.f53) [1,1,0,1,0,0] (Aw 6 (FK i a b c e f) (J5 i a b c e f) z) (FK i a b c e f x):=by
 obtain ⟨A,J⟩:=x;refine sr<|ck 1<|en<|sq<|cn H (λ H=>?_)<|λ H=>?_
 ·refine sk<|qz<|sj (λ (x:(List Int))=>JdA i a b c e f J x) (λ (x:(List Int))=>Bv n J x) z ?_ (λ j=>?_)
  ·intro B H;exact rz<|ck 2<|ae (by cases H;exact og<|sg [0,1,2,5,23,24])
  refine bk 1<|sr<|ck 2<|en<|sr<|ck 2<|bx H λ bj ab H=>sp (FZ 5 1 f.1 f.2<|Hq ab)<|bx H λ az a0 H=>stP Af 5 0 (f.1+Int.toNat J) (ty 3) (F3 ab) a0<|en<|sr<|ck 7<|gc 3 (i==((a.length:Nat):Int))<|ck 1<|bx H λ bl a2 H=>sE (λ hg=>Ap eB<|BA a2 hg)<|gc 1 (i==((a.length:Nat):Int))<|pA<|en<|cn H (λ H=>?_)<|λ H=>?_
  ·exact rz<|ck 2<|bx H λ bm ac H=>sp (FZ 5 1 f.1 f.2<|Hq ac)<|bx H λ a3 a4 H=>stP Af 5 0 (f.1+Int.toNat J) (ty 3) (F3 ac) a4<|ae<|qN<|qs (sg [0,1,2,5,23,24])<|j a3 H
  ·exact sk<|qN<|qs (sg [0,1,2,5,23,24])<|j az H
 ·exact ex 0<|qx (by cases H;exact xo rfl<|sg [0,1,2,5])
theorem Ja (x:((List Int)×Int)) (z:(((List Int)×Int)⊕(List Int))) (H:Bg n i a b c e f l K x.1 x.2=some z):WP (cxk 129 6) (Az Tryz.f53) [1,1,1,1,0,1,0,0,1,1,0,0,1,1,0,0] (Aw 6 (FL i a b c e f l K) (J6 i a b c e f l) z) (FL i a b c e f l K x):=by
 obtain ⟨q,S⟩:=x;refine sr<|ck 1<|en<|sq<|cn H (λ H=>?_)<|λ H=>?_
 ·refine sk<|qz<|sj (λ (x:(List Int))=>Ja4 i a b c e f l K S x) (λ (x:(List Int))=>Bw n S x) z ?_ (λ k=>?_)
  ·intro r H;exact rz<|ck 2<|ae (by cases H;exact og<|sg [0,1,2,5,7,8,52,53,54,59,60,61])
  refine bk 5<|sr<|bx H λ af a5 H=>sp (Ap AF a5)<|ck 3<|en<|sr<|ck 5<|gc 1 (!(af.Print==[]))<|ck 1<|bx H λ s2 a6 H=>sE (λ hg=>Il<|BA a6 hg)<|ck 1<|gc 1 (!(af.Print==[]))<|bx H λ bn a7 H=>cG false (leZ) rfl (λ hg=>KE<|BA a7 hg) (Or.inl rfl) (Cc (λ hh=>hh)<|Cc (λ hh=>hh)<|Ef) rfl<|pA<|en<|cn H (λ H=>?_)<|λ H=>?_
  ·exact rx 10 (.refl _)<|ck 10<|bx H λ bp a8 H=>xs (xok _ _) (g:=true) rfl (Ef) [2,3,5] (TQ a8) rfl<|ck 2<|mx 13<|bx H λ a9 ba H=>xc (xok _ _) [6,5] (FJ ba)<|ax<|qN<|qs (sg [0,1,2,5,7,8,52,53,54,59,60,61])<|k a9.1 H
  ·exact sk<|qN<|qs (sg [0,1,2,5,7,8,52,53,54,59,60,61])<|k q H
 ·exact ex 4<|qx (by cases H;exact xo rfl<|sg [0,1,2,5,7,52,53,54])
theorem Jb (x:((List Int)×Int)) (z:(((List Int)×Int)⊕(List Int))) (H:Bh n i a b c e f x.1 x.2=some z):WP (cxk 129 6) (Az Tryz.f53) [1,1,1,1,0,1,0,0] (Aw 6 (FM i a b c e f) (J7 a b c e f) z) (FM i a b c e f x):=by
 obtain ⟨C,l⟩:=x;refine sr<|ck 1<|en<|sq<|cn H (λ H=>?_)<|λ H=>?_
 ·exact sk<|qz<|sq<|bk 3<|sr<|ck 1<|bx H λ K bb H=>sp (Ap (eL AF) bb)<|ck 3<|en<|sr<|ck 1<|sp (AB AF K)<|ck 1<|en<|bk 4<|bx H λ bq bc H=>lX Ja bc (sg [0,1,2,5,7,8,52,53,54,59,60,61]) rfl λ s ag=>qH<|qN<|qs (ag)<|rz<|ck 2<|ae (by cases H;exact og<|sg [0,1,2,5,7,52,53,54])
 ·exact ex 2<|qx (by cases H;exact xo rfl<|sg [2,5,7])
theorem Jc (x:((List Int)×Bool×Int)) (z:(((List Int)×Bool×Int)⊕((List Int)×Bool))) (H:Bi n a b c e f m L x.1 x.2.1 x.2.2=some z):WP (cxk 129 6) (Az Tryz.f53) [1,1,1,1,1,0,1,0,0,1,0,1,1,0,0,1,1,0,0,1,1,0,0] (Aw 6 (FN a b c e f m L) (J8 a b c e f m) z) (FN a b c e f m L x):=by
 obtain ⟨o,p,V⟩:=x;refine sr<|ck 1<|en<|sq<|cn H (λ H=>?_)<|λ H=>?_
 ·refine sk<|qz<|sj (λ (x:((List Int)×Bool))=>Jbb a b c e f m L V x.1 x.2) (λ (x:((List Int)×Bool))=>A9 n V x.1 x.2) z ?_ (λ h=>?_)
  ·rintro ⟨w,I⟩ H;exact rz<|ck 2<|ae (by cases H;exact og<|sg [2,5,7,12,13,97,98,99,104,105,106])
  refine bk 11<|sr<|bx H λ Y bd H=>sp (Ap AF bd)<|ck 3<|en<|sq<|rx 13 (.refl _)<|ck 8<|gc 1 (Y.Print==[])<|bx H λ br ah H=>sE (λ hg=>FZ 5 1 f.1 f.2<|Hq<|BA ah hg)<|sE (g:=(Y.Print==[])) (λ hg=>M3 Af 5 0 (ty 3)<|F3<|BA ah hg)<|ck 1<|gc 1 (Y.Print==[])<|gsp (Y.Print==[]) H (λ hg H=>?_)<|λ hg H=>?_
  ·refine bx H λ ai be H=>xs (xok _ _) hg (Cc (λ hh=>hh)<|Cc (λ hh=>hh)<|Cc (λ hh=>hh)<|Cc (λ hh=>hh)<|Ef) [6,5] (FJ be) rfl<|mx 14<|pA<|ax<|qz<|cn H (λ H=>?_)<|λ H=>?_
   ·exact rz<|ck 1<|ae<|qN<|qs (sg [2,5,7,12,13,97,98,99,104,105,106])<|h (ai.1,true) H
   ·exact sk<|qN<|qs (sg [2,5,7,12,13,97,98,99,104,105,106])<|h (ai.1,p) H
  ·refine gsk hg (.d<|.bool false)<|mx 14<|pA<|ax<|qz<|cn H (λ H=>?_)<|λ H=>?_
   ·exact rz<|ck 1<|ae<|qN<|qs (sg [2,5,7,12,13,97,98,99,104,105,106])<|h (o,true) H
   ·exact sk<|qN<|qs (sg [2,5,7,12,13,97,98,99,104,105,106])<|h (o,p) H
 ·exact ex 10<|qx (by cases H;exact xo rfl<|sg [2,5,7,12,97,98,99])
theorem Jd (x:((List Int)×Bool×Int)) (z:(((List Int)×Bool×Int)⊕((List Int)×Bool))) (H:Bj n a b c e f x.1 x.2.1 x.2.2=some z):WP (cxk 129 6) (Az Tryz.f53) [1,1,1,1,1,0,1,0,0,1,0,1,1,0,0] (Aw 6 (FO a b c e f) (J9 a b c e f) z) (FO a b c e f x):=by
 obtain ⟨v,G,m⟩:=x;refine sr<|ck 1<|en<|sq<|cn H (λ H=>?_)<|λ H=>?_
 ·exact sk<|qz<|sq<|bk 9<|sr<|ck 1<|bx H λ L bf H=>sp (Ap (eL AF) bf)<|ck 3<|en<|sr<|ck 1<|sp (AB AF L)<|ck 1<|en<|bk 10<|bx H λ bt bg H=>lX Jc bg (sg [2,5,7,12,13,97,98,99,104,105,106]) rfl λ s aj=>qH<|qN<|qs (aj)<|rz<|ck 2<|ae (by cases H;exact og<|sg [2,5,7,12,97,98,99])
 ·exact ex 8<|qx (by cases H;exact xo rfl<|sg [2,5,7,12])
theorem Je (x:((List Int)×Bool)) (z:(((List Int)×Bool)⊕(List Int))) (H:Bx n a b c e f x.1 x.2=some z):WP (cxk 129 6) (Az Tryz.f53) [1,1,1,1,1,0,1,0,0] (Aw 6 (FP a b c e f) (Ka a b c e f) z) (FP a b c e f x):=by
 obtain ⟨u,E⟩:=x;refine sq<|sr<|ck 1<|en<|cn H (λ H=>?_)<|λ H=>?_
 ·exact sk<|qz<|bk 7<|sr<|ck 1<|en<|sr<|ck 4<|sp (AB (eL AF) b.Arcs)<|ck 1<|en<|bk 8<|bx H λ bu ak H=>lX Jd ak (sg [2,5,7,12,97,98,99]) rfl λ s al=>qH<|qN (by cases H;exact og<|tr (al)<|sg [2,5,7,12])
 ·exact ex 6<|qx (by cases H;exact xo rfl<|sg [5])
theorem GQ {z} (H:B3 n i a b c e X=some z):Ce Tryz.prog 53 [.d (.int .i64 i),.ptr 0 0,.ptr 1 0] [some (.box [.d (.str a),.osl 2 1 0 (c.length),.osl 3 1 0 (e.length)]),some (.box [.ptr 4 0]),some (.cut 5 1 c),some (.arr 1 (e.map Af)),some (.box [.d (.sl (b.Arcs.map (eL AF))),.d (.sl (b.Accepts.map eB))]),some (.arr 1 (X.map Af))] 6 (.d (.int .i64 z.2)) [some (.box [.d (.str a),.osl 2 1 0 (c.length),.osl 3 1 0 (e.length)]),some (.box [.ptr 4 0]),some (.cut 5 1 c),some (.arr 1 (e.map Af)),some (.box [.d (.sl (b.Arcs.map (eL AF))),.d (.sl (b.Accepts.map eB))]),some (.arr 1 (z.1.map Af))]:=by
 exact fL 129 6 (Jdw i a b c e X) Tryz.func53<|sr<|ck 1<|en<|sq<|rg (PJ (xs:=c) 2 5 1 (by kernel_rfl))<|ck 3<|bx H λ f am H=>sp (Av 2 1 am)<|sp (QM (t:=ty 35) 2 5 1 am)<|ck 2<|en<|sq<|sq<|rg (Ok (xs:=c) 2 5 1 (by kernel_rfl))<|ck 3<|en<|bk 0<|bx H λ bv bh H=>lX I9 bh (sg [0,1,2,5,23,24]) rfl λ s ap=>qH<|qs (ap)<|sr<|xm (xok _ _)<|ck 1<|en<|sq<|sr<|ck 4<|sp (AB (eL AF) b.Arcs)<|ck 1<|en<|bk 2<|bx H λ bw bi H=>lX Jb bi (sg [0,1,2,5,7,52,53,54]) rfl λ s ar=>qH<|qs (ar)<|sq<|sr<|ck 1<|en<|bk 6<|bx H λ bz au H=>lX Je au (sg [2,5,7,12]) rfl λ s av=>qH<|qs (av)<|sr<|ck 1<|bx H λ aw ay H=>lt [5] (UK ay)<|ck 1<|en<|re (by cases H;exact pL<|rl (s':=Jdx a b c e aw.1 aw.2)<|sg [4])
end
section
variable (e:Ad) (b:(List UInt8)) (c:AP) (a:((List (Nat×Nat))×(List Int)×(List Int))) (i:(List Int)) (j:(List Int)) (o:Int) (p:(List Int)) (l:(List Int))
def JiJ:St:=⟨(0,.agg [.d<|.int .i64 e.Modes,.d<|.int .u8 e.Accept,.d<|.sl<|e.Rules.map Ao])::(1,.d<|.str b)::[],[]⟩
def JiK:St:=⟨(4,.ptr 0 0)::(9,.ptr 1 0)::(10,.clo 53 [.ptr 2 0,.ptr 3 0])::(11,.d<|.int .i64 o)::[],[some<|.box [.d<|.str [],.osl 4 1 0<|List.length ([]:List (List Int)),.osl 5 1 0<|List.length ([]:List Int)],some<|.box [.d<|.str b,.osl 6 1 0<|a.1.length,.osl 7 1 0<|i.length],some<|.box [.d<|.str b,.osl 6 1 0<|a.1.length,.osl 7 1 0<|i.length],some<|.box [.ptr 8 0],some<|.arr 1<|List.map (eL Af) ([]:List (List Int)),some<|.arr 1<|List.map Af ([]:List Int),some<|.cut 9 1 a.1,some<|.arr 1<|i.map Af,some<|.box [.d<|.sl<|c.Arcs.map<|eL AF,.d<|.sl<|c.Accepts.map eB],some<|.arr 1<|j.map Af]⟩
def JiL:St:=⟨(4,.ptr 0 0)::(9,.ptr 1 0)::[],[some<|.box [.d<|.str [],.osl 2 1 0<|List.length ([]:List (List Int)),.osl 3 1 0<|List.length ([]:List Int)],some<|.box [.d<|.str b,.osl 4 1 0<|a.1.length,.osl 5 1 0<|p.length],some<|.arr 1<|List.map (eL Af) ([]:List (List Int)),some<|.arr 1<|List.map Af ([]:List Int),some<|.cut 6 1 a.1,some<|.arr 1<|p.map Af,some<|.arr 1<|l.map Af]⟩
def TR:((List Int)×(List Int))->Ex->St->Prop:=xX 0 0<|λ (y:((List Int)×(List Int)))=>JiL b a y.1 y.2
def Nc:((List Int)×(List Int)×Int)->St:=(λ (x:((List Int)×(List Int)×Int))=>JiK b c a x.1 x.2.1 x.2.2)
variable {e b c a i j o p l}
theorem Se (x:((List Int)×(List Int)×Int)) (z:(((List Int)×(List Int)×Int)⊕((List Int)×(List Int)))) (H:Fg n b c a x.1 x.2.1 x.2.2=some z):WP (cxk 43 0) (Az Tryz.f14) [1,1,1,1,1,0,1,0,0] (Aw 0 (Nc b c a) (TR b a) z) (Nc b c a x):=by
 obtain ⟨i,j,o⟩:=x;refine sq<|sr<|ck 2<|en<|cn H (λ H=>?_)<|λ H=>?_
 ·exact sk<|qz<|sq<|bk 1<|rx 5 (.refl _)<|ck 5<|bx H λ E q H=>xs (xok _ _) (g:=true) rfl (Ef) [2,3,6,7,8,9] (GQ q) rfl<|bx H λ G m H=>sp (Av 7 1 m)<|mx 7<|bx H λ I h H=>stA Af 7 0 (ty 3) m h<|ax<|qN<|qz<|rg (tr (tr (sn 36 7 1<|Bb h)<|snc 1 2 7 1<|Bb h)<|snc 2 2 7 1<|Bb h)<|ck 3<|ae (by cases H;exact og<|sg [4,9,10,11])
 ·exact ex 0<|qx (by cases H;exact xo rfl<|sg [4,9])
theorem Is {z} (H:Fh n e b=some z):AL Tryz.prog 14 [.agg (Ay e),.d (.str b)] (.tup [.agg [.d (.str z.1.Text),.d (.sl (z.1.Costs.map (eL Af))),.own 1 (z.1.Least.map Af)],.d (.int .i64 z.2)]):=by
 refine fO 43 (JiJ e b) Tryz.func14<|sr<|ck 3<|en<|sq<|sr<|ck 1<|bx H λ C r H=>ca true (JE r)<|ck 5<|en<|sr<|ck 2<|en<|cn H (λ H=>?_)<|λ H=>?_
 ·exact sr<|ck 4<|en<|re<|qr (by cases H;exact pr<|rT (vs:=[.agg [.d<|.str [],.d<|.nil,.d<|.nil],.d<|.int .i64 C.2]) []<|t1 (a1<|c1 vd<|c1 vn<|c1 vz<|c0)<|t1 (ad vd)<|t0)
 ·exact sk<|qz<|sr<|ck 1<|bx H λ c t H=>lt [] (Mb t)<|tb (f:=D8<|Dd [] 2 0) [some<|.box<|Ay e,some<|.box [.d<|.str [],.d<|.nil,.d<|.nil],some<|.box [.osl 3 1 0<|c.Arcs.length,.osl 4 1 0<|c.Accepts.length],some<|.narr 1<|c.Arcs.map<|nL 3 AF,some<|.arr 1<|c.Accepts.map eB] (po1<|po1<|po1<|pn1 (nL 3 AF) c.Arcs<|po1<|Pl.z)<|ck 1<|en<|sq<|rg (tr (PG (encN:=(nL 3 AF)) (encD:=(eL AF)) (xss:=c.Arcs) (sz:=1) 2 0 3 (by kernel_rfl) (by kernel_rfl) (λ _=>rfl)<|λ _=>rfl)<|fzc (enc:=eB) (xs:=c.Accepts) 2 1 4 1)<|ck 2<|bx H λ a u H=>lt [2] (If u)<|ck 2<|en<|sr<|ck 2<|bx H λ J v H=>lt [2,6,7,8] (HX v)<|ck 1<|en<|sq<|sr<|ck 3<|en<|bk 0<|bx H λ k w H=>lX Se w (tr (tr (BO 1 1 1 (by kernel_rfl))<|BO 1 2 1 (by kernel_rfl))<|sg [4,9,10,11]) rfl λ s A=>qH<|qs (A)<|sr<|ck 3<|ae<|bx H λ _ B H=>qs (tr (tr (PJ (xs:=a.1) 4 6 1 (by kernel_rfl))<|X4 (enc:=Af) (ys:=k.2) (xs:=a.1) 6 4 1 B (by kernel_rfl) (by kernel_rfl))<|Vx (sz:=1) (encN:=Jge Af) (encD:=(eL Af)) (xss:=QL k.2 a.1) 0 1 4 X6 (by kernel_rfl) (by kernel_rfl) (λ _=>rfl)<|λ _=>rfl)<|re (by cases H;exact pr<|rT (vs:=[.agg [.d<|.str b,.d<|.sl<|List.map (eL Af)<|QL k.2 a.1,.osl 5 1 0<|k.1.length],.d<|.int .i64 0]) [5]<|t1 (a1<|c1 vd<|c1 vd<|c1 vo<|c0)<|t1 (ad vd)<|t0)
end
section
variable (b:A5) (a:AP) (e:Bool) (c:Int)
def JdF:St:=⟨(0,.ptr 0 0)::(1,.agg [.d<|.str b.Text,.d<|.sl<|b.Costs.map<|eL Af,.d<|.sl<|b.Least.map Af])::[],[some<|.box [.osl 1 1 0<|a.Arcs.length,.osl 2 1 0<|a.Accepts.length],some<|.narr 1<|a.Arcs.map<|nL 3 AF,some<|.arr 1<|a.Accepts.map eB]⟩
def TT:St:=⟨(4,.d<|.bool e)::[],[some<|.box [.osl 1 1 0<|a.Arcs.length,.osl 2 1 0<|a.Accepts.length],some<|.narr 1<|a.Arcs.map<|nL 3 AF,some<|.arr 1<|a.Accepts.map eB]⟩
def JdG:St:=⟨(0,.ptr 0 0)::(26,.d<|.sl<|b.Costs.map<|eL Af)::(27,.d<|.int .i64 ((b.Costs.length:Nat):Int))::(28,.d<|.int .i64 c)::[],[some<|.box [.osl 1 1 0<|a.Arcs.length,.osl 2 1 0<|a.Accepts.length],some<|.narr 1<|a.Arcs.map<|nL 3 AF,some<|.arr 1<|a.Accepts.map eB]⟩
def JdH:St:=⟨[],[some<|.box [.osl 1 1 0<|a.Arcs.length,.osl 2 1 0<|a.Accepts.length],some<|.narr 1<|a.Arcs.map<|nL 3 AF,some<|.arr 1<|a.Accepts.map eB]⟩
def NZ:(Unit⊕Bool)->Ex->St->Prop:=xS (xX 3 0<|λ (_:Unit)=>JdH a)<|xL 3 ty Tryz.f27 (λ (y:Bool)=>.d<|.bool y)<|λ (_:Bool)=>[some<|.box [.osl 1 1 0<|a.Arcs.length,.osl 2 1 0<|a.Accepts.length],some<|.narr 1<|a.Arcs.map<|nL 3 AF,some<|.arr 1<|a.Accepts.map eB]
def Ig:Int->St:=(λ (x:Int)=>JdG b a x)
variable {b a e c}
theorem HY (x:Int) (z:(Int⊕(Unit⊕Bool))) (H:Cw n b a x=some z):WP (cxk 41 3) (Az Tryz.f27) [1,1,0,1,0,0] (Aw 3 (Ig b a) (NZ a) z) (Ig b a x):=by
 revert H;generalize x=c;intro H;refine sr<|ck 1<|en<|sq<|cn H (λ H=>?_)<|λ H=>?_
 ·refine sk<|qz<|sq<|bk 1<|sr<|bx H λ k h H=>sp (Ap (eL Af) h)<|ck 2<|en<|sr<|ck 1<|sp (AB Af k)<|ck 6<|en<|cn H (λ H=>?_)<|λ H=>?_
  ·exact sr<|ck 1<|en<|re<|qR<|qr (by cases H;exact lo rfl<|rl (s':=TT a false)<|gP [4] [0,1,2]<|po1<|pn1 (nL 3 AF) a.Arcs<|po1<|Pl.z)
  ·exact sk<|qN<|qz<|rz<|ck 2<|ae (by cases H;exact og<|gP [0,26,27,28] [0,1,2]<|po1<|pn1 (nL 3 AF) a.Arcs<|po1<|Pl.z)
 ·exact ex 0<|qx (by cases H;exact xo rfl<|gP [] [0,1,2]<|po1<|pn1 (nL 3 AF) a.Arcs<|po1<|Pl.z)
theorem PU {z} (H:DZ n b a=some z):Ce Tryz.prog 27 [.ptr 0 0,.agg (FI b)] [some (.box [.osl 1 1 0 (a.Arcs.length),.osl 2 1 0 (a.Accepts.length)]),some (.narr 1 (a.Arcs.map (nL 3 AF))),some (.arr 1 (a.Accepts.map eB))] 3 (.d (.bool z)) [some (.box [.osl 1 1 0 (a.Arcs.length),.osl 2 1 0 (a.Accepts.length)]),some (.narr 1 (a.Arcs.map (nL 3 AF))),some (.arr 1 (a.Accepts.map eB))]:=by
 refine fL 41 3 (JdF b a) Tryz.func27<|sr<|ck 2<|en<|sq<|sr<|ck 2<|sp (AB (eL Af) b.Costs)<|ck 7<|gc 1 (!(((b.Costs.length:Nat):Int) != (An .i64 ((b.Text.length:Nat):Int) 1)))<|sE (g:=(!(((b.Costs.length:Nat):Int) != (An .i64 ((b.Text.length:Nat):Int) 1)))) (λ hg=>AB Af b.Least)<|ck 1<|gc 4 (!(((b.Costs.length:Nat):Int) != (An .i64 ((b.Text.length:Nat):Int) 1)))<|pO<|en<|cn H (λ H=>?_)<|λ H=>?_
 ·exact sr<|ck 1<|en<|re<|qr (by cases H;exact pL<|rl (s':=TT a false)<|gP [4] [0,1,2]<|po1<|pn1 (nL 3 AF) a.Arcs<|po1<|Pl.z)
 ·refine sk<|qz<|sq<|sr<|ck 2<|sp (AB (eL Af) b.Costs)<|ck 1<|en<|bk 0<|bx H λ l f H=>?_;rcases l with m|o
  ·exact lX HY f (gP [0,26,27,28] [0,1,2]<|po1<|pn1 (nL 3 AF) a.Arcs<|po1<|Pl.z) rfl λ s i=>qH<|qs (i)<|sr<|ck 1<|en<|re (by cases H;exact pL<|rl (s':=TT a true)<|gP [4] [0,1,2]<|po1<|pn1 (nL 3 AF) a.Arcs<|po1<|Pl.z)
  ·exact lL HY f (gP [0,26,27,28] [0,1,2]<|po1<|pn1 (nL 3 AF) a.Arcs<|po1<|Pl.z) rfl λ s j=>qR<|qr (by cases H;exact pL j)
end
section
variable (c:(List Int)) (b:(Nat×Nat)) (a:(List Int)) (f:Bool) (e:Int)
def JdI:St:=⟨(0,.d<|.sl<|c.map Af)::(1,.osl 0 1 b.1 b.2)::[],[some<|.arr 1<|a.map Af]⟩
def TU:St:=⟨(4,.d<|.bool f)::[],[some<|.arr 1<|a.map Af]⟩
def JdJ:St:=⟨(0,.d<|.sl<|c.map Af)::(1,.osl 0 1 b.1 b.2)::(12,.d<|.int .i64 ((c.length:Nat):Int))::(13,.d<|.int .i64 e)::[],[some<|.arr 1<|a.map Af]⟩
def JdK:St:=⟨[],[some<|.arr 1<|a.map Af]⟩
def KF:(Unit⊕Bool)->Ex->St->Prop:=xS (xX 1 0<|λ (_:Unit)=>JdK a)<|xL 1 ty Tryz.f58 (λ (y:Bool)=>.d<|.bool y)<|λ (_:Bool)=>[some<|.arr 1<|a.map Af]
def GA:Int->St:=(λ (x:Int)=>JdJ c b a x)
variable {c b a f e}
theorem FQ (x:Int) (z:(Int⊕(Unit⊕Bool))) (H:BK n c b a x=some z):WP (cxk 26 1) (Az Tryz.f58) [1,1,0,1,0,0] (Aw 1 (GA c b a) (KF a) z) (GA c b a x):=by
 revert H;generalize x=e;intro H;refine sr<|ck 1<|en<|sq<|cn H (λ H=>?_)<|λ H=>?_
 ·refine sk<|qz<|sq<|bk 1<|sr<|ck 2<|en<|sr<|ck 2<|bx H λ m i H=>sp (Ap Af i)<|ck 3<|bx H λ o g H=>sp (FZ 0 1 b.1 b.2<|Hq g)<|sp (M3 Af 0 0 (ty 3)<|F3 g)<|ck 1<|en<|cn H (λ H=>?_)<|λ H=>?_
  ·exact sr<|ck 1<|en<|re<|qR<|qr (by cases H;exact lo rfl<|rl (s':=TU a false)<|sg [4])
  ·exact sk<|qN<|qz<|rz<|ck 2<|ae (by cases H;exact og<|sg [0,1,12,13])
 ·exact ex 0<|qx (by cases H;exact xo rfl<|sg [])
theorem My {z} (H:CP n c b a=some z):Ce Tryz.prog 58 [.d (.sl (c.map Af)),.osl 0 1 b.1 b.2] [some (.arr 1 (a.map Af))] 1 (.d (.bool z)) [some (.arr 1 (a.map Af))]:=by
 refine fL 26 1 (JdI c b a) Tryz.func58<|sr<|ck 1<|en<|sq<|sr<|ck 1<|sp (AB Af c)<|ck 3<|en<|cn H (λ H=>?_)<|λ H=>?_
 ·exact sr<|ck 1<|en<|re<|qr (by cases H;exact pL<|rl (s':=TU a false)<|sg [4])
 ·refine sk<|qz<|sq<|sr<|ck 1<|sp (AB Af c)<|ck 1<|en<|bk 0<|bx H λ l h H=>?_;rcases l with p|q
  ·exact lX FQ h (sg [0,1,12,13]) rfl λ s j=>qH<|qs (j)<|sr<|ck 1<|en<|re (by cases H;exact pL<|rl (s':=TU a true)<|sg [4])
  ·exact lL FQ h (sg [0,1,12,13]) rfl λ s k=>qR<|qr (by cases H;exact pL k)
end
section
variable (i:A5) (b:(List UInt8)) (k:Int) (a:(List (Nat×Nat))) (c:(List Int)) (f:(List Int)) (q:Int) (r:Bool) (j:Int) (h:Bool) (p:Int) (o:Int) (l:Int) (m:Bool)
def JdL:St:=⟨(0,.agg [.d<|.str i.Text,.d<|.sl<|i.Costs.map<|eL Af,.d<|.sl<|i.Least.map Af])::(1,.agg [.d<|.str b,.osl 0 1 0<|a.length,.osl 1 1 0<|c.length])::(2,.d<|.int .i64 k)::[],[some<|.cut 2 1 a,some<|.arr 1<|c.map Af,some<|.arr 1<|f.map Af]⟩
def TV:St:=⟨(6,.d<|.int .i64 q)::(7,.d<|.bool r)::[],[some<|.cut 2 1 a,some<|.arr 1<|c.map Af,some<|.arr 1<|f.map Af]⟩
def JdM:St:=⟨(2,.d<|.int .i64 k)::(3,.ptr 3 0)::(4,.ptr 4 0)::(8,.d<|.int .i64 j)::(9,.d<|.bool h)::(10,.d<|.int .i64 p)::[],[some<|.cut 2 1 a,some<|.arr 1<|c.map Af,some<|.arr 1<|f.map Af,some<|.box<|FI i,some<|.box [.d<|.str b,.osl 0 1 0<|a.length,.osl 1 1 0<|c.length]]⟩
def JdN:St:=⟨(8,.d<|.int .i64 o)::[],[some<|.cut 2 1 a,some<|.arr 1<|c.map Af,some<|.arr 1<|f.map Af]⟩
def JdO:St:=⟨(2,.d<|.int .i64 k)::(3,.ptr 3 0)::(4,.ptr 4 0)::(8,.d<|.int .i64 l)::(9,.d<|.bool m)::(10,.d<|.int .i64 p)::[],[some<|.cut 2 1 a,some<|.arr 1<|c.map Af,some<|.arr 1<|f.map Af,some<|.box<|FI i,some<|.box [.d<|.str b,.osl 0 1 0<|a.length,.osl 1 1 0<|c.length]]⟩
def PV:(Int⊕(Int×Bool))->Ex->St->Prop:=xS (xX 3 0<|λ (y:Int)=>JdN a c f y)<|xL 3 ty Tryz.f30 (λ (y:(Int×Bool))=>.tup [.d<|.int .i64 y.1,.d<|.bool y.2])<|λ (_:(Int×Bool))=>[some<|.cut 2 1 a,some<|.arr 1<|c.map Af,some<|.arr 1<|f.map Af]
def JI:(Int×Bool×Int)->St:=(λ (x:(Int×Bool×Int))=>JdM i b k a c f x.1 x.2.1 x.2.2)
variable {i b k a c f q r j h p o l m}
theorem IU (x:(Int×Bool×Int)) (z:((Int×Bool×Int)⊕(Int⊕(Int×Bool)))) (H:Da n i b k a c f x.1 x.2.1 x.2.2=some z):WP (cxk 64 3) (Az Tryz.f30) [1,1,0,1,0,0] (Aw 3 (JI i b k a c f) (PV a c f) z) (JI i b k a c f x):=by
 obtain ⟨j,h,p⟩:=x;refine sq<|sr<|ck 4<|en<|cn H (λ H=>?_)<|λ H=>?_
 ·refine sk<|qz<|sj (λ (x:(Int×Bool))=>JdO i b k a c f p x.1 x.2) (λ (x:(Int×Bool))=>C9 n p x.1 x.2) z ?_ (λ e=>?_)
  ·rintro ⟨l,m⟩ H;exact rz<|ck 3<|ae (by cases H;exact og<|sg [2,3,4,8,9,10])
  refine bk 1<|sq<|sq<|rx 10 (PJ (xs:=a) 0 2 1 (by kernel_rfl))<|ck 3<|bx H λ Q C H=>sp (Ap (eL Af) C)<|ck 4<|bx H λ R u H=>sp (Av 0 1 u)<|sp (QM (t:=ty 35) 0 2 1 u)<|bx H λ S E H=>xs (xok _ _) (g:=true) rfl (Ef) [2] (My E) rfl<|mx 11<|ck 1<|ax<|qz<|cn H (λ H=>?_)<|λ H=>?_
  ·exact sq<|rg (Ok (xs:=a) 0 2 1 (by kernel_rfl))<|ck 2<|en<|re<|qr<|qR<|qr (by cases H;exact lo rfl<|rl (s':=TV a c f 0 false)<|sg [6,7])
  ·refine sk<|qz<|sq<|sq<|rg (Ok (xs:=a) 0 2 1 (by kernel_rfl))<|ck 3<|bx H λ B G H=>sp (Ap Af G)<|ck 4<|gc 1 (!(decide<|B<0))<|ck 1<|bx H λ T v H=>sE (λ hg=>Av 1 1<|BA v hg)<|sE (g:=(!(decide<|B<0))) (λ hg=>C0 Af 1 0 (ty 3)<|BA v hg)<|gc 1 (!(decide<|B<0))<|pO<|en<|cn H (λ H=>?_)<|λ H=>?_
   ·exact ex 1<|qx<|qH<|qs (sg [2,3,4,8,9,10])<|e (j,h) H
   ·refine sk<|qz<|sr<|ck 3<|bx H λ L w H=>sp (Av 1 1 w)<|sp (C0 Af 1 0 (ty 3) w)<|ck 3<|bx H λ M I H=>sp (Ap Af I)<|ck 3<|en<|sq<|sr<|ck 4<|gc 1 h<|pA<|en<|cn H (λ H=>?_)<|λ H=>?_
    ·exact sr<|ck 2<|en<|re<|qr<|qR<|qr (by cases H;exact lo rfl<|rl (s':=TV a c f 0 false)<|sg [6,7])
    ·exact sk<|qz<|rz<|ck 3<|ae<|qN<|qs (sg [2,3,4,8,9,10])<|e ((DL .i64 L M),true) H
 ·exact ex 0<|qx (by cases H;exact xo rfl<|sg [8])
theorem Sf {z} (H:Fi n i b k a c f=some z):Ce Tryz.prog 30 [.agg (FI i),.agg [.d (.str b),.osl 0 1 0 (a.length),.osl 1 1 0 (c.length)],.d (.int .i64 k)] [some (.cut 2 1 a),some (.arr 1 (c.map Af)),some (.arr 1 (f.map Af))] 3 (.tup [.d (.int .i64 z.1),.d (.bool z.2)]) [some (.cut 2 1 a),some (.arr 1 (c.map Af)),some (.arr 1 (f.map Af))]:=by
 refine fL 64 3 (JdL i b k a c f) Tryz.func30<|sr<|ck 4<|en<|sr<|ck 2<|en<|sq<|sr<|ck 2<|en<|bk 0<|bx H λ O A H=>?_;rcases O with P|U
 ·exact lX IU A (sg [2,3,4,8,9,10]) rfl λ s J=>qH<|qs (J)<|sr<|ck 3<|en<|re (by cases H;exact pL<|rl (s':=TV a c f P true)<|sg [6,7])
 ·exact lL IU A (sg [2,3,4,8,9,10]) rfl λ s K=>qR<|qr (by cases H;exact pL K)
end
section
variable (B:Ad) (c:A5) (b:C5) (o:(List UInt8)) (e:AP) (a:((List (Nat×Nat))×(List Int)×(List Int))) (p:(List Int)) (L:(List Int)) (ag:Int) (u:(List Int)) (U:(List Int)) (h:(List Int)) (M:(List Int)) (i:Int) (K:Int) (v:(List Int)) (V:(List Int)) (C:Int) (G:Int) (E:Int) (j:(List Int)) (O:(List Int)) (m:((List Int)×(List Int)×Int×Int×Int)) (q:(List Int)) (P:(List Int)) (A:Int) (w:(List Int)) (W:(List Int)) (r:(List Int)) (Q:(List Int))
def JiM:St:=⟨(0,.agg [.d<|.int .i64 B.Modes,.d<|.int .u8 B.Accept,.d<|.sl<|B.Rules.map Ao])::(1,.agg [.d<|.str c.Text,.d<|.sl<|c.Costs.map<|eL Af,.d<|.sl<|c.Least.map Af])::(2,.agg [.d<|.int .i64 b.At,.d<|.int .i64 b.Cut,.d<|.str b.Put])::[],[]⟩
def JiN:St:=⟨(4,.ptr 0 0)::(5,.ptr 1 0)::(6,.ptr 2 0)::(10,.d<|.str o)::(13,.ptr 3 0)::(14,.ptr 4 0)::(15,.d<|.int .i64<|An .i64 b.At ((b.Put.length:Nat):Int))::(16,.d<|.int .i64 ag)::[],[some<|.box<|FI c,some<|.box<|Iq b,some<|.box [.d<|.str [],.osl 5 1 0<|List.length ([]:List (List Int)),.osl 6 1 0<|List.length ([]:List Int)],some<|.box [.d<|.sl<|e.Arcs.map<|eL AF,.d<|.sl<|e.Accepts.map eB],some<|.box [.d<|.str o,.osl 7 1 0<|a.1.length,.osl 8 1 0<|p.length],some<|.arr 1<|List.map (eL Af) ([]:List (List Int)),some<|.arr 1<|List.map Af ([]:List Int),some<|.cut 9 1 a.1,some<|.arr 1<|p.map Af,some<|.arr 1<|L.map Af]⟩
def JiO:St:=⟨(4,.ptr 0 0)::(5,.ptr 1 0)::(6,.ptr 2 0)::(13,.ptr 3 0)::(14,.ptr 4 0)::(15,.d<|.int .i64<|An .i64 b.At ((b.Put.length:Nat):Int))::[],[some<|.box<|FI c,some<|.box<|Iq b,some<|.box [.d<|.str [],.osl 5 1 0<|List.length ([]:List (List Int)),.osl 6 1 0<|List.length ([]:List Int)],some<|.box [.d<|.sl<|e.Arcs.map<|eL AF,.d<|.sl<|e.Accepts.map eB],some<|.box [.d<|.str o,.osl 7 1 0<|a.1.length,.osl 8 1 0<|u.length],some<|.arr 1<|List.map (eL Af) ([]:List (List Int)),some<|.arr 1<|List.map Af ([]:List Int),some<|.cut 9 1 a.1,some<|.arr 1<|u.map Af,some<|.arr 1<|U.map Af]⟩
def Sg:((List Int)×(List Int))->Ex->St->Prop:=xX 0 0<|λ (y:((List Int)×(List Int)))=>JiO c b o e a y.1 y.2
def Me:((List Int)×(List Int)×Int)->St:=(λ (x:((List Int)×(List Int)×Int))=>JiN c b o e a x.1 x.2.1 x.2.2)
def JiP:St:=⟨(4,.ptr 0 0)::(5,.ptr 1 0)::(6,.ptr 2 0)::(14,.ptr 3 0)::(18,.clo 53 [.ptr 4 0,.ptr 5 0])::(19,.d<|.int .i64 i)::(20,.d<|.int .i64 0)::(21,.d<|.int .i64 0)::(22,.d<|.int .i64 K)::[],[some<|.box<|FI c,some<|.box<|Iq b,some<|.box [.d<|.str [],.osl 6 1 0<|List.length ([]:List (List Int)),.osl 7 1 0<|List.length ([]:List Int)],some<|.box [.d<|.str o,.osl 8 1 0<|a.1.length,.osl 9 1 0<|h.length],some<|.box [.d<|.str o,.osl 8 1 0<|a.1.length,.osl 9 1 0<|h.length],some<|.box [.ptr 10 0],some<|.arr 1<|List.map (eL Af) ([]:List (List Int)),some<|.arr 1<|List.map Af ([]:List Int),some<|.cut 11 1 a.1,some<|.arr 1<|h.map Af,some<|.box [.d<|.sl<|e.Arcs.map<|eL AF,.d<|.sl<|e.Accepts.map eB],some<|.arr 1<|M.map Af]⟩
def JiQ:St:=⟨(4,.ptr 0 0)::(6,.ptr 1 0)::(14,.ptr 2 0)::(19,.d<|.int .i64 C)::(20,.d<|.int .i64 G)::(21,.d<|.int .i64 E)::[],[some<|.box<|FI c,some<|.box [.d<|.str [],.osl 3 1 0<|List.length ([]:List (List Int)),.osl 4 1 0<|List.length ([]:List Int)],some<|.box [.d<|.str o,.osl 5 1 0<|a.1.length,.osl 6 1 0<|v.length],some<|.arr 1<|List.map (eL Af) ([]:List (List Int)),some<|.arr 1<|List.map Af ([]:List Int),some<|.cut 7 1 a.1,some<|.arr 1<|v.map Af,some<|.arr 1<|V.map Af]⟩
def JiR:St:=⟨(4,.ptr 0 0)::(5,.ptr 1 0)::(6,.ptr 2 0)::(14,.ptr 3 0)::(18,.clo 53 [.ptr 4 0,.ptr 5 0])::(19,.d<|.int .i64<|An .i64 i 1)::(20,.d<|.int .i64 0)::(21,.d<|.int .i64 0)::(22,.d<|.int .i64 K)::[],[some<|.box<|FI c,some<|.box<|Iq b,some<|.box [.d<|.str [],.osl 6 1 0<|List.length ([]:List (List Int)),.osl 7 1 0<|List.length ([]:List Int)],some<|.box [.d<|.str o,.osl 8 1 0<|a.1.length,.osl 9 1 0<|j.length],some<|.box [.d<|.str o,.osl 8 1 0<|a.1.length,.osl 9 1 0<|j.length],some<|.box [.ptr 10 0],some<|.arr 1<|List.map (eL Af) ([]:List (List Int)),some<|.arr 1<|List.map Af ([]:List Int),some<|.cut 11 1 a.1,some<|.arr 1<|j.map Af,some<|.box [.d<|.sl<|e.Arcs.map<|eL AF,.d<|.sl<|e.Accepts.map eB],some<|.arr 1<|O.map Af]⟩
def Si:((List Int)×(List Int)×Int×Int×Int)->Ex->St->Prop:=xX 0 2<|λ (y:((List Int)×(List Int)×Int×Int×Int))=>JiQ c o a y.1 y.2.1 y.2.2.1 y.2.2.2.1 y.2.2.2.2
def Mf:((List Int)×(List Int)×Int×Int)->St:=(λ (x:((List Int)×(List Int)×Int×Int))=>JiP c b o e a x.1 x.2.1 x.2.2.1 x.2.2.2)
def JiS:St:=⟨(4,.ptr 0 0)::(6,.ptr 1 0)::(14,.ptr 2 0)::(19,.d<|.int .i64 m.2.2.1)::(21,.d<|.int .i64 m.2.2.2.2)::(163,.d<|.int .i64 m.2.2.2.1)::(164,.d<|.int .i64 A)::[],[some<|.box<|FI c,some<|.box [.d<|.str [],.osl 3 1 0<|List.length ([]:List (List Int)),.osl 4 1 0<|List.length ([]:List Int)],some<|.box [.d<|.str o,.osl 5 1 0<|a.1.length,.osl 6 1 0<|q.length],some<|.arr 1<|List.map (eL Af) ([]:List (List Int)),some<|.arr 1<|List.map Af ([]:List Int),some<|.cut 7 1 a.1,some<|.arr 1<|q.map Af,some<|.arr 1<|P.map Af]⟩
def JiT:St:=⟨(6,.ptr 0 0)::(14,.ptr 1 0)::(19,.d<|.int .i64 m.2.2.1)::[],[some<|.box [.d<|.str [],.osl 2 1 0<|List.length ([]:List (List Int)),.osl 3 1 0<|List.length ([]:List Int)],some<|.box [.d<|.str o,.osl 4 1 0<|a.1.length,.osl 5 1 0<|w.length],some<|.arr 1<|List.map (eL Af) ([]:List (List Int)),some<|.arr 1<|List.map Af ([]:List Int),some<|.cut 6 1 a.1,some<|.arr 1<|w.map Af,some<|.arr 1<|W.map Af]⟩
def JiU:St:=⟨(4,.ptr 0 0)::(6,.ptr 1 0)::(14,.ptr 2 0)::(19,.d<|.int .i64 m.2.2.1)::(21,.d<|.int .i64 m.2.2.2.2)::(163,.d<|.int .i64 m.2.2.2.1)::(164,.d<|.int .i64 A)::[],[some<|.box<|FI c,some<|.box [.d<|.str [],.osl 3 1 0<|List.length ([]:List (List Int)),.osl 4 1 0<|List.length ([]:List Int)],some<|.box [.d<|.str o,.osl 5 1 0<|a.1.length,.osl 6 1 0<|r.length],some<|.arr 1<|List.map (eL Af) ([]:List (List Int)),some<|.arr 1<|List.map Af ([]:List Int),some<|.cut 7 1 a.1,some<|.arr 1<|r.map Af,some<|.arr 1<|Q.map Af]⟩
def Sj:((List Int)×(List Int))->Ex->St->Prop:=xX 0 4<|λ (y:((List Int)×(List Int)))=>JiT o a m y.1 y.2
def Mg:((List Int)×(List Int)×Int)->St:=(λ (x:((List Int)×(List Int)×Int))=>JiS c o a m x.1 x.2.1 x.2.2)
variable {B c b o e a p L ag u U h M i K v V C G E j O m q P A w W r Q}
theorem QY (x:((List Int)×(List Int)×Int)) (z:(((List Int)×(List Int)×Int)⊕((List Int)×(List Int)))) (H:Dk n c b o e a x.1 x.2.1 x.2.2=some z):WP (cxk 204 0) (Az Tryz.f11) [1,0,1,1,1,1,1,1,1,1,0,1,0,0] (Aw 0 (Me c b o e a) (Sg c b o e a) z) (Me c b o e a x):=by
 obtain ⟨p,L,ag⟩:=x;refine sq<|sr<|ck 4<|en<|cn H (λ H=>?_)<|λ H=>?_
 ·exact sk<|qz<|sq<|bk 1<|sr<|ck 9<|en<|sq<|rx 11 (PJ (xs:=a.1) 7 9 1 (by kernel_rfl))<|ck 3<|bx H λ ah X H=>sp (Av 7 1 X)<|sp (QM (t:=ty 35) 7 9 1 X)<|ck 3<|bx H λ bm ai H=>sp (Ap (eL Af) ai)<|ck 1<|mx 10<|bx H λ bn aj H=>xpP (xok _ _) Af 9 1 ah.1 ah.2 aj Jlg (λ _=>rfl)<|ax<|qz<|rg (Ok (xs:=a.1) 7 9 1 (by kernel_rfl))<|ck 6<|bx H λ bp ak H=>sp (Ap Af ak)<|ck 1<|bx H λ bq Y H=>sp (Av 8 1 Y)<|bx H λ br R H=>stA Af 8 0 (ty 3) Y R<|ae<|qN<|qz<|rg (tr (sn 122 8 1<|Bb R)<|snc 4 2 8 1<|Bb R)<|ck 3<|ae (by cases H;exact og<|sg [4,5,6,10,13,14,15,16])
 ·exact ex 0<|qx (by cases H;exact xo rfl<|sg [4,5,6,13,14,15])
theorem QZ (x:((List Int)×(List Int)×Int×Int)) (z:(((List Int)×(List Int)×Int×Int)⊕((List Int)×(List Int)×Int×Int×Int))) (H:DR n c b o e a x.1 x.2.1 x.2.2.1 x.2.2.2=some z):WP (cxk 204 0) (Az Tryz.f11) [1,0,1,1,1,1,1,1,1,1,1,1,1,1,0,1,0,0] (Aw 0 (Mf c b o e a) (Si c o a) z) (Mf c b o e a x):=by
 obtain ⟨h,M,i,K⟩:=x;refine sq<|sr<|ck 2<|en<|cn H (λ H=>?_)<|λ H=>?_
 ·refine sk<|qz<|sj (λ (x:((List Int)×(List Int)))=>JiR c b o e a i K x.1 x.2) (λ (x:((List Int)×(List Int)))=>DQ n i K x.1 x.2) z ?_ (λ k=>?_)
  ·rintro ⟨j,O⟩ H;exact rz<|ck 3<|ae (by cases H;exact og<|sg [4,5,6,14,18,19,20,21,22])
  refine bk 3<|sq<|rx 5 (.refl _)<|ck 5<|bx H λ al am H=>xs (xok _ _) (g:=true) rfl (Ef) [4,5,8,9,10,11] (GQ am) rfl<|bx H λ bt Z H=>sp (Av 9 1 Z)<|mx 7<|bx H λ ap I H=>stA Af 9 0 (ty 3) Z I<|ax<|qz<|sq<|rg (tr (tr (sn 140 9 1<|Bb I)<|snc 3 2 9 1<|Bb I)<|snc 4 2 9 1<|Bb I)<|ck 3<|en<|sq<|sr<|ck 5<|en<|cn H (λ H=>?_)<|λ H=>?_
  ·exact ex 3<|qx<|qH<|qs (sg [4,5,6,14,18,19,20,21,22])<|k (ap,al.1) H
  ·refine sk<|qz<|sr<|ck 3<|bx H λ bu ar H=>lt [8,9,11] (Sf ar)<|ck 5<|en<|sr<|ck 1<|en<|cn H (λ H=>?_)<|λ H=>?_
   ·exact sr<|ck 4<|en<|ex 2<|qX rfl<|qx (by cases H;exact xo rfl<|sg [4,6,14,19,20,21])
   ·exact sk<|qN<|qs (sg [4,5,6,14,18,19,20,21,22])<|k (ap,al.1) H
 ·exact ex 2<|qx (by cases H;exact xo rfl<|sg [4,6,14,19,20,21])
theorem Q0 (x:((List Int)×(List Int)×Int)) (z:(((List Int)×(List Int)×Int)⊕((List Int)×(List Int)))) (H:Dl n c o a m x.1 x.2.1 x.2.2=some z):WP (cxk 204 0) (Az Tryz.f11) [1,0,1,1,1,1,1,1,1,1,1,1,1,1,1,0,1,0,0] (Aw 0 (Mg c o a m) (Sj o a m) z) (Mg c o a m x):=by
 obtain ⟨q,P,A⟩:=x;refine sr<|ck 1<|en<|sq<|cn H (λ H=>?_)<|λ H=>?_
 ·refine sk<|qz<|sj (λ (x:((List Int)×(List Int)))=>JiU c o a m A x.1 x.2) (λ (x:((List Int)×(List Int)))=>DS n A x.1 x.2) z ?_ (λ l=>?_)
  ·rintro ⟨r,Q⟩ H;exact rz<|ck 2<|ae (by cases H;exact og<|sg [4,6,14,19,21,163,164])
  refine bk 5<|sr<|ck 2<|en<|sq<|rx 11 (PJ (xs:=a.1) 5 7 1 (by kernel_rfl))<|ck 3<|bx H λ au aa H=>sp (Av 5 1 aa)<|sp (QM (t:=ty 35) 5 7 1 aa)<|ck 3<|bx H λ bv av H=>sp (Ap (eL Af) av)<|ck 1<|mx 10<|bx H λ aw ay H=>xpP (xok _ _) Af 7 1 au.1 au.2 ay Jlg (λ _=>rfl)<|ax<|qz<|sq<|rg (Ok (xs:=a.1) 5 7 1 (by kernel_rfl))<|ck 6<|bx H λ bw az H=>sp (Ap Af az)<|ck 1<|bx H λ bz ab H=>sp (Av 6 1 ab)<|bx H λ bi S H=>stA Af 6 0 (ty 3) ab S<|en<|sq<|rg (tr (sn 179 6 1<|Bb S)<|snc 2 2 6 1<|Bb S)<|ck 3<|bx H λ b0 a0 H=>sp (Ap Af a0)<|ck 2<|en<|cn H (λ H=>?_)<|λ H=>?_
  ·exact rz<|ck 3<|bx H λ b1 ac H=>sp (Av 6 1 ac)<|sp (C0 Af 6 0 (ty 3) ac)<|ck 2<|bx H λ b2 af H=>sp (Av 6 1 af)<|bx H λ bj J H=>stA Af 6 0 (ty 3) af J<|ae<|qN<|qs (tr (tr (tr (sn 179 6 1<|Bb J)<|sn 194 6 1<|Bb J)<|snc 2 2 6 1<|Bb J)<|sg [4,6,14,19,21,163,164])<|l (bj,aw) H
  ·exact sk<|qN<|qs (sg [4,6,14,19,21,163,164])<|l (bi,aw) H
 ·exact ex 4<|qx (by cases H;exact xo rfl<|sg [6,14,19])
theorem HG {z} (H:Eh n B c b=some z):AL Tryz.prog 11 [.agg (Ay B),.agg (FI c),.agg (Iq b)] (.tup [.agg [.d (.str z.1.Text),.d (.sl (z.1.Costs.map (eL Af))),.own 1 (z.1.Least.map Af)],.d (.int .i64 z.2.1),.d (.int .i64 z.2.2)]):=by
 refine fO 204 (JiM B c b) Tryz.func11<|sr<|ck 6<|en<|sc<|sr<|ck 4<|en<|sq<|sr<|ck 5<|gc 2 (!(decide<|b.At<0))<|pO<|ck 2<|gc 1 (!((decide<|b.At<0)||(decide<|b.Cut<0)))<|ck 1<|gc 1 (!((decide<|b.At<0)||(decide<|b.Cut<0)))<|pO<|ck 2<|gc 1 (!(((decide<|b.At<0)||(decide<|b.Cut<0))||(decide<|b.At>((c.Text.length:Nat):Int))))<|ck 2<|gc 3 (!(((decide<|b.At<0)||(decide<|b.Cut<0))||(decide<|b.At>((c.Text.length:Nat):Int))))<|pO<|en<|cn H (λ H=>?_)<|λ H=>?_
 ·exact sr<|ck 4<|en<|re<|qr (by cases H;exact pr<|rT (vs:=[.agg [.d<|.str [],.d<|.nil,.d<|.nil],.d<|.int .i64 0,.d<|.int .i64 1]) []<|t1 (a1<|c1 vd<|c1 vn<|c1 vz<|c0)<|t1 (ad vd)<|t1 (ad vd)<|t0)
 ·refine sk<|qz<|sr<|ck 4<|bx H λ s3 a2 H=>sp (Il a2)<|ck 2<|bx H λ s4 a3 H=>sp (QJ a3)<|ck 7<|bx H λ s5 a4 H=>sp (Il a4)<|bx H λ o a5 H=>sp (QJ a5)<|ck 1<|en<|sq<|sr<|ck 1<|bx H λ bl a6 H=>ca true (JE a6)<|ck 5<|en<|sr<|ck 2<|en<|cn H (λ H=>?_)<|λ H=>?_
  ·exact sr<|ck 5<|en<|re<|qr (by cases H;exact pr<|rT (vs:=[.agg [.d<|.str [],.d<|.nil,.d<|.nil],.d<|.int .i64 0,.d<|.int .i64 bl.2]) []<|t1 (a1<|c1 vd<|c1 vn<|c1 vz<|c0)<|t1 (ad vd)<|t1 (ad vd)<|t0)
  ·refine sk<|qz<|sr<|ck 1<|bx H λ e a7 H=>lt [] (Mb a7)<|tb (f:=D8<|Dd [] 4 0) [some<|.box<|Ay B,some<|.box<|FI c,some<|.box<|Iq b,some<|.box [.d<|.str [],.d<|.nil,.d<|.nil],some<|.box [.osl 5 1 0<|e.Arcs.length,.osl 6 1 0<|e.Accepts.length],some<|.narr 1<|e.Arcs.map<|nL 3 AF,some<|.arr 1<|e.Accepts.map eB] (po1<|po1<|po1<|po1<|po1<|pn1 (nL 3 AF) e.Arcs<|po1<|Pl.z)<|ck 1<|en<|sq<|sr<|ck 2<|bx H λ b3 a8 H=>ltP [4,5,6] (PU a8) (po1<|pn1 (nL 3 AF) e.Arcs<|po1<|Pl.z)<|tb (f:=D8<|Dd [4,5,6] 7 3) [some<|.box<|Ay B,some<|.box<|FI c,some<|.box<|Iq b,some<|.box [.d<|.str [],.d<|.nil,.d<|.nil],some<|.box [.osl 5 1 0<|e.Arcs.length,.osl 6 1 0<|e.Accepts.length],some<|.narr 1<|e.Arcs.map<|nL 3 AF,some<|.arr 1<|e.Accepts.map eB] (po1<|po1<|po1<|po1<|po1<|pn1 (nL 3 AF) e.Arcs<|po1<|Pl.z)<|ck 1<|en<|cn H (λ H=>?_)<|λ H=>?_
   ·exact sr<|ck 4<|en<|re<|qr (by cases H;exact pr<|rT (vs:=[.agg [.d<|.str [],.d<|.nil,.d<|.nil],.d<|.int .i64 0,.d<|.int .i64 1]) []<|t1 (a1<|c1 vd<|c1 vn<|c1 vz<|c0)<|t1 (ad vd)<|t1 (ad vd)<|t0)
   ·exact sk<|qz<|sq<|rg (tr (PG (encN:=(nL 3 AF)) (encD:=(eL AF)) (xss:=e.Arcs) (sz:=1) 4 0 5 (by kernel_rfl) (by kernel_rfl) (λ _=>rfl)<|λ _=>rfl)<|fzc (enc:=eB) (xs:=e.Accepts) 4 1 6 1)<|ck 2<|bx H λ a a9 H=>lt [4] (If a9)<|ck 2<|en<|sr<|ck 7<|en<|sq<|sr<|ck 2<|en<|bk 0<|bx H λ b4 ba H=>lX QY ba (tr (tr (BO 3 1 1 (by kernel_rfl))<|BO 3 2 1 (by kernel_rfl))<|sg [4,5,6,10,13,14,15,16]) rfl λ s bb=>qH<|qs (bb)<|sr<|ck 2<|bx H λ b5 bc H=>lt [3,7,8,9] (HX bc)<|ck 1<|en<|sr<|ck 3<|en<|sq<|lbl<|qz<|sq<|sr<|ck 3<|en<|bk 2<|bx H λ m bd H=>lX QZ bd (sg [4,5,6,14,18,19,20,21,22]) rfl λ s be=>qH<|qs (be)<|sq<|sr<|ck 2<|en<|bk 4<|bx H λ T bf H=>lX Q0 bf (sg [4,6,14,19,21,163,164]) rfl λ s bg=>qH<|qs (bg)<|sr<|ck 5<|ae<|bx H λ _ bh H=>qs (tr (tr (PJ (xs:=a.1) 4 6 1 (by kernel_rfl))<|X4 (enc:=Af) (ys:=T.2) (xs:=a.1) 6 4 1 bh (by kernel_rfl) (by kernel_rfl))<|Vx (sz:=1) (encN:=Jge Af) (encD:=(eL Af)) (xss:=QL T.2 a.1) 0 1 4 X6 (by kernel_rfl) (by kernel_rfl) (λ _=>rfl)<|λ _=>rfl)<|re (by cases H;exact pr<|rT (vs:=[.agg [.d<|.str o,.d<|.sl<|List.map (eL Af)<|QL T.2 a.1,.osl 5 1 0<|T.1.length],.d<|.int .i64 m.2.2.1,.d<|.int .i64 0]) [5]<|t1 (a1<|c1 vd<|c1 vd<|c1 vo<|c0)<|t1 (ad vd)<|t1 (ad vd)<|t0)
end
section
variable (a:(List UInt8)) (b:Int)
def JiV:St:=⟨(0,.d<|.str a)::[],[]⟩
def JiW:St:=⟨(0,.d<|.str a)::(5,.d<|.int .i64 ((a.length:Nat):Int))::(6,.d<|.int .i64 b)::[],[]⟩
def JiX:St:=⟨[],[]⟩
def PW:(Unit⊕Bool)->Ex->St->Prop:=xS (xX 0 0<|λ (_:Unit)=>JiX)<|xR ty Tryz.f88<|λ (y:Bool)=>.d<|.bool y
def JJ:Int->St:=(λ (x:Int)=>JiW a x)
variable {a b}
theorem IV (x:Int) (z:(Int⊕(Unit⊕Bool))) (H:Dy n a x=some z):WP (cxk 15 0) (Az Tryz.f88) [1,0,1,0,0] (Aw 0 (JJ a) (PW) z) (JJ a x):=by
 revert H;generalize x=b;intro H;refine sr<|ck 1<|en<|sq<|cn H (λ H=>?_)<|λ H=>?_
 ·refine sk<|qz<|sq<|bk 1<|sr<|ck 2<|en<|sr<|ck 2<|bx H λ m e H=>sp (HD e)<|bx H λ j f H=>ca false (Ir f)<|ck 1<|en<|cn H (λ H=>?_)<|λ H=>?_
  ·exact sr<|ck 1<|en<|re<|qR<|qr (by cases H;exact ro rfl rd)
  ·exact sk<|qN<|qz<|rz<|ck 2<|ae (by cases H;exact og<|sg [0,5,6])
 ·exact ex 0<|qx (by cases H;exact xo rfl<|sg [])
theorem Sk {z} (H:Fj n a=some z):AL Tryz.prog 88 [.d (.str a)] (.d (.bool z)):=by
 refine fO 15 (JiV a) Tryz.func88<|sr<|ck 1<|en<|sq<|sr<|ck 3<|en<|bk 0<|bx H λ i c H=>?_;rcases i with k|l
 ·exact lX IV c (sg [0,5,6]) rfl λ s g=>qH<|qs (g)<|sr<|ck 1<|en<|re (by cases H;exact pr rd)
 ·exact lR IV c (sg [0,5,6]) rfl λ s h=>qR<|qr (by cases H;exact pr h)
end
section
variable (a:Int)
def JiY:St:=⟨(0,.d<|.int .u8 a)::[],[]⟩
variable {a}
theorem Wo {z} (H:Kz n a=some z):AL Tryz.prog 89 [.d (.int .u8 a)] (.d (.bool z)):=by
 exact fO 5 (JiY a) Tryz.func89<|sr<|ck 1<|en<|sr<|ck 3<|en<|re (by cases H;exact pr rd)
end
section
variable (a:AC) (b:Int) (c:Int)
def JiZ:St:=⟨(0,.agg [.d<|.str a.Print,.d<|.sl<|a.Cells.map eU8,.d<|.int .u8 a.Left,.d<|.int .u8 a.Right,.d<|.int .i64 a.From,.d<|.int .i64 a.To])::(1,.d<|.int .i64 b)::[],[]⟩
def Ji0:St:=⟨(92,.d<|.sl<|a.Cells.map eU8)::(93,.d<|.int .i64 ((a.Cells.length:Nat):Int))::(94,.d<|.int .i64 c)::[],[]⟩
def Ji1:St:=⟨[],[]⟩
def TW:(Unit⊕Bool)->Ex->St->Prop:=xS (xX 0 0<|λ (_:Unit)=>Ji1)<|xR ty Tryz.f83<|λ (y:Bool)=>.d<|.bool y
def Nd:Int->St:=(λ (x:Int)=>Ji0 a x)
variable {a b c}
theorem Mh (x:Int) (z:(Int⊕(Unit⊕Bool))) (H:Fk n a x=some z):WP (cxk 110 0) (Az Tryz.f83) [1,1,1,1,1,1,0,1,0,0] (Aw 0 (Nd a) (TW) z) (Nd a x):=by
 revert H;generalize x=c;intro H;refine sr<|ck 1<|en<|sq<|cn H (λ H=>?_)<|λ H=>?_
 ·refine sk<|qz<|sq<|bk 1<|sr<|bx H λ p f H=>sp (Ap eU8 f)<|ck 2<|en<|sr<|ck 1<|bx H λ h i H=>ca false (Wo i)<|ck 3<|gc 1 (!(!h))<|pO<|ck 2<|gc 1 (!((!h)||(p==63)))<|pO<|en<|cn H (λ H=>?_)<|λ H=>?_
  ·exact sr<|ck 1<|en<|re<|qR<|qr (by cases H;exact ro rfl rd)
  ·exact sk<|qN<|qz<|rz<|ck 2<|ae (by cases H;exact og<|sg [92,93,94])
 ·exact ex 0<|qx (by cases H;exact xo rfl<|sg [])
theorem Wp {z} (H:Iz n a b=some z):AL Tryz.prog 83 [.agg (M8 a),.d (.int .i64 b)] (.d (.bool z)):=by
 refine fO 110 (JiZ a b) Tryz.func83<|sr<|ck 2<|en<|sq<|sr<|ck 6<|gc 1 (!(decide<|((a.Print.length:Nat):Int)>4))<|sE (g:=(!(decide<|((a.Print.length:Nat):Int)>4))) (λ hg=>AB eU8 a.Cells)<|gc 1 (!(decide<|((a.Print.length:Nat):Int)>4))<|pO<|ck 2<|gc 1 (!((decide<|((a.Print.length:Nat):Int)>4)||(decide<|((a.Cells.length:Nat):Int)<1)))<|sE (g:=(!((decide<|((a.Print.length:Nat):Int)>4)||(decide<|((a.Cells.length:Nat):Int)<1)))) (λ hg=>AB eU8 a.Cells)<|gc 1 (!((decide<|((a.Print.length:Nat):Int)>4)||(decide<|((a.Cells.length:Nat):Int)<1)))<|pO<|en<|cn H (λ H=>?_)<|λ H=>?_
 ·exact sr<|ck 1<|en<|re<|qr (by cases H;exact pr rd)
 ·refine sk<|qz<|sq<|sr<|ck 2<|bx H λ r j H=>ca false (JE j)<|ck 5<|en<|sr<|ck 2<|en<|cn H (λ H=>?_)<|λ H=>?_
  ·exact sr<|ck 1<|en<|re<|qr (by cases H;exact pr rd)
  ·refine sk<|qz<|sq<|sr<|ck 5<|gc 2 (!(decide<|a.Left<1))<|pO<|ck 2<|gc 2 (!((decide<|a.Left<1)||(decide<|a.Left>63)))<|pO<|ck 2<|gc 2 (!(((decide<|a.Left<1)||(decide<|a.Left>63))||(decide<|a.Right<1)))<|pO<|en<|cn H (λ H=>?_)<|λ H=>?_
   ·exact sr<|ck 1<|en<|re<|qr (by cases H;exact pr rd)
   ·refine sk<|qz<|sq<|sr<|ck 5<|gc 1 (!(decide<|a.From<0))<|ck 1<|gc 1 (!(decide<|a.From<0))<|pO<|ck 2<|gc 2 (!((decide<|a.From<0)||(decide<|a.From>=b)))<|pO<|ck 2<|gc 1 (!(((decide<|a.From<0)||(decide<|a.From>=b))||(decide<|a.To<0)))<|ck 1<|gc 1 (!(((decide<|a.From<0)||(decide<|a.From>=b))||(decide<|a.To<0)))<|pO<|en<|cn H (λ H=>?_)<|λ H=>?_
    ·exact sr<|ck 1<|en<|re<|qr (by cases H;exact pr rd)
    ·refine sk<|qz<|sq<|sr<|ck 2<|bx H λ t k H=>ca false (Sk k)<|en<|cn H (λ H=>?_)<|λ H=>?_
     ·exact sr<|ck 6<|gc 1 (((a.Print.length:Nat):Int)==1)<|sE (g:=(((a.Print.length:Nat):Int)==1)) (λ hg=>AB eU8 a.Cells)<|gc 1 (((a.Print.length:Nat):Int)==1)<|pA<|ck 2<|gc 1 ((((a.Print.length:Nat):Int)==1)&&(((a.Cells.length:Nat):Int)==1))<|bx H λ u l H=>sE (λ hg=>Ap eU8<|BA l hg)<|gc 2 ((((a.Print.length:Nat):Int)==1)&&(((a.Cells.length:Nat):Int)==1))<|pA<|ck 1<|en<|re<|qr (by cases H;exact pr rd)
     ·refine sk<|qz<|sq<|sr<|ck 2<|sp (AB eU8 a.Cells)<|ck 1<|en<|bk 0<|bx H λ q e H=>?_;rcases q with v|w
      ·exact lX Mh e (sg [92,93,94]) rfl λ s m=>qH<|qs (m)<|sr<|ck 1<|en<|re (by cases H;exact pr rd)
      ·exact lR Mh e (sg [92,93,94]) rfl λ s o=>qR<|qr (by cases H;exact pr o)
end
section
variable (a:(List Int)) (b:(List Int)) (c:Int)
def Ji2:St:=⟨(0,.d<|.sl<|a.map eU8)::(1,.d<|.sl<|b.map eU8)::[],[]⟩
def Ji3:St:=⟨(0,.d<|.sl<|a.map eU8)::(1,.d<|.sl<|b.map eU8)::(12,.d<|.int .i64 ((a.length:Nat):Int))::(13,.d<|.int .i64 c)::[],[]⟩
def Ji4:St:=⟨[],[]⟩
def TX:(Unit⊕Bool)->Ex->St->Prop:=xS (xX 0 0<|λ (_:Unit)=>Ji4)<|xR ty Tryz.f90<|λ (y:Bool)=>.d<|.bool y
def Nf:Int->St:=(λ (x:Int)=>Ji3 a b x)
variable {a b c}
theorem Mi (x:Int) (z:(Int⊕(Unit⊕Bool))) (H:Fl n a b x=some z):WP (cxk 26 0) (Az Tryz.f90) [1,1,0,1,0,0] (Aw 0 (Nf a b) (TX) z) (Nf a b x):=by
 revert H;generalize x=c;intro H;refine sr<|ck 1<|en<|sq<|cn H (λ H=>?_)<|λ H=>?_
 ·refine sk<|qz<|sq<|bk 1<|sr<|ck 2<|en<|sr<|ck 2<|bx H λ k f H=>sp (Ap eU8 f)<|ck 3<|bx H λ l g H=>sp (Ap eU8 g)<|ck 2<|en<|cn H (λ H=>?_)<|λ H=>?_
  ·exact sr<|ck 1<|en<|re<|qR<|qr (by cases H;exact ro rfl rd)
  ·exact sk<|qN<|qz<|rz<|ck 2<|ae (by cases H;exact og<|sg [0,1,12,13])
 ·exact ex 0<|qx (by cases H;exact xo rfl<|sg [])
theorem Wq {z} (H:IA n a b=some z):AL Tryz.prog 90 [.d (.sl (a.map eU8)),.d (.sl (b.map eU8))] (.d (.bool z)):=by
 refine fO 26 (Ji2 a b) Tryz.func90<|sr<|ck 1<|en<|sq<|sr<|ck 1<|sp (AB eU8 a)<|ck 1<|sp (AB eU8 b)<|ck 1<|en<|cn H (λ H=>?_)<|λ H=>?_
 ·exact sr<|ck 1<|en<|re<|qr (by cases H;exact pr rd)
 ·refine sk<|qz<|sq<|sr<|ck 1<|sp (AB eU8 a)<|ck 1<|en<|bk 0<|bx H λ j e H=>?_;rcases j with m|o
  ·exact lX Mi e (sg [0,1,12,13]) rfl λ s h=>qH<|qs (h)<|sr<|ck 1<|en<|re (by cases H;exact pr rd)
  ·exact lR Mi e (sg [0,1,12,13]) rfl λ s i=>qR<|qr (by cases H;exact pr i)
end
section
variable (a:AC) (b:AC)
def Ji5:St:=⟨(0,.agg [.d<|.str a.Print,.d<|.sl<|a.Cells.map eU8,.d<|.int .u8 a.Left,.d<|.int .u8 a.Right,.d<|.int .i64 a.From,.d<|.int .i64 a.To])::(1,.agg [.d<|.str b.Print,.d<|.sl<|b.Cells.map eU8,.d<|.int .u8 b.Left,.d<|.int .u8 b.Right,.d<|.int .i64 b.From,.d<|.int .i64 b.To])::[],[]⟩
variable {a b}
theorem Ws {z} (H:IB n a b=some z):AL Tryz.prog 84 [.agg (M8 a),.agg (M8 b)] (.d (.bool z)):=by
 exact fO 45 (Ji5 a b) Tryz.func84<|sr<|ck 3<|en<|sr<|ck 7<|gc 1 (a.From==b.From)<|ck 1<|gc 2 (a.From==b.From)<|pA<|ck 2<|gc 1 ((a.From==b.From)&&(a.To==b.To))<|ck 1<|gc 2 ((a.From==b.From)&&(a.To==b.To))<|pA<|ck 2<|gc 1 (((a.From==b.From)&&(a.To==b.To))&&(a.Left==b.Left))<|ck 1<|gc 2 (((a.From==b.From)&&(a.To==b.To))&&(a.Left==b.Left))<|pA<|ck 2<|gc 1 ((((a.From==b.From)&&(a.To==b.To))&&(a.Left==b.Left))&&(a.Right==b.Right))<|ck 1<|gc 2 ((((a.From==b.From)&&(a.To==b.To))&&(a.Left==b.Left))&&(a.Right==b.Right))<|pA<|ck 2<|gc 1 (((((a.From==b.From)&&(a.To==b.To))&&(a.Left==b.Left))&&(a.Right==b.Right))&&(a.Print==b.Print))<|ck 1<|gc 1 (((((a.From==b.From)&&(a.To==b.To))&&(a.Left==b.Left))&&(a.Right==b.Right))&&(a.Print==b.Print))<|bx H λ e c H=>cG false (leZ) rfl (λ hg=>Wq<|BA c hg) (Or.inl rfl) (Cc (λ hh=>hh)<|Cc (λ hh=>hh)<|Ef) rfl<|pA<|ck 1<|en<|re (by cases H;exact pr rd)
end
section
variable (a:Ad) (b:Int) (e:AC) (c:(List AC)) (f:Int)
def Ji6:St:=⟨(0,.agg [.d<|.int .i64 a.Modes,.d<|.int .u8 a.Accept,.d<|.sl<|a.Rules.map Ao])::[],[]⟩
def Ji7:St:=⟨(1,.ptr 0 0)::(39,.d<|.sl<|a.Rules.map Ao)::(40,.d<|.int .i64 ((a.Rules.length:Nat):Int))::(41,.d<|.int .i64 b)::[],[some<|.box<|Ay a]⟩
def Ji8:St:=⟨[],[]⟩
def Ji9:St:=⟨(1,.ptr 0 0)::(4,.d<|.int .i64 b)::(5,.ptr 1 0)::(39,.d<|.sl<|a.Rules.map Ao)::(40,.d<|.int .i64 ((a.Rules.length:Nat):Int))::(41,.d<|.int .i64 b)::(55,.d<|.sl<|c.map Ao)::(56,.d<|.int .i64 ((c.length:Nat):Int))::(57,.d<|.int .i64 f)::[],[some<|.box<|Ay a,some<|.box<|M8 e]⟩
def Jja:St:=⟨(1,.ptr 0 0)::(39,.d<|.sl<|a.Rules.map Ao)::(40,.d<|.int .i64 ((a.Rules.length:Nat):Int))::(41,.d<|.int .i64 b)::[],[some<|.box<|Ay a]⟩
def TY:(Unit⊕(Int×Int))->Ex->St->Prop:=xS (xX 0 2<|λ (_:Unit)=>Jja a b)<|xR ty Tryz.f75<|λ (y:(Int×Int))=>.tup [.d<|.int .i64 y.1,.d<|.int .i64 y.2]
def Ng:Int->St:=(λ (x:Int)=>Ji9 a b e c x)
def TZ:(Unit⊕(Int×Int))->Ex->St->Prop:=xS (xX 0 0<|λ (_:Unit)=>Ji8)<|xR ty Tryz.f75<|λ (y:(Int×Int))=>.tup [.d<|.int .i64 y.1,.d<|.int .i64 y.2]
def Nh:Int->St:=(λ (x:Int)=>Ji7 a x)
variable {a b e c f}
theorem Mj (x:Int) (z:(Int⊕(Unit⊕(Int×Int)))) (H:Ei n a b e c x=some z):WP (cxk 67 0) (Az Tryz.f75) [1,1,1,1,0,1,0,0,1,1,0,0,1,1,1,0,0] (Aw 0 (Ng a b e c) (TY a b) z) (Ng a b e c x):=by
 revert H;generalize x=f;intro H;refine sr<|ck 1<|en<|sq<|cn H (λ H=>?_)<|λ H=>?_
 ·refine sk<|qz<|sq<|bk 3<|sr<|bx H λ A j H=>sp (Ap Ao j)<|ck 3<|en<|sr<|ck 2<|bx H λ B k H=>ca false (Ws k)<|en<|cn H (λ H=>?_)<|λ H=>?_
  ·exact sr<|ck 3<|en<|re<|qR<|qr (by cases H;exact ro rfl rdT)
  ·exact sk<|qN<|qz<|rz<|ck 2<|ae (by cases H;exact og<|sg [1,4,5,39,40,41,55,56,57])
 ·exact ex 2<|qx (by cases H;exact xo rfl<|sg [1,39,40,41])
theorem Ml (x:Int) (z:(Int⊕(Unit⊕(Int×Int)))) (H:Ej n a x=some z):WP (cxk 67 0) (Az Tryz.f75) [1,1,1,1,0,1,0,0] (Aw 0 (Nh a) (TZ) z) (Nh a x):=by
 revert H;generalize x=b;intro H;refine sr<|ck 1<|en<|sq<|cn H (λ H=>?_)<|λ H=>?_
 ·refine sk<|qz<|sq<|bk 1<|sr<|ck 1<|bx H λ e l H=>sp (Ap Ao l)<|ck 4<|en<|sq<|sr<|ck 3<|bx H λ C m H=>ca false (Wp m)<|ck 1<|en<|cn H (λ H=>?_)<|λ H=>?_
  ·exact sr<|ck 3<|en<|re<|qr<|qR<|qr (by cases H;exact ro rfl rdT)
  ·refine sk<|qz<|sr<|ck 3<|bx H λ c o H=>sp (JcK Ao 6 o)<|sp (AB Ao c)<|ck 1<|en<|bk 2<|bx H λ v h H=>?_;rcases v with E|G
   ·exact lX Mj h (sg [1,4,5,39,40,41,55,56,57]) rfl λ s p=>qH<|qN<|qs (p)<|rz<|ck 2<|ae (by cases H;exact og<|sg [1,39,40,41])
   ·exact lR Mj h (sg [1,4,5,39,40,41,55,56,57]) rfl λ s q=>qR<|qR<|qr (by cases H;exact ro rfl q)
 ·exact ex 0<|qx (by cases H;exact xo rfl<|sg [])
theorem Wt {z} (H:IC n a=some z):AL Tryz.prog 75 [.agg (Ay a)] (.tup [.d (.int .i64 z.1),.d (.int .i64 z.2)]):=by
 refine fO 67 (Ji6 a) Tryz.func75<|sr<|ck 3<|en<|sq<|sr<|ck 5<|gc 2 (!(decide<|a.Modes<1))<|pO<|en<|cn H (λ H=>?_)<|λ H=>?_
 ·exact sr<|ck 2<|en<|re<|qr (by cases H;exact pr rdT)
 ·refine sk<|qz<|sq<|sr<|ck 5<|gc 2 (!(a.Accept==0))<|ck 1<|gc 1 (!(a.Accept==0))<|bx H λ I r H=>soG (λ hg=>IL<|BA r hg) (Cc (λ hh=>hh)<|Ef)<|gc 1 (!(a.Accept==0))<|pO<|en<|cn H (λ H=>?_)<|λ H=>?_
  ·exact sr<|ck 2<|en<|re<|qr (by cases H;exact pr rdT)
  ·refine sk<|qz<|sq<|sr<|ck 2<|sp (AB Ao a.Rules)<|ck 3<|gc 1 (!(decide<|((a.Rules.length:Nat):Int)<1))<|sE (g:=(!(decide<|((a.Rules.length:Nat):Int)<1))) (λ hg=>AB Ao a.Rules)<|gc 1 (!(decide<|((a.Rules.length:Nat):Int)<1))<|pO<|en<|cn H (λ H=>?_)<|λ H=>?_
   ·exact sr<|ck 2<|en<|re<|qr (by cases H;exact pr rdT)
   ·refine sk<|qz<|sq<|sr<|ck 2<|sp (AB Ao a.Rules)<|ck 1<|en<|bk 0<|bx H λ w i H=>?_;rcases w with J|K
    ·exact lX Ml i (sg [1,39,40,41]) rfl λ s t=>qH<|qs (t)<|sr<|ck 2<|en<|re (by cases H;exact pr rdT)
    ·exact lR Ml i (sg [1,39,40,41]) rfl λ s u=>qR<|qr (by cases H;exact pr u)
end
section
variable (a:Ad)
def Jjb:St:=⟨(0,.agg [.d<|.int .i64 a.Modes,.d<|.int .u8 a.Accept,.d<|.sl<|a.Rules.map Ao])::[],[]⟩
variable {a}
theorem Wu {z} (H:Hs n a=some z):AL Tryz.prog 60 [.agg (Ay a)] (.d (.bool z)):=by
 exact fO 12 (Jjb a) Tryz.func60<|sr<|ck 2<|en<|sr<|ck 1<|bx H λ c b H=>ca false (Wt b)<|ck 5<|en<|sr<|ck 3<|en<|re (by cases H;exact pr rd)
end
section
variable (a:Int)
def Jgi:St:=⟨(0,.d<|.int .i64 a)::[],[]⟩
variable {a}
theorem JK {z} (H:D0 n a=some z):AL Tryz.prog 108 [.d (.int .i64 a)] (.d (.bool z)):=by
 exact fO 6 (Jgi a) Tryz.func108<|sr<|ck 1<|en<|sr<|ck 4<|en<|re (by cases H;exact pr rd)
end
section
variable (a:Int) (b:Int)
def Jjc:St:=⟨(0,.d<|.int .i64 a)::(1,.d<|.int .i64 b)::[],[]⟩
variable {a b}
theorem Q1 {z} (H:Ez n a b=some z):AL Tryz.prog 97 [.d (.int .i64 a),.d (.int .i64 b)] (.d (.bool z)):=by
 exact fO 17 (Jjc a b) Tryz.func97<|sr<|ck 1<|en<|sr<|ck 1<|bx H λ c e H=>ca false (JK e)<|ck 2<|bx H λ g f H=>cG false (leZ) rfl (λ hg=>JK<|BA f hg) (Or.inl rfl) (Cc (λ hh=>hh)<|Ef) rfl<|gc 1 c<|pA<|ck 3<|gc 1 (!(c&&(!g)))<|pO<|ck 1<|en<|re (by cases H;exact pr rd)
end
section
variable (a:Int)
def Jgj:St:=⟨(0,.d<|.int .i64 a)::[],[]⟩
variable {a}
theorem KG {z} (H:FF n a=some z):AL Tryz.prog 102 [.d (.int .i64 a)] (.d (.bool z)):=by
 exact fO 6 (Jgj a) Tryz.func102<|sr<|ck 1<|en<|sr<|ck 4<|en<|re (by cases H;exact pr rd)
end
section
variable (e:(List Int)) (f:Int) (l:Int) (m:Int) (o:Int)
def Jjd:St:=⟨(0,.d<|.sl<|e.map Af)::(1,.d<|.int .i64 f)::[],[]⟩
def Jje:St:=⟨(0,.d<|.sl<|e.map Af)::(1,.d<|.int .i64 f)::(6,.d<|.int .i64 ((e.length:Nat):Int))::(7,.d<|.int .i64 l)::(8,.d<|.int .i64 m)::[],[]⟩
def Jjf:St:=⟨(0,.d<|.sl<|e.map Af)::(1,.d<|.int .i64 f)::(6,.d<|.int .i64 ((e.length:Nat):Int))::(7,.d<|.int .i64 o)::[],[]⟩
def HZ:Int->Ex->St->Prop:=xX 0 0<|λ (y:Int)=>Jjf e f y
def Ea:(Int×Int)->St:=(λ (x:(Int×Int))=>Jje e f x.1 x.2)
variable {e f l m o}
theorem Hv (x:(Int×Int)) (z:((Int×Int)⊕Int)) (H:Bl n e f x.1 x.2=some z):WP (cxk 54 0) (Az Tryz.f87) [1,1,1,0,0,0] (Aw 0 (Ea e f) (HZ e f) z) (Ea e f x):=by
 obtain ⟨l,m⟩:=x;refine sq<|sr<|ck 3<|en<|cn H (λ H=>?_)<|λ H=>?_
 ·refine sk<|qz<|bk 1<|sr<|ck 7<|en<|sr<|ck 2<|bx H λ C p H=>sp (Ap Af p)<|ck 2<|bx H λ E q H=>ca false (Q1 q)<|en<|cn H (λ H=>?_)<|λ H=>?_
  ·exact rz<|ck 3<|ae<|qN (by cases H;exact og<|sg [0,1,6,7,8])
  ·exact rz<|ck 2<|ae<|qN (by cases H;exact og<|sg [0,1,6,7,8])
 ·exact ex 0<|qx (by cases H;exact xo rfl<|sg [0,1,6,7])
theorem Iu {z} (H:BC n e f=some z):AL Tryz.prog 87 [.d (.sl (e.map Af)),.d (.int .i64 f)] (.tup [.d (.int .i64 z.1),.d (.bool z.2)]):=by
 exact fO 54 (Jjd e f) Tryz.func87<|sr<|ck 2<|en<|sr<|ck 1<|sp (AB Af e)<|ck 1<|en<|sr<|ck 3<|en<|sq<|bk 0<|bx H λ h r H=>lX Hv r (sg [0,1,6,7,8]) rfl λ s t=>qH<|qs (t)<|sr<|ck 7<|bx H λ i u H=>sE (λ hg=>Ap Af<|BA u hg)<|gc 1 (decide<|h<((e.length:Nat):Int))<|ck 1<|gc 2 (decide<|h<((e.length:Nat):Int))<|ck 2<|bx H λ G w H=>sE (λ hg=>Ap Af<|BA w hg)<|gc 1 ((decide<|h<((e.length:Nat):Int))&&!(i==f))<|bx H λ j A H=>cG false (leZ) rfl (λ hg=>KG<|BA A hg) (Or.inl rfl) (Cc (λ hh=>hh)<|Ef) rfl<|gc 1 ((decide<|h<((e.length:Nat):Int))&&!(i==f))<|ck 1<|bx H λ k B H=>cG false (leZ) rfl (λ hg=>KG<|BA B hg) (Or.inl rfl) (Cc (λ hh=>hh)<|Ef) rfl<|pG (g:=((decide<|h<((e.length:Nat):Int))&&!(i==f))) (v:=.d<|.bool<|j&&k) (λ hg=>Gk (c:=.gv ((decide<|h<((e.length:Nat):Int))&&!(i==f))<|.d<|.bool j) (a:=.gv (((decide<|h<((e.length:Nat):Int))&&!(i==f))&&j)<|.d<|.bool k) (b:=.d<|.bool false) rfl rfl rfl ((λ hh=>hh) hg) (λ ht=>by rw [(λ hh=>hh) hg,ht];rfl) trivial)<|pG (g:=decide<|h<((e.length:Nat):Int)) (v:=.d<|.bool<|(i==f)||(j&&k)) (λ hg=>Gk (c:=.gv (decide<|h<((e.length:Nat):Int))<|.d<|.bool<|i==f) (a:=.d<|.bool true) (b:=.gv ((decide<|h<((e.length:Nat):Int))&&!(i==f))<|.d<|.bool<|j&&k) rfl rfl rfl ((λ hh=>hh) hg) trivial (λ ht=>by rw [(λ hh=>hh) hg,ht];rfl))<|pA<|ck 2<|en<|re (by cases H;exact pr rdT)
end
section
variable (a:AG) (b:Int)
def Jjg:St:=⟨(0,.dptr (M7 a) 0)::(1,.d<|.int .i64 b)::[],[]⟩
variable {a b}
theorem Ga {z} (H:BT n a b=some z):AL Tryz.prog 80 [.dptr (M7 a) 0,.d (.int .i64 b)] (.d (.int .i64 z)):=by
 refine fO 25 (Jjg a b) Tryz.func80<|sr<|ck 1<|en<|sr<|ck 5<|bx H λ f c H=>ca false (Iu c)<|ck 5<|en<|sq<|sr<|ck 2<|en<|cn H (λ H=>?_)<|λ H=>?_
 ·exact sr<|ck 1<|en<|re<|qr (by cases H;exact pr rd)
 ·exact sk<|qz<|sr<|ck 5<|bx H λ g e H=>sp (Ap Af e)<|ck 2<|en<|re (by cases H;exact pr rd)
end
section
variable (a:Ad) (j:(List UInt8)) (C:Ae) (b:(List Ab)) (i:(List AG)) (h:(List (Ab×Int))) (B:Int) (q:(List (Ab×Int))) (g:(List (Ab×Int))) (o:Ae) (c:Int) (I:Ae) (w:Ab) (e:Ae) (r:Int) (J:Ae) (A:Ae)
def JdP:St:=⟨(0,.agg [.d<|.int .i64 a.Modes,.d<|.int .u8 a.Accept,.d<|.sl<|a.Rules.map Ao])::(1,.d<|.str j)::[],[]⟩
def JdQ:St:=⟨(4,.ptr 0 0)::[],[some<|.box<|Am C<|.osl 1 2 0<|C.Columns.length,some<|.narr 2<|C.Columns.map Ac]⟩
def JdR:St:=⟨(2,.ptr 0 0)::(5,.ptr 1 0)::(6,.mp 2)::(33,.d<|.sl<|b.map Ah)::(34,.d<|.int .i64 ((b.length:Nat):Int))::(35,.d<|.int .i64 B)::[],[some<|.box<|Ay a,some<|.box [.d<|.int .i64 a.Modes,.d<|.int .u8 a.Accept,.d<|.sl<|a.Rules.map Ao,.d<|.str j,.d<|.sl<|b.map Ah,.osl 3 1 0<|List.length ([]:List (List AE)),.osl 4 2 0<|i.length,.d<|.int .i64 0],some<|.map true false<|Fe Ah Af h,some<|.arr 1<|List.map (eL Ak) ([]:List (List AE)),some<|.narr 2<|i.map Ac]⟩
def JdS:St:=⟨(2,.ptr 0 0)::(5,.ptr 1 0)::(6,.mp 2)::[],[some<|.box<|Ay a,some<|.box [.d<|.int .i64 a.Modes,.d<|.int .u8 a.Accept,.d<|.sl<|a.Rules.map Ao,.d<|.str j,.d<|.sl<|b.map Ah,.osl 3 1 0<|List.length ([]:List (List AE)),.osl 4 2 0<|i.length,.d<|.int .i64 0],some<|.map true false<|Fe Ah Af q,some<|.arr 1<|List.map (eL Ak) ([]:List (List AE)),some<|.narr 2<|i.map Ac]⟩
def OS:(List<|Ab×Int)->Ex->St->Prop:=xX 0 0<|λ (y:(List<|Ab×Int))=>JdS a j b i y
def IW:((List<|Ab×Int)×Int)->St:=(λ (x:((List<|Ab×Int)×Int))=>JdR a j b i x.1 x.2)
def JdT:St:=⟨(2,.ptr 0 0)::(5,.ptr 1 0)::(6,.mp 2)::(56,.d<|.sl<|b.map Ah)::(57,.d<|.int .i64 ((b.length:Nat):Int))::(58,.d<|.int .i64 c)::[],[some<|.box<|Ay a,some<|.box<|HW o (.osl 3 1 0<|o.Arcs.length)<|.osl 4 2 0<|o.Columns.length,some<|.map true false<|Fe Ah Af g,some<|.narr 1<|o.Arcs.map<|nL 2 Ak,some<|.narr 2<|o.Columns.map Ac]⟩
def JdU:St:=⟨(5,.ptr 0 0)::[],[some<|.box<|HW I (.osl 1 1 0<|I.Arcs.length)<|.osl 2 2 0<|I.Columns.length,some<|.narr 1<|I.Arcs.map<|nL 2 Ak,some<|.narr 2<|I.Columns.map Ac]⟩
def JdV:St:=⟨(2,.ptr 0 0)::(5,.ptr 1 0)::(6,.mp 2)::(9,.d<|.int .i64 c)::(10,.ptr 3 0)::(56,.d<|.sl<|b.map Ah)::(57,.d<|.int .i64 ((b.length:Nat):Int))::(58,.d<|.int .i64 c)::(65,.d<|.int .i64 ((a.Rules.length:Nat):Int))::(66,.d<|.int .i64 r)::[],[some<|.box<|Ay a,some<|.box<|HW e (.osl 4 1 0<|e.Arcs.length)<|.osl 5 2 0<|e.Columns.length,some<|.map true false<|Fe Ah Af g,some<|.box<|J4 w,some<|.narr 1<|e.Arcs.map<|nL 2 Ak,some<|.narr 2<|e.Columns.map Ac]⟩
def JdW:St:=⟨(2,.ptr 0 0)::(5,.ptr 1 0)::(6,.mp 2)::(56,.d<|.sl<|b.map Ah)::(57,.d<|.int .i64 ((b.length:Nat):Int))::(58,.d<|.int .i64 c)::[],[some<|.box<|Ay a,some<|.box<|HW J (.osl 3 1 0<|J.Arcs.length)<|.osl 4 2 0<|J.Columns.length,some<|.map true false<|Fe Ah Af g,some<|.narr 1<|J.Arcs.map<|nL 2 Ak,some<|.narr 2<|J.Columns.map Ac]⟩
def JdX:St:=⟨(2,.ptr 0 0)::(5,.ptr 1 0)::(6,.mp 2)::(9,.d<|.int .i64 c)::(10,.ptr 3 0)::(56,.d<|.sl<|b.map Ah)::(57,.d<|.int .i64 ((b.length:Nat):Int))::(58,.d<|.int .i64 c)::(65,.d<|.int .i64 ((a.Rules.length:Nat):Int))::(66,.d<|.int .i64 r)::[],[some<|.box<|Ay a,some<|.box<|HW A (.osl 4 1 0<|A.Arcs.length)<|.osl 5 2 0<|A.Columns.length,some<|.map true false<|Fe Ah Af g,some<|.box<|J4 w,some<|.narr 1<|A.Arcs.map<|nL 2 Ak,some<|.narr 2<|A.Columns.map Ac]⟩
def OU:Ae->Ex->St->Prop:=xX 0 4<|λ (y:Ae)=>JdW a b g c y
def IX:(Ae×Int)->St:=(λ (x:(Ae×Int))=>JdV a b g c w x.1 x.2)
def OW:Ae->Ex->St->Prop:=xX 0 2<|λ (y:Ae)=>JdU y
def IY:(Ae×Int)->St:=(λ (x:(Ae×Int))=>JdT a b g x.1 x.2)
variable {a j C b i h B q g o c I w e r J A}
theorem N0 (x:((List (Ab×Int))×Int)) (z:(((List (Ab×Int))×Int)⊕(List (Ab×Int)))) (H:Cn n a j b i x.1 x.2=some z):WP (cxk 100 0) (Az Tryz.f61) [1,1,1,0,1,0,0] (Aw 0 (IW a j b i) (OS a j b i) z) (IW a j b i x):=by
 obtain ⟨h,B⟩:=x;refine sr<|ck 1<|en<|sq<|cn H (λ H=>?_)<|λ H=>?_
 ·exact sk<|qz<|sq<|bk 1<|sr<|ck 1<|bx H λ L O H=>sp (Ap Ah O)<|ck 4<|en<|rz<|ck 3<|sp (SE (enc:=Af) (encK:=Ah) (k:=2) (e1:=λ x=>.int .i64 x) (m:=h) (l:=[.d<|.int .i64 L.Mode,.d<|.int .i64 L.Last,.d<|.int .u8 L.Need]) (key:=L) (y:=B) (v:=.d<|.int .i64 B) (vz:=[.int .i64 0]) TO)<|ae<|qN<|qz<|rz<|ck 2<|ae (by cases H;exact og<|gP [2,5,6,33,34,35] [0,1,2,3,4]<|po1<|po1<|po1<|po1<|pn1 Ac i<|Pl.z)
 ·exact ex 0<|qx (by cases H;exact xo rfl<|gP [2,5,6] [0,1,2,3,4]<|po1<|po1<|po1<|po1<|pn1 Ac i<|Pl.z)
theorem N3 (x:(Ae×Int)) (z:((Ae×Int)⊕Ae)) (H:Co n a b g c w x.1 x.2=some z):WP (cxk 100 0) (Az Tryz.f61) [1,1,1,1,1,0,1,0,0,1,1,0,0,1,1,0,0] (Aw 0 (IX a b g c w) (OU a b g c) z) (IX a b g c w x):=by
 obtain ⟨e,r⟩:=x;refine sr<|ck 1<|en<|sq<|cn H (λ H=>?_)<|λ H=>?_
 ·refine sk<|qz<|sj (λ (x:Ae)=>JdX a b g c w r x) (λ (x:Ae)=>CQ n r x) z ?_ (λ f=>?_)
  ·intro A H;exact rz<|ck 2<|ae (by cases H;exact og<|gP [2,5,6,9,10,56,57,58,65,66] [0,1,2,3,4,5]<|po1<|po1<|po1<|po1<|pn1 (nL 2 Ak) A.Arcs<|pn1 Ac A.Columns<|Pl.z)
  refine bk 5<|sr<|ck 2<|en<|sr<|ck 3<|bx H λ M P H=>ca false (Na P)<|ck 6<|en<|sr<|ck 1<|en<|cn H (λ H=>?_)<|λ H=>?_
  ·exact bx H λ K u H=>rg (tr (so1 (encN:=(nL 2 Ak)) 4 1 u)<|sno (encN:=(nL 2 Ak)) (enc:=Ak) u [.own 2<|K.map Ak] K 1 4 0 2)<|ck 10<|sp (Av 4 1 u)<|sp (Cj (encN:=(nL 2 Ak)) (row:=[.osl 7 2 0<|K.length]) (k:=4) (sz:=1) (off:=0) (t:=ty 141) (v:=.osl 7 2 0<|K.length) u)<|ck 3<|sp (TM (enc:=Af) (encK:=Ah) (k:=2) (e1:=λ x=>.int .i64 x) (m:=g) (l:=[.d<|.int .i64 M.1.Mode,.d<|.int .i64 M.1.Last,.d<|.int .u8 M.1.Need]) (key:=M.1) (z:=0) (vz:=[.int .i64 0]) TO false)<|ck 2<|bx H λ p Q H=>sp (Cv Ak 7 2 Q)<|sp (Av 4 1 u)<|sp (Lq (encN:=(nL 2 Ak)) (row:=[.osl 7 2 0<|K.length]) (row':=[.osl 9 2 0<|p.length]) (k:=4) (sz:=1) (off:=0) (t:=ty 141) (v:=.osl 9 2 0<|p.length) u)<|ae<|qN<|qs (tr (tr (tr (tr (tr (sni (encN:=(nL 2 Ak)) (xs:=e.Arcs) (n:=c) (enc:=Ak) [.osl 9 2 0<|p.length] p 1 4 0 9 2)<|scl (encN:=(nL 2 Ak)) (xss:=e.Arcs) c [.own 2<|p.map Ak] 1 4 p)<|sn 80 4 1<|lsS e.Arcs c.toNat p)<|sn 85 4 1<|lsS e.Arcs c.toNat p)<|snc 1 5 4 1<|lsS e.Arcs c.toNat p)<|gP [2,5,6,9,10,56,57,58,65,66] [0,1,2,3,4,5]<|po1<|po1<|po1<|po1<|pn1 (nL 2 Ak) (List.set e.Arcs c.toNat p)<|pn1 Ac e.Columns<|Pl.z)<|f ({ T:=e.T,S:=e.S,States:=e.States,Arcs:=List.set e.Arcs c.toNat p,Columns:=e.Columns,Last:=e.Last }:Ae) H
  ·exact sk<|qN<|qs (gP [2,5,6,9,10,56,57,58,65,66] [0,1,2,3,4,5]<|po1<|po1<|po1<|po1<|pn1 (nL 2 Ak) e.Arcs<|pn1 Ac e.Columns<|Pl.z)<|f e H
 ·exact ex 4<|qx (by cases H;exact xo rfl<|gP [2,5,6,56,57,58] [0,1,2,4,5]<|po1<|po1<|po1<|pn1 (nL 2 Ak) e.Arcs<|pn1 Ac e.Columns<|Pl.z)
theorem N4 (x:(Ae×Int)) (z:((Ae×Int)⊕Ae)) (H:CS n a b g x.1 x.2=some z):WP (cxk 100 0) (Az Tryz.f61) [1,1,1,1,1,0,1,0,0] (Aw 0 (IY a b g) (OW) z) (IY a b g x):=by
 obtain ⟨o,c⟩:=x;refine sr<|ck 1<|en<|sq<|cn H (λ H=>?_)<|λ H=>?_
 ·exact sk<|qz<|sq<|bk 3<|sr<|ck 1<|bx H λ w R H=>sp (Ap Ah R)<|ck 4<|en<|sr<|ck 2<|sp (AB Ao a.Rules)<|ck 1<|en<|bk 4<|bx H λ U V H=>lX N3 V (gP [2,5,6,9,10,56,57,58,65,66] [0,1,2,5,3,4]<|po1<|po1<|po1<|po1<|pn1 (nL 2 Ak) o.Arcs<|pn1 Ac o.Columns<|Pl.z) rfl λ s W=>qH<|qN<|qs (W)<|rz<|ck 2<|ae (by cases H;exact og<|gP [2,5,6,56,57,58] [0,1,2,3,4]<|po1<|po1<|po1<|pn1 (nL 2 Ak) U.Arcs<|pn1 Ac U.Columns<|Pl.z)
 ·exact ex 2<|qx (by cases H;exact xo rfl<|gP [5] [1,3,4]<|po1<|pn1 (nL 2 Ak) o.Arcs<|pn1 Ac o.Columns<|Pl.z)
theorem Q2 {z} (H:EA n a j=some z):Ce Tryz.prog 61 [.agg (Ay a),.d (.str j)] [] 0 (.ptr 0 0) [some (.box (Am z (.osl 1 2 0 (z.Columns.length)))),some (.narr 2 (z.Columns.map Ac))]:=by
 exact fL 100 0 (JdP a j) Tryz.func61<|sr<|ck 2<|en<|sr<|ck 3<|bx H λ b X H=>ca false (Om X)<|ck 3<|bx H λ i E H=>sp (QK 2 (ez:=[.nil,.nil]) E)<|ck 3<|en<|sq<|rg (tr (tr (TI (encN:=Ac) (sz:=2) (z:=[.nil,.nil]) (n:=(An .i64 ((j.length:Nat):Int) 1)) 1 (Lr E) (by kernel_rfl) (by kernel_rfl))<|sn 21 1 2<|FY E)<|snc 2 6 1 2<|FY E)<|ck 4<|sp (AB Ah b)<|ck 2<|en<|sq<|sr<|ck 4<|sp (AB Ah b)<|ck 1<|en<|bk 0<|bx H λ g Y H=>lX N0 Y (tr (BO 2 5 1 (by kernel_rfl))<|gP [2,5,6,33,34,35] [0,2,3,4,1]<|po1<|po1<|po1<|po1<|pn1 Ac i<|Pl.z) rfl λ s Z=>qH<|qs (Z)<|sr<|ck 5<|sp (AB Ah b)<|bx H λ ac G H=>sp (QK 1 (ez:=[.nil]) G)<|ck 3<|en<|sq<|sq<|rg (tr (tr (TI (encN:=(nL 2 Ak)) (sz:=1) (z:=[.nil]) (n:=((b.length:Nat):Int)) 5 (Lr G) (by kernel_rfl) (by kernel_rfl))<|sn 50 5 1<|FY G)<|snc 1 5 5 1<|FY G)<|ck 4<|sp (AB Ah b)<|ck 1<|en<|bk 2<|bx H λ af aa H=>lX N4 aa (gP [2,5,6,56,57,58] [0,1,2,5,4]<|po1<|po1<|po1<|pn1 (nL 2 Ak) ac<|pn1 Ac i<|Pl.z) rfl λ s ab=>qH<|qs (ab)<|sr<|ck 2<|en<|re (by cases H;exact pL<|rl (s':=JdQ z)<|tr (PG (encN:=(nL 2 Ak)) (encD:=(eL Ak)) (xss:=z.Arcs) (sz:=1) 0 5 1 (by kernel_rfl) (by kernel_rfl) (λ _=>rfl)<|λ _=>rfl)<|gP [4] [0,2]<|po1<|pn1 Ac z.Columns<|Pl.z)
end
section
variable (b:Int) (o:Int) (a:Ae) (e:(List (List Bool))) (l:Ae) (q:(List (List Bool)))
def JdY:St:=⟨(0,.d<|.int .i64 b)::(1,.d<|.int .i64 o)::(2,.eptr 0 1 0 0)::(3,.ptr 1 0)::[],[some<|.narr 1<|e.map<|nL 1 eB,some<|.box [.ptr 2 0],some<|.box<|Am a<|.osl 3 2 0<|a.Columns.length,some<|.narr 2<|a.Columns.map Ac]⟩
def Ya:St:=⟨[],[some<|.narr 1<|q.map<|nL 1 eB,some<|.box [.ptr 2 0],some<|.box<|Am l<|.osl 3 2 0<|l.Columns.length,some<|.narr 2<|l.Columns.map Ac]⟩
variable {b o a e l q}
theorem G2 {z} (H:Ck n b o a e=some z):Ce Tryz.prog 76 [.d (.int .i64 b),.d (.int .i64 o),.eptr 0 1 0 0,.ptr 1 0] [some (.narr 1 (e.map (nL 1 eB))),some (.box [.ptr 2 0]),some (.box (Am a (.osl 3 2 0 (a.Columns.length)))),some (.narr 2 (a.Columns.map Ac))] 4 (.tup []) [some (.narr 1 (z.2.map (nL 1 eB))),some (.box [.ptr 2 0]),some (.box (Am z.1 (.osl 3 2 0 (z.1.Columns.length)))),some (.narr 2 (z.1.Columns.map Ac))]:=by
 refine fL 37 4 (JdY b o a e) Tryz.func76<|sq<|bx H λ f p H=>rg (tr (so1 (encN:=(nL 1 eB)) 0 1 p)<|sno (encN:=(nL 1 eB)) (enc:=eB) p [.own 1<|f.map eB] f 1 0 0 1)<|ck 2<|bx H λ x u H=>sp (Wi 0 1 0 5 (j:=0) u)<|sp (Cj (encN:=(nL 1 eB)) (row:=[.osl 4 1 0<|f.length]) (k:=0) (sz:=1) (off:=0) (t:=ty 113) (v:=.osl 4 1 0<|f.length) p)<|ck 1<|en<|sr<|ck 2<|bx H λ y r H=>sp (Av 4 1 r)<|sp (C0 eB 4 0 (ty 4) r)<|ck 1<|en<|cn H (λ H=>?_)<|λ H=>?_
 ·exact sr<|ck 2<|bx H λ A s H=>sp (Av 4 1 s)<|bx H λ m h H=>stA eB 4 0 (ty 4) s h<|en<|bx H λ c i H=>rg (tr (tr (tr (tr (tr (tr (tr (tr (sn 10 4 1<|Bb h)<|sn 6 4 1<|Bb h)<|sn 11 4 1<|Bb h)<|sn 16 4 1<|Bb h)<|snr (encN:=(nL 1 eB)) (xs:=e) (n:=Bd b 5) [.osl 4 1 0<|f.length] 1 0 0 4 1<|Bb h)<|sni (encN:=(nL 1 eB)) (xs:=e) (n:=Bd b 5) (enc:=eB) [.osl 4 1 0<|m.length] m 1 0 0 4 1)<|scl (encN:=(nL 1 eB)) (xss:=e) (Bd b 5) [.own 1<|m.map eB] 1 0 m)<|so1 (encN:=Ac) 3 2 i)<|sno (encN:=Ac) (enc:=Af) i [.own 1<|c.States.map Af,.own 1<|c.Costs.map Af] c.States 2 3 0 1)<|ck 10<|sp (Av 3 2 i)<|ck 1<|sp (Cj (encN:=Ac) (row:=[.osl 5 1 0<|c.States.length,.own 1<|c.Costs.map Af]) (k:=3) (sz:=2) (off:=0) (t:=ty 35) (v:=.osl 5 1 0<|c.States.length) i)<|ck 2<|bx H λ g w H=>sp (Cv Af 5 1 w)<|sp (Av 3 2 i)<|ck 1<|sp (Lq (encN:=Ac) (row:=[.osl 5 1 0<|c.States.length,.own 1<|c.Costs.map Af]) (row':=[.osl 7 1 0<|g.length,.own 1<|c.Costs.map Af]) (k:=3) (sz:=2) (off:=0) (t:=ty 35) (v:=.osl 7 1 0<|g.length) i)<|ae (by cases H;exact pL'<|rl (s':=Ya ({ T:=a.T,S:=a.S,States:=a.States,Arcs:=a.Arcs,Columns:=List.set a.Columns b.toNat ({ States:=g,Costs:=c.Costs }:AG),Last:=a.Last }:Ae)<|List.set e (Int.toNat<|Bd b 5) m)<|tr (tr (tr (tr (tr (sni (encN:=Ac) (xs:=a.Columns) (n:=b) (enc:=Af) [.osl 7 1 0<|g.length,.own 1<|c.Costs.map Af] g 2 3 0 7 1)<|scl (encN:=Ac) (xss:=a.Columns) b [.own 1<|g.map Af,.own 1<|c.Costs.map Af] 2 3 ({ States:=g,Costs:=c.Costs }:AG))<|sn 22 3 2<|lsS a.Columns b.toNat ({ States:=g,Costs:=c.Costs }:AG))<|sn 27 3 2<|lsS a.Columns b.toNat ({ States:=g,Costs:=c.Costs }:AG))<|snc 2 6 3 2<|lsS a.Columns b.toNat ({ States:=g,Costs:=c.Costs }:AG))<|gP [] [0,1,2,3]<|pn1 (nL 1 eB) (List.set e (Int.toNat<|Bd b 5) m)<|po1<|po1<|pn1 Ac (List.set a.Columns b.toNat ({ States:=g,Costs:=c.Costs }:AG))<|Pl.z)
 ·exact sk (by cases H;exact pL'<|rl (s':=Ya a<|List.set e (Int.toNat<|Bd b 5) f)<|tr (tr (sni (encN:=(nL 1 eB)) (xs:=e) (n:=Bd b 5) (enc:=eB) [.osl 4 1 0<|f.length] f 1 0 0 4 1)<|scl (encN:=(nL 1 eB)) (xss:=e) (Bd b 5) [.own 1<|f.map eB] 1 0 f)<|gP [] [0,1,2,3]<|pn1 (nL 1 eB) (List.set e (Int.toNat<|Bd b 5) f)<|po1<|po1<|pn1 Ac a.Columns<|Pl.z)
end
section
variable (b:Int) (c:Int) (a:Ae) (e:Int) (f:Bool)
def JdZ:St:=⟨(0,.ptr 0 0)::(1,.d<|.int .i64 b)::(2,.d<|.int .i64 c)::[],[some<|.box<|Am a<|.osl 1 2 0<|a.Columns.length,some<|.narr 2<|a.Columns.map Ac]⟩
def Jd0:St:=⟨(6,.d<|.int .i64 e)::(7,.d<|.bool f)::[],[some<|.box<|Am a<|.osl 1 2 0<|a.Columns.length,some<|.narr 2<|a.Columns.map Ac]⟩
variable {b c a e f}
theorem EI {z} (H:BS n b c a=some z):Ce Tryz.prog 77 [.ptr 0 0,.d (.int .i64 b),.d (.int .i64 c)] [some (.box (Am a (.osl 1 2 0 (a.Columns.length)))),some (.narr 2 (a.Columns.map Ac))] 2 (.tup [.d (.int .i64 z.1),.d (.bool z.2)]) [some (.box (Am a (.osl 1 2 0 (a.Columns.length)))),some (.narr 2 (a.Columns.map Ac))]:=by
 exact fL 30 2 (JdZ b c a) Tryz.func77<|sr<|ck 2<|en<|sr<|ck 6<|bx H λ j g H=>sp (Ap Ao g)<|ck 3<|en<|sr<|ck 9<|bx H λ l h H=>sp (Il h)<|ck 1<|bx H λ k i H=>ca true (KE i)<|ck 2<|en<|re (by cases H;exact pL<|rl (s':=Jd0 a (An .i64 b ((j.Print.length:Nat):Int)) k)<|gP [6,7] [0,1]<|po1<|pn1 Ac a.Columns<|Pl.z)
end
theorem Jd1 {n:Nat} {a:List Int} {z:List Int} (H:Vz n a=some z):Ce Tryz.prog 78 [.osl 0 1 0 (a.length)] [some (.arr 1 (a.map Af))] 1 (.tup []) [some (.arr 1 (z.map Af))]:=Ja3 Jm0 ⟨_,_,Tryz.func78,rfl,rfl⟩ H
section
variable (q:Ae) (W:Ae) (r:(List (List Bool))) (L:Int) (Q:(List (List Bool))) (c:(Ae×(List (List Bool)))) (G:Ae) (l:(List (List Bool))) (a:Int) (X:Ae) (b:Int) (e:Ae) (g:(List (List Bool))) (E:Int) (ah:Ae) (R:(List (List Bool))) (af:Int) (ac:Ae) (I:(List AE)) (u:Ae) (i:(List (List Bool))) (M:Int) (Y:Ae) (O:(List (List Bool))) (P:Ae) (C:(List (List Bool)))
def Jd2:St:=⟨(0,.ptr 0 0)::[],[some<|.box<|Am q<|.osl 1 2 0<|q.Columns.length,some<|.narr 2<|q.Columns.map Ac]⟩
def Jd3:St:=⟨[],[some<|.box<|Am W<|.osl 1 2 0<|W.Columns.length,some<|.narr 2<|W.Columns.map Ac]⟩
def Jd4:St:=⟨(1,.ptr 2 0)::(2,.eptr 3 1 0 0)::(13,.d<|.int .i64 L)::[],[some<|.box<|Am q<|.osl 1 2 0<|q.Columns.length,some<|.narr 2<|q.Columns.map Ac,some<|.box [.ptr 0 0],some<|.narr 1<|r.map<|nL 1 eB]⟩
def Jd5:St:=⟨(1,.ptr 2 0)::(2,.eptr 3 1 0 0)::[],[some<|.box<|Am q<|.osl 1 2 0<|q.Columns.length,some<|.narr 2<|q.Columns.map Ac,some<|.box [.ptr 0 0],some<|.narr 1<|Q.map<|nL 1 eB]⟩
def Mz:(List<|List Bool)->Ex->St->Prop:=xX 2 0<|λ (y:(List<|List Bool))=>Jd5 q y
def G3:((List<|List Bool)×Int)->St:=(λ (x:((List<|List Bool)×Int))=>Jd4 q x.1 x.2)
def Jd6:St:=⟨(1,.ptr 2 0)::(2,.eptr 3 1 0 0)::(4,.clo 76 [.eptr 3 1 0 0,.ptr 2 0])::(32,.d<|.int .i64 ((c.1.Columns.length:Nat):Int))::(33,.d<|.int .i64 a)::[],[some<|.box<|Am G<|.osl 1 2 0<|G.Columns.length,some<|.narr 2<|G.Columns.map Ac,some<|.box [.ptr 0 0],some<|.narr 1<|l.map<|nL 1 eB]⟩
def Jd7:St:=⟨[],[some<|.box<|Am X<|.osl 1 2 0<|X.Columns.length,some<|.narr 2<|X.Columns.map Ac]⟩
def Jd8:St:=⟨(1,.ptr 2 0)::(2,.eptr 3 1 0 0)::(4,.clo 76 [.eptr 3 1 0 0,.ptr 2 0])::(5,.d<|.int .i64 a)::(6,.d<|.int .i64 b)::(32,.d<|.int .i64 ((c.1.Columns.length:Nat):Int))::(33,.d<|.int .i64 a)::[],[some<|.box<|Am G<|.osl 1 2 0<|G.Columns.length,some<|.narr 2<|G.Columns.map Ac,some<|.box [.ptr 0 0],some<|.narr 1<|l.map<|nL 1 eB]⟩
def Jd9:St:=⟨(1,.ptr 2 0)::(2,.eptr 3 1 0 0)::(4,.clo 76 [.eptr 3 1 0 0,.ptr 2 0])::(5,.d<|.int .i64 a)::(6,.d<|.int .i64 b)::(7,.d<|.int .i64 E)::(32,.d<|.int .i64 ((c.1.Columns.length:Nat):Int))::(33,.d<|.int .i64 a)::[],[some<|.box<|Am e<|.osl 1 2 0<|e.Columns.length,some<|.narr 2<|e.Columns.map Ac,some<|.box [.ptr 0 0],some<|.narr 1<|g.map<|nL 1 eB]⟩
def Jea:St:=⟨(1,.ptr 2 0)::(2,.eptr 3 1 0 0)::(4,.clo 76 [.eptr 3 1 0 0,.ptr 2 0])::(5,.d<|.int .i64 a)::(32,.d<|.int .i64 ((c.1.Columns.length:Nat):Int))::(33,.d<|.int .i64 a)::[],[some<|.box<|Am ah<|.osl 1 2 0<|ah.Columns.length,some<|.narr 2<|ah.Columns.map Ac,some<|.box [.ptr 0 0],some<|.narr 1<|R.map<|nL 1 eB]⟩
def Jbc:St:=⟨(1,.ptr 2 0)::(2,.eptr 3 1 0 0)::(4,.clo 76 [.eptr 3 1 0 0,.ptr 2 0])::(5,.d<|.int .i64 a)::(6,.d<|.int .i64 b)::(7,.d<|.int .i64 E)::(8,.d<|.int .i64 af)::(32,.d<|.int .i64 ((c.1.Columns.length:Nat):Int))::(33,.d<|.int .i64 a)::[],[some<|.box<|Am ac<|.osl 1 2 0<|ac.Columns.length,some<|.narr 2<|ac.Columns.map Ac,some<|.box [.ptr 0 0],some<|.narr 1<|g.map<|nL 1 eB]⟩
def Jbd:St:=⟨(1,.ptr 2 0)::(2,.eptr 3 1 0 0)::(4,.clo 76 [.eptr 3 1 0 0,.ptr 2 0])::(5,.d<|.int .i64 a)::(6,.d<|.int .i64 b)::(7,.d<|.int .i64 E)::(32,.d<|.int .i64 ((c.1.Columns.length:Nat):Int))::(33,.d<|.int .i64 a)::(96,.d<|.sl<|I.map Ak)::(97,.d<|.int .i64 ((I.length:Nat):Int))::(98,.d<|.int .i64 M)::[],[some<|.box<|Am u<|.osl 1 2 0<|u.Columns.length,some<|.narr 2<|u.Columns.map Ac,some<|.box [.ptr 0 0],some<|.narr 1<|i.map<|nL 1 eB]⟩
def Jbe:St:=⟨(1,.ptr 2 0)::(2,.eptr 3 1 0 0)::(4,.clo 76 [.eptr 3 1 0 0,.ptr 2 0])::(5,.d<|.int .i64 a)::(6,.d<|.int .i64 b)::(7,.d<|.int .i64 E)::(32,.d<|.int .i64 ((c.1.Columns.length:Nat):Int))::(33,.d<|.int .i64 a)::[],[some<|.box<|Am Y<|.osl 1 2 0<|Y.Columns.length,some<|.narr 2<|Y.Columns.map Ac,some<|.box [.ptr 0 0],some<|.narr 1<|O.map<|nL 1 eB]⟩
def Jbf:St:=⟨(1,.ptr 2 0)::(2,.eptr 3 1 0 0)::(4,.clo 76 [.eptr 3 1 0 0,.ptr 2 0])::(5,.d<|.int .i64 a)::(6,.d<|.int .i64 b)::(7,.d<|.int .i64 E)::(32,.d<|.int .i64 ((c.1.Columns.length:Nat):Int))::(33,.d<|.int .i64 a)::(96,.d<|.sl<|I.map Ak)::(97,.d<|.int .i64 ((I.length:Nat):Int))::(98,.d<|.int .i64 M)::[],[some<|.box<|Am P<|.osl 1 2 0<|P.Columns.length,some<|.narr 2<|P.Columns.map Ac,some<|.box [.ptr 0 0],some<|.narr 1<|C.map<|nL 1 eB]⟩
def MA:(Ae×(List<|List Bool))->Ex->St->Prop:=xX 2 6<|λ (y:(Ae×(List<|List Bool)))=>Jbe c a b E y.1 y.2
def G4:(Ae×(List<|List Bool)×Int)->St:=(λ (x:(Ae×(List<|List Bool)×Int))=>Jbd c a b E I x.1 x.2.1 x.2.2)
def MB:(Ae×(List<|List Bool))->Ex->St->Prop:=xX 2 4<|λ (y:(Ae×(List<|List Bool)))=>Jea c a y.1 y.2
def G5:(Ae×(List<|List Bool)×Int)->St:=(λ (x:(Ae×(List<|List Bool)×Int))=>Jd9 c a b x.1 x.2.1 x.2.2)
def MC:Ae->Ex->St->Prop:=xX 2 2<|λ (y:Ae)=>Jd7 y
def G6:(Ae×(List<|List Bool)×Int)->St:=(λ (x:(Ae×(List<|List Bool)×Int))=>Jd6 c x.1 x.2.1 x.2.2)
variable {q W r L Q c G l a X b e g E ah R af ac I u i M Y O P C}
theorem Lw (x:((List (List Bool))×Int)) (z:(((List (List Bool))×Int)⊕(List (List Bool)))) (H:B4 n q x.1 x.2=some z):WP (cxk 131 2) (Az Tryz.f62) [1,1,0,1,0,0] (Aw 2 (G3 q) (Mz q) z) (G3 q x):=by
 obtain ⟨r,L⟩:=x;refine sr<|ck 1<|en<|sq<|cn H (λ H=>?_)<|λ H=>?_
 ·exact sk<|qz<|sq<|bk 1<|sr<|ck 2<|en<|bx H λ bf aj H=>rg (so1 (encN:=(nL 1 eB)) 3 1 aj)<|ck 5<|sp (AB Ah q.States)<|bx H λ U am H=>sp (TL eB 1 am)<|bx H λ bi ap H=>sp (Wi 3 1 0 5 (j:=0) ap)<|sp (Lq (encN:=(nL 1 eB)) (row:=[.own 1<|bf.map eB]) (row':=[.osl 4 1 0<|U.length]) (k:=3) (sz:=1) (off:=0) (t:=ty 113) (v:=.osl 4 1 0<|U.length) aj)<|ae<|qN<|qz<|rg (tr (sni (encN:=(nL 1 eB)) (xs:=r) (n:=L) (enc:=eB) [.osl 4 1 0<|U.length] U 1 3 0 4 1)<|scl (encN:=(nL 1 eB)) (xss:=r) L [.own 1<|U.map eB] 1 3 U)<|ck 2<|ae (by cases H;exact og<|gP [1,2,13] [0,1,2,3]<|po1<|pn1 Ac q.Columns<|po1<|pn1 (nL 1 eB) (List.set r L.toNat U)<|Pl.z)
 ·exact ex 0<|qx (by cases H;exact xo rfl<|gP [1,2] [0,1,2,3]<|po1<|pn1 Ac q.Columns<|po1<|pn1 (nL 1 eB) r<|Pl.z)
theorem Lx (x:(Ae×(List (List Bool))×Int)) (z:((Ae×(List (List Bool))×Int)⊕(Ae×(List (List Bool))))) (H:BD n c a b E I x.1 x.2.1 x.2.2=some z):WP (cxk 131 2) (Az Tryz.f62) [1,1,1,1,1,1,0,0,1,1,0,0,1,1,1,0,1,0,0,1,0,0,1,1,1,0,0] (Aw 2 (G4 c a b E I) (MA c a b E) z) (G4 c a b E I x):=by
 obtain ⟨u,i,M⟩:=x;refine sr<|ck 1<|en<|sq<|cn H (λ H=>?_)<|λ H=>?_
 ·refine sk<|qz<|sj (λ (x:(Ae×(List<|List Bool)))=>Jbf c a b E I M x.1 x.2) (λ (x:(Ae×(List<|List Bool)))=>B5 n M x.1 x.2) z ?_ (λ m=>?_)
  ·rintro ⟨P,C⟩ H;exact rz<|ck 2<|ae (by cases H;exact og<|gP [1,2,4,5,6,7,32,33,96,97,98] [0,1,2,3]<|po1<|pn1 Ac P.Columns<|po1<|pn1 (nL 1 eB) C<|Pl.z)
  refine bk 7<|sr<|bx H λ ai ar H=>sp (Ap Ak ar)<|ck 3<|en<|sr<|ck 4<|bx H λ bj au H=>ltP [0,1] (EI au) (po1<|pn1 Ac u.Columns<|Pl.z)<|tb (f:=D8<|Dd [0,1] 5 2) [some<|.box<|Am u<|.osl 1 2 0<|u.Columns.length,some<|.narr 2<|u.Columns.map Ac,some<|.box [.ptr 0 0],some<|.narr 1<|i.map<|nL 1 eB,some<|.box [.d<|.int .i64 ai.Rule,.d<|.int .i64 ai.To]] (po1<|pn1 Ac u.Columns<|po1<|po1<|po1<|Pl.z)<|ck 5<|en<|sr<|ck 1<|en<|cn H (λ H=>?_)<|λ H=>?_
  ·exact rz<|ck 4<|bx H λ J av H=>xcP (xok _ _) [3,2,0,1] (G2 av) (pn1 (nL 1 eB) i<|po1<|po1<|pn1 Ac u.Columns<|Pl.z)<|tb (f:=D8<|Dd [3,2,0,1] 5 4) [some<|.box<|Am J.1<|.osl 1 2 0<|J.1.Columns.length,some<|.narr 2<|J.1.Columns.map Ac,some<|.box [.ptr 0 0],some<|.narr 1<|J.2.map<|nL 1 eB,some<|.box [.d<|.int .i64 ai.Rule,.d<|.int .i64 ai.To]] (po1<|pn1 Ac J.1.Columns<|po1<|pn1 (nL 1 eB) J.2<|po1<|Pl.z)<|ae<|qN<|qs (gP [1,2,4,5,6,7,32,33,96,97,98] [0,1,2,3]<|po1<|pn1 Ac J.1.Columns<|po1<|pn1 (nL 1 eB) J.2<|Pl.z)<|m (J.1,J.2) H
  ·exact sk<|qN<|qs (gP [1,2,4,5,6,7,32,33,96,97,98] [0,1,2,3]<|po1<|pn1 Ac u.Columns<|po1<|pn1 (nL 1 eB) i<|Pl.z)<|m (u,i) H
 ·exact ex 6<|qx (by cases H;exact xo rfl<|gP [1,2,4,5,6,7,32,33] [0,1,2,3]<|po1<|pn1 Ac u.Columns<|po1<|pn1 (nL 1 eB) i<|Pl.z)
theorem Ly (x:(Ae×(List (List Bool))×Int)) (z:((Ae×(List (List Bool))×Int)⊕(Ae×(List (List Bool))))) (H:B7 n c a b x.1 x.2.1 x.2.2=some z):WP (cxk 131 2) (Az Tryz.f62) [1,1,1,1,1,1,0,0,1,1,0,0,1,1,1,0,1,0,0] (Aw 2 (G5 c a b) (MB c a) z) (G5 c a b x):=by
 obtain ⟨e,g,E⟩:=x;refine sq<|sq<|bx H λ h Z H=>rg (tr (so1 (encN:=Ac) 1 2 Z)<|sno (encN:=Ac) (enc:=Af) Z [.own 1<|h.States.map Af,.own 1<|h.Costs.map Af] h.States 2 1 0 1)<|ck 6<|sp (Av 1 2 Z)<|ck 1<|sp (Cj (encN:=Ac) (row:=[.osl 4 1 0<|h.States.length,.own 1<|h.Costs.map Af]) (k:=1) (sz:=2) (off:=0) (t:=ty 35) (v:=.osl 4 1 0<|h.States.length) Z)<|ck 2<|en<|cn H (λ H=>?_)<|λ H=>?_
 ·refine sk<|qz<|sq<|bk 5<|sq<|bx H λ B aa H=>rg (tr (tr (tr (tr (tr (sni (encN:=Ac) (xs:=e.Columns) (n:=a) (enc:=Af) [.osl 4 1 0<|h.States.length,.own 1<|h.Costs.map Af] h.States 2 1 0 4 1)<|scl (encN:=Ac) (xss:=e.Columns) a [.own 1<|h.States.map Af,.own 1<|h.Costs.map Af] 2 1 h)<|sn 54 1 2<|lsS e.Columns a.toNat h)<|snc 0 6 1 2<|lsS e.Columns a.toNat h)<|so1 (encN:=Ac) 1 2 aa)<|sno (encN:=Ac) (enc:=Af) aa [.own 1<|B.States.map Af,.own 1<|B.Costs.map Af] B.States 2 1 0 1)<|ck 5<|sp (Av 1 2 aa)<|ck 1<|sp (Cj (encN:=Ac) (row:=[.osl 5 1 0<|B.States.length,.own 1<|B.Costs.map Af]) (k:=1) (sz:=2) (off:=0) (t:=ty 35) (v:=.osl 5 1 0<|B.States.length) aa)<|ck 1<|bx H λ af ak H=>sp (Av 5 1 ak)<|sp (C0 Af 5 0 (ty 3) ak)<|ck 1<|en<|sj (λ (x:Ae)=>Jbc c a b g E af x) (λ (x:Ae)=>B6 n c a b g E af x) z ?_ (λ o=>?_)
  ·intro ac H;exact sr<|ck 5<|bx H λ I aw H=>sp (Ap (eL Ak) aw)<|ck 1<|sp (AB Ak I)<|ck 1<|en<|bk 6<|bx H λ ay az H=>lX Lx az (gP [1,2,4,5,6,7,32,33,96,97,98] [0,1,2,3]<|po1<|pn1 Ac ac.Columns<|po1<|pn1 (nL 1 eB) g<|Pl.z) rfl λ s a0=>qH<|qN<|qs (a0)<|rz<|ck 3<|ae (by cases H;exact og<|gP [1,2,4,5,6,7,32,33] [0,1,2,3]<|po1<|pn1 Ac ay.1.Columns<|po1<|pn1 (nL 1 eB) ay.2<|Pl.z)
  refine sq<|rg (tr (tr (tr (tr (sni (encN:=Ac) (xs:=List.set e.Columns a.toNat h) (n:=a) (enc:=Af) [.osl 5 1 0<|B.States.length,.own 1<|B.Costs.map Af] B.States 2 1 0 5 1)<|scl (encN:=Ac) (xss:=List.set e.Columns a.toNat h) a [.own 1<|B.States.map Af,.own 1<|B.Costs.map Af] 2 1 B)<|sn 54 1 2<|lsS (List.set e.Columns a.toNat h) a.toNat B)<|sn 66 1 2<|lsS (List.set e.Columns a.toNat h) a.toNat B)<|snc 0 6 1 2<|lsS (List.set e.Columns a.toNat h) a.toNat B)<|ck 5<|bx H λ bl a2 H=>sp (Ap Ah a2)<|ck 3<|bx H λ bm a3 H=>so (IL a3)<|ck 2<|en<|cn H (λ H=>?_)<|λ H=>?_
  ·exact rz<|ck 5<|ae<|qs (gP [1,2,4,5,6,7,8,32,33] [0,1,2,3]<|po1<|pn1 Ac (List.set (List.set e.Columns a.toNat h) a.toNat B)<|po1<|pn1 (nL 1 eB) g<|Pl.z)<|o ({ T:=e.T,S:=e.S,States:=e.States,Arcs:=e.Arcs,Columns:=List.set (List.set e.Columns a.toNat h) a.toNat B,Last:=a }:Ae) H
  ·exact sk<|qs (gP [1,2,4,5,6,7,8,32,33] [0,1,2,3]<|po1<|pn1 Ac (List.set (List.set e.Columns a.toNat h) a.toNat B)<|po1<|pn1 (nL 1 eB) g<|Pl.z)<|o ({ T:=e.T,S:=e.S,States:=e.States,Arcs:=e.Arcs,Columns:=List.set (List.set e.Columns a.toNat h) a.toNat B,Last:=e.Last }:Ae) H
 ·exact ex 4<|qx (by cases H;exact xo rfl<|tr (tr (tr (tr (sni (encN:=Ac) (xs:=e.Columns) (n:=a) (enc:=Af) [.osl 4 1 0<|h.States.length,.own 1<|h.Costs.map Af] h.States 2 1 0 4 1)<|scl (encN:=Ac) (xss:=e.Columns) a [.own 1<|h.States.map Af,.own 1<|h.Costs.map Af] 2 1 h)<|sn 54 1 2<|lsS e.Columns a.toNat h)<|snc 0 6 1 2<|lsS e.Columns a.toNat h)<|gP [1,2,4,5,32,33] [0,1,2,3]<|po1<|pn1 Ac (List.set e.Columns a.toNat h)<|po1<|pn1 (nL 1 eB) g<|Pl.z)
theorem Lz (x:(Ae×(List (List Bool))×Int)) (z:((Ae×(List (List Bool))×Int)⊕Ae)) (H:B8 n c x.1 x.2.1 x.2.2=some z):WP (cxk 131 2) (Az Tryz.f62) [1,1,1,1,1,1,0,0] (Aw 2 (G6 c) (MC) z) (G6 c x):=by
 obtain ⟨G,l,a⟩:=x;refine sr<|ck 1<|en<|sq<|cn H (λ H=>?_)<|λ H=>?_
 ·refine sk<|qz<|sq<|bk 3<|sr<|ck 2<|en<|sr<|ck 1<|en<|sj (λ (x:Int)=>Jd8 c G l a x) (λ (x:Int)=>BE n c G l a x) z ?_ (λ p=>?_)
  ·intro b H;exact sq<|sr<|ck 1<|en<|bk 4<|bx H λ K a4 H=>lX Ly a4 (gP [1,2,4,5,6,7,32,33] [0,1,2,3]<|po1<|pn1 Ac G.Columns<|po1<|pn1 (nL 1 eB) l<|Pl.z) rfl λ s a5=>qH<|qs (a5)<|sq<|bx H λ w ab H=>rg (tr (so1 (encN:=Ac) 1 2 ab)<|sno (encN:=Ac) (enc:=Af) ab [.own 1<|w.States.map Af,.own 1<|w.Costs.map Af] w.States 2 1 0 1)<|ck 5<|sp (Av 1 2 ab)<|ck 1<|sp (Cj (encN:=Ac) (row:=[.osl 4 1 0<|w.States.length,.own 1<|w.Costs.map Af]) (k:=1) (sz:=2) (off:=0) (t:=ty 35) (v:=.osl 4 1 0<|w.States.length) ab)<|bx H λ V a6 H=>lt [4] (Jd1 a6)<|bx H λ _ al H=>en<|bx H λ A ag H=>rg (tr (tr (tr (tr (tr (tr (tr (sn 124 4 1<|Vw al)<|snr (encN:=Ac) (xs:=K.1.Columns) (n:=a) [.osl 4 1 0<|w.States.length,.own 1<|w.Costs.map Af] 2 1 0 4 1<|Vw al)<|sni (encN:=Ac) (xs:=K.1.Columns) (n:=a) (enc:=Af) [.osl 4 1 0<|V.length,.own 1<|w.Costs.map Af] V 2 1 0 4 1)<|scl (encN:=Ac) (xss:=K.1.Columns) a [.own 1<|V.map Af,.own 1<|w.Costs.map Af] 2 1 ({ States:=V,Costs:=w.Costs }:AG))<|sn 120 1 2<|lsS K.1.Columns a.toNat ({ States:=V,Costs:=w.Costs }:AG))<|snc 0 6 1 2<|lsS K.1.Columns a.toNat ({ States:=V,Costs:=w.Costs }:AG))<|so1 (encN:=(nL 1 eB)) 3 1 ag)<|sno (encN:=(nL 1 eB)) (enc:=eB) ag [.own 1<|A.map eB] A 1 3 0 1)<|ck 2<|bx H λ bn a7 H=>sp (Wi 3 1 0 5 (j:=0) a7)<|sp (Cj (encN:=(nL 1 eB)) (row:=[.osl 5 1 0<|A.length]) (k:=3) (sz:=1) (off:=0) (t:=ty 113) (v:=.osl 5 1 0<|A.length) ag)<|xz (xok _ _) (xs:=A) eB (false:Bool) 5 1<|ae<|qN<|qz<|rg (tr (tr (tr (sn 129 5 1<|lrS (A.length) (false:Bool))<|snr (encN:=(nL 1 eB)) (xs:=K.2) (n:=Bd a 5) [.osl 5 1 0<|A.length] 1 3 0 5 1<|lrS (A.length) (false:Bool))<|sni (encN:=(nL 1 eB)) (xs:=K.2) (n:=Bd a 5) (enc:=eB) [.osl 5 1 0<|List.length<|List.replicate (A.length) (false:Bool)] (List.replicate (A.length) (false:Bool)) 1 3 0 5 1)<|scl (encN:=(nL 1 eB)) (xss:=K.2) (Bd a 5) [.own 1<|List.map eB<|List.replicate (A.length) (false:Bool)] 1 3<|List.replicate (A.length) (false:Bool))<|ck 2<|ae (by cases H;exact og<|gP [1,2,4,32,33] [0,1,2,3]<|po1<|pn1 Ac (List.set K.1.Columns a.toNat ({ States:=V,Costs:=w.Costs }:AG))<|po1<|pn1 (nL 1 eB) (List.set K.2 (Int.toNat<|Bd a 5)<|List.replicate (A.length) (false:Bool))<|Pl.z)
  refine sr<|ck 7<|en<|cn H (λ H=>?_)<|λ H=>?_
  ·exact rz<|ck 5<|bx H λ b5 a8 H=>sp (HD a8)<|bx H λ bg a9 H=>ca false (Ir a9)<|ck 1<|ae<|qs (gP [1,2,4,5,6,32,33] [0,1,2,3]<|po1<|pn1 Ac G.Columns<|po1<|pn1 (nL 1 eB) l<|Pl.z)<|p bg H
  ·exact sk<|qs (gP [1,2,4,5,6,32,33] [0,1,2,3]<|po1<|pn1 Ac G.Columns<|po1<|pn1 (nL 1 eB) l<|Pl.z)<|p 0 H
 ·exact ex 2<|qx (by cases H;exact xo rfl<|gP [] [0,1]<|po1<|pn1 Ac G.Columns<|Pl.z)
theorem N5 {z} (H:Dn n q=some z):Ce Tryz.prog 62 [.ptr 0 0] [some (.box (Am q (.osl 1 2 0 (q.Columns.length)))),some (.narr 2 (q.Columns.map Ac))] 2 (.tup []) [some (.box (Am z (.osl 1 2 0 (z.Columns.length)))),some (.narr 2 (z.Columns.map Ac))]:=by
 exact fL 131 2 (Jd2 q) Tryz.func62<|sr<|ck 1<|en<|sr<|ck 1<|en<|sq<|sq<|rg (tr (tr (Jf2 3 [.nil,.nil,.nil,.nil,.nil] (by kernel_rfl))<|JcE (sz:=1) (es:=[[.nil],[.nil],[.nil],[.nil],[.nil]]) 3 (List.map (nL 1 eB) ([[],[],[],[],[]]:List (List Bool))) (by kernel_rfl) (by kernel_rfl))<|Jk9 2 3 1 (by kernel_rfl))<|ck 1<|en<|bk 0<|bx H λ bh ba H=>lX Lw ba (gP [1,2,13] [0,1,2,3]<|po1<|pn1 Ac q.Columns<|po1<|pn1 (nL 1 eB) ([[],[],[],[],[]]:List (List Bool))<|Pl.z) rfl λ s bb=>qH<|qs (bb)<|sr<|xm (xok _ _)<|ck 1<|en<|sr<|ck 1<|bx H λ c bc H=>xcP (xok _ _) [3,2,0,1] (G2 bc) (pn1 (nL 1 eB) bh<|po1<|po1<|pn1 Ac q.Columns<|Pl.z)<|tb (f:=D8<|Dd [3,2,0,1] 4 4) [some<|.box<|Am c.1<|.osl 1 2 0<|c.1.Columns.length,some<|.narr 2<|c.1.Columns.map Ac,some<|.box [.ptr 0 0],some<|.narr 1<|c.2.map<|nL 1 eB] (po1<|pn1 Ac c.1.Columns<|po1<|pn1 (nL 1 eB) c.2<|Pl.z)<|en<|sr<|ck 6<|en<|bk 2<|bx H λ bp bd H=>lX Lz bd (gP [1,2,4,32,33] [0,1,2,3]<|po1<|pn1 Ac c.1.Columns<|po1<|pn1 (nL 1 eB) c.2<|Pl.z) rfl λ s be=>qH (by cases H;exact pL'<|rl (s':=Jd3 z)<|tr (be)<|gP [] [0,1]<|po1<|pn1 Ac z.Columns<|Pl.z)
end
section
variable (A:Int) (B:Bool) (e:Int) (l:Int) (r:Ae) (K:Ae) (V:Bool) (q:(List AE)) (h:Ae) (p:Bool) (E:Int) (L:Ae) (G:Bool) (I:Ae) (u:Bool)
def Jeb:St:=⟨(0,.d<|.int .i64 A)::(1,.d<|.bool B)::(2,.ptr 0 0)::(3,.ptr 1 0)::(4,.ptr 2 0)::[],[some<|.box [.ptr 3 0],some<|.box [.eptr 4 2 (0+Int.toNat e) 0],some<|.box [.d<|.int .i64 l],some<|.box<|Am r<|.osl 4 2 0<|r.Columns.length,some<|.narr 2<|r.Columns.map Ac]⟩
def Jec:St:=⟨(7,.d<|.bool V)::[],[some<|.box [.ptr 3 0],some<|.box [.eptr 4 2 (0+Int.toNat e) 0],some<|.box [.d<|.int .i64 l],some<|.box<|Am K<|.osl 4 2 0<|K.Columns.length,some<|.narr 2<|K.Columns.map Ac]⟩
def Jed:St:=⟨(0,.d<|.int .i64 A)::(1,.d<|.bool B)::(2,.ptr 0 0)::(3,.ptr 1 0)::(4,.ptr 2 0)::(8,.d<|.bool p)::(27,.d<|.sl<|q.map Ak)::(28,.d<|.int .i64 ((q.length:Nat):Int))::(29,.d<|.int .i64 E)::[],[some<|.box [.ptr 3 0],some<|.box [.eptr 4 2 (0+Int.toNat e) 0],some<|.box [.d<|.int .i64 l],some<|.box<|Am h<|.osl 4 2 0<|h.Columns.length,some<|.narr 2<|h.Columns.map Ac]⟩
def Jee:St:=⟨(8,.d<|.bool G)::[],[some<|.box [.ptr 3 0],some<|.box [.eptr 4 2 (0+Int.toNat e) 0],some<|.box [.d<|.int .i64 l],some<|.box<|Am L<|.osl 4 2 0<|L.Columns.length,some<|.narr 2<|L.Columns.map Ac]⟩
def Jef:St:=⟨(0,.d<|.int .i64 A)::(1,.d<|.bool B)::(2,.ptr 0 0)::(3,.ptr 1 0)::(4,.ptr 2 0)::(8,.d<|.bool u)::(27,.d<|.sl<|q.map Ak)::(28,.d<|.int .i64 ((q.length:Nat):Int))::(29,.d<|.int .i64 E)::[],[some<|.box [.ptr 3 0],some<|.box [.eptr 4 2 (0+Int.toNat e) 0],some<|.box [.d<|.int .i64 l],some<|.box<|Am I<|.osl 4 2 0<|I.Columns.length,some<|.narr 2<|I.Columns.map Ac]⟩
def KH:(Ae×Bool)->Ex->St->Prop:=xX 5 0<|λ (y:(Ae×Bool))=>Jee e l y.1 y.2
def GB:(Ae×Bool×Int)->St:=(λ (x:(Ae×Bool×Int))=>Jed A B e l q x.1 x.2.1 x.2.2)
variable {A B e l r K V q h p E L G I u}
theorem Kb (x:(Ae×Bool×Int)) (z:((Ae×Bool×Int)⊕(Ae×Bool))) (H:Bq n A B e l q x.1 x.2.1 x.2.2=some z):WP (cxk 104 5) (Az Tryz.f79) [1,1,0,1,0,0] (Aw 5 (GB A B e l q) (KH e l) z) (GB A B e l q x):=by
 obtain ⟨h,p,E⟩:=x;refine sr<|ck 1<|en<|sq<|cn H (λ H=>?_)<|λ H=>?_
 ·refine sk<|qz<|sj (λ (x:(Ae×Bool))=>Jef A B e l q E x.1 x.2) (λ (x:(Ae×Bool))=>Bp n E x.1 x.2) z ?_ (λ j=>?_)
  ·rintro ⟨I,u⟩ H;exact rz<|ck 2<|ae (by cases H;exact og<|gP [0,1,2,3,4,8,27,28,29] [0,1,2,3,4]<|po1<|po1<|po1<|po1<|pn1 Ac I.Columns<|Pl.z)
  refine bk 1<|sr<|bx H λ W ag H=>sp (Ap Ak ag)<|ck 3<|en<|sr<|ck 4<|bx H λ ac ah H=>ltP [3,4] (EI ah) (po1<|pn1 Ac h.Columns<|Pl.z)<|tb (f:=D8<|Dd [3,4] 6 2) [some<|.box [.ptr 3 0],some<|.box [.eptr 4 2 (0+Int.toNat e) 0],some<|.box [.d<|.int .i64 l],some<|.box<|Am h<|.osl 4 2 0<|h.Columns.length,some<|.narr 2<|h.Columns.map Ac,some<|.box [.d<|.int .i64 W.Rule,.d<|.int .i64 W.To]] (po1<|po1<|po1<|po1<|pn1 Ac h.Columns<|po1<|Pl.z)<|ck 5<|en<|sq<|sr<|ck 5<|gc 1 (!(!ac.2))<|ck 1<|gc 1 (!(!ac.2))<|pO<|en<|cn H (λ H=>?_)<|λ H=>?_
  ·exact ex 1<|qx<|qH<|qs (gP [0,1,2,3,4,8,27,28,29] [0,1,2,3,4]<|po1<|po1<|po1<|po1<|pn1 Ac h.Columns<|Pl.z)<|j (h,p) H
  ·refine sk<|qz<|sr<|ck 5<|bx H λ ap O H=>sp (Av 4 2 O)<|ck 2<|bx H λ w ai H=>cb (ks:=[4]) (obl:=[(0+Int.toNat ac.1+1,List.length<|h.Columns.map Ac),(Ph<|h.Columns.map Ac,0)]) false (leK (Jh0 (encN:=Ac) O)<|leK (Jgb λ _=>rfl)<|leZ) (D9 (JcN (encN:=Ac) (encD:=M7) O λ _=>rfl)<|D9 rfl rfl) (Ga ai) (Or.inr trivial) rfl<|ck 1<|en<|sr<|ck 8<|bx H λ P aj H=>sp (Ap Ao aj)<|ck 2<|sp (AB eU8 P.Cells)<|ck 2<|en<|sq<|bx H λ i M H=>rg (tr (so1 (encN:=Ac) 4 2 M)<|sno (encN:=Ac) (enc:=Af) M [.own 1<|i.States.map Af,.own 1<|i.Costs.map Af] i.Costs 2 4 1 1)<|ck 4<|gc 2 (decide<|w>=0)<|sE (g:=decide<|w>=0) (λ hg=>Cj (encN:=Ac) (row:=[.own 1<|i.States.map Af,.osl 6 1 0<|i.Costs.length]) (k:=4) (sz:=2) (off:=1) (t:=ty 35) (v:=.osl 6 1 0<|i.Costs.length) M)<|ck 1<|bx H λ C X H=>sE (λ hg=>Av 6 1<|BA X hg)<|sE (g:=decide<|w>=0) (λ hg=>C0 Af 6 0 (ty 3)<|BA X hg)<|gc 2 (decide<|w>=0)<|ck 2<|gc 2 ((decide<|w>=0)&&!(decide<|C<0))<|sE (g:=((decide<|w>=0)&&!(decide<|C<0))) (λ hg=>Cj (encN:=Ac) (row:=[.own 1<|i.States.map Af,.osl 6 1 0<|i.Costs.length]) (k:=4) (sz:=2) (off:=1) (t:=ty 35) (v:=.osl 6 1 0<|i.Costs.length) M)<|ck 1<|bx H λ Y Z H=>sE (λ hg=>Av 6 1<|BA Z hg)<|sE (g:=((decide<|w>=0)&&!(decide<|C<0))) (λ hg=>C0 Af 6 0 (ty 3)<|BA Z hg)<|gc 1 ((decide<|w>=0)&&!(decide<|C<0))<|pG (g:=decide<|w>=0) (v:=.d<|.bool<|(decide<|C<0)||(decide<|An .i64 w ((P.Cells.length:Nat):Int)<Y)) (λ hg=>Gk (c:=.gv (decide<|w>=0)<|.d<|.bool<|decide<|C<0) (a:=.d<|.bool true) (b:=.gv ((decide<|w>=0)&&!(decide<|C<0))<|.d<|.bool<|decide<|An .i64 w ((P.Cells.length:Nat):Int)<Y) rfl rfl rfl ((λ hh=>hh) hg) trivial (λ ht=>by rw [(λ hh=>hh) hg,ht];rfl))<|pA<|en<|cn H (λ H=>?_)<|λ H=>?_
   ·exact sq<|bx H λ m Q H=>rg (tr (tr (tr (tr (tr (sni (encN:=Ac) (xs:=h.Columns) (n:=e) (enc:=Af) [.own 1<|i.States.map Af,.osl 6 1 0<|i.Costs.length] i.Costs 2 4 1 6 1)<|scl (encN:=Ac) (xss:=h.Columns) e [.own 1<|i.States.map Af,.own 1<|i.Costs.map Af] 2 4 i)<|sn 53 4 2<|lsS h.Columns e.toNat i)<|snc 3 6 4 2<|lsS h.Columns e.toNat i)<|so1 (encN:=Ac) 4 2 Q)<|sno (encN:=Ac) (enc:=Af) Q [.own 1<|m.States.map Af,.own 1<|m.Costs.map Af] m.Costs 2 4 1 1)<|ck 3<|sp (Cj (encN:=Ac) (row:=[.own 1<|m.States.map Af,.osl 7 1 0<|m.Costs.length]) (k:=4) (sz:=2) (off:=1) (t:=ty 35) (v:=.osl 7 1 0<|m.Costs.length) Q)<|ck 2<|bx H λ ar aa H=>sp (Av 7 1 aa)<|bx H λ J R H=>stA Af 7 0 (ty 3) aa R<|en<|rg (tr (tr (tr (tr (tr (sn 98 7 1<|Bb R)<|snr (encN:=Ac) (xs:=List.set h.Columns e.toNat i) (n:=e) [.own 1<|m.States.map Af,.osl 7 1 0<|m.Costs.length] 2 4 1 7 1<|Bb R)<|sni (encN:=Ac) (xs:=List.set h.Columns e.toNat i) (n:=e) (enc:=Af) [.own 1<|m.States.map Af,.osl 7 1 0<|J.length] J 2 4 1 7 1)<|scl (encN:=Ac) (xss:=List.set h.Columns e.toNat i) e [.own 1<|m.States.map Af,.own 1<|J.map Af] 2 4 ({ States:=m.States,Costs:=J }:AG))<|sn 53 4 2<|lsS (List.set h.Columns e.toNat i) e.toNat ({ States:=m.States,Costs:=J }:AG))<|snc 3 6 4 2<|lsS (List.set h.Columns e.toNat i) e.toNat ({ States:=m.States,Costs:=J }:AG))<|ck 1<|ae<|qN<|qs (gP [0,1,2,3,4,8,27,28,29] [0,1,2,3,4]<|po1<|po1<|po1<|po1<|pn1 Ac (List.set (List.set h.Columns e.toNat i) e.toNat ({ States:=m.States,Costs:=J }:AG))<|Pl.z)<|j (({ T:=h.T,S:=h.S,States:=h.States,Arcs:=h.Arcs,Columns:=List.set (List.set h.Columns e.toNat i) e.toNat ({ States:=m.States,Costs:=J }:AG),Last:=h.Last }:Ae),true) H
   ·exact sk<|qN<|qs (tr (tr (tr (tr (sni (encN:=Ac) (xs:=h.Columns) (n:=e) (enc:=Af) [.own 1<|i.States.map Af,.osl 6 1 0<|i.Costs.length] i.Costs 2 4 1 6 1)<|scl (encN:=Ac) (xss:=h.Columns) e [.own 1<|i.States.map Af,.own 1<|i.Costs.map Af] 2 4 i)<|sn 53 4 2<|lsS h.Columns e.toNat i)<|snc 3 6 4 2<|lsS h.Columns e.toNat i)<|gP [0,1,2,3,4,8,27,28,29] [0,1,2,3,4]<|po1<|po1<|po1<|po1<|pn1 Ac (List.set h.Columns e.toNat i)<|Pl.z)<|j (({ T:=h.T,S:=h.S,States:=h.States,Arcs:=h.Arcs,Columns:=List.set h.Columns e.toNat i,Last:=h.Last }:Ae),p) H
 ·exact ex 0<|qx (by cases H;exact xo rfl<|gP [8] [0,1,2,3,4]<|po1<|po1<|po1<|po1<|pn1 Ac h.Columns<|Pl.z)
theorem G7 {z} (H:Cl n A B e l r=some z):Ce Tryz.prog 79 [.d (.int .i64 A),.d (.bool B),.ptr 0 0,.ptr 1 0,.ptr 2 0] [some (.box [.ptr 3 0]),some (.box [.eptr 4 2 (0+Int.toNat e) 0]),some (.box [.d (.int .i64 l)]),some (.box (Am r (.osl 4 2 0 (r.Columns.length)))),some (.narr 2 (r.Columns.map Ac))] 5 (.d (.bool z.2)) [some (.box [.ptr 3 0]),some (.box [.eptr 4 2 (0+Int.toNat e) 0]),some (.box [.d (.int .i64 l)]),some (.box (Am z.1 (.osl 4 2 0 (z.1.Columns.length)))),some (.narr 2 (z.1.Columns.map Ac))]:=by
 exact fL 104 5 (Jeb A B e l r) Tryz.func79<|sr<|ck 1<|en<|sr<|ck 1<|en<|sq<|sq<|bx H λ o U H=>rg (tr (so1 (encN:=Ac) 4 2 U)<|sno (encN:=Ac) (enc:=Af) U [.own 1<|o.States.map Af,.own 1<|o.Costs.map Af] o.States 2 4 0 1)<|ck 7<|sp (Cj (encN:=Ac) (row:=[.osl 5 1 0<|o.States.length,.own 1<|o.Costs.map Af]) (k:=4) (sz:=2) (off:=0) (t:=ty 35) (v:=.osl 5 1 0<|o.States.length) U)<|ck 1<|bx H λ au ab H=>sp (Av 5 1 ab)<|sp (C0 Af 5 0 (ty 3) ab)<|bx H λ q ak H=>sp (Ap (eL Ak) ak)<|ck 1<|sp (AB Ak q)<|ck 1<|en<|bk 0<|bx H λ af al H=>lX Kb al (tr (tr (tr (sni (encN:=Ac) (xs:=r.Columns) (n:=e) (enc:=Af) [.osl 5 1 0<|o.States.length,.own 1<|o.Costs.map Af] o.States 2 4 0 5 1)<|scl (encN:=Ac) (xss:=r.Columns) e [.own 1<|o.States.map Af,.own 1<|o.Costs.map Af] 2 4 o)<|snc 3 6 4 2<|lsS r.Columns e.toNat o)<|gP [0,1,2,3,4,8,27,28,29] [0,1,2,3,4]<|po1<|po1<|po1<|po1<|pn1 Ac (List.set r.Columns e.toNat o)<|Pl.z) rfl λ s am=>qH<|qs (am)<|sr<|ck 2<|en<|re (by cases H;exact pL<|rl (s':=Jec e l af.1 af.2)<|gP [7] [0,1,2,3,4]<|po1<|po1<|po1<|po1<|pn1 Ac af.1.Columns<|Pl.z)
end
section
variable (u:Ae) (B:Ae) (e:Ae) (a:Int) (C:Ae) (c:AG) (g:(List Int)) (b:AG) (o:(List Int)) (A:Int) (E:Ae) (M:(List Int)) (h:AG) (p:Ae) (O:Int) (G:Ae) (m:Ae) (I:Ae) (i:AG) (q:Ae) (l:Bool) (P:Int) (J:Ae) (r:Bool)
def Jeg:St:=⟨(0,.ptr 0 0)::[],[some<|.box<|Am u<|.osl 1 2 0<|u.Columns.length,some<|.narr 2<|u.Columns.map Ac]⟩
def Jeh:St:=⟨[],[some<|.box<|Am B<|.osl 1 2 0<|B.Columns.length,some<|.narr 2<|B.Columns.map Ac]⟩
def Jei:St:=⟨(1,.ptr 2 0)::(2,.ptr 3 0)::[],[some<|.box<|Am e<|.osl 1 2 0<|e.Columns.length,some<|.narr 2<|e.Columns.map Ac,some<|.box [.ptr 0 0],some<|.box [.d<|.int .i64 a]]⟩
def Jej:St:=⟨[],[some<|.box<|Am C<|.osl 1 2 0<|C.Columns.length,some<|.narr 2<|C.Columns.map Ac]⟩
def Jek:St:=⟨(1,.ptr 2 0)::(2,.ptr 3 0)::(3,.ptr 4 0)::(37,.osl 5 1 0<|b.States.length)::(38,.d<|.int .i64 ((b.States.length:Nat):Int))::(39,.d<|.int .i64 A)::[],[some<|.box<|Am e<|.osl 1 2 0<|List.length<|List.set e.Columns a.toNat ({ States:=c.States,Costs:=g }:AG),some<|.narr 2<|List.set (List.map Ac<|List.set e.Columns a.toNat ({ States:=c.States,Costs:=g }:AG)) a.toNat [.osl 5 1 0<|b.States.length,.own 1<|o.map Af],some<|.box [.ptr 0 0],some<|.box [.d<|.int .i64 a],some<|.box [.eptr 1 2 (0+Int.toNat a) 0],some<|.arr 1<|b.States.map Af]⟩
def Jel:St:=⟨(1,.ptr 2 0)::(2,.ptr 3 0)::(3,.ptr 4 0)::[],[some<|.box<|Am E<|.osl 1 2 0<|E.Columns.length,some<|.narr 2<|E.Columns.map Ac,some<|.box [.ptr 0 0],some<|.box [.d<|.int .i64 a],some<|.box [.eptr 1 2 (0+Int.toNat a) 0]]⟩
def Jem:St:=⟨(1,.ptr 2 0)::(2,.ptr 3 0)::(3,.ptr 4 0)::(37,.osl 5 1 0<|b.States.length)::(38,.d<|.int .i64 ((b.States.length:Nat):Int))::(39,.d<|.int .i64 A)::[],[some<|.box<|Am e<|.osl 1 2 0<|List.length<|List.set e.Columns a.toNat ({ States:=c.States,Costs:=g }:AG),some<|.narr 2<|List.set (List.map Ac<|List.set e.Columns a.toNat ({ States:=c.States,Costs:=g }:AG)) a.toNat [.osl 5 1 0<|b.States.length,.own 1<|M.map Af],some<|.box [.ptr 0 0],some<|.box [.d<|.int .i64 a],some<|.box [.eptr 1 2 (0+Int.toNat a) 0],some<|.arr 1<|b.States.map Af]⟩
def MD:Ae->Ex->St->Prop:=xX 2 2<|λ (y:Ae)=>Jel a y
def G8:((List Int)×Int)->St:=(λ (x:((List Int)×Int))=>Jek e a c g b x.1 x.2)
def Jen:St:=⟨(1,.ptr 2 0)::(2,.ptr 3 0)::(3,.ptr 4 0)::(6,.clo 79 [.ptr 2 0,.ptr 4 0,.ptr 3 0])::(83,.d<|.int .i64 ((h.States.length:Nat):Int))::(84,.d<|.int .i64 O)::[],[some<|.box<|Am p<|.osl 1 2 0<|p.Columns.length,some<|.narr 2<|p.Columns.map Ac,some<|.box [.ptr 0 0],some<|.box [.d<|.int .i64 a],some<|.box [.eptr 1 2 (0+Int.toNat a) 0]]⟩
def Jeo:St:=⟨(1,.ptr 2 0)::(2,.ptr 3 0)::(3,.ptr 4 0)::(6,.clo 79 [.ptr 2 0,.ptr 4 0,.ptr 3 0])::[],[some<|.box<|Am G<|.osl 1 2 0<|G.Columns.length,some<|.narr 2<|G.Columns.map Ac,some<|.box [.ptr 0 0],some<|.box [.d<|.int .i64 a],some<|.box [.eptr 1 2 (0+Int.toNat a) 0]]⟩
def ME:Ae->Ex->St->Prop:=xX 2 4<|λ (y:Ae)=>Jeo a y
def G9:(Ae×Int)->St:=(λ (x:(Ae×Int))=>Jen a h x.1 x.2)
def Jbg:St:=⟨(1,.ptr 2 0)::(2,.ptr 3 0)::(3,.ptr 4 0)::(6,.clo 79 [.ptr 2 0,.ptr 4 0,.ptr 3 0])::[],[some<|.box<|Am m<|.osl 1 2 0<|m.Columns.length,some<|.narr 2<|m.Columns.map Ac,some<|.box [.ptr 0 0],some<|.box [.d<|.int .i64 a],some<|.box [.eptr 1 2 (0+Int.toNat a) 0]]⟩
def Jbh:St:=⟨(1,.ptr 2 0)::(2,.ptr 3 0)::[],[some<|.box<|Am I<|.osl 1 2 0<|I.Columns.length,some<|.narr 2<|I.Columns.map Ac,some<|.box [.ptr 0 0],some<|.box [.d<|.int .i64 a]]⟩
def Jbi:St:=⟨(1,.ptr 2 0)::(2,.ptr 3 0)::(3,.ptr 4 0)::(6,.clo 79 [.ptr 2 0,.ptr 4 0,.ptr 3 0])::(8,.d<|.bool l)::(95,.d<|.int .i64 ((i.States.length:Nat):Int))::(96,.d<|.int .i64 P)::[],[some<|.box<|Am q<|.osl 1 2 0<|q.Columns.length,some<|.narr 2<|q.Columns.map Ac,some<|.box [.ptr 0 0],some<|.box [.d<|.int .i64 a],some<|.box [.eptr 1 2 (0+Int.toNat a) 0]]⟩
def Jbj:St:=⟨(1,.ptr 2 0)::(2,.ptr 3 0)::(3,.ptr 4 0)::(6,.clo 79 [.ptr 2 0,.ptr 4 0,.ptr 3 0])::(8,.d<|.bool r)::[],[some<|.box<|Am J<|.osl 1 2 0<|J.Columns.length,some<|.narr 2<|J.Columns.map Ac,some<|.box [.ptr 0 0],some<|.box [.d<|.int .i64 a],some<|.box [.eptr 1 2 (0+Int.toNat a) 0]]⟩
def MF:(Ae×Bool)->Ex->St->Prop:=xX 2 8<|λ (y:(Ae×Bool))=>Jbj a y.1 y.2
def Ha:(Ae×Bool×Int)->St:=(λ (x:(Ae×Bool×Int))=>Jbi a i x.1 x.2.1 x.2.2)
def MG:Ae->Ex->St->Prop:=xX 2 6<|λ (y:Ae)=>Jbh a y
def Hb:Ae->St:=(λ (x:Ae)=>Jbg a x)
def MH:Ae->Ex->St->Prop:=xX 2 0<|λ (y:Ae)=>Jej y
def Hc:(Ae×Int)->St:=(λ (x:(Ae×Int))=>Jei x.1 x.2)
variable {u B e a C c g b o A E M h p O G m I i q l P J r}
theorem LA (x:((List Int)×Int)) (z:(((List Int)×Int)⊕Ae)) (H:BF n e a c g b x.1 x.2=some z):WP (cxk 109 2) (Az Tryz.f63) [1,1,0,0,1,0,0,0,1,1,0,1,0,0] (Aw 2 (G8 e a c g b) (MD a) z) (G8 e a c g b x):=by
 obtain ⟨o,A⟩:=x;refine sr<|ck 1<|en<|sq<|cn H (λ H=>?_)<|λ H=>?_
 ·refine sk<|qz<|sj (λ (x:(List Int))=>Jem e a c g b A x) (λ (x:(List Int))=>B9 n A x) z ?_ (λ j=>?_)
  ·intro M H;exact rz<|ck 2<|ae (by cases H;exact og<|gP [1,2,3,37,38,39] [0,1,2,3,4,5]<|po1<|Pl.n _ (nrH (n:=Int.toNat a) (row:=[.osl 5 1 0<|b.States.length,.own 1<|M.map Af]) (row':=[.osl 5 1 0<|b.States.length,.own 1<|M.map Af]) (nrM (encN:=Ac) (xss:=List.set e.Columns a.toNat ({ States:=c.States,Costs:=g }:AG)) λ _=>rfl) rfl)<|po1<|po1<|po1<|po1<|Pl.z)
  refine bk 3<|sr<|ck 1<|bx H λ a5 aa H=>sp (Av 5 1 aa)<|sp (C0 Af 5 0 (ty 3) aa)<|ck 2<|en<|sq<|bx H λ a6 K H=>rg (sno (encN:=Ac) (enc:=Af) K [.osl 5 1 0<|b.States.length,.own 1<|o.map Af] o 2 1 1 1)<|ck 3<|sp (Cj (encN:=Ac) (row:=[.osl 5 1 0<|b.States.length,.osl 6 1 0<|o.length]) (k:=1) (sz:=2) (off:=1) (t:=ty 35) (v:=.osl 6 1 0<|o.length) K)<|ck 1<|bx H λ a7 ab H=>sp (Av 6 1 ab)<|bx H λ w Q H=>stA Af 6 0 (ty 3) ab Q<|en<|sq<|rg (tr (tr (sn 47 6 1<|Bb Q)<|snr (encN:=Ac) (xs:=List.set e.Columns a.toNat ({ States:=c.States,Costs:=g }:AG)) (n:=a) [.osl 5 1 0<|b.States.length,.osl 6 1 0<|o.length] 2 1 1 6 1<|Bb Q)<|sni (encN:=Ac) (xs:=List.set e.Columns a.toNat ({ States:=c.States,Costs:=g }:AG)) (n:=a) (enc:=Af) [.osl 5 1 0<|b.States.length,.osl 6 1 0<|w.length] w 2 1 1 6 1)<|ck 9<|gc 3 (a==((e.S.length:Nat):Int))<|ck 1<|gc 3 (a==((e.S.length:Nat):Int))<|ck 1<|bx H λ a8 af H=>sE (λ hg=>Ap Ah<|BA af hg)<|gc 1 (a==((e.S.length:Nat):Int))<|bx H λ bb ag H=>cG false (leZ) rfl (λ hg=>Nb<|BA ag hg) (Or.inl rfl) (Cc (λ hh=>hh)<|Cc (λ hh=>hh)<|Ef) rfl<|pA<|en<|cn H (λ H=>?_)<|λ H=>?_
  ·exact rg (sno (encN:=Ac) (enc:=Af) K [.osl 5 1 0<|b.States.length,.own 1<|w.map Af] w 2 1 1 1)<|ck 3<|sp (Cj (encN:=Ac) (row:=[.osl 5 1 0<|b.States.length,.osl 7 1 0<|w.length]) (k:=1) (sz:=2) (off:=1) (t:=ty 35) (v:=.osl 7 1 0<|w.length) K)<|ck 1<|bx H λ a9 ac H=>sp (Av 7 1 ac)<|bx H λ R T H=>stA Af 7 0 (ty 3) ac T<|ae<|qN<|qs (tr (tr (tr (sn 74 7 1<|Bb T)<|snr (encN:=Ac) (xs:=List.set e.Columns a.toNat ({ States:=c.States,Costs:=g }:AG)) (n:=a) [.osl 5 1 0<|b.States.length,.osl 7 1 0<|w.length] 2 1 1 7 1<|Bb T)<|sni (encN:=Ac) (xs:=List.set e.Columns a.toNat ({ States:=c.States,Costs:=g }:AG)) (n:=a) (enc:=Af) [.osl 5 1 0<|b.States.length,.osl 7 1 0<|R.length] R 2 1 1 7 1)<|gP [1,2,3,37,38,39] [0,1,2,3,4,5]<|po1<|Pl.n _ (nrH (n:=Int.toNat a) (row:=[.osl 5 1 0<|b.States.length,.own 1<|R.map Af]) (row':=[.osl 5 1 0<|b.States.length,.own 1<|R.map Af]) (nrM (encN:=Ac) (xss:=List.set e.Columns a.toNat ({ States:=c.States,Costs:=g }:AG)) λ _=>rfl) rfl)<|po1<|po1<|po1<|po1<|Pl.z)<|j R H
  ·exact sk<|qN<|qs (gP [1,2,3,37,38,39] [0,1,2,3,4,5]<|po1<|Pl.n _ (nrH (n:=Int.toNat a) (row:=[.osl 5 1 0<|b.States.length,.own 1<|w.map Af]) (row':=[.osl 5 1 0<|b.States.length,.own 1<|w.map Af]) (nrM (encN:=Ac) (xss:=List.set e.Columns a.toNat ({ States:=c.States,Costs:=g }:AG)) λ _=>rfl) rfl)<|po1<|po1<|po1<|po1<|Pl.z)<|j w H
 ·exact ex 2<|qx (by cases H;exact xo rfl<|tr (tr (tr (sni (encN:=Ac) (xs:=List.set e.Columns a.toNat ({ States:=c.States,Costs:=g }:AG)) (n:=a) (enc:=Af) [.osl 5 1 0<|b.States.length,.own 1<|o.map Af] b.States 2 1 0 5 1)<|scl (encN:=Ac) (xss:=List.set e.Columns a.toNat ({ States:=c.States,Costs:=g }:AG)) a [.own 1<|b.States.map Af,.own 1<|o.map Af] 2 1 ({ States:=b.States,Costs:=o }:AG))<|snc 0 6 1 2<|lsS (List.set e.Columns a.toNat ({ States:=c.States,Costs:=g }:AG)) a.toNat ({ States:=b.States,Costs:=o }:AG))<|gP [1,2,3] [0,1,2,3,4]<|po1<|pn1 Ac (List.set (List.set e.Columns a.toNat ({ States:=c.States,Costs:=g }:AG)) a.toNat ({ States:=b.States,Costs:=o }:AG))<|po1<|po1<|po1<|Pl.z)
theorem LB (x:(Ae×Int)) (z:((Ae×Int)⊕Ae)) (H:BG n a h x.1 x.2=some z):WP (cxk 109 2) (Az Tryz.f63) [1,1,0,0,1,0,0,0,1,1,1,1,0,1,0,0] (Aw 2 (G9 a h) (ME a) z) (G9 a h x):=by
 obtain ⟨p,O⟩:=x;refine sr<|ck 1<|en<|sq<|cn H (λ H=>?_)<|λ H=>?_
 ·exact sk<|qz<|sq<|bk 5<|sr<|ck 2<|en<|rz<|ck 2<|bx H λ U ah H=>xcP (xok _ _) [2,4,3,0,1] (G7 ah) (po1<|po1<|po1<|po1<|pn1 Ac p.Columns<|Pl.z)<|tb (f:=D8<|Dd [2,4,3,0,1] 5 5) [some<|.box<|Am U.1<|.osl 1 2 0<|U.1.Columns.length,some<|.narr 2<|U.1.Columns.map Ac,some<|.box [.ptr 0 0],some<|.box [.d<|.int .i64 a],some<|.box [.eptr 1 2 (0+Int.toNat a) 0]] (po1<|pn1 Ac U.1.Columns<|po1<|po1<|po1<|Pl.z)<|ae<|qN<|qz<|rz<|ck 2<|ae (by cases H;exact og<|gP [1,2,3,6,83,84] [0,1,2,3,4]<|po1<|pn1 Ac U.1.Columns<|po1<|po1<|po1<|Pl.z)
 ·exact ex 4<|qx (by cases H;exact xo rfl<|gP [1,2,3,6] [0,1,2,3,4]<|po1<|pn1 Ac p.Columns<|po1<|po1<|po1<|Pl.z)
theorem LC (x:(Ae×Bool×Int)) (z:((Ae×Bool×Int)⊕(Ae×Bool))) (H:BH n a i x.1 x.2.1 x.2.2=some z):WP (cxk 109 2) (Az Tryz.f63) [1,1,0,0,1,0,0,0,1,1,1,1,1,1,0,0,0,1,0,1,0,0] (Aw 2 (Ha a i) (MF a) z) (Ha a i x):=by
 obtain ⟨q,l,P⟩:=x;refine sr<|ck 1<|en<|sq<|cn H (λ H=>?_)<|λ H=>?_
 ·exact sk<|qz<|sq<|bk 9<|sr<|ck 2<|en<|rz<|ck 2<|bx H λ V ai H=>xcP (xok _ _) [2,4,3,0,1] (G7 ai) (po1<|po1<|po1<|po1<|pn1 Ac q.Columns<|Pl.z)<|tb (f:=D8<|Dd [2,4,3,0,1] 5 5) [some<|.box<|Am V.1<|.osl 1 2 0<|V.1.Columns.length,some<|.narr 2<|V.1.Columns.map Ac,some<|.box [.ptr 0 0],some<|.box [.d<|.int .i64 a],some<|.box [.eptr 1 2 (0+Int.toNat a) 0]] (po1<|pn1 Ac V.1.Columns<|po1<|po1<|po1<|Pl.z)<|ck 2<|pO<|ck 1<|ae<|qN<|qz<|rz<|ck 2<|ae (by cases H;exact og<|gP [1,2,3,6,8,95,96] [0,1,2,3,4]<|po1<|pn1 Ac V.1.Columns<|po1<|po1<|po1<|Pl.z)
 ·exact ex 8<|qx (by cases H;exact xo rfl<|gP [1,2,3,6,8] [0,1,2,3,4]<|po1<|pn1 Ac q.Columns<|po1<|po1<|po1<|Pl.z)
theorem LD (x:Ae) (z:(Ae⊕Ae)) (H:Ca n a x=some z):WP (cxk 109 2) (Az Tryz.f63) [1,1,0,0,1,0,0,0,1,1,1,1,1,1,0,0] (Aw 2 (Hb a) (MG a) z) (Hb a x):=by
 revert H;generalize x=m;intro H;refine bk 7<|sr<|ck 1<|en<|sq<|sq<|bx H λ i W H=>rg (tr (so1 (encN:=Ac) 1 2 W)<|sno (encN:=Ac) (enc:=Af) W [.own 1<|i.States.map Af,.own 1<|i.Costs.map Af] i.States 2 1 0 1)<|ck 3<|sp (Cj (encN:=Ac) (row:=[.osl 5 1 0<|i.States.length,.own 1<|i.Costs.map Af]) (k:=1) (sz:=2) (off:=0) (t:=ty 35) (v:=.osl 5 1 0<|i.States.length) W)<|ck 2<|en<|bk 8<|bx H λ aj ak H=>lX LC ak (tr (tr (tr (sni (encN:=Ac) (xs:=m.Columns) (n:=a) (enc:=Af) [.osl 5 1 0<|i.States.length,.own 1<|i.Costs.map Af] i.States 2 1 0 5 1)<|scl (encN:=Ac) (xss:=m.Columns) a [.own 1<|i.States.map Af,.own 1<|i.Costs.map Af] 2 1 i)<|snc 0 6 1 2<|lsS m.Columns a.toNat i)<|gP [1,2,3,6,8,95,96] [0,1,2,3,4]<|po1<|pn1 Ac (List.set m.Columns a.toNat i)<|po1<|po1<|po1<|Pl.z) rfl λ s al=>qH<|qs (al)<|sr<|ck 2<|en<|cn H (λ H=>?_)<|λ H=>?_
 ·exact ex 6<|qX rfl (by cases H;exact xo rfl<|gP [1,2] [0,1,2,3]<|po1<|pn1 Ac aj.1.Columns<|po1<|po1<|Pl.z)
 ·exact sk<|qN (by cases H;exact og<|gP [1,2,3,6] [0,1,2,3,4]<|po1<|pn1 Ac aj.1.Columns<|po1<|po1<|po1<|Pl.z)
theorem LE (x:(Ae×Int)) (z:((Ae×Int)⊕Ae)) (H:CA n x.1 x.2=some z):WP (cxk 109 2) (Az Tryz.f63) [1,1,0,0] (Aw 2 (Hc) (MH) z) (Hc x):=by
 obtain ⟨e,a⟩:=x;refine sq<|sr<|ck 2<|en<|cn H (λ H=>?_)<|λ H=>?_
 ·exact sk<|qz<|sq<|bk 1<|sc<|sr<|ck 5<|bx H λ ba am H=>sp (Av 1 2 am)<|ck 2<|en<|sq<|bx H λ c L H=>rg (tr (so1 (encN:=Ac) 1 2 L)<|sno (encN:=Ac) (enc:=Af) L [.own 1<|c.States.map Af,.own 1<|c.Costs.map Af] c.States 2 1 0 1)<|ck 4<|sp (Cj (encN:=Ac) (row:=[.osl 5 1 0<|c.States.length,.own 1<|c.Costs.map Af]) (k:=1) (sz:=2) (off:=0) (t:=ty 35) (v:=.osl 5 1 0<|c.States.length) L)<|ck 1<|bx H λ g ap H=>sp (TL Af 1 ap)<|ck 2<|sp (Lq (encN:=Ac) (row:=[.osl 5 1 0<|c.States.length,.own 1<|c.Costs.map Af]) (row':=[.osl 5 1 0<|c.States.length,.osl 6 1 0<|g.length]) (k:=1) (sz:=2) (off:=1) (t:=ty 35) (v:=.osl 6 1 0<|g.length) L)<|en<|sq<|sq<|bx H λ b X H=>rg (tr (tr (tr (tr (tr (tr (sni (encN:=Ac) (xs:=e.Columns) (n:=a) (enc:=Af) [.osl 5 1 0<|c.States.length,.osl 6 1 0<|g.length] c.States 2 1 0 5 1)<|sni (encN:=Ac) (xs:=e.Columns) (n:=a) (enc:=Af) [.own 1<|c.States.map Af,.osl 6 1 0<|g.length] g 2 1 1 6 1)<|scl (encN:=Ac) (xss:=e.Columns) a [.own 1<|c.States.map Af,.own 1<|g.map Af] 2 1 ({ States:=c.States,Costs:=g }:AG))<|sn 22 1 2<|lsS e.Columns a.toNat ({ States:=c.States,Costs:=g }:AG))<|snc 0 6 1 2<|lsS e.Columns a.toNat ({ States:=c.States,Costs:=g }:AG))<|so1 (encN:=Ac) 1 2 X)<|sno (encN:=Ac) (enc:=Af) X [.own 1<|b.States.map Af,.own 1<|b.Costs.map Af] b.States 2 1 0 1)<|ck 3<|sp (Cj (encN:=Ac) (row:=[.osl 7 1 0<|b.States.length,.own 1<|b.Costs.map Af]) (k:=1) (sz:=2) (off:=0) (t:=ty 35) (v:=.osl 7 1 0<|b.States.length) X)<|ck 2<|en<|bk 2<|bx H λ Z ar H=>lX LA ar (gP [1,2,3,37,38,39] [0,1,2,3,4,7]<|po1<|Pl.n _ (nrH (n:=Int.toNat a) (row:=[.osl 7 1 0<|b.States.length,.own 1<|b.Costs.map Af]) (row':=[.osl 5 1 0<|b.States.length,.own 1<|b.Costs.map Af]) (nrM (encN:=Ac) (xss:=List.set e.Columns a.toNat ({ States:=c.States,Costs:=g }:AG)) λ _=>rfl) rfl)<|po1<|po1<|po1<|po1<|Pl.z) rfl λ s au=>qH<|qs (au)<|sr<|xm (xok _ _)<|ck 1<|en<|sq<|sq<|bx H λ h Y H=>rg (tr (so1 (encN:=Ac) 1 2 Y)<|sno (encN:=Ac) (enc:=Af) Y [.own 1<|h.States.map Af,.own 1<|h.Costs.map Af] h.States 2 1 0 1)<|ck 3<|sp (Cj (encN:=Ac) (row:=[.osl 5 1 0<|h.States.length,.own 1<|h.Costs.map Af]) (k:=1) (sz:=2) (off:=0) (t:=ty 35) (v:=.osl 5 1 0<|h.States.length) Y)<|ck 2<|en<|bk 4<|bx H λ a3 av H=>lX LB av (tr (tr (tr (sni (encN:=Ac) (xs:=Z.Columns) (n:=a) (enc:=Af) [.osl 5 1 0<|h.States.length,.own 1<|h.Costs.map Af] h.States 2 1 0 5 1)<|scl (encN:=Ac) (xss:=Z.Columns) a [.own 1<|h.States.map Af,.own 1<|h.Costs.map Af] 2 1 h)<|snc 0 6 1 2<|lsS Z.Columns a.toNat h)<|gP [1,2,3,6,83,84] [0,1,2,3,4]<|po1<|pn1 Ac (List.set Z.Columns a.toNat h)<|po1<|po1<|po1<|Pl.z) rfl λ s aw=>qH<|qs (aw)<|sq<|lbl<|qz<|bk 6<|bx H λ a4 ay H=>lX LD ay (gP [1,2,3,6] [0,1,2,3,4]<|po1<|pn1 Ac a3.Columns<|po1<|po1<|po1<|Pl.z) rfl λ s az=>qH<|qN<|qs (az)<|sq<|sr<|ck 1<|en<|rz<|ck 2<|en<|rz<|ck 3<|ae (by cases H;exact og<|gP [1,2] [0,1,2,4]<|po1<|pn1 Ac a4.Columns<|po1<|po1<|Pl.z)
 ·exact ex 0<|qx (by cases H;exact xo rfl<|gP [] [0,1]<|po1<|pn1 Ac e.Columns<|Pl.z)
theorem N6 {z} (H:Do n u=some z):Ce Tryz.prog 63 [.ptr 0 0] [some (.box (Am u (.osl 1 2 0 (u.Columns.length)))),some (.narr 2 (u.Columns.map Ac))] 2 (.tup []) [some (.box (Am z (.osl 1 2 0 (z.Columns.length)))),some (.narr 2 (z.Columns.map Ac))]:=by
 exact fL 109 2 (Jeg u) Tryz.func63<|sr<|ck 1<|en<|sr<|ck 7<|en<|bk 0<|bx H λ bc a0 H=>lX LE a0 (gP [1,2] [0,1,2,3]<|po1<|pn1 Ac u.Columns<|po1<|po1<|Pl.z) rfl λ s a2=>qH (by cases H;exact pL'<|rl (s':=Jeh z)<|tr (a2)<|gP [] [0,1]<|po1<|pn1 Ac z.Columns<|Pl.z)
end
section
variable (b:Ae) (o:AJ) (a:AJ) (c:Int) (l:Int) (h:Int) (i:AJ) (k:(List AE)) (m:Int) (j:AJ) (p:Int) (q:Int) (r:Int)
def Jep:St:=⟨(0,.ptr 0 0)::[],[some<|.box<|Am b<|.osl 1 2 0<|b.Columns.length,some<|.narr 2<|b.Columns.map Ac]⟩
def Jeq:St:=⟨(2,.ptr 2 0)::[],[some<|.box<|Am b<|.osl 1 2 0<|b.Columns.length,some<|.narr 2<|b.Columns.map Ac,some<|.box [.osl 3 1 0<|o.Cells.length,.osl 4 1 0<|o.Path.length],some<|.arr 1<|o.Cells.map eU8,some<|.arr 1<|o.Path.map Af]⟩
def Jer:St:=⟨(0,.ptr 0 0)::(2,.ptr 2 0)::(3,.ptr 3 0)::(4,.d<|.int .i64 c)::(5,.d<|.int .i64 l)::(6,.d<|.int .i64 h)::[],[some<|.box<|Am b<|.osl 1 2 0<|b.Columns.length,some<|.narr 2<|b.Columns.map Ac,some<|.box [.osl 4 1 0<|List.length ([]:List Int),.osl 5 1 0<|List.length ([]:List Int)],some<|.box [.osl 6 1 0<|a.Cells.length,.osl 7 1 0<|a.Path.length],some<|.arr 1<|List.map eU8 ([]:List Int),some<|.arr 1<|List.map Af ([]:List Int),some<|.arr 1<|a.Cells.map eU8,some<|.arr 1<|a.Path.map Af]⟩
def Jes:St:=⟨(2,.ptr 2 0)::(3,.ptr 3 0)::[],[some<|.box<|Am b<|.osl 1 2 0<|b.Columns.length,some<|.narr 2<|b.Columns.map Ac,some<|.box [.osl 4 1 0<|List.length ([]:List Int),.osl 5 1 0<|List.length ([]:List Int)],some<|.box [.osl 6 1 0<|i.Cells.length,.osl 7 1 0<|i.Path.length],some<|.arr 1<|List.map eU8 ([]:List Int),some<|.arr 1<|List.map Af ([]:List Int),some<|.arr 1<|i.Cells.map eU8,some<|.arr 1<|i.Path.map Af]⟩
def Jet:St:=⟨(0,.ptr 0 0)::(2,.ptr 2 0)::(3,.ptr 3 0)::(4,.d<|.int .i64 c)::(6,.d<|.int .i64 h)::(27,.d<|.sl<|k.map Ak)::(28,.d<|.int .i64 ((k.length:Nat):Int))::(29,.d<|.int .i64 m)::[],[some<|.box<|Am b<|.osl 1 2 0<|b.Columns.length,some<|.narr 2<|b.Columns.map Ac,some<|.box [.osl 4 1 0<|List.length ([]:List Int),.osl 5 1 0<|List.length ([]:List Int)],some<|.box [.osl 6 1 0<|a.Cells.length,.osl 7 1 0<|a.Path.length],some<|.arr 1<|List.map eU8 ([]:List Int),some<|.arr 1<|List.map Af ([]:List Int),some<|.arr 1<|a.Cells.map eU8,some<|.arr 1<|a.Path.map Af]⟩
def Jeu:St:=⟨(0,.ptr 0 0)::(2,.ptr 2 0)::(3,.ptr 3 0)::(4,.d<|.int .i64 p)::(5,.d<|.int .i64 q)::(6,.d<|.int .i64 r)::[],[some<|.box<|Am b<|.osl 1 2 0<|b.Columns.length,some<|.narr 2<|b.Columns.map Ac,some<|.box [.osl 4 1 0<|List.length ([]:List Int),.osl 5 1 0<|List.length ([]:List Int)],some<|.box [.osl 6 1 0<|j.Cells.length,.osl 7 1 0<|j.Path.length],some<|.arr 1<|List.map eU8 ([]:List Int),some<|.arr 1<|List.map Af ([]:List Int),some<|.arr 1<|j.Cells.map eU8,some<|.arr 1<|j.Path.map Af]⟩
def Jev:St:=⟨(2,.ptr 2 0)::(3,.ptr 3 0)::[],[some<|.box<|Am b<|.osl 1 2 0<|b.Columns.length,some<|.narr 2<|b.Columns.map Ac,some<|.box [.osl 4 1 0<|List.length ([]:List Int),.osl 5 1 0<|List.length ([]:List Int)],some<|.box [.osl 6 1 0<|a.Cells.length,.osl 7 1 0<|a.Path.length],some<|.arr 1<|List.map eU8 ([]:List Int),some<|.arr 1<|List.map Af ([]:List Int),some<|.arr 1<|a.Cells.map eU8,some<|.arr 1<|a.Path.map Af]⟩
def Jew:St:=⟨(0,.ptr 0 0)::(2,.ptr 2 0)::(3,.ptr 3 0)::(4,.d<|.int .i64 c)::(6,.d<|.int .i64 h)::(27,.d<|.sl<|k.map Ak)::(28,.d<|.int .i64 ((k.length:Nat):Int))::(29,.d<|.int .i64 m)::[],[some<|.box<|Am b<|.osl 1 2 0<|b.Columns.length,some<|.narr 2<|b.Columns.map Ac,some<|.box [.osl 4 1 0<|List.length ([]:List Int),.osl 5 1 0<|List.length ([]:List Int)],some<|.box [.osl 6 1 0<|a.Cells.length,.osl 7 1 0<|a.Path.length],some<|.arr 1<|List.map eU8 ([]:List Int),some<|.arr 1<|List.map Af ([]:List Int),some<|.arr 1<|a.Cells.map eU8,some<|.arr 1<|a.Path.map Af]⟩
def Kc:((AJ×Int×Int×Int)⊕Unit)->Ex->St->Prop:=xS (xX 2 1<|λ (y:(AJ×Int×Int×Int))=>Jeu b y.1 y.2.1 y.2.2.1 y.2.2.2)<|xX 2 2<|λ (_:Unit)=>Jev b a
def FR:Int->St:=(λ (x:Int)=>Jet b a c h k x)
def Kd:AJ->Ex->St->Prop:=xX 2 0<|λ (y:AJ)=>Jes b y
def FS:(AJ×Int×Int×Int)->St:=(λ (x:(AJ×Int×Int×Int))=>Jer b x.1 x.2.1 x.2.2.1 x.2.2.2)
variable {b o a c l h i k m j p q r}
theorem Fu (x:Int) (z:(Int⊕((AJ×Int×Int×Int)⊕Unit))) (H:Bz n b a c h k x=some z):WP (cxk 93 2) (Az Tryz.f64) [1,0,1,1,1,0,1,0,0,1,0,0,1,0,0] (Aw 2 (FR b a c h k) (Kc b a) z) (FR b a c h k x):=by
 revert H;generalize x=m;intro H;refine sr<|ck 1<|en<|sq<|cn H (λ H=>?_)<|λ H=>?_
 ·refine sk<|qz<|sj (λ (x:Unit)=>Jew b a c h k m) (λ (x:Unit)=>By n m) z ?_ (λ e=>?_)
  ·intro _ H;exact rz<|ck 2<|ae (by cases H;exact og<|gP [0,2,3,4,6,27,28,29] [0,1,2,3,4,5,6,7]<|po1<|pn1 Ac b.Columns<|po1<|po1<|po1<|po1<|po1<|po1<|Pl.z)
  refine bk 3<|sr<|bx H λ v B H=>sp (Ap Ak B)<|ck 3<|en<|sr<|ck 4<|bx H λ S C H=>ltP [0,1] (EI C) (po1<|pn1 Ac b.Columns<|Pl.z)<|tb (f:=D8<|Dd [0,1] 9 2) [some<|.box<|Am b<|.osl 1 2 0<|b.Columns.length,some<|.narr 2<|b.Columns.map Ac,some<|.box [.osl 4 1 0<|List.length ([]:List Int),.osl 5 1 0<|List.length ([]:List Int)],some<|.box [.osl 6 1 0<|a.Cells.length,.osl 7 1 0<|a.Path.length],some<|.arr 1<|List.map eU8 ([]:List Int),some<|.arr 1<|List.map Af ([]:List Int),some<|.arr 1<|a.Cells.map eU8,some<|.arr 1<|a.Path.map Af,some<|.box [.d<|.int .i64 v.Rule,.d<|.int .i64 v.To]] (po1<|pn1 Ac b.Columns<|po1<|po1<|po1<|po1<|po1<|po1<|po1<|Pl.z)<|ck 5<|en<|sq<|sr<|ck 2<|en<|cn H (λ H=>?_)<|λ H=>?_
  ·exact ex 3<|qx<|qH<|qs (gP [0,2,3,4,6,27,28,29] [0,1,2,3,4,5,6,7]<|po1<|pn1 Ac b.Columns<|po1<|po1<|po1<|po1<|po1<|po1<|Pl.z)<|e () H
  ·refine sk<|qz<|sr<|ck 7<|bx H λ w E H=>sp (Ap Ao E)<|ck 3<|en<|sq<|sr<|ck 5<|bx H λ U t H=>sp (Av 1 2 t)<|ck 2<|bx H λ G I H=>cb (ks:=[1]) (obl:=[(0+Int.toNat S.1+1,List.length<|b.Columns.map Ac),(Ph<|b.Columns.map Ac,0)]) false (leK (Jh0 (encN:=Ac) t)<|leK (Jgb λ _=>rfl)<|leZ) (D9 (JcN (encN:=Ac) (encD:=M7) t λ _=>rfl)<|D9 rfl rfl) (Ga I) (Or.inr trivial) rfl<|ck 1<|en<|sr<|ck 6<|sE (g:=(!(decide<|G<0))) (λ hg=>AB eU8 w.Cells)<|gc 2 (!(decide<|G<0))<|pO<|en<|cn H (λ H=>?_)<|λ H=>?_
   ·exact ex 3<|qx<|qH<|qs (gP [0,2,3,4,6,27,28,29] [0,1,2,3,4,5,6,7]<|po1<|pn1 Ac b.Columns<|po1<|po1<|po1<|po1<|po1<|po1<|Pl.z)<|e () H
   ·exact sk<|qz<|sr<|ck 3<|bx H λ W J H=>sp (JcJ eU8 6 1 J)<|ck 2<|en<|sr<|ck 5<|bx H λ X K H=>sp (Cv Af 7 1 K)<|ck 2<|en<|sr<|ck 5<|sp (AB eU8 w.Cells)<|ck 4<|en<|ex 1<|qX rfl<|qx (by cases H;exact xo rfl<|gP [0,2,3,4,5,6] [0,1,2,3,4,5,9,11]<|po1<|pn1 Ac b.Columns<|po1<|po1<|po1<|po1<|po1<|po1<|Pl.z)
 ·exact ex 2<|qx (by cases H;exact xo rfl<|gP [2,3] [0,1,2,3,4,5,6,7]<|po1<|pn1 Ac b.Columns<|po1<|po1<|po1<|po1<|po1<|po1<|Pl.z)
theorem Jf (x:(AJ×Int×Int×Int)) (z:((AJ×Int×Int×Int)⊕AJ)) (H:BX n b x.1 x.2.1 x.2.2.1 x.2.2.2=some z):WP (cxk 93 2) (Az Tryz.f64) [1,0,1,1,1,0,1,0,0] (Aw 2 (FS b) (Kd b) z) (FS b x):=by
 obtain ⟨a,c,l,h⟩:=x;refine sq<|sr<|ck 2<|en<|cn H (λ H=>?_)<|λ H=>?_
 ·refine sk<|qz<|bk 1<|sq<|sr<|ck 5<|bx H λ k L H=>sp (Ap (eL Ak) L)<|ck 1<|sp (AB Ak k)<|ck 1<|en<|bk 2<|bx H λ T A H=>?_;rcases T with Y|Z
  ·exact lX Fu A (gP [0,2,3,4,6,27,28,29] [0,1,2,3,4,5,6,7]<|po1<|pn1 Ac b.Columns<|po1<|po1<|po1<|po1<|po1<|po1<|Pl.z) rfl λ s M=>qX rfl<|qx<|qH (by cases H;exact og<|tr (M)<|gP [0,2,3,4,5,6] [0,1,2,3,4,5,6,7]<|po1<|pn1 Ac b.Columns<|po1<|po1<|po1<|po1<|po1<|po1<|Pl.z)
  ·exact lX Fu A (gP [0,2,3,4,6,27,28,29] [0,1,2,3,4,5,6,7]<|po1<|pn1 Ac b.Columns<|po1<|po1<|po1<|po1<|po1<|po1<|Pl.z) rfl λ s O=>qH<|qs (O)<|ex 0<|qX rfl (by cases H;exact xo rfl<|gP [2,3] [0,1,2,3,4,5,6,7]<|po1<|pn1 Ac b.Columns<|po1<|po1<|po1<|po1<|po1<|po1<|Pl.z)
 ·exact ex 0<|qx (by cases H;exact xo rfl<|gP [2,3] [0,1,2,3,4,5,6,7]<|po1<|pn1 Ac b.Columns<|po1<|po1<|po1<|po1<|po1<|po1<|Pl.z)
theorem LF {z} (H:CB n b=some z):Ce Tryz.prog 64 [.ptr 0 0] [some (.box (Am b (.osl 1 2 0 (b.Columns.length)))),some (.narr 2 (b.Columns.map Ac))] 2 (.agg [.osl 3 1 0 (z.Cells.length),.osl 4 1 0 (z.Path.length)]) [some (.box (Am b (.osl 1 2 0 (b.Columns.length)))),some (.narr 2 (b.Columns.map Ac)),some (.box [.osl 3 1 0 (z.Cells.length),.osl 4 1 0 (z.Path.length)]),some (.arr 1 (z.Cells.map eU8)),some (.arr 1 (z.Path.map Af))]:=by
 exact fL 93 2 (Jep b) Tryz.func64<|sr<|ck 1<|en<|sc<|sr<|ck 1<|en<|sr<|ck 2<|en<|sq<|lbl<|qz<|sq<|sr<|ck 4<|bx H λ V u H=>sp (Av 1 2 u)<|bx H λ aa P H=>cb (ks:=[1]) (obl:=[(0+Int.toNat 0+1,List.length<|b.Columns.map Ac),(Ph<|b.Columns.map Ac,0)]) false (leK (Jh0 (encN:=Ac) u)<|leK (Jgb λ _=>rfl)<|leZ) (D9 (JcN (encN:=Ac) (encD:=M7) u λ _=>rfl)<|D9 rfl rfl) (Ga P) (Or.inr trivial) rfl<|ck 1<|en<|bk 0<|bx H λ ab Q H=>lX Jf Q (tr (tr (tr (tr (BO 2 0 1 (by kernel_rfl))<|BO 2 1 1 (by kernel_rfl))<|BO 3 0 1 (by kernel_rfl))<|BO 3 1 1 (by kernel_rfl))<|gP [0,2,3,4,5,6] [0,1,2,3,4,5,6,7]<|po1<|pn1 Ac b.Columns<|po1<|po1<|po1<|po1<|po1<|po1<|Pl.z) rfl λ s R=>qH<|qs (R)<|sr<|ck 2<|en<|re (by cases H;exact pL<|rl (s':=Jeq b z)<|gP [2] [0,1,2,6,7]<|po1<|pn1 Ac b.Columns<|po1<|po1<|po1<|Pl.z)
end
section
variable (c:Ad) (g:(List UInt8))
def Jjh:St:=⟨(0,.agg [.d<|.int .i64 c.Modes,.d<|.int .u8 c.Accept,.d<|.sl<|c.Rules.map Ao])::(1,.d<|.str g)::[],[]⟩
variable {c g}
theorem Wv {z} (H:ID n c g=some z):AL Tryz.prog 34 [.agg (Ay c),.d (.str g)] (.tup [.agg [.own 1 (z.1.Cells.map eU8),.own 1 (z.1.Path.map Af)],.d (.int .i64 z.2.1),.d (.int .i64 z.2.2)]):=by
 refine fO 50 (Jjh c g) Tryz.func34<|sr<|ck 4<|en<|sq<|sr<|ck 1<|bx H λ m o H=>ca true (JE o)<|ck 5<|en<|sr<|ck 2<|en<|cn H (λ H=>?_)<|λ H=>?_
 ·exact sr<|ck 6<|en<|re<|qr (by cases H;exact pr<|rT (vs:=[.agg [.d<|.nil,.d<|.nil],.d<|.int .i64 m.1,.d<|.int .i64 m.2]) []<|t1 (a1<|c1 vz<|c1 vz<|c0)<|t1 (ad vd)<|t1 (ad vd)<|t0)
 ·refine sk<|qz<|sq<|sr<|ck 1<|bx H λ x p H=>ca false (Wu p)<|ck 1<|en<|cn H (λ H=>?_)<|λ H=>?_
  ·exact sr<|ck 4<|en<|re<|qr (by cases H;exact pr<|rT (vs:=[.agg [.d<|.nil,.d<|.nil],.d<|.int .i64 0,.d<|.int .i64 61]) []<|t1 (a1<|c1 vz<|c1 vz<|c0)<|t1 (ad vd)<|t1 (ad vd)<|t0)
  ·refine sk<|qz<|sr<|ck 2<|bx H λ i q H=>lt [] (Q2 q)<|tb (f:=D8<|Dd [] 2 0) [some<|.box<|Ay c,some<|.box [.d<|.nil,.d<|.nil],some<|.box<|Am i<|.osl 3 2 0<|i.Columns.length,some<|.narr 2<|i.Columns.map Ac] (po1<|po1<|po1<|pn1 Ac i.Columns<|Pl.z)<|ck 1<|en<|sr<|ck 1<|bx H λ j r H=>ltP [2,3] (N5 r) (po1<|pn1 Ac i.Columns<|Pl.z)<|tb (f:=D8<|Dd [2,3] 4 2) [some<|.box<|Ay c,some<|.box [.d<|.nil,.d<|.nil],some<|.box<|Am j<|.osl 3 2 0<|j.Columns.length,some<|.narr 2<|j.Columns.map Ac] (po1<|po1<|po1<|pn1 Ac j.Columns<|Pl.z)<|en<|sr<|ck 1<|bx H λ b s H=>ltP [2,3] (N6 s) (po1<|pn1 Ac j.Columns<|Pl.z)<|tb (f:=D8<|Dd [2,3] 4 2) [some<|.box<|Ay c,some<|.box [.d<|.nil,.d<|.nil],some<|.box<|Am b<|.osl 3 2 0<|b.Columns.length,some<|.narr 2<|b.Columns.map Ac] (po1<|po1<|po1<|pn1 Ac b.Columns<|Pl.z)<|en<|sq<|sq<|bx H λ a e H=>rg (tr (so1 (encN:=Ac) 3 2 e)<|sno (encN:=Ac) (enc:=Af) e [.own 1<|a.States.map Af,.own 1<|a.Costs.map Af] a.Costs 2 3 1 1)<|ck 4<|sp (Av 3 2 e)<|ck 1<|sp (Cj (encN:=Ac) (row:=[.own 1<|a.States.map Af,.osl 4 1 0<|a.Costs.length]) (k:=3) (sz:=2) (off:=1) (t:=ty 35) (v:=.osl 4 1 0<|a.Costs.length) e)<|bx H λ w l H=>sp (Av 4 1 l)<|sp (C0 Af 4 0 (ty 3) l)<|ck 1<|en<|cn H (λ H=>?_)<|λ H=>?_
   ·exact sq<|rg (tr (tr (tr (sni (encN:=Ac) (xs:=b.Columns) (n:=0) (enc:=Af) [.own 1<|a.States.map Af,.osl 4 1 0<|a.Costs.length] a.Costs 2 3 1 4 1)<|scl (encN:=Ac) (xss:=b.Columns) 0 [.own 1<|a.States.map Af,.own 1<|a.Costs.map Af] 2 3 a)<|sn 34 3 2<|lsS b.Columns (Int.toNat 0) a)<|snc 2 6 3 2<|lsS b.Columns (Int.toNat 0) a)<|ck 8<|en<|re<|qr (by cases H;exact pr<|rT (vs:=[.agg [.d<|.nil,.d<|.nil],.d<|.int .i64 b.Last,.d<|.int .i64 61]) []<|t1 (a1<|c1 vz<|c1 vz<|c0)<|t1 (ad vd)<|t1 (ad vd)<|t0)
   ·exact sk<|qz<|sq<|rg (tr (tr (tr (sni (encN:=Ac) (xs:=b.Columns) (n:=0) (enc:=Af) [.own 1<|a.States.map Af,.osl 4 1 0<|a.Costs.length] a.Costs 2 3 1 4 1)<|scl (encN:=Ac) (xss:=b.Columns) 0 [.own 1<|a.States.map Af,.own 1<|a.Costs.map Af] 2 3 a)<|sn 34 3 2<|lsS b.Columns (Int.toNat 0) a)<|snc 2 6 3 2<|lsS b.Columns (Int.toNat 0) a)<|ck 1<|bx H λ h u H=>ltP [2,3] (LF u) (po1<|pn1 Ac (List.set b.Columns (Int.toNat 0) a)<|Pl.z)<|tb (f:=D8<|Dd [2,3] 5 2) [some<|.box<|Ay c,some<|.box [.d<|.nil,.d<|.nil],some<|.box<|Am b<|.osl 3 2 0<|List.length<|List.set b.Columns (Int.toNat 0) a,some<|.narr 2<|List.map Ac<|List.set b.Columns (Int.toNat 0) a,none,some<|.box [.osl 6 1 0<|h.Cells.length,.osl 7 1 0<|h.Path.length],some<|.arr 1<|h.Cells.map eU8,some<|.arr 1<|h.Path.map Af] (po1<|po1<|po1<|pn1 Ac (List.set b.Columns (Int.toNat 0) a)<|po1<|po1<|po1<|po1<|Pl.z)<|ck 5<|en<|re (by cases H;exact pr<|rT (vs:=[.agg [.osl 6 1 0<|h.Cells.length,.osl 7 1 0<|h.Path.length],.d<|.int .i64 ((g.length:Nat):Int),.d<|.int .i64 0]) [6,7]<|t1 (a1<|c1 vo<|c1 vo<|c0)<|t1 (ad vd)<|t1 (ad vd)<|t0)
end
section
variable (a:Ad) (b:A5)
def Jji:St:=⟨(0,.agg [.d<|.int .i64 a.Modes,.d<|.int .u8 a.Accept,.d<|.sl<|a.Rules.map Ao])::(1,.agg [.d<|.str b.Text,.d<|.sl<|b.Costs.map<|eL Af,.d<|.sl<|b.Least.map Af])::[],[]⟩
variable {a b}
theorem Ke {z} (H:EX n a b=some z):AL Tryz.prog 16 [.agg (Ay a),.agg (FI b)] (.tup [.agg [.d (.sl (z.1.Cells.map eU8)),.d (.sl (z.1.Path.map Af))],.d (.int .i64 z.2)]):=by
 refine fO 21 (Jji a b) Tryz.func16<|sr<|ck 4<|en<|sr<|ck 3<|bx H λ e c H=>ca false (Wv c)<|ck 8<|en<|sq<|sr<|ck 2<|en<|cn H (λ H=>?_)<|λ H=>?_
 ·exact sr<|ck 3<|en<|re<|qr (by cases H;exact pr<|rT (vs:=[.agg [.d<|.nil,.d<|.nil],.d<|.int .i64 61]) []<|t1 (a1<|c1 vn<|c1 vn<|c0)<|t1 (ad vd)<|t0)
 ·exact sk<|qz<|sr<|ck 3<|en<|re (by cases H;exact pr rdT)
end
section
variable (a:(List Int)) (b:(List Int)) (e:Int)
def Jjj:St:=⟨(0,.d<|.sl<|a.map Af)::(1,.d<|.sl<|b.map Af)::[],[]⟩
def Jjk:St:=⟨(0,.d<|.sl<|a.map Af)::(1,.d<|.sl<|b.map Af)::(5,.d<|.int .i64 e)::[],[]⟩
def Jjl:St:=⟨[],[]⟩
def UL:(Unit⊕Bool)->Ex->St->Prop:=xS (xX 0 0<|λ (_:Unit)=>Jjl)<|xR ty Tryz.f20<|λ (y:Bool)=>.d<|.bool y
def On:Int->St:=(λ (x:Int)=>Jjk a b x)
variable {a b e}
theorem Ni (x:Int) (z:(Int⊕(Unit⊕Bool))) (H:Gp n a b x=some z):WP (cxk 26 0) (Az Tryz.f20) [1,1,0,1,0,0] (Aw 0 (On a b) (UL) z) (On a b x):=by
 revert H;generalize x=e;intro H;refine sq<|sr<|ck 2<|sp (AB Af a)<|ck 1<|en<|cn H (λ H=>?_)<|λ H=>?_
 ·refine sk<|qz<|sq<|bk 1<|sr<|ck 2<|bx H λ k f H=>sp (Ap Af f)<|ck 3<|bx H λ l g H=>sp (Ap Af g)<|ck 2<|en<|cn H (λ H=>?_)<|λ H=>?_
  ·exact sr<|ck 1<|en<|re<|qR<|qr (by cases H;exact ro rfl rd)
  ·exact sk<|qN<|qz<|rz<|ck 3<|ae (by cases H;exact og<|sg [0,1,5])
 ·exact ex 0<|qx (by cases H;exact xo rfl<|sg [])
theorem GC {z} (H:EY n a b=some z):AL Tryz.prog 20 [.d (.sl (a.map Af)),.d (.sl (b.map Af))] (.d (.bool z)):=by
 refine fO 26 (Jjj a b) Tryz.func20<|sr<|ck 1<|en<|sq<|sr<|ck 1<|sp (AB Af a)<|ck 1<|sp (AB Af b)<|ck 1<|en<|cn H (λ H=>?_)<|λ H=>?_
 ·exact sr<|ck 1<|en<|re<|qr (by cases H;exact pr rd)
 ·refine sk<|qz<|sq<|sr<|ck 1<|en<|bk 0<|bx H λ j c H=>?_;rcases j with m|o
  ·exact lX Ni c (sg [0,1,5]) rfl λ s h=>qH<|qs (h)<|sr<|ck 1<|en<|re (by cases H;exact pr rd)
  ·exact lR Ni c (sg [0,1,5]) rfl λ s i=>qR<|qr (by cases H;exact pr i)
end
section
variable (a:(List Int)) (b:(List Int)) (e:Int)
def Jjm:St:=⟨(0,.d<|.sl<|a.map eU8)::(1,.d<|.sl<|b.map eU8)::[],[]⟩
def Jjn:St:=⟨(0,.d<|.sl<|a.map eU8)::(1,.d<|.sl<|b.map eU8)::(5,.d<|.int .i64 e)::[],[]⟩
def Jjo:St:=⟨[],[]⟩
def OX:(Unit⊕Bool)->Ex->St->Prop:=xS (xX 0 0<|λ (_:Unit)=>Jjo)<|xR ty Tryz.f42<|λ (y:Bool)=>.d<|.bool y
def IZ:Int->St:=(λ (x:Int)=>Jjn a b x)
variable {a b e}
theorem Ih (x:Int) (z:(Int⊕(Unit⊕Bool))) (H:Dp n a b x=some z):WP (cxk 26 0) (Az Tryz.f42) [1,1,0,1,0,0] (Aw 0 (IZ a b) (OX) z) (IZ a b x):=by
 revert H;generalize x=e;intro H;refine sq<|sr<|ck 2<|sp (AB eU8 a)<|ck 1<|en<|cn H (λ H=>?_)<|λ H=>?_
 ·refine sk<|qz<|sq<|bk 1<|sr<|ck 2<|bx H λ k f H=>sp (Ap eU8 f)<|ck 3<|bx H λ l g H=>sp (Ap eU8 g)<|ck 2<|en<|cn H (λ H=>?_)<|λ H=>?_
  ·exact sr<|ck 1<|en<|re<|qR<|qr (by cases H;exact ro rfl rd)
  ·exact sk<|qN<|qz<|rz<|ck 3<|ae (by cases H;exact og<|sg [0,1,5])
 ·exact ex 0<|qx (by cases H;exact xo rfl<|sg [])
theorem KI {z} (H:DT n a b=some z):AL Tryz.prog 42 [.d (.sl (a.map eU8)),.d (.sl (b.map eU8))] (.d (.bool z)):=by
 refine fO 26 (Jjm a b) Tryz.func42<|sr<|ck 1<|en<|sq<|sr<|ck 1<|sp (AB eU8 a)<|ck 1<|sp (AB eU8 b)<|ck 1<|en<|cn H (λ H=>?_)<|λ H=>?_
 ·exact sr<|ck 1<|en<|re<|qr (by cases H;exact pr rd)
 ·refine sk<|qz<|sq<|sr<|ck 1<|en<|bk 0<|bx H λ j c H=>?_;rcases j with m|o
  ·exact lX Ih c (sg [0,1,5]) rfl λ s h=>qH<|qs (h)<|sr<|ck 1<|en<|re (by cases H;exact pr rd)
  ·exact lR Ih c (sg [0,1,5]) rfl λ s i=>qR<|qr (by cases H;exact pr i)
end
section
variable (a:AJ) (b:AJ)
def Jjp:St:=⟨(0,.agg [.d<|.sl<|a.Cells.map eU8,.d<|.sl<|a.Path.map Af])::(1,.agg [.d<|.sl<|b.Cells.map eU8,.d<|.sl<|b.Path.map Af])::[],[]⟩
variable {a b}
theorem RW {z} (H:IQ n a b=some z):AL Tryz.prog 18 [.agg [.d (.sl (a.Cells.map eU8)),.d (.sl (a.Path.map Af))],.agg [.d (.sl (b.Cells.map eU8)),.d (.sl (b.Path.map Af))]] (.d (.bool z)):=by
 exact fO 17 (Jjp a b) Tryz.func18<|sr<|ck 3<|en<|sr<|ck 4<|bx H λ c e H=>ca false (KI e)<|ck 2<|gc 1 c<|ck 1<|gc 1 c<|bx H λ g f H=>cG false (leZ) rfl (λ hg=>GC<|BA f hg) (Or.inl rfl) (Cc (λ hh=>hh)<|Cc (λ hh=>hh)<|Ef) rfl<|pA<|ck 1<|en<|re (by cases H;exact pr rd)
end
def JlQ:St:=⟨[],[]⟩
theorem UM {z} (H:IR n=some z):AL Tryz.prog 6 [] (.d (.bool z)):=by
 exact fO 139 JlQ Tryz.func6<|sr<|ck 1<|en<|sr<|bx H λ B k H=>ca false (UI k)<|ck 2<|en<|sr<|ck 1<|bx H λ b l H=>ca false (Is l)<|ck 6<|en<|sr<|ck 1<|bx H λ c m H=>ca false (Is m)<|ck 6<|en<|sr<|ck 3<|bx H λ a o H=>ca false (HG o)<|ck 8<|en<|sr<|ck 3<|bx H λ e p H=>ca false (HG p)<|ck 8<|en<|sr<|ck 3<|bx H λ f q H=>ca false (HG q)<|ck 8<|en<|sr<|ck 2<|bx H λ g r H=>ca false (Ke r)<|ck 6<|en<|sr<|ck 1<|bx H λ h s H=>ca false (Is s)<|ck 6<|en<|sr<|ck 2<|bx H λ i t H=>ca false (Ke t)<|ck 6<|en<|sr<|ck 4<|gc 1 (b.2==0)<|pA<|ck 2<|gc 1 ((b.2==0)&&(c.2==60))<|pA<|ck 2<|gc 1 (((b.2==0)&&(c.2==60))&&(a.2.2==0))<|pA<|ck 2<|gc 1 ((((b.2==0)&&(c.2==60))&&(a.2.2==0))&&(e.2.2==1))<|pA<|ck 2<|gc 1 (((((b.2==0)&&(c.2==60))&&(a.2.2==0))&&(e.2.2==1))&&(f.2.2==60))<|pA<|ck 2<|gc 1 ((((((b.2==0)&&(c.2==60))&&(a.2.2==0))&&(e.2.2==1))&&(f.2.2==60))&&(g.2==0))<|pA<|ck 2<|gc 1 (((((((b.2==0)&&(c.2==60))&&(a.2.2==0))&&(e.2.2==1))&&(f.2.2==60))&&(g.2==0))&&(h.2==0))<|pA<|ck 1<|en<|sr<|ck 3<|gc 1 ((((((((b.2==0)&&(c.2==60))&&(a.2.2==0))&&(e.2.2==1))&&(f.2.2==60))&&(g.2==0))&&(h.2==0))&&(i.2==61))<|ck 1<|bx H λ j u H=>cG (ks:=[9]) (obl:=[(0+List.length [2,1,1,0],List.length<|List.map Af [2,1,1,0])]) false (leK leM<|leZ) (D9 rfl<|D9 TF rfl) (λ hg=>GC<|BA u hg) (Or.inr trivial) (Cc (λ hh=>hh)<|Cc (λ hh=>hh)<|Ef) rfl<|pA<|ck 2<|gc 1 (((((((((b.2==0)&&(c.2==60))&&(a.2.2==0))&&(e.2.2==1))&&(f.2.2==60))&&(g.2==0))&&(h.2==0))&&(i.2==61))&&j)<|pA<|ck 2<|gc 2 ((((((((((b.2==0)&&(c.2==60))&&(a.2.2==0))&&(e.2.2==1))&&(f.2.2==60))&&(g.2==0))&&(h.2==0))&&(i.2==61))&&j)&&(a.2.1==1))<|pA<|ck 2<|gc 1 (((((((((((b.2==0)&&(c.2==60))&&(a.2.2==0))&&(e.2.2==1))&&(f.2.2==60))&&(g.2==0))&&(h.2==0))&&(i.2==61))&&j)&&(a.2.1==1))&&(a.1.Text==[98,97,98]))<|ck 1<|bx H λ v w H=>cG (ks:=[10]) (obl:=[(0+List.length [2,1,1,0],List.length<|List.map Af [2,1,1,0])]) false (leK leM<|leZ) (D9 rfl<|D9 TF rfl) (λ hg=>GC<|BA w hg) (Or.inr trivial) (Cc (λ hh=>hh)<|Cc (λ hh=>hh)<|Ef) rfl<|pA<|ck 4<|gc 1 ((((((((((((b.2==0)&&(c.2==60))&&(a.2.2==0))&&(e.2.2==1))&&(f.2.2==60))&&(g.2==0))&&(h.2==0))&&(i.2==61))&&j)&&(a.2.1==1))&&(a.1.Text==[98,97,98]))&&v)<|bx H λ A x H=>cG (ks:=[11,12]) (obl:=[(0+List.length [1,7],List.length<|List.map eU8 [1,7]),(0+List.length [0,2],List.length<|List.map Af [0,2])]) false (leK leM<|leK leM<|leZ) (D9 rfl<|D9 (Jk3<|D9 TF<|D9 TF rfl) rfl) (λ hg=>RW<|BA x hg) (Or.inr trivial) (Cc (λ hh=>hh)<|Cc (λ hh=>hh)<|Ef) rfl<|pA<|ck 2<|gc 1 (((((((((((((b.2==0)&&(c.2==60))&&(a.2.2==0))&&(e.2.2==1))&&(f.2.2==60))&&(g.2==0))&&(h.2==0))&&(i.2==61))&&j)&&(a.2.1==1))&&(a.1.Text==[98,97,98]))&&v)&&A)<|ck 1<|bx H λ C y H=>cG (ks:=[13]) (obl:=[(0+List.length [(-1),0],List.length<|List.map Af [(-1),0])]) false (leK leM<|leZ) (D9 rfl<|D9 TF rfl) (λ hg=>GC<|BA y hg) (Or.inr trivial) (Cc (λ hh=>hh)<|Cc (λ hh=>hh)<|Ef) rfl<|pA<|ck 1<|en<|re (by cases H;exact pr rd)
section
variable (b:(List UInt8)) (c:(List Int)) (a:(GE Int))
def Jjq:St:=⟨(0,.d<|.str b)::(1,.d<|.sl<|c.map eU8)::(2,.agg [.d<|.int .i64 a.a0,.d<|.int .i64 a.a1])::[],[]⟩
variable {b c a}
theorem AS {z} (H:Bc n b c a=some z):AL Tryz.prog 45 [.d (.str b),.d (.sl (c.map eU8)),.agg [.d (.int .i64 a.a0),.d (.int .i64 a.a1)]] (.agg [.d (.str z.Print),.d (.sl (z.Cells.map eU8)),.d (.int .u8 z.Left),.d (.int .u8 z.Right),.d (.int .i64 z.From),.d (.int .i64 z.To)]):=by
 exact fO 14 (Jjq b c a) Tryz.func45<|sr<|ck 2<|en<|sr<|ck 8<|en<|re (by cases H;exact pr rd)
end
def Jjr:St:=⟨[],[]⟩
theorem T0 {z} (H:RV n=some z):AL Tryz.prog 43 [] (.own 6 (z.map Ao)):=by
 exact fO 16 Jjr Tryz.func43<|sr<|ck 1<|en<|sr<|ck 3<|en<|sr<|sF<|ck 1<|bx H λ e a H=>ca false (AS a)<|sF<|ck 1<|bx H λ f b H=>ca false (AS b)<|sF<|ck 1<|bx H λ g c H=>ca false (AS c)<|sF<|ck 1<|bx H λ h d H=>ca false (AS d)<|ck 2<|en<|re (by cases H;exact pr<|rO (v:=.osl 1 6 0<|List.length [e,f,g,h]) [1]<|ao vo)
section
variable (b:Int) (c:Int) (a:(GE Int))
def Jjs:St:=⟨(0,.d<|.int .u8 b)::(1,.d<|.int .i64 c)::(2,.agg [.d<|.int .i64 a.a0,.d<|.int .i64 a.a1])::[],[]⟩
variable {b c a}
theorem Hw {z} (H:HF n b c a=some z):AL Tryz.prog 44 [.d (.int .u8 b),.d (.int .i64 c),.agg [.d (.int .i64 a.a0),.d (.int .i64 a.a1)]] (.agg [.d (.str z.Print),.d (.sl (z.Cells.map eU8)),.d (.int .u8 z.Left),.d (.int .u8 z.Right),.d (.int .i64 z.From),.d (.int .i64 z.To)]):=by
 exact fO 16 (Jjs b c a) Tryz.func44<|sr<|ck 2<|en<|sr<|ck 1<|sF<|ck 1<|bx H λ g e H=>ca false (AS e)<|ck 2<|en<|sr<|ck 1<|bx H λ h f H=>so (IL f)<|ck 2<|en<|sr<|ck 2<|en<|re (by cases H;exact pr rd)
end
section
variable (b:Int) (c:(List AC))
def Jjt:St:=⟨(0,.d<|.int .u8 b)::[],[]⟩
def Jju:St:=⟨(2,.ptr 0 0)::(3,.osl 1 6 0<|c.length)::[],[some<|.box [.d<|.int .i64 0,.d<|.int .u8 0,.osl 2 6 0<|List.length ([]:List AC)],some<|.arr 6<|c.map Ao,some<|.arr 6<|List.map Ao ([]:List AC)]⟩
variable {b c}
theorem Yb {z} (H:KA n b=some z):AL Tryz.prog 21 [.d (.int .u8 b)] (.agg [.d (.int .i64 z.Modes),.d (.int .u8 z.Accept),.own 6 (z.Rules.map Ao)]):=by
 refine fO 121 (Jjt b) Tryz.func21<|sr<|ck 1<|en<|sr<|bx H λ e f H=>cl [List.length e] (T0 f)<|ck 13<|en<|sj (λ (x:(List AC))=>Jju x) (λ (x:(List AC))=>Gq n x) z ?_ (λ a=>?_)
 ·intro c H;exact sr<|ck 3<|en<|re (by cases H;exact pr<|rO (v:=.agg [.d<|.int .i64 1,.d<|.int .u8 1,.osl 1 6 0<|c.length]) [1]<|a1<|c1 vd<|c1 vd<|c1 vo<|c0)
 refine sr<|ck 2<|en<|bk 0<|sr<|ck 2<|en<|cn H (λ H=>?_)<|λ H=>?_
 ·exact sr<|ck 2<|bx H λ ar g H=>ca false (Hw g)<|sF<|ck 1<|bx H λ au h H=>ca false (AS h)<|sF<|ck 1<|bx H λ av i H=>ca false (AS i)<|sF<|ck 1<|bx H λ aw j H=>ca false (AS j)<|ck 1<|bx H λ P k H=>sp (Cv Ao 1 6 k)<|ck 1<|en<|sr<|ck 3<|en<|re<|qR<|qr (by cases H;exact pr<|rO (v:=.agg [.d<|.int .i64 2,.d<|.int .u8 3,.osl 7 6 0<|P.length]) [7]<|a1<|c1 vd<|c1 vd<|c1 vo<|c0)
 ·refine sr<|ck 2<|en<|cn H (λ H=>?_)<|λ H=>?_
  ·exact sr<|ck 2<|bx H λ W l H=>ca false (Hw l)<|sF<|ck 1<|bx H λ X m H=>ca false (AS m)<|sF<|ck 1<|bx H λ Y o H=>ca false (AS o)<|ck 1<|bx H λ Q p H=>sp (Cv Ao 1 6 p)<|ck 1<|en<|sr<|ck 3<|en<|re<|qR<|qr (by cases H;exact pr<|rO (v:=.agg [.d<|.int .i64 2,.d<|.int .u8 1,.osl 7 6 0<|Q.length]) [7]<|a1<|c1 vd<|c1 vd<|c1 vo<|c0)
  ·refine sr<|ck 2<|en<|cn H (λ H=>?_)<|λ H=>?_
   ·exact rz<|ck 1<|sF<|ck 1<|bx H λ Z q H=>ca false (AS q)<|sF<|ck 1<|bx H λ aa r H=>ca false (AS r)<|sF<|ck 1<|bx H λ ab s H=>ca false (AS s)<|ck 1<|bx H λ R t H=>sp (Cv Ao 1 6 t)<|ck 1<|ae<|qN<|qs (tr (BO 0 2 6 (by kernel_rfl))<|sg [2,3])<|a R H
   ·refine sr<|ck 2<|en<|cn H (λ H=>?_)<|λ H=>?_
    ·exact rz<|ck 1<|sF<|ck 1<|bx H λ ac u H=>ca false (AS u)<|ck 1<|bx H λ S w H=>sp (Cv Ao 1 6 w)<|ck 1<|ae<|qN<|qs (tr (BO 0 2 6 (by kernel_rfl))<|sg [2,3])<|a S H
    ·refine sr<|ck 2<|en<|cn H (λ H=>?_)<|λ H=>?_
     ·exact sr<|sF<|ck 1<|bx H λ af y H=>ca false (AS y)<|sF<|ck 1<|bx H λ ag A H=>ca false (AS A)<|ck 4<|en<|sr<|ck 4<|en<|rz<|ck 3<|sF<|ck 1<|bx H λ ah B H=>ca false (AS B)<|ck 1<|bx H λ T C H=>sp (Cv Ao 1 6 C)<|ck 1<|ae<|qN<|qs (tr (BO 0 2 6 (by kernel_rfl))<|sg [2,3])<|a T H
     ·refine sr<|ck 2<|en<|cn H (λ H=>?_)<|λ H=>?_
      ·exact sr<|ck 2<|bx H λ ai E H=>ca false (Hw E)<|sF<|ck 1<|bx H λ aj G H=>ca false (AS G)<|sF<|ck 1<|bx H λ ak I H=>ca false (AS I)<|ck 1<|bx H λ U J H=>sp (Cv Ao 1 6 J)<|ck 1<|en<|sr<|ck 3<|en<|re<|qR<|qr (by cases H;exact pr<|rO (v:=.agg [.d<|.int .i64 2,.d<|.int .u8 1,.osl 7 6 0<|U.length]) [7]<|a1<|c1 vd<|c1 vd<|c1 vo<|c0)
      ·refine sr<|ck 2<|en<|cn H (λ H=>?_)<|λ H=>?_
       ·exact rz<|ck 1<|sF<|ck 1<|bx H λ al K H=>ca false (AS K)<|sF<|ck 1<|bx H λ am L H=>ca false (AS L)<|sF<|ck 1<|bx H λ ap M H=>ca false (AS M)<|ck 1<|bx H λ V O H=>sp (Cv Ao 1 6 O)<|ck 1<|ae<|qN<|qs (tr (BO 0 2 6 (by kernel_rfl))<|sg [2,3])<|a V H
       ·exact sk<|qN<|qs (tr (BO 0 2 6 (by kernel_rfl))<|sg [2,3])<|a e H
end
section
variable (a:DY) (i:Int) (b:AC) (g:Int) (e:AC) (c:AC) (h:Int) (f:AC)
def Jjv:St:=⟨(0,.agg [.d<|.sl<|a.P.map eU8,.d<|.sl<|a.C.map eU8,.d<|.int .u8 a.L,.d<|.int .u8 a.R,.d<|.int .u8 a.W.a0,.d<|.int .u8 a.W.a1])::(1,.d<|.int .i64 i)::[],[]⟩
def Jjw:St:=⟨(2,.ptr 0 0)::(4,.ptr 1 0)::(5,.d<|.str [97,98,99,65,66,49,50,45,46])::(7,.ptr 2 0)::(8,.d<|.int .i64 g)::[],[some<|.box<|PN a,some<|.box [.d<|.str [],.osl 3 1 0<|List.length ([]:List Int),.d<|.int .u8 0,.d<|.int .u8 0,.d<|.int .i64 0,.d<|.int .i64 0],some<|.box<|SG b<|.osl 4 1 0<|b.Cells.length,some<|.arr 1<|List.map eU8 ([]:List Int),some<|.arr 1<|b.Cells.map eU8]⟩
def Jjx:St:=⟨(2,.ptr 0 0)::(4,.ptr 1 0)::(7,.ptr 2 0)::[],[some<|.box<|PN a,some<|.box [.d<|.str [],.osl 3 1 0<|List.length ([]:List Int),.d<|.int .u8 0,.d<|.int .u8 0,.d<|.int .i64 0,.d<|.int .i64 0],some<|.box<|SG e<|.osl 4 1 0<|e.Cells.length,some<|.arr 1<|List.map eU8 ([]:List Int),some<|.arr 1<|e.Cells.map eU8]⟩
def UN:AC->Ex->St->Prop:=xX 0 0<|λ (y:AC)=>Jjx a y
def Oo:(AC×Int)->St:=(λ (x:(AC×Int))=>Jjw a x.1 x.2)
def Jjy:St:=⟨(2,.ptr 0 0)::(4,.ptr 1 0)::(7,.ptr 2 0)::(10,.osl 3 1 0<|List.length [1,3,9,5,7,32,44,60])::(11,.d<|.int .i64 h)::[],[some<|.box<|PN a,some<|.box [.d<|.str [],.osl 4 1 0<|List.length ([]:List Int),.d<|.int .u8 0,.d<|.int .u8 0,.d<|.int .i64 0,.d<|.int .i64 0],some<|.box<|SG c<|.osl 5 1 0<|c.Cells.length,some<|.arr 1<|List.map eU8 [1,3,9,5,7,32,44,60],some<|.arr 1<|List.map eU8 ([]:List Int),some<|.arr 1<|c.Cells.map eU8]⟩
def Jjz:St:=⟨(4,.ptr 0 0)::(7,.ptr 1 0)::[],[some<|.box [.d<|.str [],.osl 2 1 0<|List.length ([]:List Int),.d<|.int .u8 0,.d<|.int .u8 0,.d<|.int .i64 0,.d<|.int .i64 0],some<|.box<|SG f<|.osl 3 1 0<|f.Cells.length,some<|.arr 1<|List.map eU8 ([]:List Int),some<|.arr 1<|f.Cells.map eU8]⟩
def UO:AC->Ex->St->Prop:=xX 0 2<|λ (y:AC)=>Jjz y
def Oq:(AC×Int)->St:=(λ (x:(AC×Int))=>Jjy a x.1 x.2)
variable {a i b g e c h f}
theorem T1 (x:(AC×Int)) (z:((AC×Int)⊕AC)) (H:Gr n a x.1 x.2=some z):WP (cxk 101 0) (Az Tryz.f22) [1,1,1,0,1,0,0] (Aw 0 (Oo a) (UN a) z) (Oo a x):=by
 obtain ⟨b,g⟩:=x;refine sq<|sr<|ck 3<|sp (AB eU8 a.P)<|ck 3<|gc 1 (decide<|g<((a.P.length:Nat):Int))<|pA<|en<|cn H (λ H=>?_)<|λ H=>?_
 ·exact sk<|qz<|sq<|bk 1<|sr<|ck 3<|bx H λ I o H=>sp (Ap eU8 o)<|ck 4<|en<|rz<|ck 6<|bx H λ Z p H=>sp (Il p)<|bx H λ U q H=>sp (QJ q)<|ck 2<|ae<|qN<|qz<|rz<|ck 3<|ae (by cases H;exact og<|sg [2,4,5,7,8])
 ·exact ex 0<|qx (by cases H;exact xo rfl<|sg [2,4,7])
theorem T3 (x:(AC×Int)) (z:((AC×Int)⊕AC)) (H:Gs n a x.1 x.2=some z):WP (cxk 101 0) (Az Tryz.f22) [1,1,1,1,1,1,0,1,0,0] (Aw 0 (Oq a) (UO) z) (Oq a x):=by
 obtain ⟨c,h⟩:=x;refine sq<|sr<|ck 3<|sp (AB eU8 a.C)<|ck 3<|gc 1 (decide<|h<((a.C.length:Nat):Int))<|pA<|en<|cn H (λ H=>?_)<|λ H=>?_
 ·exact sk<|qz<|sq<|bk 3<|rz<|ck 6<|bx H λ J r H=>sp (Ap eU8 r)<|ck 2<|bx H λ K j H=>sp (Av 3 1 j)<|sp (C0 eU8 3 0 (ty 64) j)<|ck 1<|bx H λ V t H=>sp (Cv eU8 5 1 t)<|ck 2<|ae<|qN<|qz<|rz<|ck 3<|ae (by cases H;exact og<|sg [2,4,7,10,11])
 ·exact ex 2<|qx (by cases H;exact xo rfl<|sg [4,7])
theorem Yc {z} (H:PK n a i=some z):AL Tryz.prog 22 [.agg (PN a),.d (.int .i64 i)] (.agg [.d (.str z.Print),.own 1 (z.Cells.map eU8),.d (.int .u8 z.Left),.d (.int .u8 z.Right),.d (.int .i64 z.From),.d (.int .i64 z.To)]):=by
 exact fO 101 (Jjv a i) Tryz.func22<|sr<|ck 2<|en<|sr<|ck 3<|en<|sr<|ck 4<|bx H λ M k H=>sp (Av 2 1 k)<|sp (C0 eU8 2 0 (ty 5) k)<|ck 4<|bx H λ O l H=>sp (Av 2 1 l)<|sp (C0 eU8 2 0 (ty 5) l)<|ck 5<|bx H λ Q u H=>so (MZ u)<|ck 5<|bx H λ S w H=>so (MZ w)<|ck 3<|en<|sq<|sr<|ck 1<|en<|bk 0<|bx H λ X A H=>lX T1 A (tr (tr (BO 1 1 1 (by kernel_rfl))<|BO 3 1 1 (by kernel_rfl))<|sg [2,4,5,7,8]) rfl λ s B=>qH<|qs (B)<|sr<|ck 2<|en<|sr<|ck 5<|bx H λ T m H=>sp (Av 5 1 m)<|sp (C0 eU8 5 0 (ty 64) m)<|ck 3<|en<|sq<|sr<|ck 1<|en<|bk 2<|bx H λ Y E H=>lX T3 E (sg [2,4,7,10,11]) rfl λ s G=>qH<|qs (G)<|sr<|ck 2<|en<|re (by cases H;exact pr<|rO (v:=.agg [.d<|.str z.Print,.osl 3 1 0<|z.Cells.length,.d<|.int .u8 z.Left,.d<|.int .u8 z.Right,.d<|.int .i64 z.From,.d<|.int .i64 z.To]) [3]<|a1<|c1 vd<|c1 vo<|c1 vd<|c1 vd<|c1 vd<|c1 vd<|c0)
end
section
variable (a:Int)
def JjA:St:=⟨(0,.d<|.int .u8 a)::[],[]⟩
variable {a}
theorem Q3 {z} (H:J3 n a=some z):AL Tryz.prog 65 [.d (.int .u8 a)] (.d (.bool z)):=by
 exact fO 11 (JjA a) Tryz.func65<|sr<|ck 1<|en<|sr<|ck 5<|gc 2 (decide<|CW .u8 a 127>=32)<|pA<|ck 1<|en<|re (by cases H;exact pr rd)
end
section
variable (a:(List UInt8)) (b:Int)
def JjB:St:=⟨(0,.d<|.str a)::[],[]⟩
def JjC:St:=⟨(0,.d<|.str a)::(4,.d<|.int .i64 b)::[],[]⟩
def JjD:St:=⟨(0,.d<|.str a)::[],[]⟩
def UP:(Unit⊕(Int×Int))->Ex->St->Prop:=xS (xX 0 0<|λ (_:Unit)=>JjD a)<|xR ty Tryz.f35<|λ (y:(Int×Int))=>.tup [.d<|.int .i64 y.1,.d<|.int .i64 y.2]
def Ot:Int->St:=(λ (x:Int)=>JjC a x)
variable {a b}
theorem Nj (x:Int) (z:(Int⊕(Unit⊕(Int×Int)))) (H:Jx n a x=some z):WP (cxk 19 0) (Az Tryz.f35) [1,0,1,0,0] (Aw 0 (Ot a) (UP a) z) (Ot a x):=by
 revert H;generalize x=b;intro H;refine sq<|sr<|ck 4<|en<|cn H (λ H=>?_)<|λ H=>?_
 ·refine sk<|qz<|sq<|bk 1<|sr<|ck 2<|bx H λ m e H=>sp (HD e)<|bx H λ j f H=>ca false (Q3 f)<|ck 1<|en<|cn H (λ H=>?_)<|λ H=>?_
  ·exact sr<|ck 3<|en<|re<|qR<|qr (by cases H;exact ro rfl rdT)
  ·exact sk<|qN<|qz<|rz<|ck 3<|ae (by cases H;exact og<|sg [0,4])
 ·exact ex 0<|qx (by cases H;exact xo rfl<|sg [0])
theorem RX {z} (H:M5 n a=some z):AL Tryz.prog 35 [.d (.str a)] (.tup [.d (.int .i64 z.1),.d (.int .i64 z.2)]):=by
 refine fO 19 (JjB a) Tryz.func35<|sr<|ck 2<|en<|sq<|sr<|ck 1<|en<|bk 0<|bx H λ i c H=>?_;rcases i with k|l
 ·exact lX Nj c (sg [0,4]) rfl λ s g=>qH<|qs (g)<|sr<|ck 4<|en<|re (by cases H;exact pr rdT)
 ·exact lR Nj c (sg [0,4]) rfl λ s h=>qR<|qr (by cases H;exact pr h)
end
section
variable (a:(List UInt8))
def JjE:St:=⟨(0,.d<|.str a)::[],[]⟩
variable {a}
theorem UQ {z} (H:Lt n a=some z):AL Tryz.prog 32 [.d (.str a)] (.d (.bool z)):=by
 exact fO 12 (JjE a) Tryz.func32<|sr<|ck 1<|en<|sr<|ck 1<|bx H λ c b H=>ca false (RX b)<|ck 5<|en<|sr<|ck 3<|en<|re (by cases H;exact pr rd)
end
section
variable (a:Int)
def JjF:St:=⟨(0,.d<|.int .u8 a)::[],[]⟩
variable {a}
theorem Ww {z} (H:QP n a=some z):AL Tryz.prog 81 [.d (.int .u8 a)] (.d (.bool z)):=by
 exact fO 6 (JjF a) Tryz.func81<|sr<|ck 1<|en<|sr<|ck 4<|en<|re (by cases H;exact pr rd)
end
section
variable (a:AC) (h:Int) (c:Bool) (k:Int) (i:Bool) (f:Bool) (b:Bool) (l:Int) (j:Bool)
def JjG:St:=⟨(0,.agg [.d<|.str a.Print,.d<|.sl<|a.Cells.map eU8,.d<|.int .u8 a.Left,.d<|.int .u8 a.Right,.d<|.int .i64 a.From,.d<|.int .i64 a.To])::(1,.d<|.int .i64 h)::[],[]⟩
def JjH:St:=⟨(2,.ptr 0 0)::(5,.d<|.bool c)::(6,.d<|.bool false)::(7,.d<|.int .i64 k)::[],[some<|.box<|M8 a]⟩
def JjI:St:=⟨(2,.ptr 0 0)::(5,.d<|.bool i)::(6,.d<|.bool false)::[],[some<|.box<|M8 a]⟩
def T4:Bool->Ex->St->Prop:=xX 0 0<|λ (y:Bool)=>JjI a y
def Nk:(Bool×Int)->St:=(λ (x:(Bool×Int))=>JjH a x.1 x.2)
def JjJ:St:=⟨(2,.ptr 0 0)::(5,.d<|.bool f)::(6,.d<|.bool b)::(8,.d<|.int .i64 l)::[],[some<|.box<|M8 a]⟩
def JjK:St:=⟨(2,.ptr 0 0)::(5,.d<|.bool f)::(6,.d<|.bool j)::[],[some<|.box<|M8 a]⟩
def T5:(Bool⊕Bool)->Ex->St->Prop:=xS (xX 0 2<|λ (y:Bool)=>JjK a f y)<|xR ty Tryz.f69<|λ (y:Bool)=>.d<|.bool y
def Nl:(Bool×Int)->St:=(λ (x:(Bool×Int))=>JjJ a f x.1 x.2)
variable {a h c k i f b l j}
theorem Sl (x:(Bool×Int)) (z:((Bool×Int)⊕Bool)) (H:Fm n a x.1 x.2=some z):WP (cxk 125 0) (Az Tryz.f69) [1,1,1,1,0,1,0,0] (Aw 0 (Nk a) (T4 a) z) (Nk a x):=by
 obtain ⟨c,k⟩:=x;refine sq<|sr<|ck 5<|en<|cn H (λ H=>?_)<|λ H=>?_
 ·exact sk<|qz<|sq<|bk 1<|rz<|ck 3<|gc 1 (!c)<|ck 1<|bx H λ K o H=>sE (λ hg=>HD<|BA o hg)<|bx H λ C p H=>cG false (leZ) rfl (λ hg=>Ww<|BA p hg) (Or.inl rfl) (Cc (λ hh=>hh)<|Ef) rfl<|pO<|ck 1<|ae<|qN<|qz<|rz<|ck 3<|ae (by cases H;exact og<|sg [2,5,6,7])
 ·exact ex 0<|qx (by cases H;exact xo rfl<|sg [2,5,6])
theorem Mm (x:(Bool×Int)) (z:((Bool×Int)⊕(Bool⊕Bool))) (H:Ek n a f x.1 x.2=some z):WP (cxk 125 0) (Az Tryz.f69) [1,1,1,1,1,0,1,0,0] (Aw 0 (Nl a f) (T5 a f) z) (Nl a f x):=by
 obtain ⟨b,l⟩:=x;refine sq<|sr<|ck 3<|sp (AB eU8 a.Cells)<|ck 1<|en<|cn H (λ H=>?_)<|λ H=>?_
 ·refine sk<|qz<|sq<|bk 3<|sq<|sr<|ck 3<|bx H λ E q H=>sp (Ap eU8 q)<|ck 2<|en<|cn H (λ H=>?_)<|λ H=>?_
  ·exact sr<|ck 1<|en<|re<|qr<|qR<|qr (by cases H;exact ro rfl rd)
  ·exact sk<|qz<|rz<|ck 3<|gc 1 (!b)<|ck 1<|bx H λ G r H=>sE (λ hg=>Ap eU8<|BA r hg)<|gc 2 (!b)<|pO<|ck 1<|ae<|qN<|qz<|rz<|ck 3<|ae (by cases H;exact og<|sg [2,5,6,8])
 ·exact ex 2<|qx (by cases H;exact xo rfl<|sg [2,5,6])
theorem Wx {z} (H:NI n a h=some z):AL Tryz.prog 69 [.agg (M8 a),.d (.int .i64 h)] (.d (.bool z)):=by
 refine fO 125 (JjG a h) Tryz.func69<|sr<|ck 2<|en<|sq<|sr<|ck 2<|bx H λ e t H=>ca false (UQ t)<|ck 3<|gc 3 (!(!e))<|pO<|ck 2<|gc 1 (!((!e)||(decide<|((a.Print.length:Nat):Int)>4)))<|sE (g:=(!((!e)||(decide<|((a.Print.length:Nat):Int)>4)))) (λ hg=>AB eU8 a.Cells)<|gc 1 (!((!e)||(decide<|((a.Print.length:Nat):Int)>4)))<|pO<|ck 2<|gc 1 (!(((!e)||(decide<|((a.Print.length:Nat):Int)>4))||(decide<|((a.Cells.length:Nat):Int)<1)))<|sE (g:=(!(((!e)||(decide<|((a.Print.length:Nat):Int)>4))||(decide<|((a.Cells.length:Nat):Int)<1)))) (λ hg=>AB eU8 a.Cells)<|gc 1 (!(((!e)||(decide<|((a.Print.length:Nat):Int)>4))||(decide<|((a.Cells.length:Nat):Int)<1)))<|pO<|en<|cn H (λ H=>?_)<|λ H=>?_
 ·exact sr<|ck 1<|en<|re<|qr (by cases H;exact pr rd)
 ·refine sk<|qz<|sq<|sr<|ck 5<|gc 2 (!(decide<|a.Left<1))<|pO<|ck 2<|gc 2 (!((decide<|a.Left<1)||(decide<|a.Left>63)))<|pO<|ck 2<|gc 2 (!(((decide<|a.Left<1)||(decide<|a.Left>63))||(decide<|a.Right<1)))<|pO<|ck 2<|gc 2 (!((((decide<|a.Left<1)||(decide<|a.Left>63))||(decide<|a.Right<1))||(decide<|a.Right>63)))<|pO<|ck 2<|gc 1 (!(((((decide<|a.Left<1)||(decide<|a.Left>63))||(decide<|a.Right<1))||(decide<|a.Right>63))||(decide<|a.From<0)))<|ck 1<|gc 1 (!(((((decide<|a.Left<1)||(decide<|a.Left>63))||(decide<|a.Right<1))||(decide<|a.Right>63))||(decide<|a.From<0)))<|pO<|ck 2<|gc 2 (!((((((decide<|a.Left<1)||(decide<|a.Left>63))||(decide<|a.Right<1))||(decide<|a.Right>63))||(decide<|a.From<0))||(decide<|a.From>=h)))<|pO<|ck 2<|gc 1 (!(((((((decide<|a.Left<1)||(decide<|a.Left>63))||(decide<|a.Right<1))||(decide<|a.Right>63))||(decide<|a.From<0))||(decide<|a.From>=h))||(decide<|a.To<0)))<|ck 1<|gc 1 (!(((((((decide<|a.Left<1)||(decide<|a.Left>63))||(decide<|a.Right<1))||(decide<|a.Right>63))||(decide<|a.From<0))||(decide<|a.From>=h))||(decide<|a.To<0)))<|pO<|en<|cn H (λ H=>?_)<|λ H=>?_
  ·exact sr<|ck 1<|en<|re<|qr (by cases H;exact pr rd)
  ·refine sk<|qz<|sr<|ck 2<|en<|sq<|sr<|ck 1<|en<|bk 0<|bx H λ f u H=>lX Sl u (sg [2,5,6,7]) rfl λ s v=>qH<|qs (v)<|sq<|sr<|ck 1<|en<|bk 2<|bx H λ B m H=>?_;rcases B with I|J
   ·refine lX Mm m (sg [2,5,6,8]) rfl λ s w=>qH<|qs (w)<|sq<|sr<|ck 2<|en<|cn H (λ H=>?_)<|λ H=>?_
    ·exact sr<|ck 3<|en<|re<|qr (by cases H;exact pr rd)
    ·exact sk<|qz<|sr<|ck 6<|gc 1 (((a.Print.length:Nat):Int)==1)<|sE (g:=(((a.Print.length:Nat):Int)==1)) (λ hg=>AB eU8 a.Cells)<|gc 1 (((a.Print.length:Nat):Int)==1)<|pA<|ck 2<|pA<|ck 1<|en<|re (by cases H;exact pr rd)
   ·exact lR Mm m (sg [2,5,6,8]) rfl λ s A=>qR<|qr (by cases H;exact pr A)
end
section
variable (a:AC) (b:AC)
def JjL:St:=⟨(0,.agg [.d<|.str a.Print,.d<|.sl<|a.Cells.map eU8,.d<|.int .u8 a.Left,.d<|.int .u8 a.Right,.d<|.int .i64 a.From,.d<|.int .i64 a.To])::(1,.agg [.d<|.str b.Print,.d<|.sl<|b.Cells.map eU8,.d<|.int .u8 b.Left,.d<|.int .u8 b.Right,.d<|.int .i64 b.From,.d<|.int .i64 b.To])::[],[]⟩
variable {a b}
theorem Sm {z} (H:Io n a b=some z):AL Tryz.prog 70 [.agg (M8 a),.agg (M8 b)] (.d (.bool z)):=by
 exact fO 45 (JjL a b) Tryz.func70<|sr<|ck 3<|en<|sr<|ck 7<|gc 1 (a.Print==b.Print)<|ck 1<|gc 1 (a.Print==b.Print)<|bx H λ c e H=>cG false (leZ) rfl (λ hg=>KI<|BA e hg) (Or.inl rfl) (Cc (λ hh=>hh)<|Cc (λ hh=>hh)<|Ef) rfl<|pA<|ck 2<|gc 1 ((a.Print==b.Print)&&c)<|ck 1<|gc 2 ((a.Print==b.Print)&&c)<|pA<|ck 2<|gc 1 (((a.Print==b.Print)&&c)&&(a.Left==b.Left))<|ck 1<|gc 2 (((a.Print==b.Print)&&c)&&(a.Left==b.Left))<|pA<|ck 2<|gc 1 ((((a.Print==b.Print)&&c)&&(a.Left==b.Left))&&(a.Right==b.Right))<|ck 1<|gc 2 ((((a.Print==b.Print)&&c)&&(a.Left==b.Left))&&(a.Right==b.Right))<|pA<|ck 2<|gc 1 (((((a.Print==b.Print)&&c)&&(a.Left==b.Left))&&(a.Right==b.Right))&&(a.From==b.From))<|ck 1<|gc 2 (((((a.Print==b.Print)&&c)&&(a.Left==b.Left))&&(a.Right==b.Right))&&(a.From==b.From))<|pA<|ck 1<|en<|re (by cases H;exact pr rd)
end
section
variable (a:Ad) (b:Int) (f:Int)
def JjM:St:=⟨(0,.agg [.d<|.int .i64 a.Modes,.d<|.int .u8 a.Accept,.d<|.sl<|a.Rules.map Ao])::[],[]⟩
def JjN:St:=⟨(1,.ptr 0 0)::(4,.d<|.int .i64 b)::[],[some<|.box<|Ay a]⟩
def JjO:St:=⟨[],[]⟩
def JjP:St:=⟨(1,.ptr 0 0)::(4,.d<|.int .i64 b)::(5,.d<|.int .i64 f)::[],[some<|.box<|Ay a]⟩
def JjQ:St:=⟨(1,.ptr 0 0)::(4,.d<|.int .i64 b)::[],[some<|.box<|Ay a]⟩
def T6:(Unit⊕(Int×Int))->Ex->St->Prop:=xS (xX 0 2<|λ (_:Unit)=>JjQ a b)<|xR ty Tryz.f46<|λ (y:(Int×Int))=>.tup [.d<|.int .i64 y.1,.d<|.int .i64 y.2]
def Nm:Int->St:=(λ (x:Int)=>JjP a b x)
def T7:(Unit⊕(Int×Int))->Ex->St->Prop:=xS (xX 0 0<|λ (_:Unit)=>JjO)<|xR ty Tryz.f46<|λ (y:(Int×Int))=>.tup [.d<|.int .i64 y.1,.d<|.int .i64 y.2]
def Nn:Int->St:=(λ (x:Int)=>JjN a x)
variable {a b f}
theorem Mn (x:Int) (z:(Int⊕(Unit⊕(Int×Int)))) (H:GM n a b x=some z):WP (cxk 74 0) (Az Tryz.f46) [1,1,0,1,0,0,1,0,0,1,1,0,0] (Aw 0 (Nm a b) (T6 a b) z) (Nm a b x):=by
 revert H;generalize x=f;intro H;refine sq<|sr<|ck 3<|en<|cn H (λ H=>?_)<|λ H=>?_
 ·refine sk<|qz<|sq<|bk 3<|sr<|ck 3<|bx H λ v h H=>sp (Ap Ao h)<|ck 4<|bx H λ w i H=>sp (Ap Ao i)<|ck 1<|bx H λ A j H=>ca false (Sm j)<|en<|cn H (λ H=>?_)<|λ H=>?_
  ·exact sr<|ck 3<|en<|re<|qR<|qr (by cases H;exact ro rfl rdT)
  ·exact sk<|qN<|qz<|rz<|ck 3<|ae (by cases H;exact og<|sg [1,4,5])
 ·exact ex 2<|qx (by cases H;exact xo rfl<|sg [1,4])
theorem Mo (x:Int) (z:(Int⊕(Unit⊕(Int×Int)))) (H:GN n a x=some z):WP (cxk 74 0) (Az Tryz.f46) [1,1,0,1,0,0] (Aw 0 (Nn a) (T7) z) (Nn a x):=by
 revert H;generalize x=b;intro H;refine sq<|sr<|ck 3<|sp (AB Ao a.Rules)<|ck 1<|en<|cn H (λ H=>?_)<|λ H=>?_
 ·refine sk<|qz<|sq<|bk 1<|sq<|sr<|ck 3<|bx H λ B k H=>sp (Ap Ao k)<|ck 3<|bx H λ C l H=>ca false (Wx l)<|ck 1<|en<|cn H (λ H=>?_)<|λ H=>?_
  ·exact sr<|ck 3<|en<|re<|qr<|qR<|qr (by cases H;exact ro rfl rdT)
  ·refine sk<|qz<|sr<|ck 1<|en<|bk 2<|bx H λ t c H=>?_;rcases t with G|I
   ·exact lX Mn c (sg [1,4,5]) rfl λ s m=>qH<|qN<|qs (m)<|rz<|ck 3<|ae (by cases H;exact og<|sg [1,4])
   ·exact lR Mn c (sg [1,4,5]) rfl λ s o=>qR<|qR<|qr (by cases H;exact ro rfl o)
 ·exact ex 0<|qx (by cases H;exact xo rfl<|sg [])
theorem Wy {z} (H:NJ n a=some z):AL Tryz.prog 46 [.agg (Ay a)] (.tup [.d (.int .i64 z.1),.d (.int .i64 z.2)]):=by
 refine fO 74 (JjM a) Tryz.func46<|sr<|ck 3<|en<|sq<|sr<|ck 5<|gc 2 (!(decide<|a.Modes<1))<|pO<|ck 2<|gc 2 (!((decide<|a.Modes<1)||(decide<|a.Modes>8)))<|pO<|ck 2<|gc 2 (!(((decide<|a.Modes<1)||(decide<|a.Modes>8))||(a.Accept==0)))<|ck 1<|gc 1 (!(((decide<|a.Modes<1)||(decide<|a.Modes>8))||(a.Accept==0)))<|bx H λ E p H=>soG (λ hg=>IL<|BA p hg) (Cc (λ hh=>hh)<|Ef)<|gc 1 (!(((decide<|a.Modes<1)||(decide<|a.Modes>8))||(a.Accept==0)))<|pO<|ck 2<|gc 1 (!((((decide<|a.Modes<1)||(decide<|a.Modes>8))||(a.Accept==0))||(decide<|IntKind.i64.wrap a.Accept>=Ts .i64 1 a.Modes)))<|sE (g:=(!((((decide<|a.Modes<1)||(decide<|a.Modes>8))||(a.Accept==0))||(decide<|IntKind.i64.wrap a.Accept>=Ts .i64 1 a.Modes)))) (λ hg=>AB Ao a.Rules)<|gc 1 (!((((decide<|a.Modes<1)||(decide<|a.Modes>8))||(a.Accept==0))||(decide<|IntKind.i64.wrap a.Accept>=Ts .i64 1 a.Modes)))<|pO<|ck 2<|gc 1 (!(((((decide<|a.Modes<1)||(decide<|a.Modes>8))||(a.Accept==0))||(decide<|IntKind.i64.wrap a.Accept>=Ts .i64 1 a.Modes))||(decide<|((a.Rules.length:Nat):Int)<1)))<|sE (g:=(!(((((decide<|a.Modes<1)||(decide<|a.Modes>8))||(a.Accept==0))||(decide<|IntKind.i64.wrap a.Accept>=Ts .i64 1 a.Modes))||(decide<|((a.Rules.length:Nat):Int)<1)))) (λ hg=>AB Ao a.Rules)<|gc 1 (!(((((decide<|a.Modes<1)||(decide<|a.Modes>8))||(a.Accept==0))||(decide<|IntKind.i64.wrap a.Accept>=Ts .i64 1 a.Modes))||(decide<|((a.Rules.length:Nat):Int)<1)))<|pO<|en<|cn H (λ H=>?_)<|λ H=>?_
 ·exact sr<|ck 2<|en<|re<|qr (by cases H;exact pr rdT)
 ·refine sk<|qz<|sq<|sr<|ck 1<|en<|bk 0<|bx H λ u e H=>?_;rcases u with J|K
  ·exact lX Mo e (sg [1,4]) rfl λ s q=>qH<|qs (q)<|sr<|ck 2<|en<|re (by cases H;exact pr rdT)
  ·exact lR Mo e (sg [1,4]) rfl λ s r=>qR<|qr (by cases H;exact pr r)
end
section
variable (a:Ad)
def JjR:St:=⟨(0,.agg [.d<|.int .i64 a.Modes,.d<|.int .u8 a.Accept,.d<|.sl<|a.Rules.map Ao])::[],[]⟩
variable {a}
theorem Wz {z} (H:QQ n a=some z):AL Tryz.prog 23 [.agg (Ay a)] (.d (.bool z)):=by
 exact fO 12 (JjR a) Tryz.func23<|sr<|ck 2<|en<|sr<|ck 1<|bx H λ c b H=>ca false (Wy b)<|ck 5<|en<|sr<|ck 3<|en<|re (by cases H;exact pr rd)
end
section
variable (b:NY) (a:Ad) (j:Ad) (h:Int) (r:Ad) (m:Ad) (i:Ad) (g:Int) (t:Ad) (o:Ad) (p:Ad)
def JlR:St:=⟨(0,.agg [.d<|.int .u8 b.Base,.d<|.int .u8 b.Drop,.d<|.sl<|b.More.map Gy])::[],[]⟩
def JlS:St:=⟨(1,.ptr 0 0)::(2,.ptr 1 0)::(3,.ptr 2 0)::(4,.osl 3 6 0<|a.Rules.length)::(5,.d<|.int .i64 h)::[],[some<|.box<|Zn b,some<|.box [.d<|.int .i64 0,.d<|.int .u8 0,.osl 4 6 0<|List.length ([]:List AC)],some<|.box<|GP j<|.osl 5 6 0<|j.Rules.length,some<|.arr 6<|a.Rules.map Ao,some<|.arr 6<|List.map Ao ([]:List AC),some<|.arr 6<|j.Rules.map Ao]⟩
def JlT:St:=⟨(1,.ptr 0 0)::(2,.ptr 1 0)::(3,.ptr 2 0)::(4,.osl 3 6 0<|a.Rules.length)::[],[some<|.box<|Zn b,some<|.box [.d<|.int .i64 0,.d<|.int .u8 0,.osl 4 6 0<|List.length ([]:List AC)],some<|.box<|GP r<|.osl 5 6 0<|r.Rules.length,some<|.arr 6<|a.Rules.map Ao,some<|.arr 6<|List.map Ao ([]:List AC),some<|.arr 6<|r.Rules.map Ao]⟩
def JlU:St:=⟨(1,.ptr 0 0)::(2,.ptr 1 0)::(3,.ptr 2 0)::(4,.osl 3 6 0<|a.Rules.length)::(5,.d<|.int .i64 h)::[],[some<|.box<|Zn b,some<|.box [.d<|.int .i64 0,.d<|.int .u8 0,.osl 4 6 0<|List.length ([]:List AC)],some<|.box<|GP m<|.osl 5 6 0<|m.Rules.length,some<|.arr 6<|a.Rules.map Ao,some<|.arr 6<|List.map Ao ([]:List AC),some<|.arr 6<|m.Rules.map Ao]⟩
def UR:Ad->Ex->St->Prop:=xX 0 0<|λ (y:Ad)=>JlT b a y
def Ou:(Ad×Int)->St:=(λ (x:(Ad×Int))=>JlS b a x.1 x.2)
def JlV:St:=⟨(1,.ptr 0 0)::(2,.ptr 1 0)::(3,.ptr 2 0)::(4,.osl 3 6 0<|a.Rules.length)::(6,.d<|.int .i64 g)::[],[some<|.box<|Zn b,some<|.box [.d<|.int .i64 0,.d<|.int .u8 0,.osl 4 6 0<|List.length ([]:List AC)],some<|.box<|GP i<|.osl 5 6 0<|i.Rules.length,some<|.arr 6<|a.Rules.map Ao,some<|.arr 6<|List.map Ao ([]:List AC),some<|.arr 6<|i.Rules.map Ao]⟩
def JlW:St:=⟨(2,.ptr 0 0)::(3,.ptr 1 0)::(4,.osl 2 6 0<|a.Rules.length)::[],[some<|.box [.d<|.int .i64 0,.d<|.int .u8 0,.osl 3 6 0<|List.length ([]:List AC)],some<|.box<|GP t<|.osl 4 6 0<|t.Rules.length,some<|.arr 6<|a.Rules.map Ao,some<|.arr 6<|List.map Ao ([]:List AC),some<|.arr 6<|t.Rules.map Ao]⟩
def JlX:St:=⟨(1,.ptr 0 0)::(2,.ptr 1 0)::(3,.ptr 2 0)::(4,.osl 3 6 0<|a.Rules.length)::(6,.d<|.int .i64 g)::[],[some<|.box<|Zn b,some<|.box [.d<|.int .i64 0,.d<|.int .u8 0,.osl 4 6 0<|List.length ([]:List AC)],some<|.box<|GP o<|.osl 5 6 0<|o.Rules.length,some<|.arr 6<|a.Rules.map Ao,some<|.arr 6<|List.map Ao ([]:List AC),some<|.arr 6<|o.Rules.map Ao]⟩
def US:Ad->Ex->St->Prop:=xX 0 2<|λ (y:Ad)=>JlW a y
def Ov:(Ad×Int)->St:=(λ (x:(Ad×Int))=>JlV b a x.1 x.2)
def JlY:St:=⟨(2,.ptr 0 0)::(3,.ptr 1 0)::[],[some<|.box [.d<|.int .i64 0,.d<|.int .u8 0,.osl 2 6 0<|List.length ([]:List AC)],some<|.box<|GP p<|.osl 3 6 0<|p.Rules.length,some<|.arr 6<|List.map Ao ([]:List AC),some<|.arr 6<|p.Rules.map Ao]⟩
variable {b a j h r m i g t o p}
theorem T8 (x:(Ad×Int)) (z:((Ad×Int)⊕Ad)) (H:Gt n b a x.1 x.2=some z):WP (cxk 77 0) (Az Tryz.f7) [1,1,1,1,0,1,0,0] (Aw 0 (Ou b a) (UR b a) z) (Ou b a x):=by
 obtain ⟨j,h⟩:=x;refine sq<|sr<|ck 4<|en<|cn H (λ H=>?_)<|λ H=>?_
 ·refine sk<|qz<|sj (λ (x:Ad)=>JlU b a h x) (λ (x:Ad)=>HO n h x) z ?_ (λ c=>?_)
  ·intro m H;exact rz<|ck 3<|ae (by cases H;exact og<|sg [1,2,3,4,5])
  refine bk 1<|sr<|ck 3<|bx H λ R B H=>so (IL B)<|ck 2<|en<|cn H (λ H=>?_)<|λ H=>?_
  ·exact rz<|ck 4<|bx H λ S u H=>sp (Av 3 6 u)<|sp (C0 Ao 3 0 (ty 67) u)<|ck 1<|bx H λ Q C H=>sp (Cv Ao 5 6 C)<|ck 2<|ae<|qN<|qs (sg [1,2,3,4,5])<|c ({ Modes:=j.Modes,Accept:=j.Accept,Rules:=Q }:Ad) H
  ·exact sk<|qN<|qs (sg [1,2,3,4,5])<|c j H
 ·exact ex 0<|qx (by cases H;exact xo rfl<|sg [1,2,3,4])
theorem T9 (x:(Ad×Int)) (z:((Ad×Int)⊕Ad)) (H:Gu n b a x.1 x.2=some z):WP (cxk 77 0) (Az Tryz.f7) [1,1,1,1,1,0,1,0,0] (Aw 0 (Ov b a) (US a) z) (Ov b a x):=by
 obtain ⟨i,g⟩:=x;refine sq<|sr<|ck 3<|sp (AB Gy b.More)<|ck 3<|gc 1 (decide<|g<((b.More.length:Nat):Int))<|pA<|en<|cn H (λ H=>?_)<|λ H=>?_
 ·refine sk<|qz<|sj (λ (x:Ad)=>JlX b a g x) (λ (x:Ad)=>HP n g x) z ?_ (λ e=>?_)
  ·intro o H;exact rz<|ck 3<|ae (by cases H;exact og<|sg [1,2,3,4,6])
  refine bk 3<|sr<|ck 5<|bx H λ T E H=>sp (Ap Gy E)<|ck 3<|bx H λ U G H=>ca false (Yc G)<|ck 1<|bx H λ w I H=>sp (Cv Ao 5 6 I)<|ck 2<|en<|sr<|ck 1<|bx H λ V J H=>cb (ks:=[7]) (obl:=[(0+List.length w,List.length<|w.map Ao)]) false (leK leM<|leZ) (D9 (Jk3<|D9 rfl<|D9 rfl<|D9 TF rfl) rfl) (Wz J) (Or.inr trivial) rfl<|ck 1<|en<|cn H (λ H=>?_)<|λ H=>?_
  ·exact rz<|ck 6<|bx H λ A l H=>sp (JhZ 7 6 l)<|ck 2<|ae<|qN<|qs (tr (JfQ (k:=7) (sz:=6) 2 2 (A.map Ao) (A.length) (by kernel_rfl) (JfV l) (JhR (enc:=Ao) l)<|JfW l)<|sg [1,2,3,4,6])<|e ({ Modes:=i.Modes,Accept:=i.Accept,Rules:=A }:Ad) H
  ·exact sk<|qN<|qs (sg [1,2,3,4,6])<|e ({ Modes:=i.Modes,Accept:=i.Accept,Rules:=w }:Ad) H
 ·exact ex 2<|qx (by cases H;exact xo rfl<|sg [2,3,4])
theorem Yd {z} (H:KB n b=some z):AL Tryz.prog 7 [.agg (Zn b)] (.agg [.d (.int .i64 z.Modes),.d (.int .u8 z.Accept),.own 6 (z.Rules.map Ao)]):=by
 refine fO 77 (JlR b) Tryz.func7<|sr<|ck 2<|en<|sr<|ck 2<|bx H λ a K H=>cl [List.length a.Rules] (Yb K)<|ck 2<|en<|sr<|ck 3<|en<|sr<|ck 3<|en<|sq<|sr<|ck 1<|en<|bk 0<|bx H λ W L H=>lX T8 L (tr (BO 1 2 6 (by kernel_rfl))<|sg [1,2,3,4,5]) rfl λ s M=>qH<|qs (M)<|sq<|sr<|ck 1<|en<|bk 2<|bx H λ q O H=>lX T9 O (sg [1,2,3,4,6]) rfl λ s P=>qH<|qs (P)<|sj (λ (x:Ad)=>JlY x) (λ (x:Ad)=>HQ n x) z ?_ (λ f=>?_)
 ·intro p H;exact sr<|ck 2<|en<|re (by cases H;exact pr<|rO (v:=.agg [.d<|.int .i64 z.Modes,.d<|.int .u8 z.Accept,.osl 3 6 0<|z.Rules.length]) [3]<|a1<|c1 vd<|c1 vd<|c1 vo<|c0)
 refine sr<|ck 4<|en<|cn H (λ H=>?_)<|λ H=>?_
 ·exact rz<|ck 3<|ae<|qs (sg [2,3])<|f ({ Modes:=q.Modes,Accept:=q.Accept,Rules:=a.Rules }:Ad) H
 ·exact sk<|qs (sg [2,3])<|f q H
end
section
variable (e:Ad) (c:(List Int)) (f:(List UInt8)) (a:Int) (i:(List UInt8)) (h:(List UInt8))
def JlZ:St:=⟨(0,.agg [.d<|.int .i64 e.Modes,.d<|.int .u8 e.Accept,.d<|.sl<|e.Rules.map Ao])::(1,.d<|.sl<|c.map eU8)::[],[]⟩
def Jl0:St:=⟨(1,.d<|.sl<|c.map eU8)::(2,.ptr 0 0)::(5,.d<|.str f)::(6,.d<|.int .i64 a)::[],[some<|.box<|Ay e]⟩
def Jl1:St:=⟨(5,.d<|.str i)::[],[]⟩
def Jl2:St:=⟨(1,.d<|.sl<|c.map eU8)::(2,.ptr 0 0)::(5,.d<|.str h)::(6,.d<|.int .i64 a)::[],[some<|.box<|Ay e]⟩
def Q4:(List UInt8)->Ex->St->Prop:=xX 0 0<|λ (y:(List UInt8))=>Jl1 y
def KJ:((List UInt8)×Int)->St:=(λ (x:((List UInt8)×Int))=>Jl0 e c x.1 x.2)
variable {e c f a i h}
theorem PX (x:((List UInt8)×Int)) (z:(((List UInt8)×Int)⊕(List UInt8))) (H:E0 n e c x.1 x.2=some z):WP (cxk 48 0) (Az Tryz.f8) [1,1,0,1,0,0] (Aw 0 (KJ e c) (Q4) z) (KJ e c x):=by
 obtain ⟨f,a⟩:=x;refine sq<|sr<|ck 2<|sp (AB eU8 c)<|ck 3<|gc 1 (decide<|a<((c.length:Nat):Int))<|pA<|ck 2<|gc 1 ((decide<|a<((c.length:Nat):Int))&&(decide<|a<12))<|sE (g:=((decide<|a<((c.length:Nat):Int))&&(decide<|a<12))) (λ hg=>AB Ao e.Rules)<|gc 1 ((decide<|a<((c.length:Nat):Int))&&(decide<|a<12))<|pA<|en<|cn H (λ H=>?_)<|λ H=>?_
 ·refine sk<|qz<|sj (λ (x:(List UInt8))=>Jl2 e c a x) (λ (x:(List UInt8))=>EZ n a x) z ?_ (λ b=>?_)
  ·intro h H;exact rz<|ck 3<|ae (by cases H;exact og<|sg [1,2,5,6])
  refine bk 1<|sr<|ck 4<|bx H λ r j H=>sp (Ap eU8 j)<|ck 4<|sp (AB Ao e.Rules)<|bx H λ t k H=>so (MZ k)<|bx H λ u l H=>sp (Ap Ao l)<|ck 3<|en<|sr<|ck 6<|en<|cn H (λ H=>?_)<|λ H=>?_
  ·exact rz<|ck 2<|bx H λ q m H=>sp (QJ m)<|ck 1<|ae<|qN<|qs (sg [1,2,5,6])<|b q H
  ·exact sk<|qN<|qs (sg [1,2,5,6])<|b f H
 ·exact ex 0<|qx (by cases H;exact xo rfl<|sg [5])
theorem No {z} (H:HR n e c=some z):AL Tryz.prog 8 [.agg (Ay e),.d (.sl (c.map eU8))] (.d (.str z)):=by
 exact fO 48 (JlZ e c) Tryz.func8<|sr<|ck 2<|en<|sr<|ck 1<|en<|sq<|sr<|ck 1<|en<|bk 0<|bx H λ v o H=>lX PX o (sg [1,2,5,6]) rfl λ s p=>qH<|qs (p)<|sr<|ck 2<|en<|re (by cases H;exact pr rd)
end
def JjS:St:=⟨[],[]⟩
theorem PY {z} (H:QR n=some z):AL Tryz.prog 38 [] (.agg [.d (.int .i64 z.Mode),.d (.int .i64 z.Last),.d (.int .u8 z.Need)]):=by
 exact fO 2 JjS Tryz.func38<|sr<|ck 1<|en<|sr<|ck 2<|en<|re (by cases H;exact pr rd)
section
variable (b:Int) (a:Int)
def JjT:St:=⟨(0,.d<|.int .u8 b)::(1,.d<|.int .i64 a)::[],[]⟩
variable {b a}
theorem I0 {z} (H:Jy n b a=some z):AL Tryz.prog 68 [.d (.int .u8 b),.d (.int .i64 a)] (.d (.bool z)):=by
 exact fO 18 (JjT b a) Tryz.func68<|sr<|ck 1<|en<|sr<|ck 4<|gc 1 (decide<|a>=0)<|pA<|ck 3<|bx H λ e c H=>soG (λ hg=>IL<|BA c hg) (Cc (λ hh=>hh)<|Cc (λ hh=>hh)<|Ef)<|gc 2 ((decide<|a>=0)&&(decide<|a<8))<|pA<|ck 1<|en<|re (by cases H;exact pr rd)
end
section
variable (a:Int)
def JjU:St:=⟨(0,.d<|.int .u8 a)::[],[]⟩
variable {a}
theorem LG {z} (H:IE n a=some z):AL Tryz.prog 67 [.d (.int .u8 a)] (.d (.int .i64 z)):=by
 refine fO 26 (JjU a) Tryz.func67<|sr<|ck 1<|en<|sr<|ck 3<|en<|sq<|sr<|ck 4<|gc 1 (decide<|CW .u8 a 127>=97)<|pA<|en<|cn H (λ H=>?_)<|λ H=>?_
 ·exact sr<|ck 1<|en<|re<|qr (by cases H;exact pr rd)
 ·refine sk<|qz<|sq<|sr<|ck 4<|gc 1 (decide<|CW .u8 a 127>=65)<|pA<|en<|cn H (λ H=>?_)<|λ H=>?_
  ·exact sr<|ck 1<|en<|re<|qr (by cases H;exact pr rd)
  ·refine sk<|qz<|sq<|sr<|ck 4<|gc 1 (decide<|CW .u8 a 127>=48)<|pA<|en<|cn H (λ H=>?_)<|λ H=>?_
   ·exact sr<|ck 1<|en<|re<|qr (by cases H;exact pr rd)
   ·refine sk<|qz<|sq<|sr<|ck 2<|en<|cn H (λ H=>?_)<|λ H=>?_
    ·exact sr<|ck 1<|en<|re<|qr (by cases H;exact pr rd)
    ·exact sk<|qz<|sr<|ck 1<|en<|re (by cases H;exact pr rd)
end
section
variable (b:Ad) (a:Ab) (c:Int)
def JjV:St:=⟨(0,.agg [.d<|.int .i64 b.Modes,.d<|.int .u8 b.Accept,.d<|.sl<|b.Rules.map Ao])::(1,.agg [.d<|.int .i64 a.Mode,.d<|.int .i64 a.Last,.d<|.int .u8 a.Need])::(2,.d<|.int .i64 c)::[],[]⟩
variable {b a c}
theorem JL {z} (H:IS n b a c=some z):AL Tryz.prog 41 [.agg (Ay b),.agg (J4 a),.d (.int .i64 c)] (.tup [.agg [.d (.int .i64 z.1.Mode),.d (.int .i64 z.1.Last),.d (.int .u8 z.1.Need)],.d (.bool z.2)]):=by
 refine fO 87 (JjV b a c) Tryz.func41<|sr<|ck 4<|en<|sq<|sr<|ck 5<|gc 1 (!(decide<|c<0))<|sE (g:=(!(decide<|c<0))) (λ hg=>AB Ao b.Rules)<|gc 1 (!(decide<|c<0))<|pO<|en<|cn H (λ H=>?_)<|λ H=>?_
 ·exact sr<|ck 3<|en<|re<|qr (by cases H;exact pr rdT)
 ·refine sk<|qz<|sr<|ck 3<|bx H λ e f H=>sp (Ap Ao f)<|ck 3<|en<|sq<|sr<|ck 7<|gc 1 (!(e.From != a.Mode))<|ck 1<|gc 1 (!(e.From != a.Mode))<|bx H λ o h H=>cG false (leZ) rfl (λ hg=>I0<|BA h hg) (Or.inl rfl) (Cc (λ hh=>hh)<|Cc (λ hh=>hh)<|Ef) rfl<|gc 1 (!(e.From != a.Mode))<|pO<|en<|cn H (λ H=>?_)<|λ H=>?_
  ·exact sr<|ck 3<|en<|re<|qr (by cases H;exact pr rdT)
  ·refine sk<|qz<|sq<|sr<|ck 6<|gc 1 (((e.Print.length:Nat):Int)==0)<|ck 1<|gc 3 (((e.Print.length:Nat):Int)==0)<|pA<|en<|cn H (λ H=>?_)<|λ H=>?_
   ·exact sr<|ck 3<|en<|re<|qr (by cases H;exact pr rdT)
   ·refine sk<|qz<|sq<|sr<|ck 4<|en<|cn H (λ H=>?_)<|λ H=>?_
    ·exact sr<|ck 12<|en<|re<|qr (by cases H;exact pr rdT)
    ·refine sk<|qz<|sq<|sr<|ck 4<|bx H λ s i H=>sp (HD i)<|bx H λ p j H=>ca false (LG j)<|bx H λ q k H=>ca false (I0 k)<|ck 1<|en<|cn H (λ H=>?_)<|λ H=>?_
     ·exact sr<|ck 3<|en<|re<|qr (by cases H;exact pr rdT)
     ·exact sk<|qz<|sr<|ck 8<|bx H λ t l H=>sp (HD l)<|bx H λ r m H=>ca false (LG m)<|ck 5<|en<|re (by cases H;exact pr rdT)
end
section
variable (b:(List Ab)) (a:Ab) (c:Int)
def JjW:St:=⟨(0,.d<|.sl<|b.map Ah)::(1,.agg [.d<|.int .i64 a.Mode,.d<|.int .i64 a.Last,.d<|.int .u8 a.Need])::[],[]⟩
def JjX:St:=⟨(0,.d<|.sl<|b.map Ah)::(3,.ptr 0 0)::(5,.d<|.int .i64 c)::[],[some<|.box<|J4 a]⟩
def JjY:St:=⟨[],[]⟩
def Ua:(Unit⊕Int)->Ex->St->Prop:=xS (xX 0 0<|λ (_:Unit)=>JjY)<|xR ty Tryz.f39<|λ (y:Int)=>.d<|.int .i64 y
def Np:Int->St:=(λ (x:Int)=>JjX b a x)
variable {b a c}
theorem Mp (x:Int) (z:(Int⊕(Unit⊕Int))) (H:El n b a x=some z):WP (cxk 19 0) (Az Tryz.f39) [1,0,1,0,0] (Aw 0 (Np b a) (Ua) z) (Np b a x):=by
 revert H;generalize x=c;intro H;refine sq<|sr<|ck 2<|sp (AB Ah b)<|ck 1<|en<|cn H (λ H=>?_)<|λ H=>?_
 ·refine sk<|qz<|sq<|bk 1<|sr<|ck 2<|bx H λ j f H=>sp (Ap Ah f)<|ck 3<|en<|cn H (λ H=>?_)<|λ H=>?_
  ·exact sr<|ck 2<|en<|re<|qR<|qr (by cases H;exact ro rfl rd)
  ·exact sk<|qN<|qz<|rz<|ck 3<|ae (by cases H;exact og<|sg [0,3,5])
 ·exact ex 0<|qx (by cases H;exact xo rfl<|sg [])
theorem Fp {z} (H:Gv n b a=some z):AL Tryz.prog 39 [.d (.sl (b.map Ah)),.agg (J4 a)] (.d (.int .i64 z)):=by
 refine fO 19 (JjW b a) Tryz.func39<|sr<|ck 2<|en<|sq<|sr<|ck 1<|en<|bk 0<|bx H λ g e H=>?_;rcases g with k|l
 ·exact lX Mp e (sg [0,3,5]) rfl λ s h=>qH<|qs (h)<|sr<|ck 1<|en<|re (by cases H;exact pr rd)
 ·exact lR Mp e (sg [0,3,5]) rfl λ s i=>qR<|qr (by cases H;exact pr i)
end
section
variable (a:Ad) (g:(List Ab)) (b:Int) (i:(List Ab)) (c:(List Ab)) (j:Int) (h:(List Ab)) (f:(List Ab))
def JjZ:St:=⟨(0,.agg [.d<|.int .i64 a.Modes,.d<|.int .u8 a.Accept,.d<|.sl<|a.Rules.map Ao])::[],[]⟩
def Jj0:St:=⟨(1,.ptr 0 0)::(3,.osl 1 3 0<|g.length)::(4,.d<|.int .i64 b)::[],[some<|.box<|Ay a,some<|.arr 3<|g.map Ah]⟩
def Jj1:St:=⟨(3,.osl 0 3 0<|i.length)::[],[some<|.arr 3<|i.map Ah]⟩
def Jj2:St:=⟨(1,.ptr 0 0)::(3,.osl 1 3 0<|c.length)::(4,.d<|.int .i64 b)::(5,.d<|.int .i64 j)::[],[some<|.box<|Ay a,some<|.arr 3<|c.map Ah]⟩
def Jj3:St:=⟨(1,.ptr 0 0)::(3,.osl 1 3 0<|h.length)::(4,.d<|.int .i64 b)::[],[some<|.box<|Ay a,some<|.arr 3<|h.map Ah]⟩
def Jj4:St:=⟨(1,.ptr 0 0)::(3,.osl 1 3 0<|f.length)::(4,.d<|.int .i64 b)::(5,.d<|.int .i64 j)::[],[some<|.box<|Ay a,some<|.arr 3<|f.map Ah]⟩
def Sn:(List Ab)->Ex->St->Prop:=xX 0 2<|λ (y:(List Ab))=>Jj3 a b y
def Mq:((List Ab)×Int)->St:=(λ (x:((List Ab)×Int))=>Jj2 a b x.1 x.2)
def So:(List Ab)->Ex->St->Prop:=xX 0 0<|λ (y:(List Ab))=>Jj1 y
def Mr:((List Ab)×Int)->St:=(λ (x:((List Ab)×Int))=>Jj0 a x.1 x.2)
variable {a g b i c j h f}
theorem Q5 (x:((List Ab)×Int)) (z:(((List Ab)×Int)⊕(List Ab))) (H:EB n a b x.1 x.2=some z):WP (cxk 45 0) (Az Tryz.f37) [1,1,0,1,0,0,1,0,0,1,0,0] (Aw 0 (Mq a b) (Sn a b) z) (Mq a b x):=by
 obtain ⟨c,j⟩:=x;refine sq<|sr<|ck 3<|sp (AB Ao a.Rules)<|ck 1<|en<|cn H (λ H=>?_)<|λ H=>?_
 ·refine sk<|qz<|sj (λ (x:(List Ab))=>Jj4 a b j x) (λ (x:(List Ab))=>FG n j x) z ?_ (λ e=>?_)
  ·intro f H;exact rz<|ck 3<|ae (by cases H;exact og<|sg [1,3,4,5])
  refine bk 3<|sr<|ck 3<|bx H λ B k H=>sp (Av 1 3 k)<|sp (C0 Ah 1 0 (ty 93) k)<|ck 1<|bx H λ l m H=>ca false (JL m)<|ck 6<|en<|sr<|ck 4<|bx H λ C o H=>cG (ks:=[1]) (obl:=[(0+List.length c,List.length<|c.map Ah)]) false (leK leM<|leZ) (D9 TF<|D9 rfl rfl) (λ hg=>Fp<|BA o hg) (Or.inr trivial) (Cc (λ hh=>hh)<|Cc (λ hh=>hh)<|Ef) rfl<|gc 1 l.2<|pA<|en<|cn H (λ H=>?_)<|λ H=>?_
  ·exact rz<|ck 3<|bx H λ A p H=>sp (Cv Ah 1 3 p)<|ck 1<|ae<|qN<|qs (sg [1,3,4,5])<|e A H
  ·exact sk<|qN<|qs (sg [1,3,4,5])<|e c H
 ·exact ex 2<|qx (by cases H;exact xo rfl<|sg [1,3,4])
theorem Q6 (x:((List Ab)×Int)) (z:(((List Ab)×Int)⊕(List Ab))) (H:FH n a x.1 x.2=some z):WP (cxk 45 0) (Az Tryz.f37) [1,1,0,1,0,0] (Aw 0 (Mr a) (So) z) (Mr a x):=by
 obtain ⟨g,b⟩:=x;refine sq<|sr<|ck 4<|en<|cn H (λ H=>?_)<|λ H=>?_
 ·exact sk<|qz<|sq<|bk 1<|sr<|ck 1<|en<|bk 2<|bx H λ E q H=>lX Q5 q (sg [1,3,4,5]) rfl λ s r=>qH<|qN<|qs (r)<|rz<|ck 3<|ae (by cases H;exact og<|sg [1,3,4])
 ·exact ex 0<|qx (by cases H;exact xo rfl<|sg [3])
theorem Kf {z} (H:Ht n a=some z):AL Tryz.prog 37 [.agg (Ay a)] (.own 3 (z.map Ah)):=by
 exact fO 45 (JjZ a) Tryz.func37<|sr<|ck 2<|en<|sr<|bx H λ G t H=>ca false (PY t)<|ck 2<|en<|sq<|sr<|ck 1<|en<|bk 0<|bx H λ I u H=>lX Q6 u (sg [1,3,4]) rfl λ s w=>qH<|qs (w)<|sr<|ck 2<|en<|re (by cases H;exact pr<|rO (v:=.osl 0 3 0<|z.length) [0]<|ao vo)
end
section
variable (b:Ad) (a:Ab)
def Jj5:St:=⟨(0,.agg [.d<|.int .i64 b.Modes,.d<|.int .u8 b.Accept,.d<|.sl<|b.Rules.map Ao])::(1,.agg [.d<|.int .i64 a.Mode,.d<|.int .i64 a.Last,.d<|.int .u8 a.Need])::[],[]⟩
variable {b a}
theorem Ub {z} (H:Jz n b a=some z):AL Tryz.prog 47 [.agg (Ay b),.agg (J4 a)] (.d (.bool z)):=by
 exact fO 27 (Jj5 b a) Tryz.func47<|sr<|ck 3<|en<|sr<|ck 5<|gc 1 (decide<|a.Mode>=0)<|ck 1<|gc 2 (decide<|a.Mode>=0)<|pA<|ck 2<|gc 1 ((decide<|a.Mode>=0)&&(decide<|a.Mode<b.Modes))<|ck 1<|gc 1 ((decide<|a.Mode>=0)&&(decide<|a.Mode<b.Modes))<|bx H λ c e H=>cG false (leZ) rfl (λ hg=>I0<|BA e hg) (Or.inl rfl) (Cc (λ hh=>hh)<|Cc (λ hh=>hh)<|Ef) rfl<|pA<|ck 2<|gc 1 (((decide<|a.Mode>=0)&&(decide<|a.Mode<b.Modes))&&c)<|bx H λ g f H=>cG false (leZ) rfl (λ hg=>I0<|BA f hg) (Or.inl rfl) (Cc (λ hh=>hh)<|Ef) rfl<|pA<|ck 1<|en<|re (by cases H;exact pr rd)
end
section
variable (a:(List UInt8)) (b:Int) (c:(List UInt8))
def Jj6:St:=⟨(0,.d<|.str a)::(1,.d<|.int .i64 b)::(2,.d<|.str c)::[],[]⟩
variable {a b c}
theorem Ow {z} (H:IT n a b c=some z):AL Tryz.prog 66 [.d (.str a),.d (.int .i64 b),.d (.str c)] (.d (.bool z)):=by
 exact fO 25 (Jj6 a b c) Tryz.func66<|sr<|ck 1<|en<|sr<|ck 12<|gc 2 (decide<|An .i64 b ((c.length:Nat):Int)<=((a.length:Nat):Int))<|bx H λ f e H=>sE (λ hg=>Il<|BA e hg)<|ck 1<|gc 1 (decide<|An .i64 b ((c.length:Nat):Int)<=((a.length:Nat):Int))<|pA<|ck 1<|en<|re (by cases H;exact pr rd)
end
section
variable (c:Ad) (a:FB) (e:Int) (f:(List (List Int)))
def Jj7:St:=⟨(0,.agg [.d<|.int .i64 c.Modes,.d<|.int .u8 c.Accept,.d<|.sl<|c.Rules.map Ao])::(1,.agg [.d<|.str a.S,.d<|.int .i64 a.I,.d<|.int .i64 a.State.Mode,.d<|.int .i64 a.State.Last,.d<|.int .u8 a.State.Need,.d<|.sl<|a.L.map Ah])::(2,.d<|.int .i64 e)::(3,.d<|.sl<|f.map<|eL Af)::[],[]⟩
variable {c a e f}
theorem PZ {z} (H:Hu n c a e f=some z):AL Tryz.prog 40 [.agg (Ay c),.agg (Wm a),.d (.int .i64 e),.d (.sl (f.map (eL Af)))] (.d (.int .i64 z)):=by
 refine fO 66 (Jj7 c a e f) Tryz.func40<|sr<|ck 3<|en<|sr<|ck 4<|bx H λ b g H=>ca false (JL g)<|ck 6<|en<|sq<|sr<|ck 4<|gc 1 (!(!b.2))<|ck 1<|gc 1 (!(!b.2))<|ck 1<|gc 1 (!(!b.2))<|ck 1<|bx H λ q h H=>sE (λ hg=>Ap Ao<|BA h hg)<|gc 2 (!(!b.2))<|bx H λ r i H=>cG false (leZ) rfl (λ hg=>Ow<|BA i hg) (Or.inl rfl) (Cc (λ hh=>hh)<|Cc (λ hh=>hh)<|Cc (λ hh=>hh)<|Ef) rfl<|gc 1 (!(!b.2))<|pO<|en<|cn H (λ H=>?_)<|λ H=>?_
 ·exact sr<|ck 1<|en<|re<|qr (by cases H;exact pr rd)
 ·refine sk<|qz<|sr<|ck 6<|bx H λ s j H=>sp (Ap Ao j)<|ck 4<|bx H λ t k H=>sp (Ap (eL Af) k)<|ck 4<|bx H λ u l H=>ca false (Fp l)<|bx H λ v m H=>sp (Ap Af m)<|ck 2<|en<|sq<|sr<|ck 2<|en<|cn H (λ H=>?_)<|λ H=>?_
  ·exact sr<|ck 1<|en<|re<|qr (by cases H;exact pr rd)
  ·exact sk<|qz<|sr<|ck 4<|bx H λ o p H=>sp (Ap Ao p)<|ck 2<|sp (AB eU8 o.Cells)<|ck 2<|en<|re (by cases H;exact pr rd)
end
section
variable (e:Int) (f:Int)
def Jj8:St:=⟨(0,.d<|.int .i64 e)::(1,.d<|.int .i64 f)::[],[]⟩
variable {e f}
theorem WA {z} (H:NK n e f=some z):AL Tryz.prog 48 [.d (.int .i64 e),.d (.int .i64 f)] (.d (.int .i64 z)):=by
 refine fO 18 (Jj8 e f) Tryz.func48<|sr<|ck 1<|en<|sq<|sr<|ck 4<|gc 2 (!(decide<|e<0))<|ck 2<|gc 1 ((!(decide<|e<0))&&(decide<|f>=0))<|pG (g:=(!(decide<|e<0))) (v:=.d<|.bool<|(decide<|f>=0)&&(decide<|f<e)) (λ hg=>Gk (c:=.gv (!(decide<|e<0))<|.d<|.bool<|decide<|f>=0) (a:=.gv ((!(decide<|e<0))&&(decide<|f>=0))<|.d<|.bool<|decide<|f<e) (b:=.d<|.bool false) rfl rfl rfl ((λ hh=>hh) hg) (λ ht=>by rw [(λ hh=>hh) hg,ht];rfl) trivial)<|pO<|en<|cn H (λ H=>?_)<|λ H=>?_
 ·exact sr<|ck 2<|en<|re<|qr (by cases H;exact pr rd)
 ·exact sk<|qz<|sr<|ck 2<|en<|re (by cases H;exact pr rd)
end
section
variable (f:Ad) (h:(List UInt8)) (c:(List Ab)) (i:(List (List Int))) (a:Int) (I:(List (List Int))) (e:(List (List Int))) (Z:Int) (J:(List (List Int))) (A:(List (List Int))) (o:(List (List Int))) (r:Bool) (K:(List (List Int))) (p:(List (List Int))) (u:Bool) (C:Int) (L:(List (List Int))) (E:Bool) (b:(List (List Int))) (m:Bool) (aa:Int) (M:(List (List Int))) (G:Bool) (B:(List (List Int))) (w:Bool)
def Jj9:St:=⟨(0,.agg [.d<|.int .i64 f.Modes,.d<|.int .u8 f.Accept,.d<|.sl<|f.Rules.map Ao])::(1,.d<|.str h)::[],[]⟩
def Jka:St:=⟨(1,.d<|.str h)::(2,.ptr 0 0)::(5,.d<|.sl<|c.map Ah)::(6,.osl 1 1 0<|i.length)::(7,.d<|.int .i64 a)::[],[some<|.box<|Ay f,some<|.narr 1<|i.map<|nL 1 Af]⟩
def Jkb:St:=⟨(6,.osl 0 1 0<|I.length)::[],[some<|.narr 1<|I.map<|nL 1 Af]⟩
def Jkc:St:=⟨(1,.d<|.str h)::(2,.ptr 0 0)::(5,.d<|.sl<|c.map Ah)::(6,.osl 1 1 0<|e.length)::(7,.d<|.int .i64 a)::(8,.d<|.int .i64 Z)::[],[some<|.box<|Ay f,some<|.narr 1<|e.map<|nL 1 Af]⟩
def Jkd:St:=⟨(1,.d<|.str h)::(2,.ptr 0 0)::(5,.d<|.sl<|c.map Ah)::(6,.osl 1 1 0<|J.length)::(7,.d<|.int .i64 a)::[],[some<|.box<|Ay f,some<|.narr 1<|J.map<|nL 1 Af]⟩
def Jke:St:=⟨(1,.d<|.str h)::(2,.ptr 0 0)::(5,.d<|.sl<|c.map Ah)::(6,.osl 1 1 0<|A.length)::(7,.d<|.int .i64 a)::(8,.d<|.int .i64 Z)::[],[some<|.box<|Ay f,some<|.narr 1<|A.map<|nL 1 Af]⟩
def P0:(List<|List Int)->Ex->St->Prop:=xX 0 2<|λ (y:(List<|List Int))=>Jkd f h c a y
def JM:((List<|List Int)×Int)->St:=(λ (x:((List<|List Int)×Int))=>Jkc f h c a x.1 x.2)
def Jkf:St:=⟨(1,.d<|.str h)::(2,.ptr 0 0)::(5,.d<|.sl<|c.map Ah)::(6,.osl 1 1 0<|o.length)::(7,.d<|.int .i64 a)::(9,.d<|.bool r)::[],[some<|.box<|Ay f,some<|.narr 1<|o.map<|nL 1 Af]⟩
def Jkg:St:=⟨(1,.d<|.str h)::(2,.ptr 0 0)::(5,.d<|.sl<|c.map Ah)::(6,.osl 1 1 0<|K.length)::(7,.d<|.int .i64 a)::[],[some<|.box<|Ay f,some<|.narr 1<|K.map<|nL 1 Af]⟩
def Jkh:St:=⟨(1,.d<|.str h)::(2,.ptr 0 0)::(5,.d<|.sl<|c.map Ah)::(6,.osl 1 1 0<|p.length)::(7,.d<|.int .i64 a)::(9,.d<|.bool u)::(10,.d<|.int .i64 C)::[],[some<|.box<|Ay f,some<|.narr 1<|p.map<|nL 1 Af]⟩
def Jgk:St:=⟨(1,.d<|.str h)::(2,.ptr 0 0)::(5,.d<|.sl<|c.map Ah)::(6,.osl 1 1 0<|L.length)::(7,.d<|.int .i64 a)::(9,.d<|.bool E)::[],[some<|.box<|Ay f,some<|.narr 1<|L.map<|nL 1 Af]⟩
def Jgl:St:=⟨(1,.d<|.str h)::(2,.ptr 0 0)::(5,.d<|.sl<|c.map Ah)::(6,.osl 1 1 0<|b.length)::(7,.d<|.int .i64 a)::(9,.d<|.bool m)::(10,.d<|.int .i64 C)::(11,.d<|.int .i64 aa)::[],[some<|.box<|Ay f,some<|.narr 1<|b.map<|nL 1 Af]⟩
def Jgm:St:=⟨(1,.d<|.str h)::(2,.ptr 0 0)::(5,.d<|.sl<|c.map Ah)::(6,.osl 1 1 0<|M.length)::(7,.d<|.int .i64 a)::(9,.d<|.bool G)::(10,.d<|.int .i64 C)::[],[some<|.box<|Ay f,some<|.narr 1<|M.map<|nL 1 Af]⟩
def Jgn:St:=⟨(1,.d<|.str h)::(2,.ptr 0 0)::(5,.d<|.sl<|c.map Ah)::(6,.osl 1 1 0<|B.length)::(7,.d<|.int .i64 a)::(9,.d<|.bool w)::(10,.d<|.int .i64 C)::(11,.d<|.int .i64 aa)::[],[some<|.box<|Ay f,some<|.narr 1<|B.map<|nL 1 Af]⟩
def P1:((List<|List Int)×Bool)->Ex->St->Prop:=xX 0 8<|λ (y:((List<|List Int)×Bool))=>Jgm f h c a C y.1 y.2
def JN:((List<|List Int)×Bool×Int)->St:=(λ (x:((List<|List Int)×Bool×Int))=>Jgl f h c a C x.1 x.2.1 x.2.2)
def P2:((List<|List Int)×Bool)->Ex->St->Prop:=xX 0 6<|λ (y:((List<|List Int)×Bool))=>Jgk f h c a y.1 y.2
def JO:((List<|List Int)×Bool×Int)->St:=(λ (x:((List<|List Int)×Bool×Int))=>Jkh f h c a x.1 x.2.1 x.2.2)
def P3:(List<|List Int)->Ex->St->Prop:=xX 0 4<|λ (y:(List<|List Int))=>Jkg f h c a y
def JP:((List<|List Int)×Bool)->St:=(λ (x:((List<|List Int)×Bool))=>Jkf f h c a x.1 x.2)
def P4:(List<|List Int)->Ex->St->Prop:=xX 0 0<|λ (y:(List<|List Int))=>Jkb y
def JQ:((List<|List Int)×Int)->St:=(λ (x:((List<|List Int)×Int))=>Jka f h c x.1 x.2)
variable {f h c i a I e Z J A o r K p u C L E b m aa M G B w}
theorem OY (x:((List (List Int))×Int)) (z:(((List (List Int))×Int)⊕(List (List Int)))) (H:Dz n f h c a x.1 x.2=some z):WP (cxk 116 0) (Az Tryz.f24) [1,1,1,0,1,0,0,1,0,0,1,0,1,0,0] (Aw 0 (JM f h c a) (P0 f h c a) z) (JM f h c a x):=by
 obtain ⟨e,Z⟩:=x;refine sq<|sr<|ck 2<|sp (AB Ah c)<|ck 1<|en<|cn H (λ H=>?_)<|λ H=>?_
 ·refine sk<|qz<|sj (λ (x:(List<|List Int))=>Jke f h c a Z x) (λ (x:(List<|List Int))=>Er n Z x) z ?_ (λ j=>?_)
  ·intro A H;exact rz<|ck 3<|ae (by cases H;exact og<|gP [1,2,5,6,7,8] [0,1]<|po1<|pn1 (nL 1 Af) A<|Pl.z)
  refine bk 3<|sq<|bx H λ R V H=>rg (tr (so1 (encN:=(nL 1 Af)) 1 1 V)<|sno (encN:=(nL 1 Af)) (enc:=Af) V [.own 1<|R.map Af] R 1 1 0 1)<|ck 2<|sp (Av 1 1 V)<|sp (Cj (encN:=(nL 1 Af)) (row:=[.osl 2 1 0<|R.length]) (k:=1) (sz:=1) (off:=0) (t:=ty 35) (v:=.osl 2 1 0<|R.length) V)<|ck 1<|bx H λ bj ah H=>sp (Av 2 1 ah)<|bx H λ q ab H=>stA Af 2 0 (ty 3) ah ab<|en<|sq<|rg (tr (tr (tr (tr (tr (sn 40 2 1<|Bb ab)<|snr (encN:=(nL 1 Af)) (xs:=e) (n:=a) [.osl 2 1 0<|R.length] 1 1 0 2 1<|Bb ab)<|sni (encN:=(nL 1 Af)) (xs:=e) (n:=a) (enc:=Af) [.osl 2 1 0<|q.length] q 1 1 0 2 1)<|scl (encN:=(nL 1 Af)) (xss:=e) a [.own 1<|q.map Af] 1 1 q)<|sn 6 1 1<|lsS e a.toNat q)<|sn 37 1 1<|lsS e a.toNat q)<|ck 8<|bx H λ bl ar H=>sE (λ hg=>Ap Ah<|BA ar hg)<|gc 1 (a==((h.length:Nat):Int))<|bx H λ bm au H=>cG false (leZ) rfl (λ hg=>Ub<|BA au hg) (Or.inl rfl) (Cc (λ hh=>hh)<|Cc (λ hh=>hh)<|Ef) rfl<|pA<|en<|cn H (λ H=>?_)<|λ H=>?_
  ·exact bx H λ S W H=>rg (tr (so1 (encN:=(nL 1 Af)) 1 1 W)<|sno (encN:=(nL 1 Af)) (enc:=Af) W [.own 1<|S.map Af] S 1 1 0 1)<|ck 2<|sp (Av 1 1 W)<|sp (Cj (encN:=(nL 1 Af)) (row:=[.osl 3 1 0<|S.length]) (k:=1) (sz:=1) (off:=0) (t:=ty 35) (v:=.osl 3 1 0<|S.length) W)<|ck 1<|bx H λ bn ai H=>sp (Av 3 1 ai)<|bx H λ O ac H=>stA Af 3 0 (ty 3) ai ac<|ae<|qN<|qs (tr (tr (tr (tr (tr (tr (tr (sn 58 3 1<|Bb ac)<|snr (encN:=(nL 1 Af)) (xs:=List.set e a.toNat q) (n:=a) [.osl 3 1 0<|S.length] 1 1 0 3 1<|Bb ac)<|sni (encN:=(nL 1 Af)) (xs:=List.set e a.toNat q) (n:=a) (enc:=Af) [.osl 3 1 0<|O.length] O 1 1 0 3 1)<|scl (encN:=(nL 1 Af)) (xss:=List.set e a.toNat q) a [.own 1<|O.map Af] 1 1 O)<|sn 6 1 1<|lsS (List.set e a.toNat q) a.toNat O)<|sn 37 1 1<|lsS (List.set e a.toNat q) a.toNat O)<|sn 55 1 1<|lsS (List.set e a.toNat q) a.toNat O)<|gP [1,2,5,6,7,8] [0,1]<|po1<|pn1 (nL 1 Af) (List.set (List.set e a.toNat q) a.toNat O)<|Pl.z)<|j (List.set (List.set e a.toNat q) a.toNat O) H
  ·exact sk<|qN<|qs (gP [1,2,5,6,7,8] [0,1]<|po1<|pn1 (nL 1 Af) (List.set e a.toNat q)<|Pl.z)<|j (List.set e a.toNat q) H
 ·exact ex 2<|qx (by cases H;exact xo rfl<|gP [1,2,5,6,7] [0,1]<|po1<|pn1 (nL 1 Af) e<|Pl.z)
theorem OZ (x:((List (List Int))×Bool×Int)) (z:(((List (List Int))×Bool×Int)⊕((List (List Int))×Bool))) (H:DA n f h c a C x.1 x.2.1 x.2.2=some z):WP (cxk 116 0) (Az Tryz.f24) [1,1,1,0,1,0,0,1,0,0,1,1,1,0,0,1,0,1,1,0,0,1,0,0,1,0,0] (Aw 0 (JN f h c a C) (P1 f h c a C) z) (JN f h c a C x):=by
 obtain ⟨b,m,aa⟩:=x;refine sq<|sr<|ck 3<|sp (AB Ao f.Rules)<|ck 1<|en<|cn H (λ H=>?_)<|λ H=>?_
 ·refine sk<|qz<|sj (λ (x:((List<|List Int)×Bool))=>Jgn f h c a C aa x.1 x.2) (λ (x:((List<|List Int)×Bool))=>Es n aa x.1 x.2) z ?_ (λ l=>?_)
  ·rintro ⟨B,w⟩ H;exact rz<|ck 3<|ae (by cases H;exact og<|gP [1,2,5,6,7,9,10,11] [0,1]<|po1<|pn1 (nL 1 Af) B<|Pl.z)
  refine bk 9<|sr<|ck 5<|bx H λ bp av H=>sp (Ap Ah av)<|ck 5<|bx H λ T aw H=>cb (ks:=[1]) (obl:=[(0+List.length b,List.length<|b.map<|nL 1 Af),(Ph<|b.map<|nL 1 Af,0)]) false (leK leN<|leK (Jgb λ _=>rfl)<|leZ) (D9 rfl<|D9 rfl<|D9 rfl<|D9 (Jlf (encN:=(nL 1 Af)) (encD:=(eL Af)) λ _=>rfl) rfl) (PZ aw) (Or.inr trivial) rfl<|ck 1<|en<|sq<|rg (tr (so0 (encN:=(nL 1 Af)) (xss:=b) 1 1 a ([]:(List Int)))<|snT (encN:=(nL 1 Af)) (xss:=b) (n:=a) (d:=([]:(List Int))) (enc:=Af) (λ x=>x) [.own 1<|List.map Af<|List.getD b a.toNat []] 1 1 0 1)<|ck 5<|bx H λ bq aj H=>sE (λ hg=>Av 1 1<|BA aj hg)<|sE (g:=decide<|T>=0) (λ hg=>Cj (encN:=(nL 1 Af)) (row:=[.osl 2 1 0<|List.length<|List.getD b a.toNat []]) (k:=1) (sz:=1) (off:=0) (t:=ty 35) (v:=.osl 2 1 0<|List.length<|List.getD b a.toNat [])<|BA aj hg)<|ck 1<|bx H λ br ak H=>sE (λ hg=>Av 2 1<|BA ak hg)<|sE (g:=decide<|T>=0) (λ hg=>C0 Af 2 0 (ty 3)<|BA ak hg)<|ck 1<|bx H λ bt ay H=>cG false (leZ) rfl (λ hg=>WA<|BA ay hg) (Or.inl rfl) (Cc (λ hh=>hh)<|Cc (λ hh=>hh)<|Ef) rfl<|ck 2<|bx H λ bu al H=>sE (λ hg=>Av 1 1<|BA al hg)<|sE (g:=decide<|T>=0) (λ hg=>Cj (encN:=(nL 1 Af)) (row:=[.osl 2 1 0<|List.length<|List.getD b a.toNat []]) (k:=1) (sz:=1) (off:=0) (t:=ty 35) (v:=.osl 2 1 0<|List.length<|List.getD b a.toNat [])<|BA al hg)<|ck 1<|bx H λ bv am H=>sE (λ hg=>Av 2 1<|BA am hg)<|sE (g:=decide<|T>=0) (λ hg=>C0 Af 2 0 (ty 3)<|BA am hg)<|gc 1 (decide<|T>=0)<|pA<|en<|cn H (λ H=>?_)<|λ H=>?_
  ·exact sq<|bx H λ U X H=>rg (tr (tr (tr (tr (tr (sni (encN:=(nL 1 Af)) (xs:=b) (n:=a) (enc:=Af) [.osl 2 1 0<|List.length<|List.getD b a.toNat []] (List.getD b a.toNat []) 1 1 0 2 1)<|scl (encN:=(nL 1 Af)) (xss:=b) a [.own 1<|List.map Af<|List.getD b a.toNat []] 1 1<|List.getD b a.toNat [])<|sn 6 1 1<|lsS b a.toNat<|List.getD b a.toNat [])<|sn 85 1 1<|lsS b a.toNat<|List.getD b a.toNat [])<|so1 (encN:=(nL 1 Af)) 1 1 X)<|sno (encN:=(nL 1 Af)) (enc:=Af) X [.own 1<|U.map Af] U 1 1 0 1)<|ck 2<|sp (Av 1 1 X)<|sp (Cj (encN:=(nL 1 Af)) (row:=[.osl 3 1 0<|U.length]) (k:=1) (sz:=1) (off:=0) (t:=ty 35) (v:=.osl 3 1 0<|U.length) X)<|ck 2<|bx H λ bw ap H=>sp (Av 3 1 ap)<|bx H λ P af H=>stA Af 3 0 (ty 3) ap af<|en<|rg (tr (tr (tr (tr (tr (tr (sn 111 3 1<|Bb af)<|snr (encN:=(nL 1 Af)) (xs:=List.set b a.toNat<|List.getD b a.toNat []) (n:=a) [.osl 3 1 0<|U.length] 1 1 0 3 1<|Bb af)<|sni (encN:=(nL 1 Af)) (xs:=List.set b a.toNat<|List.getD b a.toNat []) (n:=a) (enc:=Af) [.osl 3 1 0<|P.length] P 1 1 0 3 1)<|scl (encN:=(nL 1 Af)) (xss:=List.set b a.toNat<|List.getD b a.toNat []) a [.own 1<|P.map Af] 1 1 P)<|sn 6 1 1<|lsS (List.set b a.toNat<|List.getD b a.toNat []) a.toNat P)<|sn 85 1 1<|lsS (List.set b a.toNat<|List.getD b a.toNat []) a.toNat P)<|sn 108 1 1<|lsS (List.set b a.toNat<|List.getD b a.toNat []) a.toNat P)<|ck 1<|ae<|qN<|qs (gP [1,2,5,6,7,9,10,11] [0,1]<|po1<|pn1 (nL 1 Af) (List.set (List.set b a.toNat<|List.getD b a.toNat []) a.toNat P)<|Pl.z)<|l ((List.set (List.set b a.toNat<|List.getD b a.toNat []) a.toNat P),true) H
  ·exact sk<|qN<|qs (tr (tr (tr (tr (sni (encN:=(nL 1 Af)) (xs:=b) (n:=a) (enc:=Af) [.osl 2 1 0<|List.length<|List.getD b a.toNat []] (List.getD b a.toNat []) 1 1 0 2 1)<|scl (encN:=(nL 1 Af)) (xss:=b) a [.own 1<|List.map Af<|List.getD b a.toNat []] 1 1<|List.getD b a.toNat [])<|sn 6 1 1<|lsS b a.toNat<|List.getD b a.toNat [])<|sn 85 1 1<|lsS b a.toNat<|List.getD b a.toNat [])<|gP [1,2,5,6,7,9,10,11] [0,1]<|po1<|pn1 (nL 1 Af) (List.set b a.toNat<|List.getD b a.toNat [])<|Pl.z)<|l ((List.set b a.toNat<|List.getD b a.toNat []),m) H
 ·exact ex 8<|qx (by cases H;exact xo rfl<|gP [1,2,5,6,7,9,10] [0,1]<|po1<|pn1 (nL 1 Af) b<|Pl.z)
theorem O2 (x:((List (List Int))×Bool×Int)) (z:(((List (List Int))×Bool×Int)⊕((List (List Int))×Bool))) (H:DB n f h c a x.1 x.2.1 x.2.2=some z):WP (cxk 116 0) (Az Tryz.f24) [1,1,1,0,1,0,0,1,0,0,1,1,1,0,0,1,0,1,1,0,0] (Aw 0 (JO f h c a) (P2 f h c a) z) (JO f h c a x):=by
 obtain ⟨p,u,C⟩:=x;refine sq<|sr<|ck 2<|sp (AB Ah c)<|ck 1<|en<|cn H (λ H=>?_)<|λ H=>?_
 ·exact sk<|qz<|sq<|bk 7<|sr<|ck 1<|en<|bk 8<|bx H λ az a0 H=>lX OZ a0 (gP [1,2,5,6,7,9,10,11] [0,1]<|po1<|pn1 (nL 1 Af) p<|Pl.z) rfl λ s a2=>qH<|qN<|qs (a2)<|rz<|ck 3<|ae (by cases H;exact og<|gP [1,2,5,6,7,9,10] [0,1]<|po1<|pn1 (nL 1 Af) az.1<|Pl.z)
 ·exact ex 6<|qx (by cases H;exact xo rfl<|gP [1,2,5,6,7,9] [0,1]<|po1<|pn1 (nL 1 Af) p<|Pl.z)
theorem O3 (x:((List (List Int))×Bool)) (z:(((List (List Int))×Bool)⊕(List (List Int)))) (H:Et n f h c a x.1 x.2=some z):WP (cxk 116 0) (Az Tryz.f24) [1,1,1,0,1,0,0,1,0,0,1,1,1,0,0] (Aw 0 (JP f h c a) (P3 f h c a) z) (JP f h c a x):=by
 obtain ⟨o,r⟩:=x;refine sq<|sr<|ck 1<|en<|cn H (λ H=>?_)<|λ H=>?_
 ·exact sk<|qz<|bk 5<|sr<|ck 1<|en<|sr<|ck 1<|en<|bk 6<|bx H λ a3 a4 H=>lX O2 a4 (gP [1,2,5,6,7,9,10] [0,1]<|po1<|pn1 (nL 1 Af) o<|Pl.z) rfl λ s a5=>qH<|qN (by cases H;exact og<|tr (a5)<|gP [1,2,5,6,7,9] [0,1]<|po1<|pn1 (nL 1 Af) a3.1<|Pl.z)
 ·exact ex 4<|qx (by cases H;exact xo rfl<|gP [1,2,5,6,7] [0,1]<|po1<|pn1 (nL 1 Af) o<|Pl.z)
theorem O4 (x:((List (List Int))×Int)) (z:(((List (List Int))×Int)⊕(List (List Int)))) (H:F4 n f h c x.1 x.2=some z):WP (cxk 116 0) (Az Tryz.f24) [1,1,1,0,1,0,0] (Aw 0 (JQ f h c) (P4) z) (JQ f h c x):=by
 obtain ⟨i,a⟩:=x;refine sq<|sr<|ck 2<|en<|cn H (λ H=>?_)<|λ H=>?_
 ·exact sk<|qz<|sq<|bk 1<|sq<|bx H λ a6 ag H=>rg (so1 (encN:=(nL 1 Af)) 1 1 ag)<|ck 3<|sp (AB Ah c)<|bx H λ Q a7 H=>sp (TL Af 1 a7)<|sp (Av 1 1 ag)<|sp (Lq (encN:=(nL 1 Af)) (row:=[.own 1<|a6.map Af]) (row':=[.osl 2 1 0<|Q.length]) (k:=1) (sz:=1) (off:=0) (t:=ty 35) (v:=.osl 2 1 0<|Q.length) ag)<|en<|sq<|sq<|rg (tr (tr (tr (sni (encN:=(nL 1 Af)) (xs:=i) (n:=a) (enc:=Af) [.osl 2 1 0<|Q.length] Q 1 1 0 2 1)<|scl (encN:=(nL 1 Af)) (xss:=i) a [.own 1<|Q.map Af] 1 1 Q)<|sn 6 1 1<|lsS i a.toNat Q)<|sn 25 1 1<|lsS i a.toNat Q)<|ck 1<|en<|bk 2<|bx H λ a8 a9 H=>lX OY a9 (gP [1,2,5,6,7,8] [0,1]<|po1<|pn1 (nL 1 Af) (List.set i a.toNat Q)<|Pl.z) rfl λ s ba=>qH<|qs (ba)<|sr<|ck 1<|en<|bk 4<|bx H λ bb bc H=>lX O3 bc (gP [1,2,5,6,7,9] [0,1]<|po1<|pn1 (nL 1 Af) a8<|Pl.z) rfl λ s bd=>qH<|qN<|qs (bd)<|rz<|ck 3<|ae (by cases H;exact og<|gP [1,2,5,6,7] [0,1]<|po1<|pn1 (nL 1 Af) bb<|Pl.z)
 ·exact ex 0<|qx (by cases H;exact xo rfl<|gP [6] [1]<|pn1 (nL 1 Af) i<|Pl.z)
theorem Ms {z} (H:GO n f h=some z):AL Tryz.prog 24 [.agg (Ay f),.d (.str h)] (.d (.sl (z.map (eL Af)))):=by
 exact fO 116 (Jj9 f h) Tryz.func24<|sr<|ck 2<|en<|sr<|ck 1<|bx H λ c be H=>ca false (Kf be)<|ck 1<|en<|sr<|ck 3<|bx H λ bi Y H=>sp (QK 1 (ez:=[.nil]) Y)<|ck 1<|en<|sq<|sq<|rg (tr (tr (TI (encN:=(nL 1 Af)) (sz:=1) (z:=[.nil]) (n:=(An .i64 ((h.length:Nat):Int) 1)) 1 (Lr Y) (by kernel_rfl) (by kernel_rfl))<|sn 18 1 1<|FY Y)<|sn 6 1 1<|FY Y)<|ck 3<|en<|bk 0<|bx H λ bf bg H=>lX O4 bg (gP [1,2,5,6,7] [0,1]<|po1<|pn1 (nL 1 Af) bi<|Pl.z) rfl λ s bh=>qH<|qs (bh)<|sr<|ck 2<|ae<|qs (Z1 (encN:=(nL 1 Af)) (encD:=(eL Af)) (xss:=bf) (k:=0) (sz:=1) 4 (by kernel_rfl) (λ _=>rfl)<|λ _=>rfl)<|re (by cases H;exact pr rd)
end
section
variable (w:Ad) (C:(List UInt8)) (f:(List (List Int))) (e:A5) (i:Int) (m:A5) (h:Int) (A:Int) (u:Int) (r:Int) (l:Int) (j:(List Int)) (B:Int) (q:(List Int)) (k:(List Int))
def Jl3:St:=⟨(0,.agg [.d<|.int .i64 w.Modes,.d<|.int .u8 w.Accept,.d<|.sl<|w.Rules.map Ao])::(1,.d<|.str C)::[],[]⟩
def Jl4:St:=⟨(4,.ptr 0 0)::(5,.ptr 1 0)::(6,.d<|.sl<|f.map<|eL Af)::(7,.d<|.int .i64 i)::[],[some<|.box [.d<|.str [],.osl 2 1 0<|List.length ([]:List (List Int)),.osl 3 1 0<|List.length ([]:List Int)],some<|.box<|Gz e (.osl 4 1 0<|e.Costs.length)<|.osl 5 1 0<|e.Least.length,some<|.arr 1<|List.map (eL Af) ([]:List (List Int)),some<|.arr 1<|List.map Af ([]:List Int),some<|.arr 1<|e.Costs.map<|eL Af,some<|.arr 1<|e.Least.map Af]⟩
def Jl5:St:=⟨(4,.ptr 0 0)::(5,.ptr 1 0)::[],[some<|.box [.d<|.str [],.osl 2 1 0<|List.length ([]:List (List Int)),.osl 3 1 0<|List.length ([]:List Int)],some<|.box<|Gz m (.osl 4 1 0<|m.Costs.length)<|.osl 5 1 0<|m.Least.length,some<|.arr 1<|List.map (eL Af) ([]:List (List Int)),some<|.arr 1<|List.map Af ([]:List Int),some<|.arr 1<|m.Costs.map<|eL Af,some<|.arr 1<|m.Least.map Af]⟩
def Jl6:St:=⟨(4,.ptr 0 0)::(5,.ptr 1 0)::(6,.d<|.sl<|f.map<|eL Af)::(7,.d<|.int .i64 i)::(8,.d<|.int .i64 h)::(9,.d<|.int .i64 A)::[],[some<|.box [.d<|.str [],.osl 2 1 0<|List.length ([]:List (List Int)),.osl 3 1 0<|List.length ([]:List Int)],some<|.box<|Gz e (.osl 4 1 0<|e.Costs.length)<|.osl 5 1 0<|e.Least.length,some<|.arr 1<|List.map (eL Af) ([]:List (List Int)),some<|.arr 1<|List.map Af ([]:List Int),some<|.arr 1<|e.Costs.map<|eL Af,some<|.arr 1<|e.Least.map Af]⟩
def Jl7:St:=⟨(4,.ptr 0 0)::(5,.ptr 1 0)::(6,.d<|.sl<|f.map<|eL Af)::(7,.d<|.int .i64 i)::(8,.d<|.int .i64 u)::[],[some<|.box [.d<|.str [],.osl 2 1 0<|List.length ([]:List (List Int)),.osl 3 1 0<|List.length ([]:List Int)],some<|.box<|Gz e (.osl 4 1 0<|e.Costs.length)<|.osl 5 1 0<|e.Least.length,some<|.arr 1<|List.map (eL Af) ([]:List (List Int)),some<|.arr 1<|List.map Af ([]:List Int),some<|.arr 1<|e.Costs.map<|eL Af,some<|.arr 1<|e.Least.map Af]⟩
def Jl8:St:=⟨(4,.ptr 0 0)::(5,.ptr 1 0)::(6,.d<|.sl<|f.map<|eL Af)::(7,.d<|.int .i64 i)::(8,.d<|.int .i64 r)::(9,.d<|.int .i64 A)::[],[some<|.box [.d<|.str [],.osl 2 1 0<|List.length ([]:List (List Int)),.osl 3 1 0<|List.length ([]:List Int)],some<|.box<|Gz e (.osl 4 1 0<|e.Costs.length)<|.osl 5 1 0<|e.Least.length,some<|.arr 1<|List.map (eL Af) ([]:List (List Int)),some<|.arr 1<|List.map Af ([]:List Int),some<|.arr 1<|e.Costs.map<|eL Af,some<|.arr 1<|e.Least.map Af]⟩
def UT:Int->Ex->St->Prop:=xX 0 2<|λ (y:Int)=>Jl7 f e i y
def Ox:(Int×Int)->St:=(λ (x:(Int×Int))=>Jl6 f e i x.1 x.2)
def Jl9:St:=⟨(4,.ptr 0 0)::(5,.ptr 1 0)::(6,.d<|.sl<|f.map<|eL Af)::(7,.d<|.int .i64 i)::(8,.d<|.int .i64 l)::(10,.osl 2 1 0<|j.length)::(11,.d<|.int .i64 B)::[],[some<|.box [.d<|.str [],.osl 3 1 0<|List.length ([]:List (List Int)),.osl 4 1 0<|List.length ([]:List Int)],some<|.box<|Gz e (.osl 5 1 0<|e.Costs.length)<|.osl 6 1 0<|e.Least.length,some<|.arr 1<|j.map Af,some<|.arr 1<|List.map (eL Af) ([]:List (List Int)),some<|.arr 1<|List.map Af ([]:List Int),some<|.arr 1<|e.Costs.map<|eL Af,some<|.arr 1<|e.Least.map Af]⟩
def Jma:St:=⟨(4,.ptr 0 0)::(5,.ptr 1 0)::(6,.d<|.sl<|f.map<|eL Af)::(7,.d<|.int .i64 i)::(8,.d<|.int .i64 l)::(10,.osl 2 1 0<|q.length)::[],[some<|.box [.d<|.str [],.osl 3 1 0<|List.length ([]:List (List Int)),.osl 4 1 0<|List.length ([]:List Int)],some<|.box<|Gz e (.osl 5 1 0<|e.Costs.length)<|.osl 6 1 0<|e.Least.length,some<|.arr 1<|q.map Af,some<|.arr 1<|List.map (eL Af) ([]:List (List Int)),some<|.arr 1<|List.map Af ([]:List Int),some<|.arr 1<|e.Costs.map<|eL Af,some<|.arr 1<|e.Least.map Af]⟩
def Jmb:St:=⟨(4,.ptr 0 0)::(5,.ptr 1 0)::(6,.d<|.sl<|f.map<|eL Af)::(7,.d<|.int .i64 i)::(8,.d<|.int .i64 l)::(10,.osl 2 1 0<|k.length)::(11,.d<|.int .i64 B)::[],[some<|.box [.d<|.str [],.osl 3 1 0<|List.length ([]:List (List Int)),.osl 4 1 0<|List.length ([]:List Int)],some<|.box<|Gz e (.osl 5 1 0<|e.Costs.length)<|.osl 6 1 0<|e.Least.length,some<|.arr 1<|k.map Af,some<|.arr 1<|List.map (eL Af) ([]:List (List Int)),some<|.arr 1<|List.map Af ([]:List Int),some<|.arr 1<|e.Costs.map<|eL Af,some<|.arr 1<|e.Least.map Af]⟩
def UU:(List Int)->Ex->St->Prop:=xX 0 4<|λ (y:(List Int))=>Jma f e i l y
def Oy:((List Int)×Int)->St:=(λ (x:((List Int)×Int))=>Jl9 f e i l x.1 x.2)
def UV:A5->Ex->St->Prop:=xX 0 0<|λ (y:A5)=>Jl5 y
def Oz:(A5×Int)->St:=(λ (x:(A5×Int))=>Jl4 f x.1 x.2)
variable {w C f e i m h A u r l j B q k}
theorem Uc (x:(Int×Int)) (z:((Int×Int)⊕Int)) (H:Gw n f e i x.1 x.2=some z):WP (cxk 108 0) (Az Tryz.f9) [1,1,1,0,1,0,0,1,0,0,1,0,1,0,0] (Aw 0 (Ox f e i) (UT f e i) z) (Ox f e i x):=by
 obtain ⟨h,A⟩:=x;refine sq<|sr<|ck 3<|bx H λ G I H=>sp (Ap (eL Af) I)<|ck 1<|sp (AB Af G)<|ck 1<|en<|cn H (λ H=>?_)<|λ H=>?_
 ·refine sk<|qz<|sj (λ (x:Int)=>Jl8 f e i A x) (λ (x:Int)=>HS n A x) z ?_ (λ o=>?_)
  ·intro r H;exact rz<|ck 3<|ae (by cases H;exact og<|sg [4,5,6,7,8,9])
  refine bk 3<|sr<|ck 2<|bx H λ ap J H=>sp (Ap (eL Af) J)<|ck 2<|bx H λ t K H=>sp (Ap Af K)<|ck 4<|gc 2 (decide<|t>=0)<|ck 2<|bx H λ ar L H=>sE (λ hg=>Ap (eL Af)<|BA L hg)<|gc 1 ((decide<|t>=0)&&!(decide<|h<0))<|ck 1<|bx H λ E M H=>sE (λ hg=>Ap Af<|BA M hg)<|gc 1 ((decide<|t>=0)&&!(decide<|h<0))<|ck 1<|gc 1 ((decide<|t>=0)&&!(decide<|h<0))<|pG (g:=decide<|t>=0) (v:=.d<|.bool<|(decide<|h<0)||(decide<|E<h)) (λ hg=>Gk (c:=.gv (decide<|t>=0)<|.d<|.bool<|decide<|h<0) (a:=.d<|.bool true) (b:=.gv ((decide<|t>=0)&&!(decide<|h<0))<|.d<|.bool<|decide<|E<h) rfl rfl rfl ((λ hh=>hh) hg) trivial (λ ht=>by rw [(λ hh=>hh) hg,ht];rfl))<|pA<|en<|cn H (λ H=>?_)<|λ H=>?_
  ·exact rz<|ck 2<|bx H λ au O H=>sp (Ap (eL Af) O)<|ck 2<|bx H λ P Q H=>sp (Ap Af Q)<|ck 2<|ae<|qN<|qs (sg [4,5,6,7,8,9])<|o P H
  ·exact sk<|qN<|qs (sg [4,5,6,7,8,9])<|o h H
 ·exact ex 2<|qx (by cases H;exact xo rfl<|sg [4,5,6,7,8])
theorem Ud (x:((List Int)×Int)) (z:(((List Int)×Int)⊕(List Int))) (H:Gx n f e i l x.1 x.2=some z):WP (cxk 108 0) (Az Tryz.f9) [1,1,1,0,1,0,0,1,0,0,1,1,1,0,1,0,0] (Aw 0 (Oy f e i l) (UU f e i l) z) (Oy f e i l x):=by
 obtain ⟨j,B⟩:=x;refine sq<|sr<|ck 3<|bx H λ R S H=>sp (Ap (eL Af) S)<|ck 1<|sp (AB Af R)<|ck 1<|en<|cn H (λ H=>?_)<|λ H=>?_
 ·refine sk<|qz<|sj (λ (x:(List Int))=>Jmb f e i l B x) (λ (x:(List Int))=>HT n B x) z ?_ (λ p=>?_)
  ·intro k H;exact rz<|ck 3<|ae (by cases H;exact og<|sg [4,5,6,7,8,10,11])
  refine bk 5<|sr<|ck 2<|bx H λ av T H=>sp (Ap (eL Af) T)<|ck 2<|bx H λ aw U H=>sp (Ap Af U)<|ck 2<|en<|cn H (λ H=>?_)<|λ H=>?_
  ·exact rz<|ck 2<|bx H λ al V H=>sp (Cv Af 2 1 V)<|ck 1<|ae<|qN<|qs (sg [4,5,6,7,8,10,11])<|p al H
  ·exact rz<|ck 3<|bx H λ ay W H=>sp (Ap (eL Af) W)<|ck 2<|bx H λ az X H=>sp (Ap Af X)<|ck 4<|bx H λ am Y H=>sp (Cv Af 2 1 Y)<|ck 1<|ae<|qN<|qs (sg [4,5,6,7,8,10,11])<|p am H
 ·exact ex 4<|qx (by cases H;exact xo rfl<|sg [4,5,6,7,8,10])
theorem Ue (x:(A5×Int)) (z:((A5×Int)⊕A5)) (H:HU n f x.1 x.2=some z):WP (cxk 108 0) (Az Tryz.f9) [1,1,1,0,1,0,0] (Aw 0 (Oz f) (UV) z) (Oz f x):=by
 obtain ⟨e,i⟩:=x;refine sq<|sr<|ck 2<|sp (AB (eL Af) f)<|ck 1<|en<|cn H (λ H=>?_)<|λ H=>?_
 ·exact sk<|qz<|sq<|bk 1<|sr<|ck 1<|en<|sq<|sr<|ck 1<|en<|bk 2<|bx H λ l Z H=>lX Uc Z (sg [4,5,6,7,8,9]) rfl λ s aa=>qH<|qs (aa)<|sr<|ck 2<|en<|sq<|sr<|ck 1<|en<|bk 4<|bx H λ ab ac H=>lX Ud ac (sg [4,5,6,7,8,10,11]) rfl λ s af=>qH<|qs (af)<|sq<|rg (fz (enc:=Af) (xs:=ab) 10 2 1)<|ck 4<|bx H λ a2 ag H=>sp (Cv (eL Af) 5 1 ag)<|ck 2<|en<|rz<|ck 4<|bx H λ a3 ah H=>sp (Cv Af 6 1 ah)<|ck 2<|ae<|qN<|qz<|rz<|ck 3<|ae (by cases H;exact og<|sg [4,5,6,7])
 ·exact ex 0<|qx (by cases H;exact xo rfl<|sg [4,5])
theorem Ye {z} (H:PL n w C=some z):AL Tryz.prog 9 [.agg (Ay w),.d (.str C)] (.agg [.d (.str z.Text),.own 1 (z.Costs.map (eL Af)),.own 1 (z.Least.map Af)]):=by
 exact fO 108 (Jl3 w C) Tryz.func9<|sr<|ck 2<|en<|sr<|ck 4<|en<|sr<|ck 2<|bx H λ f ai H=>ca false (Ms ai)<|ck 1<|en<|sq<|sr<|ck 1<|en<|bk 0<|bx H λ a0 aj H=>lX Ue aj (tr (tr (tr (tr (BO 1 1 1 (by kernel_rfl))<|BO 1 2 1 (by kernel_rfl))<|BO 2 1 1 (by kernel_rfl))<|BO 2 2 1 (by kernel_rfl))<|sg [4,5,6,7]) rfl λ s ak=>qH<|qs (ak)<|sr<|ck 2<|en<|re (by cases H;exact pr<|rO (v:=.agg [.d<|.str z.Text,.osl 4 1 0<|z.Costs.length,.osl 5 1 0<|z.Least.length]) [4,5]<|a1<|c1 vd<|c1 vo<|c1 vo<|c0)
end
section
variable (f:Ad) (c:(List UInt8)) (a:BB) (e:C5)
def Jki:St:=⟨(0,.agg [.d<|.int .i64 f.Modes,.d<|.int .u8 f.Accept,.d<|.sl<|f.Rules.map Ao])::(1,.d<|.str c)::(2,.agg [.d<|.int .u8 a.At,.d<|.int .u8 a.Cut,.d<|.sl<|a.L.map eU8])::[],[]⟩
def Jkj:St:=⟨(6,.ptr 0 0)::(9,.ptr 1 0)::[],[some<|.box [.d<|.int .i64 0,.d<|.int .i64 0,.d<|.str []],some<|.box<|Iq e]⟩
variable {f c a e}
theorem Yf {z} (H:PM n f c a=some z):AL Tryz.prog 10 [.agg (Ay f),.d (.str c),.agg (Sa a)] (.agg [.d (.int .i64 z.At),.d (.int .i64 z.Cut),.d (.str z.Put)]):=by
 refine fO 48 (Jki f c a) Tryz.func10<|sr<|ck 3<|en<|sr<|ck 6<|bx H λ l g H=>so (MZ g)<|ck 1<|en<|sr<|ck 4<|sp (AB eU8 a.L)<|ck 1<|bx H λ o h H=>sp (JcK eU8 1 h)<|ck 1<|en<|sr<|ck 10<|bx H λ m i H=>so (MZ i)<|ck 2<|bx H λ j k H=>ca false (No k)<|ck 3<|en<|sj (λ (x:C5)=>Jkj x) (λ (x:C5)=>JA n x) z ?_ (λ b=>?_)
 ·intro e H;exact sr<|ck 2<|en<|re (by cases H;exact pr rd)
 refine sr<|ck 7<|en<|cn H (λ H=>?_)<|λ H=>?_
 ·exact rz<|ck 2<|ae<|qs (sg [6,9])<|b ({ At:=Bd (IntKind.i64.wrap a.At)<|An .i64 ((c.length:Nat):Int) 1,Cut:=Bd (IntKind.i64.wrap a.Cut)<|An .i64 (if 5<DL .i64 ((c.length:Nat):Int) (Bd (IntKind.i64.wrap a.At)<|An .i64 ((c.length:Nat):Int) 1) then 5 else DL .i64 ((c.length:Nat):Int) (Bd (IntKind.i64.wrap a.At)<|An .i64 ((c.length:Nat):Int) 1)) 1,Put:=[] }:C5) H
 ·exact sk<|qs (sg [6,9])<|b ({ At:=Bd (IntKind.i64.wrap a.At)<|An .i64 ((c.length:Nat):Int) 1,Cut:=Bd (IntKind.i64.wrap a.Cut)<|An .i64 (if 5<DL .i64 ((c.length:Nat):Int) (Bd (IntKind.i64.wrap a.At)<|An .i64 ((c.length:Nat):Int) 1) then 5 else DL .i64 ((c.length:Nat):Int) (Bd (IntKind.i64.wrap a.At)<|An .i64 ((c.length:Nat):Int) 1)) 1,Put:=j }:C5) H
end
section
variable (b:(List UInt8)) (a:C5)
def Jkk:St:=⟨(0,.d<|.str b)::(1,.agg [.d<|.int .i64 a.At,.d<|.int .i64 a.Cut,.d<|.str a.Put])::[],[]⟩
variable {b a}
theorem Uf {z} (H:JB n b a=some z):AL Tryz.prog 15 [.d (.str b),.agg (Iq a)] (.d (.str z)):=by
 exact fO 20 (Jkk b a) Tryz.func15<|sr<|ck 2<|en<|sr<|ck 3<|bx H λ h c H=>sp (Il c)<|ck 2<|bx H λ i e H=>sp (QJ e)<|ck 6<|bx H λ j f H=>sp (Il f)<|bx H λ k g H=>sp (QJ g)<|ck 1<|en<|re (by cases H;exact pr rd)
end
section
variable (a:A5) (b:A5) (c:Int)
def Jkl:St:=⟨(0,.agg [.d<|.str a.Text,.d<|.sl<|a.Costs.map<|eL Af,.d<|.sl<|a.Least.map Af])::(1,.agg [.d<|.str b.Text,.d<|.sl<|b.Costs.map<|eL Af,.d<|.sl<|b.Least.map Af])::[],[]⟩
def Jkm:St:=⟨(2,.ptr 0 0)::(3,.ptr 1 0)::(5,.d<|.int .i64 c)::[],[some<|.box<|FI a,some<|.box<|FI b]⟩
def Jkn:St:=⟨[],[]⟩
def UW:(Unit⊕Bool)->Ex->St->Prop:=xS (xX 0 0<|λ (_:Unit)=>Jkn)<|xR ty Tryz.f13<|λ (y:Bool)=>.d<|.bool y
def OB:Int->St:=(λ (x:Int)=>Jkm a b x)
variable {a b c}
theorem Nq (x:Int) (z:(Int⊕(Unit⊕Bool))) (H:HV n a b x=some z):WP (cxk 47 0) (Az Tryz.f13) [1,1,0,1,0,0] (Aw 0 (OB a b) (UW) z) (OB a b x):=by
 revert H;generalize x=c;intro H;refine sq<|sr<|ck 3<|sp (AB (eL Af) a.Costs)<|ck 1<|en<|cn H (λ H=>?_)<|λ H=>?_
 ·refine sk<|qz<|sq<|bk 1<|sr<|ck 3<|bx H λ o f H=>sp (Ap (eL Af) f)<|ck 4<|bx H λ p h H=>sp (Ap (eL Af) h)<|ck 1<|bx H λ q i H=>ca false (GC i)<|ck 1<|en<|cn H (λ H=>?_)<|λ H=>?_
  ·exact sr<|ck 1<|en<|re<|qR<|qr (by cases H;exact ro rfl rd)
  ·exact sk<|qN<|qz<|rz<|ck 3<|ae (by cases H;exact og<|sg [2,3,5])
 ·exact ex 0<|qx (by cases H;exact xo rfl<|sg [])
theorem Yg {z} (H:M6 n a b=some z):AL Tryz.prog 13 [.agg (FI a),.agg (FI b)] (.d (.bool z)):=by
 refine fO 47 (Jkl a b) Tryz.func13<|sr<|ck 3<|en<|sq<|sr<|ck 7<|gc 1 (!(!(a.Text==b.Text)))<|sE (g:=(!(!(a.Text==b.Text)))) (λ hg=>AB (eL Af) a.Costs)<|ck 1<|gc 1 (!(!(a.Text==b.Text)))<|sE (g:=(!(!(a.Text==b.Text)))) (λ hg=>AB (eL Af) b.Costs)<|gc 1 (!(!(a.Text==b.Text)))<|pO<|ck 2<|gc 1 (!((!(a.Text==b.Text))||(((a.Costs.length:Nat):Int) != ((b.Costs.length:Nat):Int))))<|ck 1<|gc 1 (!((!(a.Text==b.Text))||(((a.Costs.length:Nat):Int) != ((b.Costs.length:Nat):Int))))<|bx H λ r j H=>cG false (leZ) rfl (λ hg=>GC<|BA j hg) (Or.inl rfl) (Cc (λ hh=>hh)<|Cc (λ hh=>hh)<|Ef) rfl<|gc 1 (!((!(a.Text==b.Text))||(((a.Costs.length:Nat):Int) != ((b.Costs.length:Nat):Int))))<|pO<|en<|cn H (λ H=>?_)<|λ H=>?_
 ·exact sr<|ck 1<|en<|re<|qr (by cases H;exact pr rd)
 ·refine sk<|qz<|sq<|sr<|ck 1<|en<|bk 0<|bx H λ k e H=>?_;rcases k with t|u
  ·exact lX Nq e (sg [2,3,5]) rfl λ s l=>qH<|qs (l)<|sr<|ck 1<|en<|re (by cases H;exact pr rd)
  ·exact lR Nq e (sg [2,3,5]) rfl λ s m=>qR<|qr (by cases H;exact pr m)
end
section
variable (h:Ad) (i:(List UInt8)) (c:(List Ab)) (w:(List (List Bool))) (G:Int) (ak:(List (List Bool))) (U:(List (List Bool))) (e:Int) (a:Int) (ac:Int) (O:(List (List Bool))) (A:Bool) (al:(List (List Bool))) (P:(List (List Bool))) (B:Bool) (E:Int) (am:(List (List Bool))) (K:Bool) (b:(List (List Bool))) (o:Bool) (V:Int) (ap:(List (List Bool))) (I:Bool) (L:(List (List Bool))) (u:Bool) (C:(List (List Bool))) (l:Int) (j:(List (List Bool))) (J:Int) (Q:Int) (aa:(List (List Bool))) (af:Int) (M:(List (List Bool))) (S:Int)
def Jko:St:=⟨(0,.agg [.d<|.int .i64 h.Modes,.d<|.int .u8 h.Accept,.d<|.sl<|h.Rules.map Ao])::(1,.d<|.str i)::[],[]⟩
def Jkp:St:=⟨(1,.d<|.str i)::(2,.ptr 0 0)::(5,.d<|.sl<|c.map Ah)::(6,.osl 1 1 0<|w.length)::(7,.d<|.int .i64 0)::(8,.d<|.int .i64 G)::[],[some<|.box<|Ay h,some<|.narr 1<|w.map<|nL 1 eB]⟩
def Jkq:St:=⟨(1,.d<|.str i)::(2,.ptr 0 0)::(5,.d<|.sl<|c.map Ah)::(6,.osl 1 1 0<|ak.length)::(7,.d<|.int .i64 0)::[],[some<|.box<|Ay h,some<|.narr 1<|ak.map<|nL 1 eB]⟩
def Q7:(List<|List Bool)->Ex->St->Prop:=xX 0 0<|λ (y:(List<|List Bool))=>Jkq h i c y
def KK:((List<|List Bool)×Int)->St:=(λ (x:((List<|List Bool)×Int))=>Jkp h i c x.1 x.2)
def Jkr:St:=⟨(1,.d<|.str i)::(2,.ptr 0 0)::(5,.d<|.sl<|c.map Ah)::(6,.osl 1 1 0<|U.length)::(7,.d<|.int .i64 e)::(9,.d<|.int .i64 a)::[],[some<|.box<|Ay h,some<|.narr 1<|U.map<|nL 1 eB]⟩
def Jks:St:=⟨(7,.d<|.int .i64 ac)::[],[]⟩
def Jkt:St:=⟨(1,.d<|.str i)::(2,.ptr 0 0)::(5,.d<|.sl<|c.map Ah)::(6,.osl 1 1 0<|O.length)::(7,.d<|.int .i64 e)::(9,.d<|.int .i64 a)::(10,.d<|.bool A)::[],[some<|.box<|Ay h,some<|.narr 1<|O.map<|nL 1 eB]⟩
def Jku:St:=⟨(1,.d<|.str i)::(2,.ptr 0 0)::(5,.d<|.sl<|c.map Ah)::(6,.osl 1 1 0<|al.length)::(7,.d<|.int .i64 e)::(9,.d<|.int .i64 a)::[],[some<|.box<|Ay h,some<|.narr 1<|al.map<|nL 1 eB]⟩
def Jkv:St:=⟨(1,.d<|.str i)::(2,.ptr 0 0)::(5,.d<|.sl<|c.map Ah)::(6,.osl 1 1 0<|P.length)::(7,.d<|.int .i64 e)::(9,.d<|.int .i64 a)::(10,.d<|.bool B)::(11,.d<|.int .i64 E)::[],[some<|.box<|Ay h,some<|.narr 1<|P.map<|nL 1 eB]⟩
def Jkw:St:=⟨(1,.d<|.str i)::(2,.ptr 0 0)::(5,.d<|.sl<|c.map Ah)::(6,.osl 1 1 0<|am.length)::(7,.d<|.int .i64 e)::(9,.d<|.int .i64 a)::(10,.d<|.bool K)::[],[some<|.box<|Ay h,some<|.narr 1<|am.map<|nL 1 eB]⟩
def Jgo:St:=⟨(1,.d<|.str i)::(2,.ptr 0 0)::(5,.d<|.sl<|c.map Ah)::(6,.osl 1 1 0<|b.length)::(7,.d<|.int .i64 e)::(9,.d<|.int .i64 a)::(10,.d<|.bool o)::(11,.d<|.int .i64 E)::(12,.d<|.int .i64 V)::[],[some<|.box<|Ay h,some<|.narr 1<|b.map<|nL 1 eB]⟩
def Jgp:St:=⟨(1,.d<|.str i)::(2,.ptr 0 0)::(5,.d<|.sl<|c.map Ah)::(6,.osl 1 1 0<|ap.length)::(7,.d<|.int .i64 e)::(9,.d<|.int .i64 a)::(10,.d<|.bool I)::(11,.d<|.int .i64 E)::[],[some<|.box<|Ay h,some<|.narr 1<|ap.map<|nL 1 eB]⟩
def Jgq:St:=⟨(1,.d<|.str i)::(2,.ptr 0 0)::(5,.d<|.sl<|c.map Ah)::(6,.osl 1 1 0<|L.length)::(7,.d<|.int .i64 e)::(9,.d<|.int .i64 a)::(10,.d<|.bool u)::(11,.d<|.int .i64 E)::(12,.d<|.int .i64 V)::[],[some<|.box<|Ay h,some<|.narr 1<|L.map<|nL 1 eB]⟩
def Q8:((List<|List Bool)×Bool)->Ex->St->Prop:=xX 0 8<|λ (y:((List<|List Bool)×Bool))=>Jgp h i c e a E y.1 y.2
def KL:((List<|List Bool)×Bool×Int)->St:=(λ (x:((List<|List Bool)×Bool×Int))=>Jgo h i c e a E x.1 x.2.1 x.2.2)
def Q9:((List<|List Bool)×Bool)->Ex->St->Prop:=xX 0 6<|λ (y:((List<|List Bool)×Bool))=>Jkw h i c e a y.1 y.2
def KM:((List<|List Bool)×Bool×Int)->St:=(λ (x:((List<|List Bool)×Bool×Int))=>Jkv h i c e a x.1 x.2.1 x.2.2)
def Ra:(List<|List Bool)->Ex->St->Prop:=xX 0 4<|λ (y:(List<|List Bool))=>Jku h i c e a y
def KN:((List<|List Bool)×Bool)->St:=(λ (x:((List<|List Bool)×Bool))=>Jkt h i c e a x.1 x.2)
def Jgr:St:=⟨(1,.d<|.str i)::(2,.ptr 0 0)::(5,.d<|.sl<|c.map Ah)::(6,.osl 1 1 0<|C.length)::(7,.d<|.int .i64 e)::(9,.d<|.int .i64 a)::(16,.d<|.int .i64 l)::[],[some<|.box<|Ay h,some<|.narr 1<|C.map<|nL 1 eB]⟩
def Jgs:St:=⟨(1,.d<|.str i)::(2,.ptr 0 0)::(5,.d<|.sl<|c.map Ah)::(6,.osl 1 1 0<|j.length)::(7,.d<|.int .i64 J)::(9,.d<|.int .i64 a)::(16,.d<|.int .i64 l)::(17,.d<|.int .i64 Q)::[],[some<|.box<|Ay h,some<|.narr 1<|j.map<|nL 1 eB]⟩
def Jgt:St:=⟨(1,.d<|.str i)::(2,.ptr 0 0)::(5,.d<|.sl<|c.map Ah)::(6,.osl 1 1 0<|aa.length)::(7,.d<|.int .i64 af)::(9,.d<|.int .i64 a)::[],[some<|.box<|Ay h,some<|.narr 1<|aa.map<|nL 1 eB]⟩
def Jgu:St:=⟨(1,.d<|.str i)::(2,.ptr 0 0)::(5,.d<|.sl<|c.map Ah)::(6,.osl 1 1 0<|M.length)::(7,.d<|.int .i64 S)::(9,.d<|.int .i64 a)::(16,.d<|.int .i64 l)::(17,.d<|.int .i64 Q)::[],[some<|.box<|Ay h,some<|.narr 1<|M.map<|nL 1 eB]⟩
def Rb:((List<|List Bool)×Int)->Ex->St->Prop:=xX 0 10<|λ (y:((List<|List Bool)×Int))=>Jgt h i c a y.1 y.2
def KO:((List<|List Bool)×Int×Int)->St:=(λ (x:((List<|List Bool)×Int×Int))=>Jgs h i c a l x.1 x.2.1 x.2.2)
def Rc:Int->Ex->St->Prop:=xX 0 2<|λ (y:Int)=>Jks y
def KP:((List<|List Bool)×Int×Int)->St:=(λ (x:((List<|List Bool)×Int×Int))=>Jkr h i c x.1 x.2.1 x.2.2)
variable {h i c w G ak U e a ac O A al P B E am K b o V ap I L u C l j J Q aa af M S}
theorem P5 (x:((List (List Bool))×Int)) (z:(((List (List Bool))×Int)⊕(List (List Bool)))) (H:E1 n h i c x.1 x.2=some z):WP (cxk 152 0) (Az Tryz.f36) [1,1,1,0,1,0,0] (Aw 0 (KK h i c) (Q7 h i c) z) (KK h i c x):=by
 obtain ⟨w,G⟩:=x;refine sq<|sr<|ck 4<|en<|cn H (λ H=>?_)<|λ H=>?_
 ·exact sk<|qz<|sq<|bk 1<|bx H λ bc ar H=>rg (so1 (encN:=(nL 1 eB)) 1 1 ar)<|ck 3<|sp (AB Ah c)<|bx H λ T bd H=>sp (TL eB 1 bd)<|sp (Av 1 1 ar)<|sp (Lq (encN:=(nL 1 eB)) (row:=[.own 1<|bc.map eB]) (row':=[.osl 2 1 0<|T.length]) (k:=1) (sz:=1) (off:=0) (t:=ty 113) (v:=.osl 2 1 0<|T.length) ar)<|ae<|qN<|qz<|rg (tr (tr (tr (sni (encN:=(nL 1 eB)) (xs:=w) (n:=G) (enc:=eB) [.osl 2 1 0<|T.length] T 1 1 0 2 1)<|scl (encN:=(nL 1 eB)) (xss:=w) G [.own 1<|T.map eB] 1 1 T)<|sn 6 1 1<|lsS w G.toNat T)<|sn 30 1 1<|lsS w G.toNat T)<|ck 3<|ae (by cases H;exact og<|gP [1,2,5,6,7,8] [0,1]<|po1<|pn1 (nL 1 eB) (List.set w G.toNat T)<|Pl.z)
 ·exact ex 0<|qx (by cases H;exact xo rfl<|gP [1,2,5,6,7] [0,1]<|po1<|pn1 (nL 1 eB) w<|Pl.z)
theorem P6 (x:((List (List Bool))×Bool×Int)) (z:(((List (List Bool))×Bool×Int)⊕((List (List Bool))×Bool))) (H:D1 n h i c e a E x.1 x.2.1 x.2.2=some z):WP (cxk 152 0) (Az Tryz.f36) [1,1,1,1,1,0,1,0,0,1,0,0,0,1,0,0,1,0,1,1,0,0,1,0,0,1,0,0] (Aw 0 (KL h i c e a E) (Q8 h i c e a E) z) (KL h i c e a E x):=by
 obtain ⟨b,o,V⟩:=x;refine sq<|sq<|rg (tr (so0 (encN:=(nL 1 eB)) (xss:=b) 1 1 a ([]:(List Bool)))<|snT (encN:=(nL 1 eB)) (xss:=b) (n:=a) (d:=([]:(List Bool))) (enc:=eB) (λ x=>x) [.own 1<|List.map eB<|List.getD b a.toNat []] 1 1 0 1)<|ck 3<|sp (AB Ao h.Rules)<|ck 4<|bx H λ b7 ay H=>sE (λ hg=>Av 1 1<|BA ay hg)<|sE (g:=decide<|V<((h.Rules.length:Nat):Int)) (λ hg=>Cj (encN:=(nL 1 eB)) (row:=[.osl 2 1 0<|List.length<|List.getD b a.toNat []]) (k:=1) (sz:=1) (off:=0) (t:=ty 113) (v:=.osl 2 1 0<|List.length<|List.getD b a.toNat [])<|BA ay hg)<|ck 1<|bx H λ b8 az H=>sE (λ hg=>Av 2 1<|BA az hg)<|sE (g:=decide<|V<((h.Rules.length:Nat):Int)) (λ hg=>C0 eB 2 0 (ty 4)<|BA az hg)<|pA<|en<|cn H (λ H=>?_)<|λ H=>?_
 ·refine sk<|qz<|sj (λ (x:((List<|List Bool)×Bool))=>Jgq h i c e a E V x.1 x.2) (λ (x:((List<|List Bool)×Bool))=>E2 n V x.1 x.2) z ?_ (λ p=>?_)
  ·rintro ⟨L,u⟩ H;exact rz<|ck 3<|ae (by cases H;exact og<|gP [1,2,5,6,7,9,10,11,12] [0,1]<|po1<|pn1 (nL 1 eB) L<|Pl.z)
  refine bk 9<|sq<|rg (tr (tr (sni (encN:=(nL 1 eB)) (xs:=b) (n:=a) (enc:=eB) [.osl 2 1 0<|List.length<|List.getD b a.toNat []] (List.getD b a.toNat []) 1 1 0 2 1)<|scl (encN:=(nL 1 eB)) (xss:=b) a [.own 1<|List.map eB<|List.getD b a.toNat []] 1 1<|List.getD b a.toNat [])<|sn 6 1 1<|lsS b a.toNat<|List.getD b a.toNat [])<|ck 3<|bx H λ b9 be H=>sp (Ap Ah be)<|ck 2<|bx H λ W bf H=>ca false (JL bf)<|ck 6<|en<|sr<|ck 4<|bx H λ f bg H=>sp (Ap Ao bg)<|ck 5<|en<|sq<|rg (tr (so0 (encN:=(nL 1 eB)) (xss:=List.set b a.toNat<|List.getD b a.toNat []) 1 1 (An .i64 a ((f.Print.length:Nat):Int)) ([]:(List Bool)))<|snT (encN:=(nL 1 eB)) (xss:=List.set b a.toNat<|List.getD b a.toNat []) (n:=An .i64 a ((f.Print.length:Nat):Int)) (d:=([]:(List Bool))) (enc:=eB) (λ x=>x) [.own 1<|List.map eB<|List.getD (List.set b a.toNat<|List.getD b a.toNat []) (Int.toNat<|An .i64 a ((f.Print.length:Nat):Int)) []] 1 1 0 1)<|ck 5<|gc 1 W.2<|ck 1<|bx H λ cc bh H=>sE (λ hg=>Ap Ao<|BA bh hg)<|gc 2 W.2<|bx H λ au bi H=>cG false (leZ) rfl (λ hg=>Ow<|BA bi hg) (Or.inl rfl) (Cc (λ hh=>hh)<|Cc (λ hh=>hh)<|Cc (λ hh=>hh)<|Ef) rfl<|pA<|ck 3<|bx H λ cd a0 H=>sE (λ hg=>Av 1 1<|BA a0 hg)<|sE (g:=(W.2&&au)) (λ hg=>Cj (encN:=(nL 1 eB)) (row:=[.osl 4 1 0<|List.length<|List.getD (List.set b a.toNat<|List.getD b a.toNat []) (Int.toNat<|An .i64 a ((f.Print.length:Nat):Int)) []]) (k:=1) (sz:=1) (off:=0) (t:=ty 113) (v:=.osl 4 1 0<|List.length<|List.getD (List.set b a.toNat<|List.getD b a.toNat []) (Int.toNat<|An .i64 a ((f.Print.length:Nat):Int)) [])<|BA a0 hg)<|ck 2<|bx H λ ce bj H=>cG false (leZ) rfl (λ hg=>Fp<|BA bj hg) (Or.inl rfl) (Cc (λ hh=>hh)<|Cc (λ hh=>hh)<|Ef) rfl<|bx H λ cf a2 H=>sE (λ hg=>Av 4 1<|BA a2 hg)<|sE (g:=(W.2&&au)) (λ hg=>C0 eB 4 0 (ty 4)<|BA a2 hg)<|gc 1 (W.2&&au)<|pA<|en<|cn H (λ H=>?_)<|λ H=>?_
  ·exact sq<|bx H λ X ag H=>rg (tr (tr (tr (tr (sni (encN:=(nL 1 eB)) (xs:=List.set b a.toNat<|List.getD b a.toNat []) (n:=An .i64 a ((f.Print.length:Nat):Int)) (enc:=eB) [.osl 4 1 0<|List.length<|List.getD (List.set b a.toNat<|List.getD b a.toNat []) (Int.toNat<|An .i64 a ((f.Print.length:Nat):Int)) []] (List.getD (List.set b a.toNat<|List.getD b a.toNat []) (Int.toNat<|An .i64 a ((f.Print.length:Nat):Int)) []) 1 1 0 4 1)<|scl (encN:=(nL 1 eB)) (xss:=List.set b a.toNat<|List.getD b a.toNat []) (An .i64 a ((f.Print.length:Nat):Int)) [.own 1<|List.map eB<|List.getD (List.set b a.toNat<|List.getD b a.toNat []) (Int.toNat<|An .i64 a ((f.Print.length:Nat):Int)) []] 1 1<|List.getD (List.set b a.toNat<|List.getD b a.toNat []) (Int.toNat<|An .i64 a ((f.Print.length:Nat):Int)) [])<|sn 6 1 1<|lsS (List.set b a.toNat<|List.getD b a.toNat []) (Int.toNat<|An .i64 a ((f.Print.length:Nat):Int))<|List.getD (List.set b a.toNat<|List.getD b a.toNat []) (Int.toNat<|An .i64 a ((f.Print.length:Nat):Int)) [])<|so1 (encN:=(nL 1 eB)) 1 1 ag)<|sno (encN:=(nL 1 eB)) (enc:=eB) ag [.own 1<|X.map eB] X 1 1 0 1)<|ck 2<|sp (Av 1 1 ag)<|sp (Cj (encN:=(nL 1 eB)) (row:=[.osl 5 1 0<|X.length]) (k:=1) (sz:=1) (off:=0) (t:=ty 113) (v:=.osl 5 1 0<|X.length) ag)<|ck 2<|bx H λ cg bl H=>ca false (Fp bl)<|bx H λ ch a3 H=>sp (Av 5 1 a3)<|bx H λ Y av H=>stA eB 5 0 (ty 4) a3 av<|en<|rg (tr (tr (tr (tr (tr (sn 115 5 1<|Bb av)<|snr (encN:=(nL 1 eB)) (xs:=List.set (List.set b a.toNat<|List.getD b a.toNat []) (Int.toNat<|An .i64 a ((f.Print.length:Nat):Int))<|List.getD (List.set b a.toNat<|List.getD b a.toNat []) (Int.toNat<|An .i64 a ((f.Print.length:Nat):Int)) []) (n:=An .i64 a ((f.Print.length:Nat):Int)) [.osl 5 1 0<|X.length] 1 1 0 5 1<|Bb av)<|sni (encN:=(nL 1 eB)) (xs:=List.set (List.set b a.toNat<|List.getD b a.toNat []) (Int.toNat<|An .i64 a ((f.Print.length:Nat):Int))<|List.getD (List.set b a.toNat<|List.getD b a.toNat []) (Int.toNat<|An .i64 a ((f.Print.length:Nat):Int)) []) (n:=An .i64 a ((f.Print.length:Nat):Int)) (enc:=eB) [.osl 5 1 0<|Y.length] Y 1 1 0 5 1)<|scl (encN:=(nL 1 eB)) (xss:=List.set (List.set b a.toNat<|List.getD b a.toNat []) (Int.toNat<|An .i64 a ((f.Print.length:Nat):Int))<|List.getD (List.set b a.toNat<|List.getD b a.toNat []) (Int.toNat<|An .i64 a ((f.Print.length:Nat):Int)) []) (An .i64 a ((f.Print.length:Nat):Int)) [.own 1<|Y.map eB] 1 1 Y)<|sn 6 1 1<|lsS (List.set (List.set b a.toNat<|List.getD b a.toNat []) (Int.toNat<|An .i64 a ((f.Print.length:Nat):Int))<|List.getD (List.set b a.toNat<|List.getD b a.toNat []) (Int.toNat<|An .i64 a ((f.Print.length:Nat):Int)) []) (Int.toNat<|An .i64 a ((f.Print.length:Nat):Int)) Y)<|sn 112 1 1<|lsS (List.set (List.set b a.toNat<|List.getD b a.toNat []) (Int.toNat<|An .i64 a ((f.Print.length:Nat):Int))<|List.getD (List.set b a.toNat<|List.getD b a.toNat []) (Int.toNat<|An .i64 a ((f.Print.length:Nat):Int)) []) (Int.toNat<|An .i64 a ((f.Print.length:Nat):Int)) Y)<|ck 1<|ae<|qN<|qs (gP [1,2,5,6,7,9,10,11,12] [0,1]<|po1<|pn1 (nL 1 eB) (List.set (List.set (List.set b a.toNat<|List.getD b a.toNat []) (Int.toNat<|An .i64 a ((f.Print.length:Nat):Int))<|List.getD (List.set b a.toNat<|List.getD b a.toNat []) (Int.toNat<|An .i64 a ((f.Print.length:Nat):Int)) []) (Int.toNat<|An .i64 a ((f.Print.length:Nat):Int)) Y)<|Pl.z)<|p ((List.set (List.set (List.set b a.toNat<|List.getD b a.toNat []) (Int.toNat<|An .i64 a ((f.Print.length:Nat):Int))<|List.getD (List.set b a.toNat<|List.getD b a.toNat []) (Int.toNat<|An .i64 a ((f.Print.length:Nat):Int)) []) (Int.toNat<|An .i64 a ((f.Print.length:Nat):Int)) Y),true) H
  ·exact sk<|qN<|qs (tr (tr (tr (sni (encN:=(nL 1 eB)) (xs:=List.set b a.toNat<|List.getD b a.toNat []) (n:=An .i64 a ((f.Print.length:Nat):Int)) (enc:=eB) [.osl 4 1 0<|List.length<|List.getD (List.set b a.toNat<|List.getD b a.toNat []) (Int.toNat<|An .i64 a ((f.Print.length:Nat):Int)) []] (List.getD (List.set b a.toNat<|List.getD b a.toNat []) (Int.toNat<|An .i64 a ((f.Print.length:Nat):Int)) []) 1 1 0 4 1)<|scl (encN:=(nL 1 eB)) (xss:=List.set b a.toNat<|List.getD b a.toNat []) (An .i64 a ((f.Print.length:Nat):Int)) [.own 1<|List.map eB<|List.getD (List.set b a.toNat<|List.getD b a.toNat []) (Int.toNat<|An .i64 a ((f.Print.length:Nat):Int)) []] 1 1<|List.getD (List.set b a.toNat<|List.getD b a.toNat []) (Int.toNat<|An .i64 a ((f.Print.length:Nat):Int)) [])<|sn 6 1 1<|lsS (List.set b a.toNat<|List.getD b a.toNat []) (Int.toNat<|An .i64 a ((f.Print.length:Nat):Int))<|List.getD (List.set b a.toNat<|List.getD b a.toNat []) (Int.toNat<|An .i64 a ((f.Print.length:Nat):Int)) [])<|gP [1,2,5,6,7,9,10,11,12] [0,1]<|po1<|pn1 (nL 1 eB) (List.set (List.set b a.toNat<|List.getD b a.toNat []) (Int.toNat<|An .i64 a ((f.Print.length:Nat):Int))<|List.getD (List.set b a.toNat<|List.getD b a.toNat []) (Int.toNat<|An .i64 a ((f.Print.length:Nat):Int)) [])<|Pl.z)<|p ((List.set (List.set b a.toNat<|List.getD b a.toNat []) (Int.toNat<|An .i64 a ((f.Print.length:Nat):Int))<|List.getD (List.set b a.toNat<|List.getD b a.toNat []) (Int.toNat<|An .i64 a ((f.Print.length:Nat):Int)) []),o) H
 ·exact ex 8<|qx (by cases H;exact xo rfl<|tr (tr (tr (sni (encN:=(nL 1 eB)) (xs:=b) (n:=a) (enc:=eB) [.osl 2 1 0<|List.length<|List.getD b a.toNat []] (List.getD b a.toNat []) 1 1 0 2 1)<|scl (encN:=(nL 1 eB)) (xss:=b) a [.own 1<|List.map eB<|List.getD b a.toNat []] 1 1<|List.getD b a.toNat [])<|sn 6 1 1<|lsS b a.toNat<|List.getD b a.toNat [])<|gP [1,2,5,6,7,9,10,11] [0,1]<|po1<|pn1 (nL 1 eB) (List.set b a.toNat<|List.getD b a.toNat [])<|Pl.z)
theorem P7 (x:((List (List Bool))×Bool×Int)) (z:(((List (List Bool))×Bool×Int)⊕((List (List Bool))×Bool))) (H:D2 n h i c e a x.1 x.2.1 x.2.2=some z):WP (cxk 152 0) (Az Tryz.f36) [1,1,1,1,1,0,1,0,0,1,0,0,0,1,0,0,1,0,1,1,0,0] (Aw 0 (KM h i c e a) (Q9 h i c e a) z) (KM h i c e a x):=by
 obtain ⟨P,B,E⟩:=x;refine sq<|sr<|ck 2<|sp (AB Ah c)<|ck 1<|en<|cn H (λ H=>?_)<|λ H=>?_
 ·exact sk<|qz<|sq<|bk 7<|sr<|ck 1<|en<|bk 8<|bx H λ bm bn H=>lX P6 bn (gP [1,2,5,6,7,9,10,11,12] [0,1]<|po1<|pn1 (nL 1 eB) P<|Pl.z) rfl λ s a6=>qH<|qN<|qs (a6)<|rz<|ck 3<|ae (by cases H;exact og<|gP [1,2,5,6,7,9,10,11] [0,1]<|po1<|pn1 (nL 1 eB) bm.1<|Pl.z)
 ·exact ex 6<|qx (by cases H;exact xo rfl<|gP [1,2,5,6,7,9,10] [0,1]<|po1<|pn1 (nL 1 eB) P<|Pl.z)
theorem P8 (x:((List (List Bool))×Bool)) (z:(((List (List Bool))×Bool)⊕(List (List Bool)))) (H:E3 n h i c e a x.1 x.2=some z):WP (cxk 152 0) (Az Tryz.f36) [1,1,1,1,1,0,1,0,0,1,0,0,0,1,0,0] (Aw 0 (KN h i c e a) (Ra h i c e a) z) (KN h i c e a x):=by
 obtain ⟨O,A⟩:=x;refine sq<|sr<|ck 1<|en<|cn H (λ H=>?_)<|λ H=>?_
 ·exact sk<|qz<|bk 5<|sr<|ck 1<|en<|sr<|ck 1<|en<|bk 6<|bx H λ bp bq H=>lX P7 bq (gP [1,2,5,6,7,9,10,11] [0,1]<|po1<|pn1 (nL 1 eB) O<|Pl.z) rfl λ s a7=>qH<|qN (by cases H;exact og<|tr (a7)<|gP [1,2,5,6,7,9,10] [0,1]<|po1<|pn1 (nL 1 eB) bp.1<|Pl.z)
 ·exact ex 4<|qx (by cases H;exact xo rfl<|gP [1,2,5,6,7,9] [0,1]<|po1<|pn1 (nL 1 eB) O<|Pl.z)
theorem P9 (x:((List (List Bool))×Int×Int)) (z:(((List (List Bool))×Int×Int)⊕((List (List Bool))×Int))) (H:D3 n h i c a l x.1 x.2.1 x.2.2=some z):WP (cxk 152 0) (Az Tryz.f36) [1,1,1,1,1,0,1,0,0,1,0,0,1,1,1,1,0,0] (Aw 0 (KO h i c a l) (Rb h i c a) z) (KO h i c a l x):=by
 obtain ⟨j,J,Q⟩:=x;refine sq<|sr<|ck 2<|sp (AB Ah c)<|ck 1<|en<|cn H (λ H=>?_)<|λ H=>?_
 ·refine sk<|qz<|sj (λ (x:((List<|List Bool)×Int))=>Jgu h i c a l Q x.1 x.2) (λ (x:((List<|List Bool)×Int))=>E4 n Q x.1 x.2) z ?_ (λ q=>?_)
  ·rintro ⟨M,S⟩ H;exact rz<|ck 3<|ae (by cases H;exact og<|gP [1,2,5,6,7,9,16,17] [0,1]<|po1<|pn1 (nL 1 eB) M<|Pl.z)
  refine bk 11<|sq<|bx H λ m ah H=>rg (tr (so1 (encN:=(nL 1 eB)) 1 1 ah)<|sno (encN:=(nL 1 eB)) (enc:=eB) ah [.own 1<|m.map eB] m 1 1 0 1)<|ck 2<|sp (Av 1 1 ah)<|sp (Cj (encN:=(nL 1 eB)) (row:=[.osl 2 1 0<|m.length]) (k:=1) (sz:=1) (off:=0) (t:=ty 113) (v:=.osl 2 1 0<|m.length) ah)<|ck 1<|bx H λ br a4 H=>sp (Av 2 1 a4)<|sp (C0 eB 2 0 (ty 4) a4)<|ck 3<|bx H λ ci bt H=>sE (λ hg=>Ap Ah<|BA bt hg)<|gc 2 br<|ck 1<|bx H λ cj bu H=>cG false (leZ) rfl (λ hg=>I0<|BA bu hg) (Or.inl rfl) (Cc (λ hh=>hh)<|Cc (λ hh=>hh)<|Ef) rfl<|pA<|en<|cn H (λ H=>?_)<|λ H=>?_
  ·exact rg (tr (tr (tr (sni (encN:=(nL 1 eB)) (xs:=j) (n:=a) (enc:=eB) [.osl 2 1 0<|m.length] m 1 1 0 2 1)<|scl (encN:=(nL 1 eB)) (xss:=j) a [.own 1<|m.map eB] 1 1 m)<|sn 6 1 1<|lsS j a.toNat m)<|sn 134 1 1<|lsS j a.toNat m)<|ck 2<|ae<|qN<|qs (gP [1,2,5,6,7,9,16,17] [0,1]<|po1<|pn1 (nL 1 eB) (List.set j a.toNat m)<|Pl.z)<|q ((List.set j a.toNat m),a) H
  ·exact sk<|qN<|qs (tr (tr (tr (tr (sni (encN:=(nL 1 eB)) (xs:=j) (n:=a) (enc:=eB) [.osl 2 1 0<|m.length] m 1 1 0 2 1)<|scl (encN:=(nL 1 eB)) (xss:=j) a [.own 1<|m.map eB] 1 1 m)<|sn 6 1 1<|lsS j a.toNat m)<|sn 134 1 1<|lsS j a.toNat m)<|gP [1,2,5,6,7,9,16,17] [0,1]<|po1<|pn1 (nL 1 eB) (List.set j a.toNat m)<|Pl.z)<|q ((List.set j a.toNat m),J) H
 ·exact ex 10<|qx (by cases H;exact xo rfl<|gP [1,2,5,6,7,9] [0,1]<|po1<|pn1 (nL 1 eB) j<|Pl.z)
theorem Qa (x:((List (List Bool))×Int×Int)) (z:(((List (List Bool))×Int×Int)⊕Int)) (H:E6 n h i c x.1 x.2.1 x.2.2=some z):WP (cxk 152 0) (Az Tryz.f36) [1,1,1,1,1,0,1,0,0] (Aw 0 (KP h i c) (Rc) z) (KP h i c x):=by
 obtain ⟨U,e,a⟩:=x;refine sq<|sr<|ck 4<|en<|cn H (λ H=>?_)<|λ H=>?_
 ·refine sk<|qz<|sq<|bk 3<|sq<|sr<|ck 1<|en<|bk 4<|bx H λ C bv H=>lX P8 bv (gP [1,2,5,6,7,9,10] [0,1]<|po1<|pn1 (nL 1 eB) U<|Pl.z) rfl λ s a8=>qH<|qs (a8)<|sr<|ck 1<|en<|sj (λ (x:Int)=>Jgr h i c e a C x) (λ (x:Int)=>E5 n h i c e a C x) z ?_ (λ r=>?_)
  ·intro l H;exact sr<|ck 1<|en<|bk 10<|bx H λ bw bz H=>lX P9 bz (gP [1,2,5,6,7,9,16,17] [0,1]<|po1<|pn1 (nL 1 eB) C<|Pl.z) rfl λ s a9=>qH<|qN<|qs (a9)<|rz<|ck 3<|ae (by cases H;exact og<|gP [1,2,5,6,7,9] [0,1]<|po1<|pn1 (nL 1 eB) bw.1<|Pl.z)
  refine sr<|ck 4<|en<|cn H (λ H=>?_)<|λ H=>?_
  ·exact rz<|ck 2<|bx H λ cp b0 H=>sp (HD b0)<|bx H λ b1 b2 H=>ca false (LG b2)<|ck 1<|ae<|qs (gP [1,2,5,6,7,9,16] [0,1]<|po1<|pn1 (nL 1 eB) C<|Pl.z)<|r b1 H
  ·exact sk<|qs (gP [1,2,5,6,7,9,16] [0,1]<|po1<|pn1 (nL 1 eB) C<|Pl.z)<|r 0 H
 ·exact ex 2<|qx (by cases H;exact xo rfl<|sg [7])
theorem Ug {z} (H:JC n h i=some z):AL Tryz.prog 36 [.agg (Ay h),.d (.str i)] (.d (.int .i64 z)):=by
 exact fO 152 (Jko h i) Tryz.func36<|sr<|ck 2<|en<|sr<|ck 1<|bx H λ c b3 H=>ca false (Kf b3)<|ck 1<|en<|sr<|ck 3<|bx H λ b6 ai H=>sp (QK 1 (ez:=[.nil]) ai)<|ck 2<|en<|sq<|sq<|rg (tr (tr (TI (encN:=(nL 1 eB)) (sz:=1) (z:=[.nil]) (n:=(An .i64 ((i.length:Nat):Int) 1)) 1 (Lr ai) (by kernel_rfl) (by kernel_rfl))<|sn 23 1 1<|FY ai)<|sn 6 1 1<|FY ai)<|ck 1<|en<|bk 0<|bx H λ R b4 H=>lX P5 b4 (gP [1,2,5,6,7,8] [0,1]<|po1<|pn1 (nL 1 eB) b6<|Pl.z) rfl λ s ba=>qH<|qs (ba)<|sq<|bx H λ Z aj H=>rg (tr (so1 (encN:=(nL 1 eB)) 1 1 aj)<|sno (encN:=(nL 1 eB)) (enc:=eB) aj [.own 1<|Z.map eB] Z 1 1 0 1)<|ck 1<|sp (Av 1 1 aj)<|sp (Cj (encN:=(nL 1 eB)) (row:=[.osl 2 1 0<|Z.length]) (k:=1) (sz:=1) (off:=0) (t:=ty 113) (v:=.osl 2 1 0<|Z.length) aj)<|bx H λ cm a5 H=>sp (Av 2 1 a5)<|bx H λ ab aw H=>stA eB 2 0 (ty 4) a5 aw<|en<|sq<|sq<|rg (tr (tr (tr (tr (tr (sn 38 2 1<|Bb aw)<|snr (encN:=(nL 1 eB)) (xs:=R) (n:=0) [.osl 2 1 0<|Z.length] 1 1 0 2 1<|Bb aw)<|sni (encN:=(nL 1 eB)) (xs:=R) (n:=0) (enc:=eB) [.osl 2 1 0<|ab.length] ab 1 1 0 2 1)<|scl (encN:=(nL 1 eB)) (xss:=R) 0 [.own 1<|ab.map eB] 1 1 ab)<|sn 6 1 1<|lsS R (Int.toNat 0) ab)<|sn 36 1 1<|lsS R (Int.toNat 0) ab)<|ck 1<|en<|bk 2<|bx H λ co b5 H=>lX Qa b5 (gP [1,2,5,6,7,9] [0,1]<|po1<|pn1 (nL 1 eB) (List.set R (Int.toNat 0) ab)<|Pl.z) rfl λ s bb=>qH<|qs (bb)<|sr<|ck 2<|en<|re (by cases H;exact pr rd)
end
section
variable (e:Ad) (i:(List UInt8)) (b:(List (List Int))) (c:(List Ab)) (a:CL) (g:FB) (f:CL) (h:Int) (k:Int) (o:Int)
def Jkx:St:=⟨(0,.agg [.d<|.int .i64 e.Modes,.d<|.int .u8 e.Accept,.d<|.sl<|e.Rules.map Ao])::(1,.d<|.str i)::[],[]⟩
def Jky:St:=⟨(2,.ptr 0 0)::(4,.ptr 1 0)::(7,.d<|.sl<|b.map<|eL Af)::(8,.d<|.sl<|c.map Ah)::(9,.ptr 2 0)::(10,.ptr 3 0)::[],[some<|.box<|Ay e,some<|.box [.osl 4 1 0<|List.length ([]:List Int),.osl 5 1 0<|List.length ([]:List Int),.d<|.int .i64 0,.d<|.int .i64 0],some<|.box<|JD a (.osl 6 1 0<|a.W.Cells.length)<|.osl 7 1 0<|a.W.Path.length,some<|.box<|Wm g,some<|.arr 1<|List.map eU8 ([]:List Int),some<|.arr 1<|List.map Af ([]:List Int),some<|.arr 1<|a.W.Cells.map eU8,some<|.arr 1<|a.W.Path.map Af]⟩
def Jkz:St:=⟨(4,.ptr 0 0)::(9,.ptr 1 0)::[],[some<|.box [.osl 2 1 0<|List.length ([]:List Int),.osl 3 1 0<|List.length ([]:List Int),.d<|.int .i64 0,.d<|.int .i64 0],some<|.box<|JD f (.osl 4 1 0<|f.W.Cells.length)<|.osl 5 1 0<|f.W.Path.length,some<|.arr 1<|List.map eU8 ([]:List Int),some<|.arr 1<|List.map Af ([]:List Int),some<|.arr 1<|f.W.Cells.map eU8,some<|.arr 1<|f.W.Path.map Af]⟩
def JkA:St:=⟨(2,.ptr 0 0)::(4,.ptr 1 0)::(7,.d<|.sl<|b.map<|eL Af)::(8,.d<|.sl<|c.map Ah)::(9,.ptr 2 0)::(10,.ptr 3 0)::(11,.d<|.int .i64 h)::(12,.d<|.int .i64 k)::[],[some<|.box<|Ay e,some<|.box [.osl 4 1 0<|List.length ([]:List Int),.osl 5 1 0<|List.length ([]:List Int),.d<|.int .i64 0,.d<|.int .i64 0],some<|.box<|JD a (.osl 6 1 0<|a.W.Cells.length)<|.osl 7 1 0<|a.W.Path.length,some<|.box<|Wm g,some<|.arr 1<|List.map eU8 ([]:List Int),some<|.arr 1<|List.map Af ([]:List Int),some<|.arr 1<|a.W.Cells.map eU8,some<|.arr 1<|a.W.Path.map Af]⟩
def JkB:St:=⟨(2,.ptr 0 0)::(4,.ptr 1 0)::(7,.d<|.sl<|b.map<|eL Af)::(8,.d<|.sl<|c.map Ah)::(9,.ptr 2 0)::(10,.ptr 3 0)::(12,.d<|.int .i64 o)::[],[some<|.box<|Ay e,some<|.box [.osl 4 1 0<|List.length ([]:List Int),.osl 5 1 0<|List.length ([]:List Int),.d<|.int .i64 0,.d<|.int .i64 0],some<|.box<|JD a (.osl 6 1 0<|a.W.Cells.length)<|.osl 7 1 0<|a.W.Path.length,some<|.box<|Wm g,some<|.arr 1<|List.map eU8 ([]:List Int),some<|.arr 1<|List.map Af ([]:List Int),some<|.arr 1<|a.W.Cells.map eU8,some<|.arr 1<|a.W.Path.map Af]⟩
def Uh:Int->Ex->St->Prop:=xX 0 2<|λ (y:Int)=>JkB e b c a g y
def Nr:Int->St:=(λ (x:Int)=>JkA e b c a g h x)
def Ui:CL->Ex->St->Prop:=xX 0 0<|λ (y:CL)=>Jkz y
def Ns:(CL×FB)->St:=(λ (x:(CL×FB))=>Jky e b c x.1 x.2)
variable {e i b c a g f h k o}
theorem Sp (x:Int) (z:(Int⊕Int)) (H:Fn n e b c a g h x=some z):WP (cxk 118 0) (Az Tryz.f17) [1,1,1,1,1,1,1,0,0,0,1,0,1,0,0,0] (Aw 0 (Nr e b c a g h) (Uh e b c a g) z) (Nr e b c a g h x):=by
 revert H;generalize x=k;intro H;refine sq<|sr<|ck 4<|bx H λ V p H=>ca false (PZ p)<|ck 2<|en<|cn H (λ H=>?_)<|λ H=>?_
 ·exact sk<|qz<|bk 3<|rz<|ck 3<|ae<|qN (by cases H;exact og<|sg [2,4,7,8,9,10,11,12])
 ·exact ex 2<|qx (by cases H;exact xo rfl<|sg [2,4,7,8,9,10,12])
theorem Sq (x:(CL×FB)) (z:((CL×FB)⊕CL)) (H:Ip n e b c x.1 x.2=some z):WP (cxk 118 0) (Az Tryz.f17) [1,1,1,1,1,1,1,0,0,0] (Aw 0 (Ns e b c) (Ui) z) (Ns e b c x):=by
 obtain ⟨a,g⟩:=x;refine sq<|sr<|ck 3<|bx H λ X q H=>sp (Ap (eL Af) q)<|ck 4<|bx H λ Y r H=>ca false (Fp r)<|bx H λ Z t H=>sp (Ap Af t)<|ck 2<|en<|cn H (λ H=>?_)<|λ H=>?_
 ·exact sk<|qz<|bk 1<|sr<|ck 3<|bx H λ aa u H=>sp (Ap (eL Af) u)<|ck 4<|bx H λ ab w H=>ca false (Fp w)<|bx H λ h A H=>sp (Ap Af A)<|ck 3<|en<|sq<|bk 2<|bx H λ ac B H=>lX Sp B (sg [2,4,7,8,9,10,11,12]) rfl λ s l=>qH<|qs (l)<|sr<|ck 5<|bx H λ am C H=>sp (Cv Af 7 1 C)<|ck 3<|en<|sr<|ck 6<|bx H λ af G H=>sp (Ap Ao G)<|ck 2<|bx H λ ap I H=>sp (JcJ eU8 6 1 I)<|ck 3<|en<|sr<|ck 4<|bx H λ ag J H=>ca false (JL J)<|ck 5<|en<|rz<|ck 5<|bx H λ ah K H=>sp (Ap Ao K)<|ck 6<|ae<|qN (by cases H;exact og<|sg [2,4,7,8,9,10])
 ·exact ex 0<|qx (by cases H;exact xo rfl<|sg [4,9])
theorem WB {z} (H:NL n e i=some z):AL Tryz.prog 17 [.agg (Ay e),.d (.str i)] (.agg [.own 1 (z.W.Cells.map eU8),.own 1 (z.W.Path.map Af),.d (.int .i64 z.At),.d (.int .i64 z.E)]):=by
 refine fO 118 (Jkx e i) Tryz.func17<|sr<|ck 2<|en<|sr<|ck 1<|bx H λ j L H=>ca false (RX L)<|ck 5<|en<|sq<|sr<|ck 2<|en<|cn H (λ H=>?_)<|λ H=>?_
 ·exact sr<|ck 4<|en<|re<|qr (by cases H;exact pr<|rO (v:=.agg [.d<|.nil,.d<|.nil,.d<|.int .i64 j.1,.d<|.int .i64 j.2]) []<|a1<|c1 vz<|c1 vz<|c1 vd<|c1 vd<|c0)
 ·refine sk<|qz<|sr<|ck 2<|bx H λ b M H=>ca false (Ms M)<|ck 1<|en<|sq<|sr<|ck 1<|bx H λ ai O H=>sp (Ap (eL Af) O)<|ck 1<|bx H λ aj P H=>sp (Ap Af P)<|ck 2<|en<|cn H (λ H=>?_)<|λ H=>?_
  ·exact sr<|ck 2<|bx H λ Q R H=>ca false (Ug R)<|ck 2<|en<|re<|qr (by cases H;exact pr<|rO (v:=.agg [.d<|.nil,.d<|.nil,.d<|.int .i64 Q,.d<|.int .i64 61]) []<|a1<|c1 vz<|c1 vz<|c1 vd<|c1 vd<|c0)
  ·exact sk<|qz<|sr<|ck 1<|bx H λ c S H=>ca false (Kf S)<|ck 6<|en<|sr<|ck 1<|bx H λ ak T H=>ca false (PY T)<|ck 4<|en<|sq<|bk 0<|bx H λ al U H=>lX Sq U (tr (tr (tr (tr (BO 1 0 1 (by kernel_rfl))<|BO 1 1 1 (by kernel_rfl))<|BO 2 0 1 (by kernel_rfl))<|BO 2 1 1 (by kernel_rfl))<|sg [2,4,7,8,9,10]) rfl λ s m=>qH<|qs (m)<|sr<|ck 2<|en<|re (by cases H;exact pr<|rO (v:=.agg [.osl 4 1 0<|z.W.Cells.length,.osl 5 1 0<|z.W.Path.length,.d<|.int .i64 z.At,.d<|.int .i64 z.E]) [4,5]<|a1<|c1 vo<|c1 vo<|c1 vd<|c1 vd<|c0)
end
section
variable (k:NY) (m:(List Int)) (i:(List BB)) (e:Bool) (h:Ad) (p:A5) (q:(List UInt8)) (l:Int) (u:A5) (w:(List UInt8))
def Jmc:St:=⟨(0,.agg [.d<|.int .u8 k.Base,.d<|.int .u8 k.Drop,.d<|.sl<|k.More.map Gy])::(1,.d<|.sl<|m.map eU8)::(2,.d<|.sl<|i.map Cp)::[],[]⟩
def Jmd:St:=⟨(2,.d<|.sl<|i.map Cp)::(7,.d<|.bool e)::(8,.ptr 0 0)::(9,.d<|.str q)::(10,.ptr 1 0)::(12,.d<|.int .i64 l)::[],[some<|.box<|Ay h,some<|.box<|FI p]⟩
def Jme:St:=⟨(7,.d<|.bool e)::(8,.ptr 0 0)::(9,.d<|.str w)::(10,.ptr 1 0)::[],[some<|.box<|Ay h,some<|.box<|FI u]⟩
def LH:((A5×(List UInt8))⊕Bool)->Ex->St->Prop:=xS (xX 0 0<|λ (y:(A5×(List UInt8)))=>Jme e h y.1 y.2)<|xR ty Tryz.f4<|λ (y:Bool)=>.d<|.bool y
def GS:(A5×(List UInt8)×Int)->St:=(λ (x:(A5×(List UInt8)×Int))=>Jmd i e h x.1 x.2.1 x.2.2)
variable {k m i e h p q l u w}
theorem GD (x:(A5×(List UInt8)×Int)) (z:((A5×(List UInt8)×Int)⊕((A5×(List UInt8))⊕Bool))) (H:DH n i e h x.1 x.2.1 x.2.2=some z):WP (cxk 105 0) (Az Tryz.f4) [1,1,1,1,1,1,0,1,0,0] (Aw 0 (GS i e h) (LH e h) z) (GS i e h x):=by
 obtain ⟨p,q,l⟩:=x;refine sq<|sr<|ck 2<|sp (AB Cp i)<|ck 3<|gc 1 (decide<|l<((i.length:Nat):Int))<|pA<|en<|cn H (λ H=>?_)<|λ H=>?_
 ·refine sk<|qz<|sq<|bk 1<|sr<|ck 4<|bx H λ U A H=>sp (Ap Cp A)<|ck 1<|bx H λ V B H=>ca false (Yf B)<|ck 2<|en<|sr<|ck 2<|bx H λ W C H=>ca false (Uf C)<|ck 1<|en<|sr<|ck 3<|bx H λ G I H=>ca false (HG I)<|ck 8<|en<|sq<|sr<|ck 6<|bx H λ X J H=>cG false (leZ) rfl (λ hg=>Ye<|BA J hg) (Or.inl rfl) (Cc (λ hh=>hh)<|Cc (λ hh=>hh)<|Ef) rfl<|bx H λ Y K H=>cG false (leZ) rfl (λ hg=>Yg<|BA K hg) (Or.inl rfl) (Cc (λ hh=>hh)<|Cc (λ hh=>hh)<|Ef) rfl<|gc 1 (!(G.2.2 != 0))<|pO<|en<|cn H (λ H=>?_)<|λ H=>?_
  ·exact sr<|ck 1<|en<|re<|qr<|qR<|qr (by cases H;exact ro rfl rd)
  ·exact sk<|qz<|rz<|ck 2<|ae<|qN<|qz<|rz<|ck 3<|ae (by cases H;exact og<|sg [2,7,8,9,10,12])
 ·exact ex 0<|qx (by cases H;exact xo rfl<|sg [7,8,9,10])
theorem Nt {z} (H:EO n k m i=some z):AL Tryz.prog 4 [.agg (Zn k),.d (.sl (m.map eU8)),.d (.sl (i.map Cp))] (.d (.bool z)):=by
 refine fO 105 (Jmc k m i) Tryz.func4<|sr<|ck 2<|en<|sr<|bx H λ e L H=>ca false (UM L)<|ck 1<|en<|sr<|ck 1<|bx H λ h M H=>ca false (Yd M)<|ck 2<|en<|sr<|ck 2<|bx H λ Z O H=>ca false (No O)<|ck 1<|en<|sr<|ck 2<|bx H λ aa P H=>ca false (Is P)<|ck 6<|en<|sq<|sr<|ck 2<|en<|cn H (λ H=>?_)<|λ H=>?_
 ·exact sr<|ck 1<|en<|re<|qr (by cases H;exact pr rd)
 ·refine sk<|qz<|sq<|sr<|ck 1<|en<|bk 0<|bx H λ Q o H=>?_;rcases Q with ab|ac
  ·exact lX GD o (sg [2,7,8,9,10,12]) rfl λ s r=>qH<|qs (r)<|sr<|ck 2<|bx H λ f R H=>ca false (Ke R)<|ck 6<|en<|sr<|ck 2<|bx H λ j S H=>ca false (WB S)<|ck 2<|en<|sr<|ck 3<|gc 1 e<|ck 1<|gc 3 e<|pA<|ck 2<|gc 2 (e&&((f.2==0)==(j.E==0)))<|ck 1<|gc 1 ((e&&((f.2==0)==(j.E==0)))&&!(f.2==0))<|pG (g:=(e&&((f.2==0)==(j.E==0)))) (v:=.d<|.bool<|(f.2==0)||(f.2==61)) (λ hg=>Gk (c:=.gv (e&&((f.2==0)==(j.E==0)))<|.d<|.bool<|f.2==0) (a:=.d<|.bool true) (b:=.gv ((e&&((f.2==0)==(j.E==0)))&&!(f.2==0))<|.d<|.bool<|f.2==61) rfl rfl rfl ((λ hh=>hh) hg) trivial (λ ht=>by rw [(λ hh=>hh) hg,ht];rfl))<|pA<|ck 3<|gc 1 ((e&&((f.2==0)==(j.E==0)))&&((f.2==0)||(f.2==61)))<|bx H λ af T H=>cG false (leZ) rfl (λ hg=>RW<|BA T hg) (Or.inl rfl) (Cc (λ hh=>hh)<|Cc (λ hh=>hh)<|Ef) rfl<|pA<|ck 1<|en<|re (by cases H;exact pr rd)
  ·exact lR GD o (sg [2,7,8,9,10,12]) rfl λ s t=>qR<|qr (by cases H;exact pr t)
end
end Go.AI
end
