/- Part 5 of 6 of the proof: lemmas about the model and the program's functions, with no condition beyond those that each states. -/
import Derived.Test.YtnpikfdkjmebjaaLD
import Derived.ChangeArms
import Derived.WalkKit
import Derived.ProofKit
import Derived.OpenShut
import Derived.Carry
import Derived.WideKeyArgs
import Derived.ChangeSame
import Derived.KernelRfl
section
namespace Go.AI
open Go.Proofs
set_option maxRecDepth 10000
theorem xok (n kl:Nat):XOK Try.prog (cxk n kl):=⟨tyOK,rfl⟩
theorem fO (k:Nat) (s:St) {fn:Func} {f:FuncId} {args:List AV} {r:AV} (hf:Try.prog.funcs[f]? = some fn) (h:WP (cxk k 0) (AX fn) [] (Th (cxk k 0).ty fn.results.toList r) s) (hb:fn.body=some (AX fn):=by kernel_rfl) (hnm:(fn.name == "runtime.NumGoroutine")=false:=by kernel_rfl) (hnt:(cxk k 0).nt.n=fn.ntmps:=by kernel_rfl) (hlen:Nat.ble args.length fn.ntmps=true:=by kernel_rfl) (hs:(⟨(List.range args.length).zip args,[]⟩:St)=s:=by kernel_rfl):AY Try.prog f args r:=fo follows (JcY k 0) hf h hb hnm hnt hlen hs
theorem fL (k nb:Nat) (s:St) {fn:Func} {f:FuncId} {args:List AV} {O0 O1:List (Option Ob)} {r:AV} (hf:Try.prog.funcs[f]? = some fn) (h:WP (cxk k nb) (AX fn) [] (Qy nb (cxk k nb).ty fn.results.toList r O1) s) (hb:fn.body=some (AX fn):=by kernel_rfl) (hnm:(fn.name == "runtime.NumGoroutine")=false:=by kernel_rfl) (hnt:(cxk k nb).nt=⟨fn.ntmps,[],nb,qfT⟩:=by kernel_rfl) (hlen:Nat.ble args.length fn.ntmps=true:=by kernel_rfl) (hs:(⟨(List.range args.length).zip args,O0⟩:St)=s:=by kernel_rfl):CH Try.prog f args O0 nb r O1:=fl follows (JcY k nb) hf h hb hnm hnt hlen hs
theorem yok (n kl:Nat):YOK Try.prog (cxk n kl):=⟨rfl⟩
variable {n:Nat}
def Av (x:Az):List D:=[.str x.Print,.sl<|x.Cells.map eU8,.int .u8 x.Left,.int .u8 x.Right,.int .i64 x.From,.int .i64 x.To]
def AU (x:Ad):List D:=[.int .i64 x.Mode,.int .i64 x.Last,.int .u8 x.Need]
def Be (x:EY):List D:=[.str x.Print,.sl<|x.Cells.map eU8,.int .i64 x.To]
def Aw (x:Ap):List D:=[.sl<|x.Arcs.map<|eL Be,.sl<|x.Accepts.map eB,.bool x.Alive]
def Ax (x:Af):List D:=[.int .u8 x.Cell,.str x.Print,.int .i64 x.To]
def Zj (x:BR):List D:=[.int .i64 x.Side,.str x.Text]
def AR (x:Am):List D:=[.int .i64 x.A,.int .i64 x.B]
def Aq (x:Ah):List D:=[.int .i64 x.Pair.A,.int .i64 x.Pair.B,.int .i64 x.Lead.Side,.str x.Lead.Text]
def Ht (x:Bi):List D:=[.sl<|x.Nodes.map Aq,dPG Aq x.From,.int .u8 x.Cell]
theorem Pb {x:(List ((List Ah)×Int))} {y:Bi} (h:RM x=some y):x=(y.Nodes,y.Cell)::y.From:=by
  cases x with
  | nil=>cases h
  | cons p r=>cases h;rfl
def Al (x:Ab):List D:=[.int .i64 x.State,.str x.Rest]
@[reducible] def Jhp {α:Type} (e:α->List D) (x:D7 α):List D:=e x.a0++e x.a1
def AZ (x:An):List D:=[.int .i64 x.N,.int .i64 x.Leads.a0.Side,.str x.Leads.a0.Text,.int .i64 x.Leads.a1.Side,.str x.Leads.a1.Text]
def CF (x:AL):List D:=[.int .i64 x.Cell,.int .i64 x.Byte,.int .i64 x.State]
def EU (x:CQ):List D:=[.sl<|x.P.map eU8,.sl<|x.C.map eU8,.int .u8 x.L,.int .u8 x.R,.int .u8 x.W.a0,.int .u8 x.W.a1]
def Jhq (x:Jb):List D:=[.int .u8 x.Base,.int .u8 x.Drop,.sl<|x.More.map EU]
def BV (x:Aa) (v2:AV):List AV:=[.d<|.int .i64 x.Modes,.d<|.int .u8 x.Accept,v2]
def JG (x:Az):List AV:=[.d<|.str x.Print,.d<|.sl<|x.Cells.map eU8,.d<|.int .u8 x.Left,.d<|.int .u8 x.Right,.d<|.int .i64 x.From,.d<|.int .i64 x.To]
def Bw (x:Aa):List AV:=[.d<|.int .i64 x.Modes,.d<|.int .u8 x.Accept,.d<|.sl<|x.Rules.map Av]
def RN (x:Ad):List AV:=[.d<|.int .i64 x.Mode,.d<|.int .i64 x.Last,.d<|.int .u8 x.Need]
def Dl (x:Ap) (v0:AV) (v1:AV):List AV:=[v0,v1,.d<|.bool x.Alive]
def Tv (x:Af):List AV:=[.d<|.int .u8 x.Cell,.d<|.str x.Print,.d<|.int .i64 x.To]
def IU (x:Ah):List AV:=[.d<|.int .i64 x.Pair.A,.d<|.int .i64 x.Pair.B,.d<|.int .i64 x.Lead.Side,.d<|.str x.Lead.Text]
def Jd7 (x:EY):List AV:=[.d<|.str x.Print,.d<|.sl<|x.Cells.map eU8,.d<|.int .i64 x.To]
def JcZ (x:An):List AV:=[.d<|.int .i64 x.N,.d<|.int .i64 x.Leads.a0.Side,.d<|.str x.Leads.a0.Text,.d<|.int .i64 x.Leads.a1.Side,.d<|.str x.Leads.a1.Text]
def Lq (x:Bi) (v0:AV) (v1:AV):List AV:=[v0,v1,.d<|.int .u8 x.Cell]
def RO (x:Cd):List AV:=[.d<|.sl<|x.Cells.map eU8,.d<|.str x.A,.d<|.str x.B]
def Zk (x:AL):List AV:=[.d<|.int .i64 x.Cell,.d<|.int .i64 x.Byte,.d<|.int .i64 x.State]
def L9 (x:CQ):List AV:=[.d<|.sl<|x.P.map eU8,.d<|.sl<|x.C.map eU8,.d<|.int .u8 x.L,.d<|.int .u8 x.R,.d<|.int .u8 x.W.a0,.d<|.int .u8 x.W.a1]
def N0 (x:Az) (v1:AV):List AV:=[.d<|.str x.Print,v1,.d<|.int .u8 x.Left,.d<|.int .u8 x.Right,.d<|.int .i64 x.From,.d<|.int .i64 x.To]
def UW (x:Jb):List AV:=[.d<|.int .u8 x.Base,.d<|.int .u8 x.Drop,.d<|.sl<|x.More.map EU]
theorem Jd8:∀ a b:Int,Au [.int .u8] ((eU8 a).map .d) ((eU8 b).map .d)=some (decide (a=b)):=by
  intro a b;simp[Au,eU8]
  all_goals (first|rfl|(rw[Bool.eq_iff_iff];simp))
theorem QH:∀ a b:Ad,Au [.int .i64,.int .i64,.int .u8] ((AU a).map .d) ((AU b).map .d)=some (decide (a=b)):=by
  intro a b;cases a;cases b;simp[Au,AU,Bool.decide_and]
  all_goals (first|rfl|(rw[Bool.eq_iff_iff];simp))
theorem Zl:∀ a b:Ab,Au [.int .i64,.string] ((Al a).map .d) ((Al b).map .d)=some (decide (a=b)):=by
  intro a b;cases a;cases b;simp[Au,Al,Bool.decide_and]
  all_goals (first|rfl|(rw[Bool.eq_iff_iff];simp))
theorem Zm:∀ a b:Am,Au [.int .i64,.int .i64] ((AR a).map .d) ((AR b).map .d)=some (decide (a=b)):=by
  intro a b;cases a;cases b;simp[Au,AR,Bool.decide_and]
  all_goals (first|rfl|(rw[Bool.eq_iff_iff];simp))
theorem UX:∀ a b:AL,Au [.int .i64,.int .i64,.int .i64] ((CF a).map .d) ((CF b).map .d)=some (decide (a=b)):=by
  intro a b;cases a;cases b;simp[Au,CF,Bool.decide_and]
  all_goals (first|rfl|(rw[Bool.eq_iff_iff];simp))
section
variable (a:(List (List UInt8))) (b:(List (List Int))) (c:Aa) (f:Int) (e:Aa)
def Jd9:St:=⟨(0,.d<|.sl<|a.map eS)::(1,.d<|.sl<|b.map<|eL eU8)::[],[]⟩
def Jea:St:=⟨(0,.d<|.sl<|a.map eS)::(1,.d<|.sl<|b.map<|eL eU8)::(4,.ptr 0 0)::(5,.ptr 1 0)::(6,.d<|.int .i64 f)::[],[some<|.box [.d<|.int .i64 0,.d<|.int .u8 0,.osl 2 6 0<|List.length ([]:List Az)],some<|.box<|BV c<|.osl 3 6 0<|c.Rules.length,some<|.arr 6<|List.map Av ([]:List Az),some<|.arr 6<|c.Rules.map Av]⟩
def Jeb:St:=⟨(4,.ptr 0 0)::(5,.ptr 1 0)::[],[some<|.box [.d<|.int .i64 0,.d<|.int .u8 0,.osl 2 6 0<|List.length ([]:List Az)],some<|.box<|BV e<|.osl 3 6 0<|e.Rules.length,some<|.arr 6<|List.map Av ([]:List Az),some<|.arr 6<|e.Rules.map Av]⟩
def PT:Aa->Ex->St->Prop:=xX 0 0<|λ (y:Aa)=>Jeb y
def K1:(Aa×Int)->St:=(λ (x:(Aa×Int))=>Jea a b x.1 x.2)
variable {a b c f e}
theorem Pc (x:(Aa×Int)) (z:((Aa×Int)⊕Aa)) (H:Nv n a b x.1 x.2=some z):WP (cxk 29 0) (AX Try.f19) [1,1,0,1,0,0] (AQ 0 (K1 a b) (PT) z) (K1 a b x):=by
 obtain⟨c,f⟩:=x;refine sq<|sr<|ck 2<|sp (A1 eS a)<|ck 1<|en<|cn H (λ H=>?_)<|λ H=>?_
 ·exact sk<|qz<|sq<|bk 1<|rz<|ck 4<|bx H λ l h H=>sp (AM eS h)<|ck 3<|bx H λ m i H=>sp (AM (eL eU8) i)<|ck 3<|bx H λ o j H=>sp (Br Av 3 6 j)<|ck 2<|ae<|qN<|qz<|rz<|ck 3<|ae (by cases H;exact og<|sg [0,1,4,5,6])
 ·exact ex 0<|qx (by cases H;exact xo rfl<|sg [4,5])
theorem EV {z} (H:E6 n a b=some z):AY Try.prog 19 [.d (.sl (a.map eS)),.d (.sl (b.map (eL eU8)))] (.agg [.d (.int .i64 z.Modes),.d (.int .u8 z.Accept),.own 6 (z.Rules.map Av)]):=by
 exact fO 29 (Jd9 a b) Try.func19<|sr<|ck 1<|en<|sr<|ck 3<|en<|sq<|sr<|ck 1<|en<|bk 0<|bx H λ p k H=>lX Pc k (tr (tr (DK 0 2 6 (by kernel_rfl))<|DK 1 2 6 (by kernel_rfl))<|sg [0,1,4,5,6]) rfl λ s g=>qH<|qs (g)<|sr<|ck 2<|en<|re (by cases H;exact pr<|rO (v:=.agg [.d<|.int .i64 z.Modes,.d<|.int .u8 z.Accept,.osl 3 6 0<|z.Rules.length]) [3]<|a1<|c1 vd<|c1 vd<|c1 vo<|c0)
end
section
variable (a:Int)
def Jec:St:=⟨(0,.d<|.int .u8 a)::[],[]⟩
variable {a}
theorem Lr {z} (H:Gj n a=some z):AY Try.prog 79 [.d (.int .u8 a)] (.d (.bool z)):=by
 exact fO 12 (Jec a) Try.func79<|sr<|ck 1<|en<|sr<|ck 3<|en<|sr<|ck 4<|gc 1 (decide<|32<=Dc .u8 a 127)<|pA<|ck 1<|en<|re (by cases H;exact pr rd)
end
section
variable (a:(List UInt8)) (b:Int)
def Jed:St:=⟨(0,.d<|.str a)::[],[]⟩
def Jee:St:=⟨(0,.d<|.str a)::(6,.d<|.int .i64 ((a.length:Nat):Int))::(7,.d<|.int .i64 b)::[],[]⟩
def Jef:St:=⟨(0,.d<|.str a)::[],[]⟩
def PU:(Unit⊕(Int×Int))->Ex->St->Prop:=xS (xX 0 0<|λ (_:Unit)=>Jef a)<|xR ty Try.f72<|λ (y:(Int×Int))=>.tup [.d<|.int .i64 y.1,.d<|.int .i64 y.2]
def K2:Int->St:=(λ (x:Int)=>Jee a x)
variable {a b}
theorem JH (x:Int) (z:(Int⊕(Unit⊕(Int×Int)))) (H:Hr n a x=some z):WP (cxk 19 0) (AX Try.f72) [1,0,1,0,0] (AQ 0 (K2 a) (PU a) z) (K2 a x):=by
 revert H;generalize x=b;intro H;refine sr<|ck 1<|en<|sq<|cn H (λ H=>?_)<|λ H=>?_
 ·refine sk<|qz<|sq<|bk 1<|sr<|ck 2<|en<|sr<|ck 2<|bx H λ j g H=>sp (Gy g)<|bx H λ k h H=>ca false (Lr h)<|ck 1<|en<|cn H (λ H=>?_)<|λ H=>?_
  ·exact sr<|ck 3<|en<|re<|qR<|qr (by cases H;exact ro rfl rdT)
  ·exact sk<|qN<|qz<|rz<|ck 2<|ae (by cases H;exact og<|sg [0,6,7])
 ·exact ex 0<|qx (by cases H;exact xo rfl<|sg [0])
theorem Tw {z} (H:L7 n a=some z):AY Try.prog 72 [.d (.str a)] (.tup [.d (.int .i64 z.1),.d (.int .i64 z.2)]):=by
 refine fO 19 (Jed a) Try.func72<|sr<|ck 2<|en<|sq<|sr<|ck 3<|en<|bk 0<|bx H λ i f H=>?_;rcases i with l|m
 ·exact lX JH f (sg [0,6,7]) rfl λ s c=>qH<|qs (c)<|sr<|ck 4<|en<|re (by cases H;exact pr rdT)
 ·exact lR JH f (sg [0,6,7]) rfl λ s e=>qR<|qr (by cases H;exact pr e)
end
section
variable (a:Int)
def Jeg:St:=⟨(0,.d<|.int .u8 a)::[],[]⟩
variable {a}
theorem IA {z} (H:GG n a=some z):AY Try.prog 61 [.d (.int .u8 a)] (.d (.int .i64 z)):=by
 refine fO 30 (Jeg a) Try.func61<|sr<|ck 1<|en<|sr<|ck 3<|en<|sq<|bk 0<|sr<|ck 4<|gc 1 (decide<|97<=Dc .u8 a 127)<|pA<|ck 1<|en<|cn H (λ H=>?_)<|λ H=>?_
 ·exact sr<|ck 1<|en<|re<|qR<|qr (by cases H;exact pr rd)
 ·refine sr<|ck 4<|gc 1 (decide<|65<=Dc .u8 a 127)<|pA<|ck 1<|en<|cn H (λ H=>?_)<|λ H=>?_
  ·exact sr<|ck 1<|en<|re<|qR<|qr (by cases H;exact pr rd)
  ·refine sr<|ck 4<|gc 1 (decide<|48<=Dc .u8 a 127)<|pA<|ck 1<|en<|cn H (λ H=>?_)<|λ H=>?_
   ·exact sr<|ck 1<|en<|re<|qR<|qr (by cases H;exact pr rd)
   ·refine sr<|ck 3<|en<|cn H (λ H=>?_)<|λ H=>?_
    ·exact sr<|ck 1<|en<|re<|qR<|qr (by cases H;exact pr rd)
    ·exact sk<|qN<|qz<|sr<|ck 1<|en<|re (by cases H;exact pr rd)
end
section
variable (a:(List UInt8)) (b:Int)
def Jeh:St:=⟨(0,.d<|.str a)::[],[]⟩
def Jei:St:=⟨(0,.d<|.str a)::(5,.d<|.int .i64 ((a.length:Nat):Int))::(6,.d<|.int .i64 b)::[],[]⟩
def Jej:St:=⟨[],[]⟩
def Ma:(Unit⊕Bool)->Ex->St->Prop:=xS (xX 0 0<|λ (_:Unit)=>Jej)<|xR ty Try.f73<|λ (y:Bool)=>.d<|.bool y
def Hu:Int->St:=(λ (x:Int)=>Jei a x)
variable {a b}
theorem G1 (x:Int) (z:(Int⊕(Unit⊕Bool))) (H:EC n a x=some z):WP (cxk 15 0) (AX Try.f73) [1,0,1,0,0] (AQ 0 (Hu a) (Ma) z) (Hu a x):=by
 revert H;generalize x=b;intro H;refine sr<|ck 1<|en<|sq<|cn H (λ H=>?_)<|λ H=>?_
 ·refine sk<|qz<|sq<|bk 1<|sr<|ck 2<|en<|sr<|ck 2<|bx H λ j g H=>sp (Gy g)<|bx H λ k h H=>ca false (IA h)<|ck 1<|en<|cn H (λ H=>?_)<|λ H=>?_
  ·exact sr<|ck 1<|en<|re<|qR<|qr (by cases H;exact ro rfl rd)
  ·exact sk<|qN<|qz<|rz<|ck 2<|ae (by cases H;exact og<|sg [0,5,6])
 ·exact ex 0<|qx (by cases H;exact xo rfl<|sg [])
theorem NG {z} (H:GA n a=some z):AY Try.prog 73 [.d (.str a)] (.d (.bool z)):=by
 refine fO 15 (Jeh a) Try.func73<|sr<|ck 1<|en<|sq<|sr<|ck 3<|en<|bk 0<|bx H λ i c H=>?_;rcases i with l|m
 ·exact lX G1 c (sg [0,5,6]) rfl λ s e=>qH<|qs (e)<|sr<|ck 1<|en<|re (by cases H;exact pr rd)
 ·exact lR G1 c (sg [0,5,6]) rfl λ s f=>qR<|qr (by cases H;exact pr f)
end
section
variable (a:Int)
def Jek:St:=⟨(0,.d<|.int .u8 a)::[],[]⟩
variable {a}
theorem RP {z} (H:ML n a=some z):AY Try.prog 74 [.d (.int .u8 a)] (.d (.bool z)):=by
 exact fO 5 (Jek a) Try.func74<|sr<|ck 1<|en<|sr<|ck 3<|en<|re (by cases H;exact pr rd)
end
section
variable (a:Az) (b:Int) (c:Int)
def Jel:St:=⟨(0,.agg [.d<|.str a.Print,.d<|.sl<|a.Cells.map eU8,.d<|.int .u8 a.Left,.d<|.int .u8 a.Right,.d<|.int .i64 a.From,.d<|.int .i64 a.To])::(1,.d<|.int .i64 b)::[],[]⟩
def Jem:St:=⟨(92,.d<|.sl<|a.Cells.map eU8)::(93,.d<|.int .i64 ((a.Cells.length:Nat):Int))::(94,.d<|.int .i64 c)::[],[]⟩
def Jen:St:=⟨[],[]⟩
def Pd:(Unit⊕Bool)->Ex->St->Prop:=xS (xX 0 0<|λ (_:Unit)=>Jen)<|xR ty Try.f57<|λ (y:Bool)=>.d<|.bool y
def JI:Int->St:=(λ (x:Int)=>Jem a x)
variable {a b c}
theorem IV (x:Int) (z:(Int⊕(Unit⊕Bool))) (H:GB n a x=some z):WP (cxk 110 0) (AX Try.f57) [1,1,1,1,1,1,0,1,0,0] (AQ 0 (JI a) (Pd) z) (JI a x):=by
 revert H;generalize x=c;intro H;refine sr<|ck 1<|en<|sq<|cn H (λ H=>?_)<|λ H=>?_
 ·refine sk<|qz<|sq<|bk 1<|sr<|bx H λ p f H=>sp (AM eU8 f)<|ck 2<|en<|sr<|ck 1<|bx H λ o h H=>ca false (RP h)<|ck 3<|gc 1 (!(!o))<|pO<|ck 2<|gc 1 (!((!o)||(p==63)))<|pO<|en<|cn H (λ H=>?_)<|λ H=>?_
  ·exact sr<|ck 1<|en<|re<|qR<|qr (by cases H;exact ro rfl rd)
  ·exact sk<|qN<|qz<|rz<|ck 2<|ae (by cases H;exact og<|sg [92,93,94])
 ·exact ex 0<|qx (by cases H;exact xo rfl<|sg [])
theorem RQ {z} (H:Kq n a b=some z):AY Try.prog 57 [.agg (JG a),.d (.int .i64 b)] (.d (.bool z)):=by
 refine fO 110 (Jel a b) Try.func57<|sr<|ck 2<|en<|sq<|sr<|ck 6<|gc 1 (!(decide<|((a.Print.length:Nat):Int)>4))<|sE (g:=(!(decide<|((a.Print.length:Nat):Int)>4))) (λ hg=>A1 eU8 a.Cells)<|gc 1 (!(decide<|((a.Print.length:Nat):Int)>4))<|pO<|ck 2<|gc 1 (!((decide<|((a.Print.length:Nat):Int)>4)||(decide<|((a.Cells.length:Nat):Int)<1)))<|sE (g:=(!((decide<|((a.Print.length:Nat):Int)>4)||(decide<|((a.Cells.length:Nat):Int)<1)))) (λ hg=>A1 eU8 a.Cells)<|gc 1 (!((decide<|((a.Print.length:Nat):Int)>4)||(decide<|((a.Cells.length:Nat):Int)<1)))<|pO<|en<|cn H (λ H=>?_)<|λ H=>?_
 ·exact sr<|ck 1<|en<|re<|qr (by cases H;exact pr rd)
 ·refine sk<|qz<|sq<|sr<|ck 2<|bx H λ t i H=>ca false (Tw i)<|ck 5<|en<|sr<|ck 2<|en<|cn H (λ H=>?_)<|λ H=>?_
  ·exact sr<|ck 1<|en<|re<|qr (by cases H;exact pr rd)
  ·refine sk<|qz<|sq<|sr<|ck 5<|gc 2 (!(decide<|a.Left<1))<|pO<|ck 2<|gc 2 (!((decide<|a.Left<1)||(decide<|a.Left>63)))<|pO<|ck 2<|gc 2 (!(((decide<|a.Left<1)||(decide<|a.Left>63))||(decide<|a.Right<1)))<|pO<|en<|cn H (λ H=>?_)<|λ H=>?_
   ·exact sr<|ck 1<|en<|re<|qr (by cases H;exact pr rd)
   ·refine sk<|qz<|sq<|sr<|ck 5<|gc 1 (!(decide<|a.From<0))<|ck 1<|gc 1 (!(decide<|a.From<0))<|pO<|ck 2<|gc 2 (!((decide<|a.From<0)||(decide<|a.From>=b)))<|pO<|ck 2<|gc 1 (!(((decide<|a.From<0)||(decide<|a.From>=b))||(decide<|a.To<0)))<|ck 1<|gc 1 (!(((decide<|a.From<0)||(decide<|a.From>=b))||(decide<|a.To<0)))<|pO<|en<|cn H (λ H=>?_)<|λ H=>?_
    ·exact sr<|ck 1<|en<|re<|qr (by cases H;exact pr rd)
    ·refine sk<|qz<|sq<|sr<|ck 2<|bx H λ u j H=>ca false (NG j)<|en<|cn H (λ H=>?_)<|λ H=>?_
     ·exact sr<|ck 6<|gc 1 (((a.Print.length:Nat):Int)==1)<|sE (g:=(((a.Print.length:Nat):Int)==1)) (λ hg=>A1 eU8 a.Cells)<|gc 1 (((a.Print.length:Nat):Int)==1)<|pA<|ck 2<|gc 1 ((((a.Print.length:Nat):Int)==1)&&(((a.Cells.length:Nat):Int)==1))<|bx H λ v k H=>sE (λ hg=>AM eU8<|Eo k hg)<|gc 2 ((((a.Print.length:Nat):Int)==1)&&(((a.Cells.length:Nat):Int)==1))<|pA<|ck 1<|en<|re<|qr (by cases H;exact pr rd)
     ·refine sk<|qz<|sq<|sr<|ck 2<|sp (A1 eU8 a.Cells)<|ck 1<|en<|bk 0<|bx H λ q e H=>?_;rcases q with w|r
      ·exact lX IV e (sg [92,93,94]) rfl λ s l=>qH<|qs (l)<|sr<|ck 1<|en<|re (by cases H;exact pr rd)
      ·exact lR IV e (sg [92,93,94]) rfl λ s m=>qR<|qr (by cases H;exact pr m)
end
section
variable (a:(List Int)) (b:(List Int)) (c:Int)
def Jeo:St:=⟨(0,.d<|.sl<|a.map eU8)::(1,.d<|.sl<|b.map eU8)::[],[]⟩
def Jep:St:=⟨(0,.d<|.sl<|a.map eU8)::(1,.d<|.sl<|b.map eU8)::(12,.d<|.int .i64 ((a.length:Nat):Int))::(13,.d<|.int .i64 c)::[],[]⟩
def Jeq:St:=⟨[],[]⟩
def Pe:(Unit⊕Bool)->Ex->St->Prop:=xS (xX 0 0<|λ (_:Unit)=>Jeq)<|xR ty Try.f75<|λ (y:Bool)=>.d<|.bool y
def JJ:Int->St:=(λ (x:Int)=>Jep a b x)
variable {a b c}
theorem IW (x:Int) (z:(Int⊕(Unit⊕Bool))) (H:GC n a b x=some z):WP (cxk 26 0) (AX Try.f75) [1,1,0,1,0,0] (AQ 0 (JJ a b) (Pe) z) (JJ a b x):=by
 revert H;generalize x=c;intro H;refine sr<|ck 1<|en<|sq<|cn H (λ H=>?_)<|λ H=>?_
 ·refine sk<|qz<|sq<|bk 1<|sr<|ck 2<|en<|sr<|ck 2<|bx H λ m f H=>sp (AM eU8 f)<|ck 3<|bx H λ o g H=>sp (AM eU8 g)<|ck 2<|en<|cn H (λ H=>?_)<|λ H=>?_
  ·exact sr<|ck 1<|en<|re<|qR<|qr (by cases H;exact ro rfl rd)
  ·exact sk<|qN<|qz<|rz<|ck 2<|ae (by cases H;exact og<|sg [0,1,12,13])
 ·exact ex 0<|qx (by cases H;exact xo rfl<|sg [])
theorem RR {z} (H:Kr n a b=some z):AY Try.prog 75 [.d (.sl (a.map eU8)),.d (.sl (b.map eU8))] (.d (.bool z)):=by
 refine fO 26 (Jeo a b) Try.func75<|sr<|ck 1<|en<|sq<|sr<|ck 1<|sp (A1 eU8 a)<|ck 1<|sp (A1 eU8 b)<|ck 1<|en<|cn H (λ H=>?_)<|λ H=>?_
 ·exact sr<|ck 1<|en<|re<|qr (by cases H;exact pr rd)
 ·refine sk<|qz<|sq<|sr<|ck 1<|sp (A1 eU8 a)<|ck 1<|en<|bk 0<|bx H λ h e H=>?_;rcases h with k|l
  ·exact lX IW e (sg [0,1,12,13]) rfl λ s i=>qH<|qs (i)<|sr<|ck 1<|en<|re (by cases H;exact pr rd)
  ·exact lR IW e (sg [0,1,12,13]) rfl λ s j=>qR<|qr (by cases H;exact pr j)
end
section
variable (a:Az) (b:Az)
def Jer:St:=⟨(0,.agg [.d<|.str a.Print,.d<|.sl<|a.Cells.map eU8,.d<|.int .u8 a.Left,.d<|.int .u8 a.Right,.d<|.int .i64 a.From,.d<|.int .i64 a.To])::(1,.agg [.d<|.str b.Print,.d<|.sl<|b.Cells.map eU8,.d<|.int .u8 b.Left,.d<|.int .u8 b.Right,.d<|.int .i64 b.From,.d<|.int .i64 b.To])::[],[]⟩
variable {a b}
theorem RT {z} (H:Ks n a b=some z):AY Try.prog 58 [.agg (JG a),.agg (JG b)] (.d (.bool z)):=by
 exact fO 45 (Jer a b) Try.func58<|sr<|ck 3<|en<|sr<|ck 7<|gc 1 (a.From==b.From)<|ck 1<|gc 2 (a.From==b.From)<|pA<|ck 2<|gc 1 ((a.From==b.From)&&(a.To==b.To))<|ck 1<|gc 2 ((a.From==b.From)&&(a.To==b.To))<|pA<|ck 2<|gc 1 (((a.From==b.From)&&(a.To==b.To))&&(a.Left==b.Left))<|ck 1<|gc 2 (((a.From==b.From)&&(a.To==b.To))&&(a.Left==b.Left))<|pA<|ck 2<|gc 1 ((((a.From==b.From)&&(a.To==b.To))&&(a.Left==b.Left))&&(a.Right==b.Right))<|ck 1<|gc 2 ((((a.From==b.From)&&(a.To==b.To))&&(a.Left==b.Left))&&(a.Right==b.Right))<|pA<|ck 2<|gc 1 (((((a.From==b.From)&&(a.To==b.To))&&(a.Left==b.Left))&&(a.Right==b.Right))&&(a.Print==b.Print))<|ck 1<|gc 1 (((((a.From==b.From)&&(a.To==b.To))&&(a.Left==b.Left))&&(a.Right==b.Right))&&(a.Print==b.Print))<|bx H λ e c H=>cG false (leZ) rfl (λ hg=>RR<|Eo c hg) (Or.inl rfl) (D0 (λ hh=>hh)<|D0 (λ hh=>hh)<|Gi) rfl<|pA<|ck 1<|en<|re (by cases H;exact pr rd)
end
section
variable (a:Aa) (b:Int) (e:Az) (c:(List Az)) (f:Int)
def Jes:St:=⟨(0,.agg [.d<|.int .i64 a.Modes,.d<|.int .u8 a.Accept,.d<|.sl<|a.Rules.map Av])::[],[]⟩
def Jet:St:=⟨(1,.ptr 0 0)::(39,.d<|.sl<|a.Rules.map Av)::(40,.d<|.int .i64 ((a.Rules.length:Nat):Int))::(41,.d<|.int .i64 b)::[],[some<|.box<|Bw a]⟩
def Jeu:St:=⟨[],[]⟩
def Jev:St:=⟨(1,.ptr 0 0)::(4,.d<|.int .i64 b)::(5,.ptr 1 0)::(39,.d<|.sl<|a.Rules.map Av)::(40,.d<|.int .i64 ((a.Rules.length:Nat):Int))::(41,.d<|.int .i64 b)::(55,.d<|.sl<|c.map Av)::(56,.d<|.int .i64 ((c.length:Nat):Int))::(57,.d<|.int .i64 f)::[],[some<|.box<|Bw a,some<|.box<|JG e]⟩
def Jew:St:=⟨(1,.ptr 0 0)::(39,.d<|.sl<|a.Rules.map Av)::(40,.d<|.int .i64 ((a.Rules.length:Nat):Int))::(41,.d<|.int .i64 b)::[],[some<|.box<|Bw a]⟩
def Pf:(Unit⊕(Int×Int))->Ex->St->Prop:=xS (xX 0 2<|λ (_:Unit)=>Jew a b)<|xR ty Try.f37<|λ (y:(Int×Int))=>.tup [.d<|.int .i64 y.1,.d<|.int .i64 y.2]
def JK:Int->St:=(λ (x:Int)=>Jev a b e c x)
def Pg:(Unit⊕(Int×Int))->Ex->St->Prop:=xS (xX 0 0<|λ (_:Unit)=>Jeu)<|xR ty Try.f37<|λ (y:(Int×Int))=>.tup [.d<|.int .i64 y.1,.d<|.int .i64 y.2]
def JL:Int->St:=(λ (x:Int)=>Jet a x)
variable {a b e c f}
theorem IX (x:Int) (z:(Int⊕(Unit⊕(Int×Int)))) (H:E7 n a b e c x=some z):WP (cxk 67 0) (AX Try.f37) [1,1,1,1,0,1,0,0,1,1,0,0,1,1,1,0,0] (AQ 0 (JK a b e c) (Pf a b) z) (JK a b e c x):=by
 revert H;generalize x=f;intro H;refine sr<|ck 1<|en<|sq<|cn H (λ H=>?_)<|λ H=>?_
 ·refine sk<|qz<|sq<|bk 3<|sr<|bx H λ I o H=>sp (AM Av o)<|ck 3<|en<|sr<|ck 2<|bx H λ J p H=>ca false (RT p)<|en<|cn H (λ H=>?_)<|λ H=>?_
  ·exact sr<|ck 3<|en<|re<|qR<|qr (by cases H;exact ro rfl rdT)
  ·exact sk<|qN<|qz<|rz<|ck 2<|ae (by cases H;exact og<|sg [1,4,5,39,40,41,55,56,57])
 ·exact ex 2<|qx (by cases H;exact xo rfl<|sg [1,39,40,41])
theorem IY (x:Int) (z:(Int⊕(Unit⊕(Int×Int)))) (H:E8 n a x=some z):WP (cxk 67 0) (AX Try.f37) [1,1,1,1,0,1,0,0] (AQ 0 (JL a) (Pg) z) (JL a x):=by
 revert H;generalize x=b;intro H;refine sr<|ck 1<|en<|sq<|cn H (λ H=>?_)<|λ H=>?_
 ·refine sk<|qz<|sq<|bk 1<|sr<|ck 1<|bx H λ e q H=>sp (AM Av q)<|ck 4<|en<|sq<|sr<|ck 3<|bx H λ K r H=>ca false (RQ r)<|ck 1<|en<|cn H (λ H=>?_)<|λ H=>?_
  ·exact sr<|ck 3<|en<|re<|qr<|qR<|qr (by cases H;exact ro rfl rdT)
  ·refine sk<|qz<|sr<|ck 3<|bx H λ c t H=>sp (YH Av 6 t)<|sp (A1 Av c)<|ck 1<|en<|bk 2<|bx H λ u h H=>?_;rcases u with A|B
   ·exact lX IX h (sg [1,4,5,39,40,41,55,56,57]) rfl λ s i=>qH<|qN<|qs (i)<|rz<|ck 2<|ae (by cases H;exact og<|sg [1,39,40,41])
   ·exact lR IX h (sg [1,4,5,39,40,41,55,56,57]) rfl λ s j=>qR<|qR<|qr (by cases H;exact ro rfl j)
 ·exact ex 0<|qx (by cases H;exact xo rfl<|sg [])
theorem RU {z} (H:Kt n a=some z):AY Try.prog 37 [.agg (Bw a)] (.tup [.d (.int .i64 z.1),.d (.int .i64 z.2)]):=by
 refine fO 67 (Jes a) Try.func37<|sr<|ck 3<|en<|sq<|sr<|ck 5<|gc 2 (!(decide<|a.Modes<1))<|pO<|en<|cn H (λ H=>?_)<|λ H=>?_
 ·exact sr<|ck 2<|en<|re<|qr (by cases H;exact pr rdT)
 ·refine sk<|qz<|sq<|sr<|ck 5<|gc 2 (!(a.Accept==0))<|ck 1<|gc 1 (!(a.Accept==0))<|bx H λ C v H=>soG (λ hg=>JC<|Eo v hg) (D0 (λ hh=>hh)<|Gi)<|gc 1 (!(a.Accept==0))<|pO<|en<|cn H (λ H=>?_)<|λ H=>?_
  ·exact sr<|ck 2<|en<|re<|qr (by cases H;exact pr rdT)
  ·refine sk<|qz<|sq<|sr<|ck 2<|sp (A1 Av a.Rules)<|ck 3<|gc 1 (!(decide<|((a.Rules.length:Nat):Int)<1))<|sE (g:=(!(decide<|((a.Rules.length:Nat):Int)<1))) (λ hg=>A1 Av a.Rules)<|gc 1 (!(decide<|((a.Rules.length:Nat):Int)<1))<|pO<|en<|cn H (λ H=>?_)<|λ H=>?_
   ·exact sr<|ck 2<|en<|re<|qr (by cases H;exact pr rdT)
   ·refine sk<|qz<|sq<|sr<|ck 2<|sp (A1 Av a.Rules)<|ck 1<|en<|bk 0<|bx H λ w k H=>?_;rcases w with E|G
    ·exact lX IY k (sg [1,39,40,41]) rfl λ s l=>qH<|qs (l)<|sr<|ck 2<|en<|re (by cases H;exact pr rdT)
    ·exact lR IY k (sg [1,39,40,41]) rfl λ s m=>qR<|qr (by cases H;exact pr m)
end
section
variable (a:Aa)
def Jex:St:=⟨(0,.agg [.d<|.int .i64 a.Modes,.d<|.int .u8 a.Accept,.d<|.sl<|a.Rules.map Av])::[],[]⟩
variable {a}
theorem Mb {z} (H:Ku n a=some z):AY Try.prog 22 [.agg (Bw a)] (.d (.bool z)):=by
 exact fO 12 (Jex a) Try.func22<|sr<|ck 2<|en<|sr<|ck 1<|bx H λ c b H=>ca false (RU b)<|ck 5<|en<|sr<|ck 3<|en<|re (by cases H;exact pr rd)
end
def Jey:St:=⟨[],[]⟩
theorem RW {z} (H:MM n=some z):AY Try.prog 76 [] (.agg [.d (.int .i64 z.Mode),.d (.int .i64 z.Last),.d (.int .u8 z.Need)]):=by
 exact fO 2 Jey Try.func76<|sr<|ck 1<|en<|sr<|ck 2<|en<|re (by cases H;exact pr rd)
section
variable (b:Int) (a:Int)
def Jez:St:=⟨(0,.d<|.int .u8 b)::(1,.d<|.int .i64 a)::[],[]⟩
variable {b a}
theorem IB {z} (H:Iw n b a=some z):AY Try.prog 60 [.d (.int .u8 b),.d (.int .i64 a)] (.d (.bool z)):=by
 exact fO 18 (Jez b a) Try.func60<|sr<|ck 1<|en<|sr<|ck 4<|gc 1 (decide<|0<=a)<|pA<|ck 3<|bx H λ e c H=>soG (λ hg=>JC<|Eo c hg) (D0 (λ hh=>hh)<|D0 (λ hh=>hh)<|Gi)<|gc 2 ((decide<|0<=a)&&(decide<|a<8))<|pA<|ck 1<|en<|re (by cases H;exact pr rd)
end
section
variable (b:Aa) (a:Ad) (c:Int)
def JeA:St:=⟨(0,.agg [.d<|.int .i64 b.Modes,.d<|.int .u8 b.Accept,.d<|.sl<|b.Rules.map Av])::(1,.agg [.d<|.int .i64 a.Mode,.d<|.int .i64 a.Last,.d<|.int .u8 a.Need])::(2,.d<|.int .i64 c)::[],[]⟩
variable {b a c}
theorem Nx {z} (H:JF n b a c=some z):AY Try.prog 41 [.agg (Bw b),.agg (RN a),.d (.int .i64 c)] (.tup [.agg [.d (.int .i64 z.1.Mode),.d (.int .i64 z.1.Last),.d (.int .u8 z.1.Need)],.d (.bool z.2)]):=by
 refine fO 78 (JeA b a c) Try.func41<|sr<|ck 4<|en<|sq<|sr<|ck 5<|gc 1 (!(decide<|c<0))<|sE (g:=(!(decide<|c<0))) (λ hg=>A1 Av b.Rules)<|gc 1 (!(decide<|c<0))<|pO<|en<|cn H (λ H=>?_)<|λ H=>?_
 ·exact sr<|ck 3<|en<|re<|qr (by cases H;exact pr rdT)
 ·refine sk<|qz<|sr<|ck 3<|bx H λ e f H=>sp (AM Av f)<|ck 3<|en<|sq<|sr<|ck 7<|gc 1 (!(e.From != a.Mode))<|ck 1<|gc 1 (!(e.From != a.Mode))<|bx H λ o h H=>cG false (leZ) rfl (λ hg=>IB<|Eo h hg) (Or.inl rfl) (D0 (λ hh=>hh)<|D0 (λ hh=>hh)<|Gi) rfl<|gc 1 (!(e.From != a.Mode))<|pO<|en<|cn H (λ H=>?_)<|λ H=>?_
  ·exact sr<|ck 3<|en<|re<|qr (by cases H;exact pr rdT)
  ·refine sk<|qz<|sq<|sr<|ck 3<|en<|cn H (λ H=>?_)<|λ H=>?_
   ·refine sr<|ck 6<|en<|sq<|sr<|ck 2<|en<|cn H (λ H=>?_)<|λ H=>?_
    ·exact sr<|ck 3<|en<|re<|qr<|qr (by cases H;exact pr rdT)
    ·exact sk<|qz<|sr<|ck 8<|en<|re<|qr (by cases H;exact pr rdT)
   ·refine sk<|qz<|sq<|sr<|ck 4<|bx H λ s i H=>sp (Gy i)<|bx H λ p j H=>ca false (IA j)<|bx H λ q k H=>ca false (IB k)<|ck 1<|en<|cn H (λ H=>?_)<|λ H=>?_
    ·exact sr<|ck 3<|en<|re<|qr (by cases H;exact pr rdT)
    ·exact sk<|qz<|sr<|ck 8<|bx H λ t l H=>sp (Gy l)<|bx H λ r m H=>ca false (IA m)<|ck 5<|en<|re (by cases H;exact pr rdT)
end
section
variable (f:Aa) (o:(List Ad)) (p:(List (List Int))) (A:(List (Ad×Int))) (u:Int) (B:(List Ad)) (K:(List (List Int))) (a:(List Ad)) (g:(List (List Int))) (b:(List (Ad×Int))) (L:Int) (C:(List Ad)) (M:(List (List Int))) (J:(List (Ad×Int))) (q:(List Ad)) (w:(List (List Int))) (E:(List (Ad×Int))) (h:(List Ad)) (c:(List (List Int))) (r:(List (Ad×Int))) (G:Int)
def JeB:St:=⟨(0,.agg [.d<|.int .i64 f.Modes,.d<|.int .u8 f.Accept,.d<|.sl<|f.Rules.map Av])::[],[]⟩
def JeC:St:=⟨(1,.ptr 0 0)::(5,.osl 1 3 0<|o.length)::(6,.osl 2 1 0<|p.length)::(7,.mp 3)::(8,.d<|.int .i64 u)::[],[some<|.box<|Bw f,some<|.arr 3<|o.map AU,some<|.narr 1<|p.map<|nL 1 AN,some<|.map true false<|AC AU AN A]⟩
def JeD:St:=⟨(5,.osl 0 3 0<|B.length)::(6,.osl 1 1 0<|K.length)::[],[some<|.arr 3<|B.map AU,some<|.narr 1<|K.map<|nL 1 AN]⟩
def JeE:St:=⟨(1,.ptr 0 0)::(5,.osl 1 3 0<|a.length)::(6,.osl 2 1 0<|g.length)::(7,.mp 3)::(8,.d<|.int .i64 u)::(29,.d<|.int .i64 ((f.Rules.length:Nat):Int))::(30,.d<|.int .i64 L)::[],[some<|.box<|Bw f,some<|.arr 3<|a.map AU,some<|.narr 1<|g.map<|nL 1 AN,some<|.map true false<|AC AU AN b]⟩
def JeF:St:=⟨(1,.ptr 0 0)::(5,.osl 1 3 0<|C.length)::(6,.osl 2 1 0<|M.length)::(7,.mp 3)::(8,.d<|.int .i64 u)::[],[some<|.box<|Bw f,some<|.arr 3<|C.map AU,some<|.narr 1<|M.map<|nL 1 AN,some<|.map true false<|AC AU AN J]⟩
def JeG:St:=⟨(1,.ptr 0 0)::(5,.osl 1 3 0<|q.length)::(6,.osl 2 1 0<|w.length)::(7,.mp 3)::(8,.d<|.int .i64 u)::(29,.d<|.int .i64 ((f.Rules.length:Nat):Int))::(30,.d<|.int .i64 L)::[],[some<|.box<|Bw f,some<|.arr 3<|q.map AU,some<|.narr 1<|w.map<|nL 1 AN,some<|.map true false<|AC AU AN E]⟩
def JeH:St:=⟨(1,.ptr 0 0)::(5,.osl 1 3 0<|h.length)::(6,.osl 2 1 0<|c.length)::(7,.mp 3)::(8,.d<|.int .i64 u)::(12,.d<|.int .i64 G)::(29,.d<|.int .i64 ((f.Rules.length:Nat):Int))::(30,.d<|.int .i64 L)::[],[some<|.box<|Bw f,some<|.arr 3<|h.map AU,some<|.narr 1<|c.map<|nL 1 AN,some<|.map true false<|AC AU AN r]⟩
def MP:((List Ad)×(List<|List Int)×(List<|Ad×Int))->Ex->St->Prop:=xX 0 2<|λ (y:((List Ad)×(List<|List Int)×(List<|Ad×Int)))=>JeF f u y.1 y.2.1 y.2.2
def HX:((List Ad)×(List<|List Int)×(List<|Ad×Int)×Int)->St:=(λ (x:((List Ad)×(List<|List Int)×(List<|Ad×Int)×Int))=>JeE f u x.1 x.2.1 x.2.2.1 x.2.2.2)
def MQ:((List Ad)×(List<|List Int))->Ex->St->Prop:=xX 0 0<|λ (y:((List Ad)×(List<|List Int)))=>JeD y.1 y.2
def HY:((List Ad)×(List<|List Int)×(List<|Ad×Int)×Int)->St:=(λ (x:((List Ad)×(List<|List Int)×(List<|Ad×Int)×Int))=>JeC f x.1 x.2.1 x.2.2.1 x.2.2.2)
variable {f o p A u B K a g b L C M J q w E h c r G}
theorem Mc (x:((List Ad)×(List (List Int))×(List (Ad×Int))×Int)) (z:(((List Ad)×(List (List Int))×(List (Ad×Int))×Int)⊕((List Ad)×(List (List Int))×(List (Ad×Int))))) (H:BT n f u x.1 x.2.1 x.2.2.1 x.2.2.2=some z):WP (cxk 78 0) (AX Try.f59) [1,1,1,1,0,1,0,0,1,0,0,1,0,0] (AQ 0 (HX f u) (MP f u) z) (HX f u x):=by
 obtain⟨a,g,b,L⟩:=x;refine sr<|ck 1<|en<|sq<|cn H (λ H=>?_)<|λ H=>?_
 ·refine sk<|qz<|sj (λ (x:((List Ad)×(List<|List Int)×(List<|Ad×Int)))=>JeG f u L x.1 x.2.1 x.2.2) (λ (x:((List Ad)×(List<|List Int)×(List<|Ad×Int)))=>C1 n L x.1 x.2.1 x.2.2) z ?_ (λ i=>?_)
  ·rintro⟨q,w,E⟩ H;exact rz<|ck 2<|ae (by cases H;exact og<|gP [1,5,6,7,8,29,30] [0,1,2,3]<|po1<|po1<|pn1 (nL 1 AN) w<|po1<|Pl.z)
  refine bk 3<|sr<|ck 2<|en<|sr<|ck 3<|bx H λ ah T H=>sp (Bd 1 3 T)<|sp (CI AU 1 0 (ty 79) T)<|ck 1<|bx H λ I X H=>ca false (Nx X)<|ck 6<|en<|sq<|sr<|ck 2<|en<|cn H (λ H=>?_)<|λ H=>?_
  ·exact ex 3<|qx<|qH<|qs (gP [1,5,6,7,8,29,30] [0,1,2,3]<|po1<|po1<|pn1 (nL 1 AN) g<|po1<|Pl.z)<|i (a,g,b) H
  ·refine sk<|qz<|sr<|ck 2<|sp (JE (enc:=AN) (encK:=AU) (k:=3) (e1:=λ x=>.int .i64 x) (m:=b) (l:=[.d<|.int .i64 I.1.Mode,.d<|.int .i64 I.1.Last,.d<|.int .u8 I.1.Need]) (key:=I.1) (z:=0) (vz:=[.int .i64 0]) QH true)<|ck 5<|en<|sj (λ (x:((List Ad)×(List<|List Int)×(List<|Ad×Int)×Int))=>JeH f u L x.1 x.2.1 x.2.2.1 x.2.2.2) (λ (x:((List Ad)×(List<|List Int)×(List<|Ad×Int)×Int))=>D3 n u L x.1 x.2.1 x.2.2.1 x.2.2.2) z ?_ (λ j=>?_)
   ·rintro⟨h,c,r,G⟩ H;exact bx H λ P O H=>rg (tr (so1 (encN:=(nL 1 AN)) 2 1 O)<|sno (encN:=(nL 1 AN)) (enc:=AN) O [.own 1<|P.map AN] P 1 2 0 1)<|ck 4<|sp (Bd 2 1 O)<|sp (RD (encN:=(nL 1 AN)) (row:=[.osl 4 1 0<|P.length]) (k:=2) (sz:=1) (off:=0) (t:=ty 82) (v:=.osl 4 1 0<|P.length) O)<|ck 2<|bx H λ Q Y H=>sp (Br AN 4 1 Y)<|sp (Bd 2 1 O)<|sp (UO (encN:=(nL 1 AN)) (row:=[.osl 4 1 0<|P.length]) (row':=[.osl 6 1 0<|Q.length]) (k:=2) (sz:=1) (off:=0) (t:=ty 82) (v:=.osl 6 1 0<|Q.length) O)<|ae<|qN<|qs (tr (tr (tr (tr (tr (sni (encN:=(nL 1 AN)) (xs:=c) (n:=G) (enc:=AN) [.osl 6 1 0<|Q.length] Q 1 2 0 6 1)<|scl (encN:=(nL 1 AN)) (xss:=c) G [.own 1<|Q.map AN] 1 2 Q)<|sn 6 2 1<|lsS c G.toNat Q)<|sn 65 2 1<|lsS c G.toNat Q)<|sn 67 2 1<|lsS c G.toNat Q)<|gP [1,5,6,7,8,29,30] [0,1,2,3]<|po1<|po1<|pn1 (nL 1 AN) (List.set c G.toNat Q)<|po1<|Pl.z)<|i (h,(List.set c G.toNat Q),r) H
   refine sr<|ck 2<|en<|cn H (λ H=>?_)<|λ H=>?_
   ·exact sr<|ck 3<|en<|sr<|ck 3<|sp (Kp (enc:=AN) (encK:=AU) (k:=3) (e1:=λ x=>.int .i64 x) (m:=b) (l:=[.d<|.int .i64 I.1.Mode,.d<|.int .i64 I.1.Last,.d<|.int .u8 I.1.Need]) (key:=I.1) (y:=((a.length:Nat):Int)) (v:=.d<|.int .i64 ((a.length:Nat):Int)) (vz:=[.int .i64 0]) QH)<|en<|rz<|ck 3<|bx H λ l4 Z H=>sp (Br AU 1 3 Z)<|ck 1<|sK false<|bx H λ l5 U H=>sp (JbN (encN:=(nL 1 AN)) (esz:=1) (k:=2) (e:=[.nil]) U)<|ck 2<|ae<|qs (tr (JdB (encN:=(nL 1 AN)) (xss:=g) (yss:=l5) (y:=([]:(List Int))) (row:=[.own 0 []]) (sz:=1) 7 (by kernel_rfl) (JbD U) (by kernel_rfl))<|gP [1,5,6,7,8,12,29,30] [0,6,7,3]<|po1<|po1<|pn1 (nL 1 AN) l5<|po1<|Pl.z)<|j (l4,l5,(DY I.1 ((a.length:Nat):Int) b),((a.length:Nat):Int)) H
   ·exact sk<|qs (gP [1,5,6,7,8,12,29,30] [0,1,2,3]<|po1<|po1<|pn1 (nL 1 AN) g<|po1<|Pl.z)<|j (a,g,b,(Option.getD (BK I.1 b) 0)) H
 ·exact ex 2<|qx (by cases H;exact xo rfl<|gP [1,5,6,7,8] [0,1,2,3]<|po1<|po1<|pn1 (nL 1 AN) g<|po1<|Pl.z)
theorem Md (x:((List Ad)×(List (List Int))×(List (Ad×Int))×Int)) (z:(((List Ad)×(List (List Int))×(List (Ad×Int))×Int)⊕((List Ad)×(List (List Int))))) (H:C2 n f x.1 x.2.1 x.2.2.1 x.2.2.2=some z):WP (cxk 78 0) (AX Try.f59) [1,1,1,1,0,1,0,0] (AQ 0 (HY f) (MQ) z) (HY f x):=by
 obtain⟨o,p,A,u⟩:=x;refine sq<|sr<|ck 4<|en<|cn H (λ H=>?_)<|λ H=>?_
 ·exact sk<|qz<|sq<|bk 1<|sr<|ck 2<|sp (A1 Av f.Rules)<|ck 1<|en<|bk 2<|bx H λ ab ac H=>lX Mc ac (gP [1,5,6,7,8,29,30] [0,1,2,3]<|po1<|po1<|pn1 (nL 1 AN) p<|po1<|Pl.z) rfl λ s V=>qH<|qN<|qs (V)<|rz<|ck 3<|ae (by cases H;exact og<|gP [1,5,6,7,8] [0,1,2,3]<|po1<|po1<|pn1 (nL 1 AN) ab.2.1<|po1<|Pl.z)
 ·exact ex 0<|qx (by cases H;exact xo rfl<|gP [5,6] [1,2]<|po1<|pn1 (nL 1 AN) p<|Pl.z)
theorem JM {z} (H:FV n f=some z):AY Try.prog 59 [.agg (Bw f)] (.tup [.own 3 (z.1.map AU),.d (.sl (z.2.map (eL AN)))]):=by
 exact fO 78 (JeB f) Try.func59<|sr<|ck 3<|en<|sr<|bx H λ R af H=>ca false (RW af)<|ck 2<|en<|sr<|ck 2<|sK true<|ck 2<|en<|sq<|rg (YD (sz:=1) (es:=[[.nil]]) 3 (List.map (nL 1 AN) ([[]]:List (List Int))) (by kernel_rfl) (by kernel_rfl))<|ck 2<|sp (Kp (enc:=AN) (encK:=AU) (k:=4) (e1:=λ x=>.int .i64 x) (m:=[]) (l:=[.d<|.int .i64 R.Mode,.d<|.int .i64 R.Last,.d<|.int .u8 R.Need]) (key:=R) (y:=0) (v:=.d<|.int .i64 0) (vz:=[.int .i64 0]) QH)<|ck 2<|en<|sq<|sr<|ck 1<|en<|bk 0<|bx H λ S ag H=>lX Md ag (gP [1,5,6,7,8] [0,2,3,4]<|po1<|po1<|pn1 (nL 1 AN) ([[]]:List (List Int))<|po1<|Pl.z) rfl λ s W=>qH<|qs (W)<|sr<|ck 4<|ae<|qs (JbF (encN:=(nL 1 AN)) (encD:=(eL AN)) (xss:=S.2) (k:=1) (sz:=1) 3 (by kernel_rfl) (λ _=>rfl)<|λ _=>rfl)<|re (by cases H;exact pr<|rT (vs:=[.osl 0 3 0<|S.1.length,.d<|.sl<|S.2.map<|eL AN]) [0]<|t1 (ao vo)<|t1 (ad vd)<|t0)
end
section
variable (a:Aa)
def JeI:St:=⟨(0,.agg [.d<|.int .i64 a.Modes,.d<|.int .u8 a.Accept,.d<|.sl<|a.Rules.map Av])::[],[]⟩
variable {a}
theorem PV {z} (H:Lp n a=some z):AY Try.prog 38 [.agg (Bw a)] (.own 3 (z.map AU)):=by
 exact fO 11 (JeI a) Try.func38<|sr<|ck 2<|en<|sr<|ck 1<|bx H λ b c H=>cl [List.length b.1] (JM c)<|ck 5<|en<|sr<|ck 2<|en<|re (by cases H;exact pr<|rO (v:=.osl 1 3 0<|b.1.length) [1]<|ao vo)
end
section
variable (a:Aa) (b:Ad)
def JeJ:St:=⟨(0,.agg [.d<|.int .i64 a.Modes,.d<|.int .u8 a.Accept,.d<|.sl<|a.Rules.map Av])::(1,.agg [.d<|.int .i64 b.Mode,.d<|.int .i64 b.Last,.d<|.int .u8 b.Need])::[],[]⟩
variable {a b}
theorem JN {z} (H:FW n a b=some z):AY Try.prog 40 [.agg (Bw a),.agg (RN b)] (.d (.bool z)):=by
 exact fO 22 (JeJ a b) Try.func40<|sr<|ck 3<|en<|sr<|ck 7<|gc 1 (decide<|b.Mode<a.Modes)<|ck 1<|gc 1 (decide<|b.Mode<a.Modes)<|bx H λ c e H=>cG false (leZ) rfl (λ hg=>IB<|Eo e hg) (Or.inl rfl) (D0 (λ hh=>hh)<|D0 (λ hh=>hh)<|Gi) rfl<|pA<|ck 2<|gc 1 ((decide<|b.Mode<a.Modes)&&c)<|bx H λ g f H=>cG false (leZ) rfl (λ hg=>IB<|Eo f hg) (Or.inl rfl) (D0 (λ hh=>hh)<|Gi) rfl<|pA<|ck 1<|en<|re (by cases H;exact pr rd)
end
section
variable (g:Aa) (a:((List Ad)×(List (List Int)))) (b:(List Bool)) (h:(List Int)) (C:Int) (t:(List Bool)) (A:(List Int)) (i:(List Bool)) (p:(List Int)) (j:(List Bool)) (q:(List Int)) (u:(List Bool)) (o:(List Int)) (c:(List Bool)) (l:(List Int)) (E:Int) (w:(List Bool)) (B:(List Int)) (m:(List Bool)) (r:(List Int))
def JeK:St:=⟨(0,.agg [.d<|.int .i64 g.Modes,.d<|.int .u8 g.Accept,.d<|.sl<|g.Rules.map Av])::[],[]⟩
def JeL:St:=⟨(1,.ptr 0 0)::(4,.d<|.sl<|a.2.map<|eL AN)::(5,.osl 1 1 0<|b.length)::(6,.osl 2 1 0<|h.length)::(20,.d<|.sl<|a.1.map AU)::(21,.d<|.int .i64 ((a.1.length:Nat):Int))::(22,.d<|.int .i64 C)::[],[some<|.box<|Bw g,some<|.arr 1<|b.map eB,some<|.arr 1<|h.map AN]⟩
def JeM:St:=⟨(4,.d<|.sl<|a.2.map<|eL AN)::(5,.osl 0 1 0<|t.length)::(6,.osl 1 1 0<|A.length)::[],[some<|.arr 1<|t.map eB,some<|.arr 1<|A.map AN]⟩
def JeN:St:=⟨(1,.ptr 0 0)::(4,.d<|.sl<|a.2.map<|eL AN)::(5,.osl 1 1 0<|i.length)::(6,.osl 2 1 0<|p.length)::(20,.d<|.sl<|a.1.map AU)::(21,.d<|.int .i64 ((a.1.length:Nat):Int))::(22,.d<|.int .i64 C)::[],[some<|.box<|Bw g,some<|.arr 1<|i.map eB,some<|.arr 1<|p.map AN]⟩
def Ph:((List Bool)×(List Int))->Ex->St->Prop:=xX 0 0<|λ (y:((List Bool)×(List Int)))=>JeM a y.1 y.2
def JO:((List Bool)×(List Int)×Int)->St:=(λ (x:((List Bool)×(List Int)×Int))=>JeL g a x.1 x.2.1 x.2.2)
def JeO:St:=⟨(4,.d<|.sl<|a.2.map<|eL AN)::(5,.osl 0 1 0<|j.length)::(6,.osl 1 1 0<|q.length)::[],[some<|.arr 1<|j.map eB,some<|.arr 1<|q.map AN]⟩
def JeP:St:=⟨(5,.osl 0 1 0<|u.length)::[],[some<|.arr 1<|u.map eB]⟩
def JeQ:St:=⟨(4,.d<|.sl<|a.2.map<|eL AN)::(5,.osl 0 1 0<|c.length)::(6,.osl 1 1 0<|l.length)::(55,.d<|.sl<|o.map AN)::(56,.d<|.int .i64 ((o.length:Nat):Int))::(57,.d<|.int .i64 E)::[],[some<|.arr 1<|c.map eB,some<|.arr 1<|l.map AN]⟩
def JeR:St:=⟨(4,.d<|.sl<|a.2.map<|eL AN)::(5,.osl 0 1 0<|w.length)::(6,.osl 1 1 0<|B.length)::[],[some<|.arr 1<|w.map eB,some<|.arr 1<|B.map AN]⟩
def JeS:St:=⟨(4,.d<|.sl<|a.2.map<|eL AN)::(5,.osl 0 1 0<|m.length)::(6,.osl 1 1 0<|r.length)::(55,.d<|.sl<|o.map AN)::(56,.d<|.int .i64 ((o.length:Nat):Int))::(57,.d<|.int .i64 E)::[],[some<|.arr 1<|m.map eB,some<|.arr 1<|r.map AN]⟩
def Pi:((List Bool)×(List Int))->Ex->St->Prop:=xX 0 4<|λ (y:((List Bool)×(List Int)))=>JeR a y.1 y.2
def JP:((List Bool)×(List Int)×Int)->St:=(λ (x:((List Bool)×(List Int)×Int))=>JeQ a o x.1 x.2.1 x.2.2)
def Pj:(List Bool)->Ex->St->Prop:=xX 0 2<|λ (y:(List Bool))=>JeP y
def JR:((List Bool)×(List Int))->St:=(λ (x:((List Bool)×(List Int)))=>JeO a x.1 x.2)
variable {g a b h C t A i p j q u o c l E w B m r}
theorem NH (x:((List Bool)×(List Int)×Int)) (z:(((List Bool)×(List Int)×Int)⊕((List Bool)×(List Int)))) (H:D8 n g a x.1 x.2.1 x.2.2=some z):WP (cxk 75 0) (AX Try.f39) [1,1,1,1,0,1,0,0] (AQ 0 (JO g a) (Ph a) z) (JO g a x):=by
 obtain⟨b,h,C⟩:=x;refine sr<|ck 1<|en<|sq<|cn H (λ H=>?_)<|λ H=>?_
 ·refine sk<|qz<|sj (λ (x:((List Bool)×(List Int)))=>JeN g a C x.1 x.2) (λ (x:((List Bool)×(List Int)))=>E9 n C x.1 x.2) z ?_ (λ e=>?_)
  ·rintro⟨i,p⟩ H;exact rz<|ck 2<|ae (by cases H;exact og<|sg [1,4,5,6,20,21,22])
  refine bk 1<|sr<|ck 1<|bx H λ ai S H=>sp (AM AU S)<|ck 4<|en<|sr<|ck 2<|bx H λ aj T H=>ca false (JN T)<|en<|cn H (λ H=>?_)<|λ H=>?_
  ·exact sr<|ck 2<|bx H λ ak K H=>sp (Bd 1 1 K)<|bx H λ l7 J H=>stA eB 1 0 (ty 4) K J<|en<|rg (tr (sn 5 1 1<|Bb J)<|sn 30 1 1<|Bb J)<|ck 3<|bx H λ l8 U H=>sp (Br AN 2 1 U)<|ck 1<|ae<|qN<|qs (sg [1,4,5,6,20,21,22])<|e (l7,l8) H
  ·exact sk<|qN<|qs (sg [1,4,5,6,20,21,22])<|e (b,h) H
 ·exact ex 0<|qx (by cases H;exact xo rfl<|sg [4,5,6])
theorem NI (x:((List Bool)×(List Int)×Int)) (z:(((List Bool)×(List Int)×Int)⊕((List Bool)×(List Int)))) (H:D9 n a o x.1 x.2.1 x.2.2=some z):WP (cxk 75 0) (AX Try.f39) [1,1,1,1,1,0,0,0,1,0,1,1,1,0,0] (AQ 0 (JP a o) (Pi a) z) (JP a o x):=by
 obtain⟨c,l,E⟩:=x;refine sr<|ck 1<|en<|sq<|cn H (λ H=>?_)<|λ H=>?_
 ·refine sk<|qz<|sj (λ (x:((List Bool)×(List Int)))=>JeS a o E x.1 x.2) (λ (x:((List Bool)×(List Int)))=>Fa n E x.1 x.2) z ?_ (λ f=>?_)
  ·rintro⟨m,r⟩ H;exact rz<|ck 2<|ae (by cases H;exact og<|sg [4,5,6,55,56,57])
  refine bk 5<|sr<|bx H λ ap V H=>sp (AM AN V)<|ck 2<|en<|sr<|ck 2<|bx H λ ar L H=>sp (Bd 0 1 L)<|sp (CI eB 0 0 (ty 4) L)<|ck 1<|en<|cn H (λ H=>?_)<|λ H=>?_
  ·exact sr<|ck 2<|bx H λ au M H=>sp (Bd 0 1 M)<|bx H λ W G H=>stA eB 0 0 (ty 4) M G<|en<|rg (tr (tr (sn 5 0 1<|Bb G)<|sn 61 0 1<|Bb G)<|sn 66 0 1<|Bb G)<|ck 3<|bx H λ X Y H=>sp (Br AN 1 1 Y)<|ck 1<|ae<|qN<|qs (sg [4,5,6,55,56,57])<|f (W,X) H
  ·exact sk<|qN<|qs (sg [4,5,6,55,56,57])<|f (c,l) H
 ·exact ex 4<|qx (by cases H;exact xo rfl<|sg [4,5,6])
theorem NJ (x:((List Bool)×(List Int))) (z:(((List Bool)×(List Int))⊕(List Bool))) (H:GD n a x.1 x.2=some z):WP (cxk 75 0) (AX Try.f39) [1,1,1,1,1,0,0,0] (AQ 0 (JR a) (Pj) z) (JR a x):=by
 obtain⟨j,q⟩:=x;refine sq<|sr<|ck 3<|en<|cn H (λ H=>?_)<|λ H=>?_
 ·exact sk<|qz<|bk 3<|sr<|ck 4<|bx H λ av O H=>sp (Bd 1 1 O)<|sp (CI AN 1 0 (ty 3) O)<|ck 1<|en<|sr<|ck 4<|bx H λ l9 I H=>sp (UN 1 1 I)<|ck 1<|en<|sq<|rg (Yx (k:=1) (sz:=1) 6 (l9.map AN) (l9.length) (by kernel_rfl) (Rx I) (UK (enc:=AN) I)<|Ry I)<|ck 2<|bx H λ o Z H=>sp (AM (eL AN) Z)<|ck 1<|sp (A1 AN o)<|ck 1<|en<|bk 4<|bx H λ aw aa H=>lX NI aa (sg [4,5,6,55,56,57]) rfl λ s P=>qH<|qN (by cases H;exact og<|tr (P)<|sg [4,5,6])
 ·exact ex 2<|qx (by cases H;exact xo rfl<|sg [5])
theorem RX {z} (H:Kv n g=some z):AY Try.prog 39 [.agg (Bw g)] (.own 1 (z.map eB)):=by
 exact fO 75 (JeK g) Try.func39<|sr<|ck 2<|en<|sr<|ck 1<|bx H λ a ab H=>ca false (JM ab)<|ck 5<|en<|sr<|ck 1<|sp (A1 AU a.1)<|bx H λ l6 ac H=>sp (JcD eB 1 ac)<|ck 1<|en<|sr<|ck 1<|en<|sq<|sr<|ck 1<|sp (A1 AU a.1)<|ck 1<|en<|bk 0<|bx H λ ay af H=>lX NH af (tr (As.nilo 6 1 (by kernel_rfl))<|sg [1,4,5,6,20,21,22]) rfl λ s Q=>qH<|qs (Q)<|sq<|bk 2<|bx H λ az ag H=>lX NJ ag (sg [4,5,6]) rfl λ s R=>qH<|qs (R)<|sr<|ck 2<|en<|re (by cases H;exact pr<|rO (v:=.osl 0 1 0<|z.length) [0]<|ao vo)
end
section
variable (a:(List Af)) (b:Af) (c:Int)
def JeT:St:=⟨(0,.d<|.sl<|a.map Ax)::(1,.agg [.d<|.int .u8 b.Cell,.d<|.str b.Print,.d<|.int .i64 b.To])::[],[]⟩
def JeU:St:=⟨(0,.d<|.sl<|a.map Ax)::(3,.ptr 0 0)::(7,.d<|.int .i64 ((a.length:Nat):Int))::(8,.d<|.int .i64 c)::[],[some<|.box<|Tv b]⟩
def JeV:St:=⟨[],[]⟩
def PW:(Unit⊕Int)->Ex->St->Prop:=xS (xX 0 0<|λ (_:Unit)=>JeV)<|xR ty Try.f80<|λ (y:Int)=>.d<|.int .i64 y
def K3:Int->St:=(λ (x:Int)=>JeU a b x)
variable {a b c}
theorem JS (x:Int) (z:(Int⊕(Unit⊕Int))) (H:FX n a b x=some z):WP (cxk 19 0) (AX Try.f80) [1,0,1,0,0] (AQ 0 (K3 a b) (PW) z) (K3 a b x):=by
 revert H;generalize x=c;intro H;refine sr<|ck 1<|en<|sq<|cn H (λ H=>?_)<|λ H=>?_
 ·refine sk<|qz<|sq<|bk 1<|sr<|ck 2<|en<|sr<|ck 3<|bx H λ j h H=>sp (AM Ax h)<|ck 2<|en<|cn H (λ H=>?_)<|λ H=>?_
  ·exact sr<|ck 2<|en<|re<|qR<|qr (by cases H;exact ro rfl rd)
  ·exact sk<|qN<|qz<|rz<|ck 2<|ae (by cases H;exact og<|sg [0,3,7,8])
 ·exact ex 0<|qx (by cases H;exact xo rfl<|sg [])
theorem Tx {z} (H:Pa n a b=some z):AY Try.prog 80 [.d (.sl (a.map Ax)),.agg (Tv b)] (.d (.int .i64 z)):=by
 refine fO 19 (JeT a b) Try.func80<|sr<|ck 2<|en<|sq<|sr<|ck 1<|sp (A1 Ax a)<|ck 1<|en<|bk 0<|bx H λ i e H=>?_;rcases i with k|l
 ·exact lX JS e (sg [0,3,7,8]) rfl λ s f=>qH<|qs (f)<|sr<|ck 1<|en<|re (by cases H;exact pr rd)
 ·exact lR JS e (sg [0,3,7,8]) rfl λ s g=>qR<|qr (by cases H;exact pr g)
end
section
variable (b:(List Af)) (a:Af)
def JeW:St:=⟨(0,.d<|.sl<|b.map Ax)::(1,.agg [.d<|.int .u8 a.Cell,.d<|.str a.Print,.d<|.int .i64 a.To])::[],[]⟩
variable {b a}
theorem RY {z} (H:Kw n b a=some z):AY Try.prog 77 [.d (.sl (b.map Ax)),.agg (Tv a)] (.d (.bool z)):=by
 exact fO 9 (JeW b a) Try.func77<|sr<|ck 2<|en<|sr<|ck 2<|bx H λ e c H=>ca false (Tx c)<|ck 2<|en<|re (by cases H;exact pr rd)
end
section
variable (b:BR) (c:(List UInt8)) (e:(List UInt8)) (g:(List UInt8)) (h:(List UInt8)) (f:(List UInt8)) (i:(List UInt8)) (j:(List UInt8)) (k:(List UInt8))
def JeX:St:=⟨(0,.agg [.d<|.int .i64 b.Side,.d<|.str b.Text])::(1,.d<|.str c)::(2,.d<|.str e)::[],[]⟩
def JeY:St:=⟨(1,.d<|.str g)::(2,.d<|.str h)::(6,.ptr 0 0)::[],[some<|.box [.d<|.int .i64 0,.d<|.str []]]⟩
def JeZ:St:=⟨(1,.d<|.str f)::(2,.d<|.str i)::(6,.ptr 0 0)::[],[some<|.box [.d<|.int .i64 0,.d<|.str []]]⟩
def Je0:St:=⟨(1,.d<|.str j)::(2,.d<|.str k)::(6,.ptr 0 0)::[],[some<|.box [.d<|.int .i64 0,.d<|.str []]]⟩
def KM:(((List UInt8)×(List UInt8))⊕BR)->Ex->St->Prop:=xS (xX 0 1<|λ (y:((List UInt8)×(List UInt8)))=>Je0 y.1 y.2)<|xR ty Try.f63<|λ (y:BR)=>.agg [.d<|.int .i64 y.Side,.d<|.str y.Text]
def Gq:((List UInt8)×(List UInt8))->St:=(λ (x:((List UInt8)×(List UInt8)))=>JeZ x.1 x.2)
variable {b c e g h f i j k}
theorem F3 (x:((List UInt8)×(List UInt8))) (z:(((List UInt8)×(List UInt8))⊕(((List UInt8)×(List UInt8))⊕BR))) (H:DL n x.1 x.2=some z):WP (cxk 51 0) (AX Try.f63) [1,1,0,0,0] (AQ 0 (Gq) (KM) z) (Gq x):=by
 obtain⟨f,i⟩:=x;refine sq<|sr<|ck 4<|gc 1 (!(f==[]))<|pA<|en<|cn H (λ H=>?_)<|λ H=>?_
 ·refine sk<|qz<|bk 2<|sq<|sr<|ck 1<|bx H λ G p H=>sp (Gy p)<|ck 1<|bx H λ I q H=>sp (Gy q)<|ck 1<|en<|cn H (λ H=>?_)<|λ H=>?_
  ·exact sr<|ck 2<|en<|re<|qr<|qR (by cases H;exact ro rfl rd)
  ·exact sk<|qz<|rz<|ck 1<|bx H λ J r H=>sp (Ko r)<|ck 1<|bx H λ K t H=>sp (Ko t)<|ck 2<|ae<|qN (by cases H;exact og<|sg [1,2,6])
 ·exact ex 1<|qx (by cases H;exact xo rfl<|sg [1,2,6])
theorem Me {z} (H:Fb n b c e=some z):AY Try.prog 63 [.agg [.d (.int .i64 b.Side),.d (.str b.Text)],.d (.str c),.d (.str e)] (.agg [.d (.int .i64 z.Side),.d (.str z.Text)]):=by
 refine fO 51 (JeX b c e) Try.func63<|sr<|ck 2<|en<|sj (λ (x:((List UInt8)×(List UInt8)))=>JeY x.1 x.2) (λ (x:((List UInt8)×(List UInt8)))=>Ck n x.1 x.2) z ?_ (λ a=>?_)
 ·rintro⟨g,h⟩ H;refine sq<|bk 1<|bx H λ u l H=>?_;rcases u with A|B
  ·refine lX F3 l (sg [1,2,6]) rfl λ s m=>qH<|qs (m)<|sq<|bk 3<|sr<|ck 3<|en<|cn H (λ H=>?_)<|λ H=>?_
   ·exact sr<|ck 3<|en<|re<|qR<|qr (by cases H;exact pr rd)
   ·refine sr<|ck 3<|en<|cn H (λ H=>?_)<|λ H=>?_
    ·exact sr<|ck 3<|en<|re<|qR<|qr (by cases H;exact pr rd)
    ·exact sk<|qN<|qz<|sr<|ck 2<|en<|re (by cases H;exact pr rd)
  ·exact lR F3 l (sg [1,2,6]) rfl λ s o=>qR<|qr (by cases H;exact pr o)
 refine sr<|ck 2<|en<|bk 0<|sr<|ck 2<|en<|cn H (λ H=>?_)<|λ H=>?_
 ·exact rz<|ck 3<|bx H λ C v H=>sp (RC v)<|ck 1<|ae<|qN<|qs (sg [1,2,6])<|a (C,e) H
 ·refine sr<|ck 2<|en<|cn H (λ H=>?_)<|λ H=>?_
  ·exact rz<|ck 3<|bx H λ E w H=>sp (RC w)<|ck 1<|ae<|qN<|qs (sg [1,2,6])<|a (c,E) H
  ·refine sr<|ck 2<|en<|cn H (λ H=>?_)<|λ H=>?_
   ·exact sr<|ck 2<|en<|re<|qR<|qr (by cases H;exact pr rd)
   ·exact sk<|qN<|qs (sg [1,2,6])<|a (c,e) H
end
section
variable (e:Ah) (h:Ah)
def Je1:St:=⟨(0,.agg [.d<|.int .i64 e.Pair.A,.d<|.int .i64 e.Pair.B,.d<|.int .i64 e.Lead.Side,.d<|.str e.Lead.Text])::[],[]⟩
def Je2:St:=⟨(1,.ptr 0 0)::(2,.ptr 1 0)::[],[some<|.box<|IU h,some<|.box [.d<|.int .i64 0,.d<|.int .i64 0,.d<|.int .i64 0,.d<|.str []]]⟩
variable {e h}
theorem KN {z} (H:Ea n e=some z):AY Try.prog 64 [.agg (IU e)] (.agg [.d (.int .i64 z.Pair.A),.d (.int .i64 z.Pair.B),.d (.int .i64 z.Lead.Side),.d (.str z.Lead.Text)]):=by
 refine fO 48 (Je1 e) Try.func64<|sr<|ck 2<|en<|sq<|sr<|ck 9<|gc 2 (!(decide<|e.Pair.A<e.Pair.B))<|ck 1<|gc 4 (!(decide<|e.Pair.A<e.Pair.B))<|ck 1<|gc 3 ((!(decide<|e.Pair.A<e.Pair.B))&&(e.Pair.A==e.Pair.B))<|pG (g:=(!(decide<|e.Pair.A<e.Pair.B))) (v:=.d<|.bool<|(e.Pair.A==e.Pair.B)&&(e.Lead.Side != 2)) (λ hg=>WT (c:=.gv (!(decide<|e.Pair.A<e.Pair.B))<|.d<|.bool<|e.Pair.A==e.Pair.B) (a:=.gv ((!(decide<|e.Pair.A<e.Pair.B))&&(e.Pair.A==e.Pair.B))<|.d<|.bool<|e.Lead.Side != 2) (b:=.d<|.bool false) rfl rfl rfl ((λ hh=>hh) hg) (λ ht=>by rw[(λ hh=>hh) hg,ht];rfl) trivial)<|pO<|en<|cn H (λ H=>?_)<|λ H=>?_
 ·exact sr<|ck 2<|en<|re<|qr (by cases H;exact pr rd)
 ·refine sk<|qz<|sr<|ck 12<|en<|sj (λ (x:Ah)=>Je2 x) (λ (x:Ah)=>Cp n x) z ?_ (λ f=>?_)
  ·intro h H;exact sr<|ck 2<|en<|re (by cases H;exact pr rd)
  refine sr<|ck 3<|en<|bk 0<|sr<|ck 2<|en<|cn H (λ H=>?_)<|λ H=>?_
  ·exact rz<|ck 3<|ae<|qN<|qs (sg [1,2])<|f ({ Pair:=({ A:=e.Pair.B,B:=e.Pair.A }:Am),Lead:=({ Side:=2,Text:=e.Lead.Text }:BR) }:Ah) H
  ·refine sr<|ck 2<|en<|cn H (λ H=>?_)<|λ H=>?_
   ·exact rz<|ck 3<|ae<|qN<|qs (sg [1,2])<|f ({ Pair:=({ A:=e.Pair.B,B:=e.Pair.A }:Am),Lead:=({ Side:=1,Text:=e.Lead.Text }:BR) }:Ah) H
   ·exact sk<|qN<|qs (sg [1,2])<|f ({ Pair:=({ A:=e.Pair.B,B:=e.Pair.A }:Am),Lead:=e.Lead }:Ah) H
end
section
variable (a:(List Int)) (f:(List Int)) (e:(List Int)) (h:Int) (i:Int) (g:(List Int))
def Zn:St:=⟨(0,.osl 0 1 0<|a.length)::[],[some<|.arr 1<|a.map eU8]⟩
def Zo:St:=⟨[],[some<|.arr 1<|f.map eU8]⟩
def Zp:St:=⟨(0,.osl 0 1 0<|e.length)::(2,.d<|.int .i64 h)::(3,.d<|.int .i64 i)::[],[some<|.arr 1<|e.map eU8]⟩
def Zq:St:=⟨[],[some<|.arr 1<|g.map eU8]⟩
def NK:(List Int)->Ex->St->Prop:=xX 1 0<|λ (y:(List Int))=>Zq y
def IZ:((List Int)×Int×Int)->St:=(λ (x:((List Int)×Int×Int))=>Zp x.1 x.2.1 x.2.2)
variable {a f e h i g}
theorem MR (x:((List Int)×Int×Int)) (z:(((List Int)×Int×Int)⊕(List Int))) (H:Ep n x.1 x.2.1 x.2.2=some z):WP (cxk 28 1) (AX Try.f65) [1,0,0] (AQ 1 (IZ) (NK) z) (IZ x):=by
 obtain⟨e,h,i⟩:=x;refine sq<|sr<|ck 3<|en<|cn H (λ H=>?_)<|λ H=>?_
 ·exact sk<|qz<|sq<|bk 1<|rz<|ck 6<|bx H λ q j H=>sp (Bd 0 1 j)<|sp (CI eU8 0 0 (ty 52) j)<|ck 2<|bx H λ r k H=>sp (Bd 0 1 k)<|sp (CI eU8 0 0 (ty 52) k)<|bx H λ t l H=>sp (Bd 0 1 l)<|bx H λ u b H=>stA eU8 0 0 (ty 52) l b<|bx H λ v m H=>sp (VJ 0 1 ((Bb b)) m)<|bx H λ w c H=>stA eU8 0 0 (ty 52) m c<|ae<|qN<|qz<|rg (tr (tr (tr (tr (sn 0 0 1<|Eq.trans (Bb b)<|Bb c)<|sn 14 0 1<|Eq.trans (Bb b)<|Bb c)<|sn 16 0 1<|Eq.trans (Bb b)<|Bb c)<|sn 18 0 1<|Eq.trans (Bb b)<|Bb c)<|sn 22 0 1<|Eq.trans (Bb b)<|Bb c)<|ck 6<|ae (by cases H;exact og<|sg [0,2,3])
 ·exact ex 0<|qx (by cases H;exact xo rfl<|sg [])
theorem PX {z} (H:Ix n a=some z):CH Try.prog 65 [.osl 0 1 0 (a.length)] [some (.arr 1 (a.map eU8))] 1 (.tup []) [some (.arr 1 (z.map eU8))]:=by
 exact fL 28 1 (Zn a) Try.func65<|sr<|ck 5<|en<|bk 0<|bx H λ A p H=>lX MR p (sg [0,2,3]) rfl λ s o=>qH (by cases H;exact pL'<|rl (s':=Zo z)<|tr (o)<|sg [])
end
section
variable (a:Bi) (b:(List Int)) (c:(List ((List Ah)×Int))) (f:(List Int))
def Je3:St:=⟨(0,.dptr (Ht a) 0)::[],[]⟩
def Je4:St:=⟨(0,.d<|dPG Aq c)::(3,.osl 0 1 0<|b.length)::[],[some<|.arr 1<|b.map eU8]⟩
def Je5:St:=⟨(3,.osl 0 1 0<|f.length)::[],[some<|.arr 1<|f.map eU8]⟩
def JT:(List Int)->Ex->St->Prop:=xX 0 0<|λ (y:(List Int))=>Je5 y
def F4:((List Int)×(List<|(List Ah)×Int))->St:=(λ (x:((List Int)×(List<|(List Ah)×Int)))=>Je4 x.1 x.2)
variable {a b c f}
theorem Jc (x:((List Int)×(List ((List Ah)×Int)))) (z:(((List Int)×(List ((List Ah)×Int)))⊕(List Int))) (H:De n x.1 x.2=some z):WP (cxk 23 0) (AX Try.f46) [1,1,0,0,0] (AQ 0 (F4) (JT) z) (F4 x):=by
 obtain⟨b,c⟩:=x;refine sq<|sq<|bx H λ g1 i H=>rg (JcH (e:=Aq) 0 (Pb i) (by kernel_rfl))<|ck 4<|xpn (xok _ _) Aq (t:=117) (tt:=120) (r:=g1.From) (by kernel_rfl)<|en<|cn H (λ H=>?_)<|λ H=>?_
 ·exact sk<|qz<|sq<|bk 1<|rz<|ck 6<|bx H λ m j H=>sp (Br eU8 0 1 j)<|ck 1<|ae<|qN<|qz<|rz<|ck 5<|ae (by cases H;exact og<|sg [0,3])
 ·exact ex 0<|qx (by cases H;exact xo rfl<|sg [3])
theorem Ls {z} (H:ED n a=some z):AY Try.prog 46 [.dptr (Ht a) 0] (.own 1 (z.map eU8)):=by
 exact fO 23 (Je3 a) Try.func46<|sr<|ck 1<|en<|sr<|ck 1<|en<|sq<|bk 0<|bx H λ o k H=>lX Jc k (tr (tr (QG (e:=Ht a) 0 (by kernel_rfl))<|As.nilo 3 1 (by kernel_rfl))<|sg [0,3]) rfl λ s g=>qH<|qs (g)<|sr<|ck 1<|bx H λ p l H=>lt [0] (PX l)<|bx H λ _ h H=>en<|sq<|rg (tr (sn 3 0 1<|QF h)<|sn 20 0 1<|QF h)<|ck 2<|en<|re (by cases H;exact pr<|rO (v:=.osl 0 1 0<|z.length) [0]<|ao vo)
end
section
variable (b:(List Int)) (a:(List Int)) (c:Int)
def Je6:St:=⟨(0,.d<|.sl<|b.map eU8)::(1,.d<|.sl<|a.map eU8)::[],[]⟩
def Je7:St:=⟨(0,.d<|.sl<|b.map eU8)::(12,.d<|.sl<|a.map eU8)::(13,.d<|.int .i64 ((a.length:Nat):Int))::(14,.d<|.int .i64 c)::[],[]⟩
def Je8:St:=⟨[],[]⟩
def NL:(Unit⊕Bool)->Ex->St->Prop:=xS (xX 0 0<|λ (_:Unit)=>Je8)<|xR ty Try.f47<|λ (y:Bool)=>.d<|.bool y
def I0:Int->St:=(λ (x:Int)=>Je7 b a x)
variable {b a c}
theorem HZ (x:Int) (z:(Int⊕(Unit⊕Bool))) (H:Er n b a x=some z):WP (cxk 26 0) (AX Try.f47) [1,1,0,1,0,0] (AQ 0 (I0 b a) (NL) z) (I0 b a x):=by
 revert H;generalize x=c;intro H;refine sr<|ck 1<|en<|sq<|cn H (λ H=>?_)<|λ H=>?_
 ·refine sk<|qz<|sq<|bk 1<|sr<|ck 1<|bx H λ k h H=>sp (AM eU8 h)<|ck 3<|en<|sr<|ck 2<|bx H λ l i H=>sp (AM eU8 i)<|ck 3<|en<|cn H (λ H=>?_)<|λ H=>?_
  ·exact sr<|ck 1<|en<|re<|qR<|qr (by cases H;exact ro rfl rd)
  ·exact sk<|qN<|qz<|rz<|ck 2<|ae (by cases H;exact og<|sg [0,12,13,14])
 ·exact ex 0<|qx (by cases H;exact xo rfl<|sg [])
theorem K4 {z} (H:GX n b a=some z):AY Try.prog 47 [.d (.sl (b.map eU8)),.d (.sl (a.map eU8))] (.d (.bool z)):=by
 refine fO 26 (Je6 b a) Try.func47<|sr<|ck 1<|en<|sq<|sr<|ck 1<|sp (A1 eU8 b)<|ck 1<|sp (A1 eU8 a)<|ck 1<|en<|cn H (λ H=>?_)<|λ H=>?_
 ·exact sr<|ck 1<|en<|re<|qr (by cases H;exact pr rd)
 ·refine sk<|qz<|sq<|sr<|ck 1<|sp (A1 eU8 a)<|ck 1<|en<|bk 0<|bx H λ j e H=>?_;rcases j with m|o
  ·exact lX HZ e (sg [0,12,13,14]) rfl λ s f=>qH<|qs (f)<|sr<|ck 1<|en<|re (by cases H;exact pr rd)
  ·exact lR HZ e (sg [0,12,13,14]) rfl λ s g=>qR<|qr (by cases H;exact pr g)
end
section
variable (a:(List (List UInt8))) (b:(List UInt8))
def Je9:St:=⟨(0,.d<|.sl<|a.map eS)::(1,.d<|.str b)::[],[]⟩
variable {a b}
theorem PY {z} (H:CW n a b=some z):AY Try.prog 48 [.d (.sl (a.map eS)),.d (.str b)] (.d (.sl (z.map eS))):=by
 refine fO 46 (Je9 a b) Try.func48<|sr<|ck 1<|en<|sq<|bk 0<|sr<|ck 1<|sp (A1 eS a)<|ck 2<|en<|cn H (λ H=>?_)<|λ H=>?_
 ·exact sr<|ck 3<|ae<|qs (fz (enc:=eS) (xs:=[b]) 4 0 1)<|re<|qR<|qr (by cases H;exact pr rd)
 ·refine sr<|ck 2<|bx H λ k c H=>sp (AM eS c)<|ck 3<|en<|cn H (λ H=>?_)<|λ H=>?_
  ·exact sr<|ck 2<|bx H λ e f H=>sp (AM eS f)<|ck 3<|ae<|qs (fz (enc:=eS) (xs:=[b,e]) 4 0 1)<|re<|qR<|qr (by cases H;exact pr rd)
  ·refine sr<|ck 2<|bx H λ l g H=>sp (AM eS g)<|ck 3<|en<|cn H (λ H=>?_)<|λ H=>?_
   ·exact sr<|ck 2<|en<|re<|qR<|qr (by cases H;exact pr rd)
   ·refine sr<|ck 1<|sp (A1 eS a)<|ck 4<|bx H λ m h H=>sE (λ hg=>AM eS<|Eo h hg)<|gc 2 (!(((a.length:Nat):Int)==1))<|pO<|ck 1<|en<|cn H (λ H=>?_)<|λ H=>?_
    ·exact sr<|ck 1<|bx H λ i j H=>sp (AM eS j)<|ck 4<|ae<|qs (fz (enc:=eS) (xs:=[i,b]) 4 0 1)<|re<|qR<|qr (by cases H;exact pr rd)
    ·exact sk<|qN<|qz<|sr<|ck 2<|en<|re (by cases H;exact pr rd)
end
section
variable (f:Ap) (g:(List Int)) (i:(List (List (List (List UInt8))))) (w:Int) (A:(List (List (List (List UInt8))))) (b:(List (List (List (List UInt8))))) (c:Int) (B:(List (List (List (List UInt8))))) (l:(List (List (List UInt8)))) (a:(List (List (List UInt8)))) (h:Int) (C:(List (List (List (List UInt8))))) (E:(List (List UInt8))) (q:(List EY)) (G:(List (List UInt8))) (r:Int) (Q:(List (List UInt8))) (L:(List (List UInt8))) (u:EY) (I:(List (List UInt8))) (M:(List (List UInt8))) (R:Int) (S:(List (List UInt8)))
def Jfa:St:=⟨(0,.dptr (Aw f) 0)::(1,.d<|.sl<|g.map eU8)::[],[]⟩
def Jfb:St:=⟨(0,.dptr (Aw f) 0)::(1,.d<|.sl<|g.map eU8)::(5,.eptr 0 1 0 0)::(15,.d<|.int .i64 w)::[],[some<|.narr 1<|List.map (nL 1<|eL eS) i]⟩
def Jfc:St:=⟨(0,.dptr (Aw f) 0)::(1,.d<|.sl<|g.map eU8)::(5,.eptr 0 1 0 0)::[],[some<|.narr 1<|List.map (nL 1<|eL eS) A]⟩
def JU:(List<|List<|List<|List UInt8)->Ex->St->Prop:=xX 0 0<|λ (y:(List<|List<|List<|List UInt8))=>Jfc f g y
def F5:((List<|List<|List<|List UInt8)×Int)->St:=(λ (x:((List<|List<|List<|List UInt8)×Int))=>Jfb f g x.1 x.2)
def Jfd:St:=⟨(0,.dptr (Aw f) 0)::(1,.d<|.sl<|g.map eU8)::(5,.eptr 0 1 0 0)::(7,.d<|.int .i64 c)::[],[some<|.narr 1<|List.map (nL 1<|eL eS) b]⟩
def Jfe:St:=⟨(5,.eptr 0 1 0 0)::[],[some<|.narr 1<|List.map (nL 1<|eL eS) B]⟩
def Jff:St:=⟨(0,.dptr (Aw f) 0)::(1,.d<|.sl<|g.map eU8)::(5,.eptr 0 1 0 0)::(7,.d<|.int .i64 c)::(8,.osl 1 1 0<|a.length)::(38,.d<|.int .i64 ((l.length:Nat):Int))::(39,.d<|.int .i64 h)::[],[some<|.narr 1<|List.set (List.map (nL 1<|eL eS) b) (Int.toNat<|A8 c 5) [.osl 1 1 0<|a.length],some<|.arr 1<|a.map<|eL eS]⟩
def Jfg:St:=⟨(0,.dptr (Aw f) 0)::(1,.d<|.sl<|g.map eU8)::(5,.eptr 0 1 0 0)::(7,.d<|.int .i64 c)::[],[some<|.narr 1<|List.map (nL 1<|eL eS) C]⟩
def Jfh:St:=⟨(0,.dptr (Aw f) 0)::(1,.d<|.sl<|g.map eU8)::(5,.eptr 0 1 0 0)::(7,.d<|.int .i64 c)::(8,.osl 1 1 0<|a.length)::(9,.d<|.int .i64 h)::(10,.osl 2 1 0<|E.length)::(38,.d<|.int .i64 ((l.length:Nat):Int))::(39,.d<|.int .i64 h)::[],[some<|.narr 1<|List.set (List.map (nL 1<|eL eS) b) (Int.toNat<|A8 c 5) [.osl 1 1 0<|a.length],some<|.arr 1<|a.map<|eL eS,some<|.arr 1<|E.map eS]⟩
def Jfi:St:=⟨(0,.dptr (Aw f) 0)::(1,.d<|.sl<|g.map eU8)::(5,.eptr 0 1 0 0)::(7,.d<|.int .i64 c)::(8,.osl 1 1 0<|a.length)::(9,.d<|.int .i64 h)::(10,.d<|.sl<|G.map eS)::(38,.d<|.int .i64 ((l.length:Nat):Int))::(39,.d<|.int .i64 h)::(62,.d<|.sl<|q.map Be)::(63,.d<|.int .i64 ((q.length:Nat):Int))::(64,.d<|.int .i64 r)::[],[some<|.narr 1<|List.set (List.map (nL 1<|eL eS) b) (Int.toNat<|A8 c 5) [.osl 1 1 0<|a.length],some<|.arr 1<|a.map<|eL eS]⟩
def Jb6:St:=⟨(0,.dptr (Aw f) 0)::(1,.d<|.sl<|g.map eU8)::(5,.eptr 0 1 0 0)::(7,.d<|.int .i64 c)::(8,.osl 1 1 0<|a.length)::(9,.d<|.int .i64 h)::(10,.d<|.sl<|Q.map eS)::(38,.d<|.int .i64 ((l.length:Nat):Int))::(39,.d<|.int .i64 h)::[],[some<|.narr 1<|List.set (List.map (nL 1<|eL eS) b) (Int.toNat<|A8 c 5) [.osl 1 1 0<|a.length],some<|.arr 1<|a.map<|eL eS]⟩
def Jb7:St:=⟨(0,.dptr (Aw f) 0)::(1,.d<|.sl<|g.map eU8)::(5,.eptr 0 1 0 0)::(7,.d<|.int .i64 c)::(8,.osl 1 1 0<|a.length)::(9,.d<|.int .i64 h)::(10,.d<|.sl<|L.map eS)::(38,.d<|.int .i64 ((l.length:Nat):Int))::(39,.d<|.int .i64 h)::(62,.d<|.sl<|q.map Be)::(63,.d<|.int .i64 ((q.length:Nat):Int))::(64,.d<|.int .i64 r)::[],[some<|.narr 1<|List.set (List.map (nL 1<|eL eS) b) (Int.toNat<|A8 c 5) [.osl 1 1 0<|a.length],some<|.arr 1<|a.map<|eL eS]⟩
def Jb8:St:=⟨(0,.dptr (Aw f) 0)::(1,.d<|.sl<|g.map eU8)::(5,.eptr 0 1 0 0)::(7,.d<|.int .i64 c)::(8,.osl 1 1 0<|a.length)::(9,.d<|.int .i64 h)::(10,.d<|.sl<|M.map eS)::(12,.ptr 2 0)::(38,.d<|.int .i64 ((l.length:Nat):Int))::(39,.d<|.int .i64 h)::(62,.d<|.sl<|q.map Be)::(63,.d<|.int .i64 ((q.length:Nat):Int))::(64,.d<|.int .i64 r)::(86,.d<|.sl<|I.map eS)::(87,.d<|.int .i64 ((I.length:Nat):Int))::(88,.d<|.int .i64 R)::[],[some<|.narr 1<|List.set (List.map (nL 1<|eL eS) b) (Int.toNat<|A8 c 5) [.osl 1 1 0<|a.length],some<|.arr 1<|a.map<|eL eS,some<|.box<|Jd7 u]⟩
def Jb9:St:=⟨(0,.dptr (Aw f) 0)::(1,.d<|.sl<|g.map eU8)::(5,.eptr 0 1 0 0)::(7,.d<|.int .i64 c)::(8,.osl 1 1 0<|a.length)::(9,.d<|.int .i64 h)::(10,.d<|.sl<|S.map eS)::(38,.d<|.int .i64 ((l.length:Nat):Int))::(39,.d<|.int .i64 h)::(62,.d<|.sl<|q.map Be)::(63,.d<|.int .i64 ((q.length:Nat):Int))::(64,.d<|.int .i64 r)::[],[some<|.narr 1<|List.set (List.map (nL 1<|eL eS) b) (Int.toNat<|A8 c 5) [.osl 1 1 0<|a.length],some<|.arr 1<|a.map<|eL eS]⟩
def JV:(List<|List UInt8)->Ex->St->Prop:=xX 0 8<|λ (y:(List<|List UInt8))=>Jb9 f g b c l a h q r y
def F6:((List<|List UInt8)×Int)->St:=(λ (x:((List<|List UInt8)×Int))=>Jb8 f g b c l a h q r u I x.1 x.2)
def JW:(List<|List UInt8)->Ex->St->Prop:=xX 0 6<|λ (y:(List<|List UInt8))=>Jb6 f g b c l a h y
def F7:((List<|List UInt8)×Int)->St:=(λ (x:((List<|List UInt8)×Int))=>Jfi f g b c l a h q x.1 x.2)
def JX:(List<|List<|List<|List UInt8)->Ex->St->Prop:=xX 0 4<|λ (y:(List<|List<|List<|List UInt8))=>Jfg f g c y
def F8:((List<|List<|List UInt8)×Int)->St:=(λ (x:((List<|List<|List UInt8)×Int))=>Jff f g b c l x.1 x.2)
def JY:(List<|List<|List<|List UInt8)->Ex->St->Prop:=xX 0 2<|λ (y:(List<|List<|List<|List UInt8))=>Jfe y
def F9:((List<|List<|List<|List UInt8)×Int)->St:=(λ (x:((List<|List<|List<|List UInt8)×Int))=>Jfd f g x.1 x.2)
variable {f g i w A b c B l a h C E q G r Q L u I M R S}
theorem Jd (x:((List (List (List (List UInt8))))×Int)) (z:(((List (List (List (List UInt8))))×Int)⊕(List (List (List (List UInt8)))))) (H:CD n f g x.1 x.2=some z):WP (cxk 109 0) (AX Try.f26) [1,1,0,1,0,0] (AQ 0 (F5 f g) (JU f g) z) (F5 f g x):=by
 obtain⟨i,w⟩:=x;refine sr<|ck 1<|en<|sq<|cn H (λ H=>?_)<|λ H=>?_
 ·exact sk<|qz<|sq<|bk 1<|sr<|ck 2<|en<|bx H λ a9 ab H=>rg (so1 (encN:=(nL 1<|eL eS)) 0 1 ab)<|ck 5<|sp (A1 (eL Be) f.Arcs)<|bx H λ T W H=>sp (YK 1 (ez:=[.nil]) W)<|bx H λ bd ac H=>sp (NY 0 1 0 5 (j:=0) ac)<|sp (UO (encN:=(nL 1<|eL eS)) (row:=[.own 1<|a9.map<|eL eS]) (row':=[.osl 1 1 0<|Int.toNat ((f.Arcs.length:Nat):Int)]) (k:=0) (sz:=1) (off:=0) (t:=ty 125) (v:=.osl 1 1 0<|Int.toNat ((f.Arcs.length:Nat):Int)) ab)<|ae<|qN<|qz<|rg (tr (tr (tr (tr (JdU (e:=(eL eS)) (n:=((f.Arcs.length:Nat):Int)) 1 (RE W) (by kernel_rfl) rfl)<|sn 24 1 1<|NX W)<|snr (encN:=(nL 1<|eL eS)) (xs:=i) (n:=w) [.osl 1 1 0<|Int.toNat ((f.Arcs.length:Nat):Int)] 1 0 0 1 1<|NX W)<|sni (encN:=(nL 1<|eL eS)) (xs:=i) (n:=w) (enc:=(eL eS)) [.osl 1 1 0<|T.length] T 1 0 0 1 1)<|scl (encN:=(nL 1<|eL eS)) (xss:=i) w [.own 1<|T.map<|eL eS] 1 0 T)<|ck 2<|ae (by cases H;exact og<|gP [0,1,5,15] [0]<|pn1 (nL 1<|eL eS) (List.set i w.toNat T)<|Pl.z)
 ·exact ex 0<|qx (by cases H;exact xo rfl<|gP [0,1,5] [0]<|pn1 (nL 1<|eL eS) i<|Pl.z)
theorem Je (x:((List (List UInt8))×Int)) (z:(((List (List UInt8))×Int)⊕(List (List UInt8)))) (H:B0 n f g b c l a h q r u I x.1 x.2=some z):WP (cxk 109 0) (AX Try.f26) [1,1,1,0,1,0,0,1,0,0,1,1,0,0,1,1,0,0,1,1,1,0,1,0,0,1,1,0,0,1,1,1,0,0] (AQ 0 (F6 f g b c l a h q r u I) (JV f g b c l a h q r) z) (F6 f g b c l a h q r u I x):=by
 obtain⟨M,R⟩:=x;refine sr<|ck 1<|en<|sq<|cn H (λ H=>?_)<|λ H=>?_
 ·exact sk<|qz<|sq<|bk 9<|sr<|bx H λ be af H=>sp (AM eS af)<|ck 2<|en<|rz<|ck 4<|bx H λ s5 ag H=>sp (RC ag)<|bx H λ bf ah H=>ca false (PY ah)<|ck 1<|ae<|qN<|qz<|rz<|ck 2<|ae (by cases H;exact og<|gP [0,1,5,7,8,9,10,12,38,39,62,63,64,86,87,88] [0,1,2]<|Pl.n _ (nrH (n:=Int.toNat<|A8 c 5) (row:=[.osl 1 1 0<|a.length]) (row':=[.osl 1 1 0<|a.length]) (nrM (encN:=(nL 1<|eL eS)) (xss:=b) λ _=>rfl) rfl)<|po1<|po1<|Pl.z)
 ·exact ex 8<|qx (by cases H;exact xo rfl<|gP [0,1,5,7,8,9,10,38,39,62,63,64] [0,1]<|Pl.n _ (nrH (n:=Int.toNat<|A8 c 5) (row:=[.osl 1 1 0<|a.length]) (row':=[.osl 1 1 0<|a.length]) (nrM (encN:=(nL 1<|eL eS)) (xss:=b) λ _=>rfl) rfl)<|po1<|Pl.z)
theorem Jf (x:((List (List UInt8))×Int)) (z:(((List (List UInt8))×Int)⊕(List (List UInt8)))) (H:B1 n f g b c l a h q x.1 x.2=some z):WP (cxk 109 0) (AX Try.f26) [1,1,1,0,1,0,0,1,0,0,1,1,0,0,1,1,0,0,1,1,1,0,1,0,0] (AQ 0 (F7 f g b c l a h q) (JW f g b c l a h) z) (F7 f g b c l a h q x):=by
 obtain⟨G,r⟩:=x;refine sr<|ck 1<|en<|sq<|cn H (λ H=>?_)<|λ H=>?_
 ·refine sk<|qz<|sj (λ (x:(List<|List UInt8))=>Jb7 f g b c l a h q r x) (λ (x:(List<|List UInt8))=>Df n r x) z ?_ (λ o=>?_)
  ·intro L H;exact rz<|ck 2<|ae (by cases H;exact og<|gP [0,1,5,7,8,9,10,38,39,62,63,64] [0,1]<|Pl.n _ (nrH (n:=Int.toNat<|A8 c 5) (row:=[.osl 1 1 0<|a.length]) (row':=[.osl 1 1 0<|a.length]) (nrM (encN:=(nL 1<|eL eS)) (xss:=b) λ _=>rfl) rfl)<|po1<|Pl.z)
  refine bk 7<|sr<|bx H λ u ai H=>sp (AM Be ai)<|ck 3<|en<|sq<|sr<|ck 2<|bx H λ bg aj H=>sp (RG eU8 1 aj)<|ck 2<|bx H λ bh ak H=>ca false (K4 ak)<|ck 1<|en<|cn H (λ H=>?_)<|λ H=>?_
  ·exact ex 7<|qx<|qH<|qs (gP [0,1,5,7,8,9,10,38,39,62,63,64] [0,1]<|Pl.n _ (nrH (n:=Int.toNat<|A8 c 5) (row:=[.osl 1 1 0<|a.length]) (row':=[.osl 1 1 0<|a.length]) (nrM (encN:=(nL 1<|eL eS)) (xss:=b) λ _=>rfl) rfl)<|po1<|Pl.z)<|o G H
  ·exact sk<|qz<|sq<|bx H λ _ X H=>bx H λ J O H=>rg (tr (JdV (encN:=(nL 1<|eL eS)) (xss:=b) (m:=(A8 c 5)) (n:=(A8 (Bg .i64 c ((u.Cells.length:Nat):Int)) 5)) (row:=[.osl 1 1 0<|a.length]) (sz:=1) 0 (by kernel_rfl) O<|Nu X)<|VG (enc:=(eL eS)) (es:=List.set (List.map (nL 1<|eL eS) b) (Int.toNat<|A8 c 5) [.osl 1 1 0<|a.length]) (n:=Int.toNat<|A8 (Bg .i64 c ((u.Cells.length:Nat):Int)) 5) (row:=[.own 1<|J.map<|eL eS]) (sz:=1) (ys:=J) 0 0 1 [.osl 3 1 0<|J.length] (JgL O) (by kernel_rfl) rfl (by kernel_rfl))<|ck 3<|sp (A1 eU8 u.Cells)<|ck 2<|bx H λ bi al H=>sp (NY 0 1 0 5 (j:=0) al)<|sp (JdX (encN:=(nL 1<|eL eS)) (xss:=b) (m:=(A8 c 5)) (row:=[.osl 1 1 0<|a.length]) (row2:=[.osl 3 1 0<|J.length]) (k:=0) (sz:=1) (off:=0) (t:=ty 125) (v:=.osl 3 1 0<|J.length) O)<|ck 2<|bx H λ I Y H=>sp (Bd 3 1 Y)<|sp (CI (eL eS) 3 0 (ty 59) Y)<|sp (A1 eS I)<|ck 1<|en<|bk 8<|bx H λ ba am H=>lX Je am (tr (tr (VH (enc:=(eL eS)) (zs:=J) (es:=List.set (List.map (nL 1<|eL eS) b) (Int.toNat<|A8 c 5) [.osl 1 1 0<|a.length]) (n:=Int.toNat<|A8 (Bg .i64 c ((u.Cells.length:Nat):Int)) 5) (row:=[.osl 3 1 0<|J.length]) (sz:=1) 0 0 3 1 [.own 1<|J.map<|eL eS] (by kernel_rfl) rfl rfl)<|JdW (encN:=(nL 1<|eL eS)) (xss:=b) (x:=J) (m:=(A8 c 5)) (n:=(A8 (Bg .i64 c ((u.Cells.length:Nat):Int)) 5)) (row:=[.osl 1 1 0<|a.length]) (sz:=1) 0 (by kernel_rfl) O<|Nu X)<|gP [0,1,5,7,8,9,10,12,38,39,62,63,64,86,87,88] [0,1,2]<|Pl.n _ (nrH (n:=Int.toNat<|A8 c 5) (row:=[.osl 1 1 0<|a.length]) (row':=[.osl 1 1 0<|a.length]) (nrM (encN:=(nL 1<|eL eS)) (xss:=b) λ _=>rfl) rfl)<|po1<|po1<|Pl.z) rfl λ s ap=>qH<|qN<|qs (tr (ap)<|gP [0,1,5,7,8,9,10,38,39,62,63,64] [0,1]<|Pl.n _ (nrH (n:=Int.toNat<|A8 c 5) (row:=[.osl 1 1 0<|a.length]) (row':=[.osl 1 1 0<|a.length]) (nrM (encN:=(nL 1<|eL eS)) (xss:=b) λ _=>rfl) rfl)<|po1<|Pl.z)<|o ba H
 ·exact ex 6<|qx (by cases H;exact xo rfl<|gP [0,1,5,7,8,9,10,38,39] [0,1]<|Pl.n _ (nrH (n:=Int.toNat<|A8 c 5) (row:=[.osl 1 1 0<|a.length]) (row':=[.osl 1 1 0<|a.length]) (nrM (encN:=(nL 1<|eL eS)) (xss:=b) λ _=>rfl) rfl)<|po1<|Pl.z)
theorem Jg (x:((List (List (List UInt8)))×Int)) (z:(((List (List (List UInt8)))×Int)⊕(List (List (List (List UInt8)))))) (H:B3 n f g b c l x.1 x.2=some z):WP (cxk 109 0) (AX Try.f26) [1,1,1,0,1,0,0,1,0,0,1,1,0,0] (AQ 0 (F8 f g b c l) (JX f g c) z) (F8 f g b c l x):=by
 obtain⟨a,h⟩:=x;refine sr<|ck 1<|en<|sq<|cn H (λ H=>?_)<|λ H=>?_
 ·refine sk<|qz<|sq<|bk 5<|sr<|ck 2<|en<|sr<|ck 1<|en<|sj (λ (x:(List<|List UInt8))=>Jfh f g b c l a h x) (λ (x:(List<|List UInt8))=>CE n f g b c l a h x) z ?_ (λ p=>?_)
  ·intro E H;exact sq<|sr<|ck 5<|bx H λ q ar H=>sp (AM (eL Be) ar)<|ck 1<|sp (A1 Be q)<|ck 1<|en<|bk 6<|bx H λ bj au H=>lX Jf au (tr (fz (enc:=eS) (xs:=E) 10 2 1)<|gP [0,1,5,7,8,9,10,38,39,62,63,64] [0,1]<|Pl.n _ (nrH (n:=Int.toNat<|A8 c 5) (row:=[.osl 1 1 0<|a.length]) (row':=[.osl 1 1 0<|a.length]) (nrM (encN:=(nL 1<|eL eS)) (xss:=b) λ _=>rfl) rfl)<|po1<|Pl.z) rfl λ s av=>qH<|qs (av)<|rz<|ck 3<|bx H λ bl Z H=>sp (Bd 1 1 Z)<|bx H λ aw P H=>stA (eL eS) 1 0 (ty 59) Z P<|ae<|qN<|qz<|rg (tr (tr (sn 8 1 1<|Bb P)<|sn 100 1 1<|Bb P)<|snr (encN:=(nL 1<|eL eS)) (xs:=b) (n:=A8 c 5) [.osl 1 1 0<|a.length] 1 0 0 1 1<|Bb P)<|ck 2<|ae (by cases H;exact og<|gP [0,1,5,7,8,38,39] [0,1]<|Pl.n _ (nrH (n:=Int.toNat<|A8 c 5) (row:=[.osl 1 1 0<|aw.length]) (row':=[.osl 1 1 0<|aw.length]) (nrM (encN:=(nL 1<|eL eS)) (xss:=b) λ _=>rfl) rfl)<|po1<|Pl.z)
  refine sr<|ck 2<|sp (A1 eU8 g)<|ck 3<|gc 3 (c==((g.length:Nat):Int))<|ck 1<|bx H λ bm ay H=>sE (λ hg=>AM eB<|Eo ay hg)<|gc 1 (c==((g.length:Nat):Int))<|pA<|en<|cn H (λ H=>?_)<|λ H=>?_
  ·exact rz<|ck 2<|ae<|qs (gP [0,1,5,7,8,9,10,38,39] [0,1,2]<|Pl.n _ (nrH (n:=Int.toNat<|A8 c 5) (row:=[.osl 1 1 0<|a.length]) (row':=[.osl 1 1 0<|a.length]) (nrM (encN:=(nL 1<|eL eS)) (xss:=b) λ _=>rfl) rfl)<|po1<|po1<|Pl.z)<|p ([[]]) H
  ·exact sk<|qs (tr (As.nilo 10 1 (by kernel_rfl))<|gP [0,1,5,7,8,9,10,38,39] [0,1,2]<|Pl.n _ (nrH (n:=Int.toNat<|A8 c 5) (row:=[.osl 1 1 0<|a.length]) (row':=[.osl 1 1 0<|a.length]) (nrM (encN:=(nL 1<|eL eS)) (xss:=b) λ _=>rfl) rfl)<|po1<|po1<|Pl.z)<|p ([]:List (List UInt8)) H
 ·exact ex 4<|qx (by cases H;exact xo rfl<|tr (tr (sni (encN:=(nL 1<|eL eS)) (xs:=b) (n:=A8 c 5) (enc:=(eL eS)) [.osl 1 1 0<|a.length] a 1 0 0 1 1)<|scl (encN:=(nL 1<|eL eS)) (xss:=b) (A8 c 5) [.own 1<|a.map<|eL eS] 1 0 a)<|gP [0,1,5,7] [0]<|pn1 (nL 1<|eL eS) (List.set b (Int.toNat<|A8 c 5) a)<|Pl.z)
theorem Jh (x:((List (List (List (List UInt8))))×Int)) (z:(((List (List (List (List UInt8))))×Int)⊕(List (List (List (List UInt8)))))) (H:Dg n f g x.1 x.2=some z):WP (cxk 109 0) (AX Try.f26) [1,1,1,0,1,0,0] (AQ 0 (F9 f g) (JY) z) (F9 f g x):=by
 obtain⟨b,c⟩:=x;refine sq<|sr<|ck 2<|en<|cn H (λ H=>?_)<|λ H=>?_
 ·exact sk<|qz<|sq<|bk 3<|sq<|bx H λ l U H=>rg (tr (so1 (encN:=(nL 1<|eL eS)) 0 1 U)<|sno (encN:=(nL 1<|eL eS)) (enc:=(eL eS)) U [.own 1<|l.map<|eL eS] l 1 0 0 1)<|ck 2<|bx H λ bn az H=>sp (NY 0 1 0 5 (j:=0) az)<|sp (RD (encN:=(nL 1<|eL eS)) (row:=[.osl 1 1 0<|l.length]) (k:=0) (sz:=1) (off:=0) (t:=ty 125) (v:=.osl 1 1 0<|l.length) U)<|ck 1<|en<|sr<|ck 3<|en<|bk 4<|bx H λ bb a0 H=>lX Jg a0 (gP [0,1,5,7,8,38,39] [0,1]<|Pl.n _ (nrH (n:=Int.toNat<|A8 c 5) (row:=[.osl 1 1 0<|l.length]) (row':=[.osl 1 1 0<|l.length]) (nrM (encN:=(nL 1<|eL eS)) (xss:=b) λ _=>rfl) rfl)<|po1<|Pl.z) rfl λ s a2=>qH<|qN<|qs (a2)<|rz<|ck 3<|ae (by cases H;exact og<|gP [0,1,5,7] [0]<|pn1 (nL 1<|eL eS) bb<|Pl.z)
 ·exact ex 2<|qx (by cases H;exact xo rfl<|gP [5] [0]<|pn1 (nL 1<|eL eS) b<|Pl.z)
theorem Lt {z} (H:EE n f g=some z):AY Try.prog 26 [.dptr (Aw f) 0,.d (.sl (g.map eU8))] (.d (.sl (z.map eS))):=by
 exact fO 109 (Jfa f g) Try.func26<|sr<|ck 1<|en<|sr<|ck 1<|en<|sq<|sq<|rg (tr (tr (JbG 0 [.nil,.nil,.nil,.nil,.nil] (by kernel_rfl))<|YD (sz:=1) (es:=[[.nil],[.nil],[.nil],[.nil],[.nil]]) 0 (List.map (nL 1<|eL eS) ([[],[],[],[],[]]:List (List<|List<|List UInt8))) (by kernel_rfl) (by kernel_rfl))<|Jgy 5 0 1 (by kernel_rfl))<|ck 1<|en<|bk 0<|bx H λ bc a3 H=>lX Jd a3 (gP [0,1,5,15] [0]<|pn1 (nL 1<|eL eS) ([[],[],[],[],[]]:List (List<|List<|List UInt8))<|Pl.z) rfl λ s a4=>qH<|qs (a4)<|sq<|sr<|ck 1<|sp (A1 eU8 g)<|ck 1<|en<|bk 2<|bx H λ a5 a6 H=>lX Jh a6 (gP [0,1,5,7] [0]<|pn1 (nL 1<|eL eS) bc<|Pl.z) rfl λ s a7=>qH<|qs (a7)<|sq<|bx H λ K V H=>rg (tr (so1 (encN:=(nL 1<|eL eS)) 0 1 V)<|sno (encN:=(nL 1<|eL eS)) (enc:=(eL eS)) V [.own 1<|K.map<|eL eS] K 1 0 0 1)<|bx H λ bp a8 H=>sp (NY 0 1 0 5 (j:=0) a8)<|sp (RD (encN:=(nL 1<|eL eS)) (row:=[.osl 1 1 0<|K.length]) (k:=0) (sz:=1) (off:=0) (t:=ty 125) (v:=.osl 1 1 0<|K.length) V)<|bx H λ bq aa H=>sp (Bd 1 1 aa)<|sp (CI (eL eS) 1 0 (ty 59) aa)<|ck 1<|ae<|qs (tr (sni (encN:=(nL 1<|eL eS)) (xs:=a5) (n:=0) (enc:=(eL eS)) [.osl 1 1 0<|K.length] K 1 0 0 1 1)<|scl (encN:=(nL 1<|eL eS)) (xss:=a5) 0 [.own 1<|K.map<|eL eS] 1 0 K)<|re (by cases H;exact pr rd)
end
end Go.AI
end
section
namespace Go.AI
open Go.Proofs
set_option maxRecDepth 10000
variable {n:Nat}
section
variable (b:Aa) (q:Ap) (a:(List Ad)) (e:(List Bool)) (j:(List (Ad×Int))) (C:Int) (r:(List (Ad×Int))) (h:(List (Ad×Int))) (A:Ap) (c:Int) (I:Ap) (B:Ad) (i:Ap) (u:Int) (J:Ap) (E:Ap)
def Zr:St:=⟨(0,.agg [.d<|.int .i64 b.Modes,.d<|.int .u8 b.Accept,.d<|.sl<|b.Rules.map Av])::[],[]⟩
def Zs:St:=⟨(2,.ptr 0 0)::[],[some<|.box<|Dl q (.osl 1 1 0<|q.Arcs.length)<|.osl 2 1 0<|q.Accepts.length,some<|.narr 1<|q.Arcs.map<|nL 3 Be,some<|.arr 1<|q.Accepts.map eB]⟩
def Zt:St:=⟨(1,.ptr 0 0)::(3,.d<|.sl<|a.map AU)::(4,.d<|.sl<|e.map eB)::(5,.mp 1)::(22,.d<|.sl<|a.map AU)::(23,.d<|.int .i64 ((a.length:Nat):Int))::(24,.d<|.int .i64 C)::[],[some<|.box<|Bw b,some<|.map true false<|AC AU AN j]⟩
def Zu:St:=⟨(1,.ptr 0 0)::(3,.d<|.sl<|a.map AU)::(4,.d<|.sl<|e.map eB)::(5,.mp 1)::[],[some<|.box<|Bw b,some<|.map true false<|AC AU AN r]⟩
def Mf:(List<|Ad×Int)->Ex->St->Prop:=xX 0 0<|λ (y:(List<|Ad×Int))=>Zu b a e y
def Hv:((List<|Ad×Int)×Int)->St:=(λ (x:((List<|Ad×Int)×Int))=>Zt b a e x.1 x.2)
def Zv:St:=⟨(1,.ptr 0 0)::(4,.d<|.sl<|e.map eB)::(5,.mp 1)::(8,.ptr 2 0)::(44,.d<|.sl<|a.map AU)::(45,.d<|.int .i64 ((a.length:Nat):Int))::(46,.d<|.int .i64 c)::[],[some<|.box<|Bw b,some<|.map true false<|AC AU AN h,some<|.box<|Dl A (.osl 3 1 0<|A.Arcs.length)<|.osl 4 1 0<|A.Accepts.length,some<|.narr 1<|A.Arcs.map<|nL 3 Be,some<|.arr 1<|A.Accepts.map eB]⟩
def Zw:St:=⟨(8,.ptr 0 0)::[],[some<|.box<|Dl I (.osl 1 1 0<|I.Arcs.length)<|.osl 2 1 0<|I.Accepts.length,some<|.narr 1<|I.Arcs.map<|nL 3 Be,some<|.arr 1<|I.Accepts.map eB]⟩
def Zx:St:=⟨(1,.ptr 0 0)::(4,.d<|.sl<|e.map eB)::(5,.mp 1)::(8,.ptr 2 0)::(9,.d<|.int .i64 c)::(10,.ptr 3 0)::(44,.d<|.sl<|a.map AU)::(45,.d<|.int .i64 ((a.length:Nat):Int))::(46,.d<|.int .i64 c)::(61,.d<|.sl<|b.Rules.map Av)::(62,.d<|.int .i64 ((b.Rules.length:Nat):Int))::(63,.d<|.int .i64 u)::[],[some<|.box<|Bw b,some<|.map true false<|AC AU AN h,some<|.box<|Dl i (.osl 4 1 0<|i.Arcs.length)<|.osl 5 1 0<|i.Accepts.length,some<|.box<|RN B,some<|.narr 1<|i.Arcs.map<|nL 3 Be,some<|.arr 1<|i.Accepts.map eB]⟩
def Zy:St:=⟨(1,.ptr 0 0)::(4,.d<|.sl<|e.map eB)::(5,.mp 1)::(8,.ptr 2 0)::(44,.d<|.sl<|a.map AU)::(45,.d<|.int .i64 ((a.length:Nat):Int))::(46,.d<|.int .i64 c)::[],[some<|.box<|Bw b,some<|.map true false<|AC AU AN h,some<|.box<|Dl J (.osl 3 1 0<|J.Arcs.length)<|.osl 4 1 0<|J.Accepts.length,some<|.narr 1<|J.Arcs.map<|nL 3 Be,some<|.arr 1<|J.Accepts.map eB]⟩
def Zz:St:=⟨(1,.ptr 0 0)::(4,.d<|.sl<|e.map eB)::(5,.mp 1)::(8,.ptr 2 0)::(9,.d<|.int .i64 c)::(10,.ptr 3 0)::(44,.d<|.sl<|a.map AU)::(45,.d<|.int .i64 ((a.length:Nat):Int))::(46,.d<|.int .i64 c)::(61,.d<|.sl<|b.Rules.map Av)::(62,.d<|.int .i64 ((b.Rules.length:Nat):Int))::(63,.d<|.int .i64 u)::[],[some<|.box<|Bw b,some<|.map true false<|AC AU AN h,some<|.box<|Dl E (.osl 4 1 0<|E.Arcs.length)<|.osl 5 1 0<|E.Accepts.length,some<|.box<|RN B,some<|.narr 1<|E.Arcs.map<|nL 3 Be,some<|.arr 1<|E.Accepts.map eB]⟩
def Mg:Ap->Ex->St->Prop:=xX 0 4<|λ (y:Ap)=>Zy b a e h c y
def Hw:(Ap×Int)->St:=(λ (x:(Ap×Int))=>Zx b a e h c B x.1 x.2)
def Mh:Ap->Ex->St->Prop:=xX 0 2<|λ (y:Ap)=>Zw y
def Hx:(Ap×Int)->St:=(λ (x:(Ap×Int))=>Zv b a e h x.1 x.2)
variable {b q a e j C r h A c I B i u J E}
theorem Lu (x:((List (Ad×Int))×Int)) (z:(((List (Ad×Int))×Int)⊕(List (Ad×Int)))) (H:Dt n b a e x.1 x.2=some z):WP (cxk 110 0) (AX Try.f23) [1,1,1,0,1,0,0] (AQ 0 (Hv b a e) (Mf b a e) z) (Hv b a e x):=by
 obtain⟨j,C⟩:=x;refine sr<|ck 1<|en<|sq<|cn H (λ H=>?_)<|λ H=>?_
 ·exact sk<|qz<|sq<|bk 1<|sr<|ck 1<|bx H λ M P H=>sp (AM AU P)<|ck 4<|en<|rz<|ck 3<|sp (Kp (enc:=AN) (encK:=AU) (k:=1) (e1:=λ x=>.int .i64 x) (m:=j) (l:=[.d<|.int .i64 M.Mode,.d<|.int .i64 M.Last,.d<|.int .u8 M.Need]) (key:=M) (y:=C) (v:=.d<|.int .i64 C) (vz:=[.int .i64 0]) QH)<|ae<|qN<|qz<|rz<|ck 2<|ae (by cases H;exact og<|sg [1,3,4,5,22,23,24])
 ·exact ex 0<|qx (by cases H;exact xo rfl<|sg [1,3,4,5])
theorem Lv (x:(Ap×Int)) (z:((Ap×Int)⊕Ap)) (H:CJ n b a e h c B x.1 x.2=some z):WP (cxk 110 0) (AX Try.f23) [1,1,1,1,1,0,1,0,0,1,1,0,0,1,1,1,0,0] (AQ 0 (Hw b a e h c B) (Mg b a e h c) z) (Hw b a e h c B x):=by
 obtain⟨i,u⟩:=x;refine sr<|ck 1<|en<|sq<|cn H (λ H=>?_)<|λ H=>?_
 ·refine sk<|qz<|sj (λ (x:Ap)=>Zz b a e h c B u x) (λ (x:Ap)=>EF n u x) z ?_ (λ f=>?_)
  ·intro E H;exact rz<|ck 2<|ae (by cases H;exact og<|gP [1,4,5,8,9,10,44,45,46,61,62,63] [0,1,2,3,4,5]<|po1<|po1<|po1<|po1<|pn1 (nL 3 Be) E.Arcs<|po1<|Pl.z)
  refine bk 5<|sr<|ck 1<|bx H λ ak Q H=>sp (AM Av Q)<|ck 4<|en<|sr<|ck 3<|bx H λ p R H=>ca false (Nx R)<|ck 6<|en<|sr<|ck 5<|sE (g:=p.2) (λ hg=>JE (enc:=AN) (encK:=AU) (k:=1) (e1:=λ x=>.int .i64 x) (m:=h) (l:=[.d<|.int .i64 p.1.Mode,.d<|.int .i64 p.1.Last,.d<|.int .u8 p.1.Need]) (key:=p.1) (z:=0) (vz:=[.int .i64 0]) QH false)<|bx H λ al S H=>sE (λ hg=>AM eB<|Eo S hg)<|gc 1 p.2<|pA<|en<|cn H (λ H=>?_)<|λ H=>?_
  ·exact bx H λ K w H=>rg (tr (so1 (encN:=(nL 3 Be)) 4 1 w)<|sno (encN:=(nL 3 Be)) (enc:=Be) w [.own 3<|K.map Be] K 1 4 0 3)<|ck 10<|sp (Bd 4 1 w)<|sp (RD (encN:=(nL 3 Be)) (row:=[.osl 8 3 0<|K.length]) (k:=4) (sz:=1) (off:=0) (t:=ty 98) (v:=.osl 8 3 0<|K.length) w)<|ck 6<|sp (JE (enc:=AN) (encK:=AU) (k:=1) (e1:=λ x=>.int .i64 x) (m:=h) (l:=[.d<|.int .i64 p.1.Mode,.d<|.int .i64 p.1.Last,.d<|.int .u8 p.1.Need]) (key:=p.1) (z:=0) (vz:=[.int .i64 0]) QH false)<|ck 2<|bx H λ o T H=>sp (Br Be 8 3 T)<|sp (Bd 4 1 w)<|sp (UO (encN:=(nL 3 Be)) (row:=[.osl 8 3 0<|K.length]) (row':=[.osl 10 3 0<|o.length]) (k:=4) (sz:=1) (off:=0) (t:=ty 98) (v:=.osl 10 3 0<|o.length) w)<|ae<|qN<|qs (tr (tr (tr (tr (tr (sni (encN:=(nL 3 Be)) (xs:=i.Arcs) (n:=c) (enc:=Be) [.osl 10 3 0<|o.length] o 1 4 0 10 3)<|scl (encN:=(nL 3 Be)) (xss:=i.Arcs) c [.own 3<|o.map Be] 1 4 o)<|sn 87 4 1<|lsS i.Arcs c.toNat o)<|sn 92 4 1<|lsS i.Arcs c.toNat o)<|snc 2 0 4 1<|lsS i.Arcs c.toNat o)<|gP [1,4,5,8,9,10,44,45,46,61,62,63] [0,1,2,3,4,5]<|po1<|po1<|po1<|po1<|pn1 (nL 3 Be) (List.set i.Arcs c.toNat o)<|po1<|Pl.z)<|f ({ Arcs:=List.set i.Arcs c.toNat o,Accepts:=i.Accepts,Alive:=i.Alive }:Ap) H
  ·exact sk<|qN<|qs (gP [1,4,5,8,9,10,44,45,46,61,62,63] [0,1,2,3,4,5]<|po1<|po1<|po1<|po1<|pn1 (nL 3 Be) i.Arcs<|po1<|Pl.z)<|f i H
 ·exact ex 4<|qx (by cases H;exact xo rfl<|gP [1,4,5,8,44,45,46] [0,1,2,4,5]<|po1<|po1<|po1<|pn1 (nL 3 Be) i.Arcs<|po1<|Pl.z)
theorem Lw (x:(Ap×Int)) (z:((Ap×Int)⊕Ap)) (H:Du n b a e h x.1 x.2=some z):WP (cxk 110 0) (AX Try.f23) [1,1,1,1,1,0,1,0,0] (AQ 0 (Hx b a e h) (Mh) z) (Hx b a e h x):=by
 obtain⟨A,c⟩:=x;refine sr<|ck 1<|en<|sq<|cn H (λ H=>?_)<|λ H=>?_
 ·exact sk<|qz<|sq<|bk 3<|sr<|ck 1<|bx H λ B U H=>sp (AM AU U)<|ck 4<|en<|sr<|ck 7<|bx H λ am V H=>ca false (JN V)<|bx H λ ap O H=>sp (Bd 4 1 O)<|bx H λ ar L H=>stA eB 4 0 (ty 4) O L<|en<|sq<|rg (tr (sn 54 4 1<|Bb L)<|snc 2 1 4 1<|Bb L)<|ck 2<|sp (A1 Av b.Rules)<|ck 1<|en<|bk 4<|bx H λ ai W H=>lX Lv W (gP [1,4,5,8,9,10,44,45,46,61,62,63] [0,1,2,5,3,4]<|po1<|po1<|po1<|po1<|pn1 (nL 3 Be) A.Arcs<|po1<|Pl.z) rfl λ s X=>qH<|qN<|qs (X)<|rz<|ck 2<|ae (by cases H;exact og<|gP [1,4,5,8,44,45,46] [0,1,2,3,4]<|po1<|po1<|po1<|pn1 (nL 3 Be) ai.Arcs<|po1<|Pl.z)
 ·exact ex 2<|qx (by cases H;exact xo rfl<|gP [8] [2,3,4]<|po1<|pn1 (nL 3 Be) A.Arcs<|po1<|Pl.z)
theorem I1 {z} (H:Fd n b=some z):CH Try.prog 23 [.agg (Bw b)] [] 0 (.ptr 0 0) [some (.box (Dl z (.osl 1 1 0 (z.Arcs.length)) (.osl 2 1 0 (z.Accepts.length)))),some (.narr 1 (z.Arcs.map (nL 3 Be))),some (.arr 1 (z.Accepts.map eB))]:=by
 exact fL 110 0 (Zr b) Try.func23<|sr<|ck 2<|en<|sr<|ck 1<|bx H λ a Y H=>ca false (PV Y)<|ck 1<|bx H λ e Z H=>ca false (RX Z)<|ck 2<|en<|sr<|ck 1<|sp (A1 AU a)<|ck 2<|en<|sq<|sr<|ck 1<|sp (A1 AU a)<|ck 1<|en<|bk 0<|bx H λ h aa H=>lX Lu aa (sg [1,3,4,5,22,23,24]) rfl λ s ab=>qH<|qs (ab)<|sr<|ck 1<|sp (A1 AU a)<|bx H λ aj G H=>sp (YK 1 (ez:=[.nil]) G)<|ck 1<|sp (A1 AU a)<|bx H λ au ac H=>sp (JcD eB 1 ac)<|ck 1<|bx H λ av af H=>sp (AM eB af)<|ck 4<|en<|sq<|sq<|rg (tr (tr (JdH (encN:=(nL 3 Be)) (sz:=1) (z:=[.nil]) (n:=((a.length:Nat):Int)) 2 (RE G) (by kernel_rfl) (by kernel_rfl))<|sn 35 2 1<|NX G)<|snc 4 0 2 1<|NX G)<|ck 1<|sp (A1 AU a)<|ck 1<|en<|bk 2<|bx H λ aw ag H=>lX Lw ag (gP [1,4,5,8,44,45,46] [0,1,4,2,3]<|po1<|po1<|po1<|pn1 (nL 3 Be) aj<|po1<|Pl.z) rfl λ s ah=>qH<|qs (ah)<|sr<|ck 2<|en<|re (by cases H;exact pL<|rl (s':=Zs z)<|gP [2] [0,1,2]<|po1<|pn1 (nL 3 Be) z.Arcs<|po1<|Pl.z)
end
section
variable (a:Ap)
def ZA:St:=⟨(0,.dptr (Aw a) 0)::[],[]⟩
def ZB:St:=⟨(2,.ptr 0 0)::[],[some<|.box [.dptr (Aw a) 0,.osl 1 2 0<|List.length ([]:List Ab),.mp 2,.osl 3 1 0<|List.length ([]:List (Option<|List Af)),.mp 4],some<|.arr 2<|List.map Al ([]:List Ab),some<|.map true false<|AC Al AN [],some<|.arr 1<|List.map (eOp Ax) ([]:List (Option<|List Af)),some<|.map true true<|AC AR AZ []]⟩
variable {a}
theorem MS {z} (H:KY n a=some z):CH Try.prog 24 [.dptr (Aw a) 0] [] 0 (.ptr 0 0) [some (.box [.dptr (Aw a) 0,.osl 1 2 0 (List.length ([]:List Ab)),.mp 2,.osl 3 1 0 (List.length ([]:List (Option (List Af)))),.mp 4]),some (.arr 2 (List.map Al ([]:List Ab))),some (.map true false (AC Al AN [])),some (.arr 1 (List.map (eOp Ax) ([]:List (Option (List Af))))),some (.map true true (AC AR AZ []))]:=by
 exact fL 8 0 (ZA a) Try.func24<|sr<|ck 1<|en<|sr<|ck 6<|en<|re (by cases H;exact pL<|rl (s':=ZB a)<|tr (tr (DK 2 1 2 (by kernel_rfl))<|DK 2 3 1 (by kernel_rfl))<|sg [2])
end
section
variable (c:Ab) (b:Ap) (e:(List Ab)) (f:(List (Ab×Int))) (g:(List (Option (List Af)))) (h:(List (Am×An))) (s:(List (Ab×Int))) (p:(List Ab)) (q:(List (Option (List Af)))) (t:Int) (o:(List (Ab×Int))) (i:(List Ab)) (j:(List (Option (List Af)))) (r:Int)
def ZC:St:=⟨(0,.ptr 0 0)::(1,.agg [.d<|.int .i64 c.State,.d<|.str c.Rest])::[],[some<|.box [.dptr (Aw b) 0,.osl 1 2 0<|e.length,.mp 2,.osl 3 1 0<|g.length,.mp 4],some<|.arr 2<|e.map Al,some<|.map true false<|AC Al AN f,some<|.arr 1<|g.map<|eOp Ax,some<|.map true true<|AC AR AZ h]⟩
def ZD:St:=⟨(4,.d<|.int .i64 t)::[],[some<|.box [.dptr (Aw b) 0,.osl 5 2 0<|p.length,.mp 2,.osl 6 1 0<|q.length,.mp 4],none,some<|.map true false<|AC Al AN s,none,some<|.map true true<|AC AR AZ h,some<|.arr 2<|p.map Al,some<|.arr 1<|q.map<|eOp Ax]⟩
def ZE:St:=⟨(5,.d<|.int .i64 r)::[],[some<|.box [.dptr (Aw b) 0,.osl 5 2 0<|i.length,.mp 2,.osl 6 1 0<|j.length,.mp 4],none,some<|.map true false<|AC Al AN o,none,some<|.map true true<|AC AR AZ h,some<|.arr 2<|i.map Al,some<|.arr 1<|j.map<|eOp Ax]⟩
variable {c b e f g h s p q t o i j r}
theorem DO {z} (H:Ce n c b e f g h=some z):CH Try.prog 42 [.ptr 0 0,.agg [.d (.int .i64 c.State),.d (.str c.Rest)]] [some (.box [.dptr (Aw b) 0,.osl 1 2 0 (e.length),.mp 2,.osl 3 1 0 (g.length),.mp 4]),some (.arr 2 (e.map Al)),some (.map true false (AC Al AN f)),some (.arr 1 (g.map (eOp Ax))),some (.map true true (AC AR AZ h))] 5 (.d (.int .i64 z.2.2.2)) [some (.box [.dptr (Aw b) 0,.osl 5 2 0 (z.2.1.length),.mp 2,.osl 6 1 0 (z.2.2.1.length),.mp 4]),none,some (.map true false (AC Al AN z.1)),none,some (.map true true (AC AR AZ h)),some (.arr 2 (z.2.1.map Al)),some (.arr 1 (z.2.2.1.map (eOp Ax)))]:=by
 refine fL 49 5 (ZC c b e f g h) Try.func42<|sr<|ck 2<|en<|sr<|ck 5<|sp (JE (enc:=AN) (encK:=Al) (k:=2) (e1:=λ x=>.int .i64 x) (m:=f) (l:=[.d<|.int .i64 c.State,.d<|.str c.Rest]) (key:=c) (z:=0) (vz:=[.int .i64 0]) Zl true)<|ck 5<|en<|sj (λ (x:((List<|Ab×Int)×(List Ab)×(List<|Option<|List Af)×Int))=>ZE b h x.1 x.2.1 x.2.2.1 x.2.2.2) (λ (x:((List<|Ab×Int)×(List Ab)×(List<|Option<|List Af)×Int))=>DM n x.1 x.2.1 x.2.2.1 x.2.2.2) z ?_ (λ a=>?_)
 ·rintro⟨o,i,j,r⟩ H;exact sr<|ck 2<|en<|re (by cases H;exact pL<|rl (s':=ZD b h o i j r)<|sg [4])
 refine sr<|ck 2<|en<|cn H (λ H=>?_)<|λ H=>?_
 ·exact sr<|ck 6<|en<|sr<|ck 6<|sp (Kp (enc:=AN) (encK:=Al) (k:=2) (e1:=λ x=>.int .i64 x) (m:=f) (l:=[.d<|.int .i64 c.State,.d<|.str c.Rest]) (key:=c) (y:=((e.length:Nat):Int)) (v:=.d<|.int .i64 ((e.length:Nat):Int)) (vz:=[.int .i64 0]) Zl)<|en<|rz<|ck 8<|bx H λ A u H=>sp (Br Al 1 2 u)<|ck 5<|bx H λ B w H=>sp (Br (eOp Ax) 3 1 w)<|ck 6<|ae<|qs (sg [5])<|a ((DY c ((e.length:Nat):Int) f),A,B,((e.length:Nat):Int)) H
 ·exact sk<|qs (tr (tr (Gx (k:=1) (sz:=2) 0 1 (e.map Al) (e.length) (by kernel_rfl) C0 leM rfl)<|Gx (k:=3) (sz:=1) 0 3 (g.map<|eOp Ax) (g.length) (by kernel_rfl) C0 leM rfl)<|sg [5])<|a (f,e,g,(Option.getD (BK c f) 0)) H
end
section
variable (c:Ah) (b:Ap) (e:(List Ab)) (g:(List (Ab×Int))) (f:(List (Option (List Af)))) (h:(List (Am×An))) (o:(List (Am×An))) (p:Bool) (i:An) (l:Int)
def ZF:St:=⟨(0,.ptr 0 0)::(1,.agg [.d<|.int .i64 c.Pair.A,.d<|.int .i64 c.Pair.B,.d<|.int .i64 c.Lead.Side,.d<|.str c.Lead.Text])::[],[some<|.box [.dptr (Aw b) 0,.osl 1 2 0<|e.length,.mp 2,.osl 3 1 0<|f.length,.mp 4],some<|.arr 2<|e.map Al,some<|.map true false<|AC Al AN g,some<|.arr 1<|f.map<|eOp Ax,some<|.map true true<|AC AR AZ h]⟩
def Pk:St:=⟨(4,.d<|.bool p)::[],[some<|.box [.dptr (Aw b) 0,.osl 1 2 0<|e.length,.mp 2,.osl 3 1 0<|f.length,.mp 4],some<|.arr 2<|e.map Al,some<|.map true false<|AC Al AN g,some<|.arr 1<|f.map<|eOp Ax,some<|.map true true<|AC AR AZ o]⟩
def ZG:St:=⟨(0,.ptr 0 0)::(3,.ptr 5 0)::(5,.ptr 6 0)::(18,.bsl 6 1 2 i.N.toNat)::(19,.d<|.int .i64 ((Int.toNat i.N:Nat):Int))::(20,.d<|.int .i64 l)::[],[some<|.box [.dptr (Aw b) 0,.osl 1 2 0<|e.length,.mp 2,.osl 3 1 0<|f.length,.mp 4],some<|.arr 2<|e.map Al,some<|.map true false<|AC Al AN g,some<|.arr 1<|f.map<|eOp Ax,some<|.map true true<|AC AR AZ h,some<|.box<|IU c,some<|.box<|JcZ i]⟩
def ZH:St:=⟨(0,.ptr 0 0)::(3,.ptr 5 0)::(5,.ptr 6 0)::[],[some<|.box [.dptr (Aw b) 0,.osl 1 2 0<|e.length,.mp 2,.osl 3 1 0<|f.length,.mp 4],some<|.arr 2<|e.map Al,some<|.map true false<|AC Al AN g,some<|.arr 1<|f.map<|eOp Ax,some<|.map true true<|AC AR AZ h,some<|.box<|IU c,some<|.box<|JcZ i]⟩
def IC:(Unit⊕((List<|Am×An)×Bool))->Ex->St->Prop:=xS (xX 5 0<|λ (_:Unit)=>ZH c b e g f h i)<|xL 5 ty Try.f43 (λ (y:((List<|Am×An)×Bool))=>.d<|.bool y.2)<|λ (y:((List<|Am×An)×Bool))=>[some<|.box [.dptr (Aw b) 0,.osl 1 2 0<|e.length,.mp 2,.osl 3 1 0<|f.length,.mp 4],some<|.arr 2<|e.map Al,some<|.map true false<|AC Al AN g,some<|.arr 1<|f.map<|eOp Ax,some<|.map true true<|AC AR AZ y.1]
def Fh:Int->St:=(λ (x:Int)=>ZG c b e g f h i x)
variable {c b e g f h o p i l}
theorem EW (x:Int) (z:(Int⊕(Unit⊕((List (Am×An))×Bool)))) (H:Cf n c b e g f h i x=some z):WP (cxk 54 5) (AX Try.f43) [1,1,0,1,0,0] (AQ 5 (Fh c b e g f h i) (IC c b e g f h i) z) (Fh c b e g f h i x):=by
 revert H;generalize x=l;intro H;refine sr<|ck 1<|en<|sq<|cn H (λ H=>?_)<|λ H=>?_
 ·refine sk<|qz<|sq<|bk 1<|sr<|bx H λ t q H=>sp (JbZ 6 1 2 q)<|sp (JbX (enc:=Zj) 6 1 2 2 (ty 113) (λ _=>rfl)<|YX q)<|ck 2<|en<|sr<|ck 6<|gc 2 (!((t.Side==c.Lead.Side)&&((t.Text==c.Lead.Text)&&true)))<|pO<|en<|cn H (λ H=>?_)<|λ H=>?_
  ·exact sr<|ck 1<|en<|re<|qR<|qr (by cases H;exact lo rfl<|rl (s':=Pk b e g f h false)<|sg [4])
  ·exact sk<|qN<|qz<|rz<|ck 2<|ae (by cases H;exact og<|sg [0,3,5,18,19,20])
 ·exact ex 0<|qx (by cases H;exact xo rfl<|sg [0,3,5])
theorem Ga {z} (H:CS n c b e g f h=some z):CH Try.prog 43 [.ptr 0 0,.agg (IU c)] [some (.box [.dptr (Aw b) 0,.osl 1 2 0 (e.length),.mp 2,.osl 3 1 0 (f.length),.mp 4]),some (.arr 2 (e.map Al)),some (.map true false (AC Al AN g)),some (.arr 1 (f.map (eOp Ax))),some (.map true true (AC AR AZ h))] 5 (.d (.bool z.2)) [some (.box [.dptr (Aw b) 0,.osl 1 2 0 (e.length),.mp 2,.osl 3 1 0 (f.length),.mp 4]),some (.arr 2 (e.map Al)),some (.map true false (AC Al AN g)),some (.arr 1 (f.map (eOp Ax))),some (.map true true (AC AR AZ z.1))]:=by
 refine fL 54 5 (ZF c b e g f h) Try.func43<|sr<|ck 2<|en<|sr<|ck 6<|bx H λ i u H=>sp (W5 (enc:=AZ) (encK:=AR) (ka:=true) (va:=true) (k:=4) (m:=h) (a:=.agg [.d<|.int .i64 c.Pair.A,.d<|.int .i64 c.Pair.B]) (key:=c.Pair) (z:=(⟨0,⟨⟨0,[]⟩,⟨0,[]⟩⟩⟩:An)) (vz:=[.int .i64 0,.int .i64 0,.str [],.int .i64 0,.str []]) Zm u)<|ck 2<|en<|sq<|sr<|ck 3<|bx H λ K w H=>sp (JdT 6 1 2 2 w)<|ck 2<|en<|bk 0<|bx H λ J r H=>?_;rcases J with L|M
 ·refine lX EW r (sg [0,3,5,18,19,20]) rfl λ s C=>qH<|qs (C)<|sq<|sr<|ck 3<|en<|cn H (λ H=>?_)<|λ H=>?_
  ·exact sr<|ck 1<|en<|re<|qr (by cases H;exact pL<|rl (s':=Pk b e g f h false)<|sg [4])
  ·exact sk<|qz<|sr<|ck 5<|bx H λ O E H=>sp (YU 6 1 2 2 E)<|bx H λ j G H=>sp (JbY (enc:=Zj) (v:=.agg [.d<|.int .i64 c.Lead.Side,.d<|.str c.Lead.Text]) 6 1 2 2 (ty 113) ⟨0,[]⟩ (λ _=>rfl) G)<|en<|sr<|ck 5<|en<|sr<|ck 7<|sp (JbV (enc:=AZ) (encK:=AR) (ka:=true) (va:=true) (k:=4) (m:=h) (a:=.agg [.d<|.int .i64 c.Pair.A,.d<|.int .i64 c.Pair.B]) (key:=c.Pair) (y:=({ N:=Bg .i64 i.N 1,Leads:=({ a0:=(List.getD j 0 (⟨0,[]⟩:BR)),a1:=(List.getD j 1 (⟨0,[]⟩:BR)) }:(D7 BR)) }:An)) (v:=.agg [.d<|.int .i64<|Bg .i64 i.N 1,.d<|.int .i64<|(List.getD j 0 (⟨0,[]⟩:BR)).Side,.d<|.str<|(List.getD j 0 (⟨0,[]⟩:BR)).Text,.d<|.int .i64<|(List.getD j 1 (⟨0,[]⟩:BR)).Side,.d<|.str<|(List.getD j 1 (⟨0,[]⟩:BR)).Text]) (vz:=[.int .i64 0,.int .i64 0,.str [],.int .i64 0,.str []]) Zm)<|en<|sr<|ck 1<|en<|re (by cases H;exact pL<|rl (s':=Pk b e g f (DY c.Pair ({ N:=Bg .i64 i.N 1,Leads:=({ a0:=(List.getD j 0 (⟨0,[]⟩:BR)),a1:=(List.getD j 1 (⟨0,[]⟩:BR)) }:(D7 BR)) }:An) h) true)<|sg [4])
 ·exact lL EW r (sg [0,3,5,18,19,20]) rfl λ s I=>qR<|qr (by cases H;exact pL I)
end
section
variable (e:Int) (a:Ap) (u:(List Ab)) (G:(List (Ab×Int))) (v:(List (Option (List Af)))) (c:(List (Am×An))) (U:(List (Ab×Int))) (J:(List Ab)) (K:(List (Option (List Af)))) (V:(List Af)) (R:(List (Ab×Int))) (l:(List Af)) (L:(List Ab)) (S:(List (Option (List Af)))) (i:(List EY)) (w:(List (Ab×Int))) (b:(List Af)) (m:(List Ab)) (o:(List (Option (List Af)))) (j:Int) (ac:(List (Ab×Int))) (A:(List Af)) (aa:(List Ab)) (M:(List (Option (List Af)))) (O:(List (Ab×Int))) (p:(List Af)) (C:(List Ab)) (E:(List (Option (List Af)))) (t:EY) (q:(List Int)) (P:Int) (B:(List Int))
def ZI:St:=⟨(0,.ptr 0 0)::(1,.d<|.int .i64 e)::[],[some<|.box [.dptr (Aw a) 0,.osl 1 2 0<|u.length,.mp 2,.osl 3 1 0<|v.length,.mp 4],some<|.arr 2<|u.map Al,some<|.map true false<|AC Al AN G,some<|.arr 1<|v.map<|eOp Ax,some<|.map true true<|AC AR AZ c]⟩
def Tz:St:=⟨(4,.d<|.sl<|V.map Ax)::[],[some<|.box [.dptr (Aw a) 0,.osl 5 2 0<|J.length,.mp 2,.osl 6 1 0<|K.length,.mp 4],none,some<|.map true false<|AC Al AN U,none,some<|.map true true<|AC AR AZ c,some<|.arr 2<|J.map Al,some<|.arr 1<|K.map<|eOp Ax]⟩
def ZJ:St:=⟨(0,.ptr 0 0)::(1,.d<|.int .i64 e)::(5,.osl 5 3 0<|l.length)::[],[some<|.box [.dptr (Aw a) 0,.osl 6 2 0<|L.length,.mp 2,.osl 7 1 0<|S.length,.mp 4],none,some<|.map true false<|AC Al AN R,none,some<|.map true true<|AC AR AZ c,some<|.arr 3<|l.map Ax,some<|.arr 2<|L.map Al,some<|.arr 1<|S.map<|eOp Ax]⟩
def ZK:St:=⟨(0,.ptr 0 0)::(1,.d<|.int .i64 e)::(5,.osl 5 3 0<|b.length)::(64,.d<|.sl<|i.map Be)::(65,.d<|.int .i64 ((i.length:Nat):Int))::(66,.d<|.int .i64 j)::[],[some<|.box [.dptr (Aw a) 0,.osl 6 2 0<|m.length,.mp 2,.osl 7 1 0<|o.length,.mp 4],none,some<|.map true false<|AC Al AN w,none,some<|.map true true<|AC AR AZ c,some<|.arr 3<|b.map Ax,some<|.arr 2<|m.map Al,some<|.arr 1<|o.map<|eOp Ax]⟩
def ZL:St:=⟨(0,.ptr 0 0)::(1,.d<|.int .i64 e)::(5,.osl 5 3 0<|A.length)::[],[some<|.box [.dptr (Aw a) 0,.osl 6 2 0<|aa.length,.mp 2,.osl 7 1 0<|M.length,.mp 4],none,some<|.map true false<|AC Al AN ac,none,some<|.map true true<|AC AR AZ c,some<|.arr 3<|A.map Ax,some<|.arr 2<|aa.map Al,some<|.arr 1<|M.map<|eOp Ax]⟩
def ZM:St:=⟨(0,.ptr 0 0)::(1,.d<|.int .i64 e)::(5,.osl 5 3 0<|p.length)::(64,.d<|.sl<|i.map Be)::(65,.d<|.int .i64 ((i.length:Nat):Int))::(66,.d<|.int .i64 j)::[],[some<|.box [.dptr (Aw a) 0,.osl 6 2 0<|C.length,.mp 2,.osl 7 1 0<|E.length,.mp 4],none,some<|.map true false<|AC Al AN O,none,some<|.map true true<|AC AR AZ c,some<|.arr 3<|p.map Ax,some<|.arr 2<|C.map Al,some<|.arr 1<|E.map<|eOp Ax]⟩
def ZN:St:=⟨(0,.ptr 0 0)::(1,.d<|.int .i64 e)::(5,.osl 5 3 0<|b.length)::(8,.ptr 6 0)::(9,.osl 7 1 0<|q.length)::(64,.d<|.sl<|i.map Be)::(65,.d<|.int .i64 ((i.length:Nat):Int))::(66,.d<|.int .i64 j)::(71,.d<|.sl<|t.Cells.map eU8)::(72,.d<|.int .i64 ((t.Cells.length:Nat):Int))::(73,.d<|.int .i64 P)::[],[some<|.box [.dptr (Aw a) 0,.osl 8 2 0<|m.length,.mp 2,.osl 9 1 0<|o.length,.mp 4],none,some<|.map true false<|AC Al AN w,none,some<|.map true true<|AC AR AZ c,some<|.arr 3<|b.map Ax,some<|.box<|Jd7 t,some<|.arr 1<|q.map eU8,some<|.arr 2<|m.map Al,some<|.arr 1<|o.map<|eOp Ax]⟩
def ZO:St:=⟨(0,.ptr 0 0)::(1,.d<|.int .i64 e)::(5,.osl 5 3 0<|b.length)::(8,.ptr 6 0)::(9,.osl 7 1 0<|B.length)::(64,.d<|.sl<|i.map Be)::(65,.d<|.int .i64 ((i.length:Nat):Int))::(66,.d<|.int .i64 j)::[],[some<|.box [.dptr (Aw a) 0,.osl 8 2 0<|m.length,.mp 2,.osl 9 1 0<|o.length,.mp 4],none,some<|.map true false<|AC Al AN w,none,some<|.map true true<|AC AR AZ c,some<|.arr 3<|b.map Ax,some<|.box<|Jd7 t,some<|.arr 1<|B.map eU8,some<|.arr 2<|m.map Al,some<|.arr 1<|o.map<|eOp Ax]⟩
def JZ:(List Int)->Ex->St->Prop:=xX 5 2<|λ (y:(List Int))=>ZO e a c i w b m o j t y
def Gb:((List Int)×Int)->St:=(λ (x:((List Int)×Int))=>ZN e a c i w b m o j t x.1 x.2)
def J0:((List<|Ab×Int)×(List Af)×(List Ab)×(List<|Option<|List Af))->Ex->St->Prop:=xX 5 0<|λ (y:((List<|Ab×Int)×(List Af)×(List Ab)×(List<|Option<|List Af)))=>ZL e a c y.1 y.2.1 y.2.2.1 y.2.2.2
def Gc:((List<|Ab×Int)×(List Af)×(List Ab)×(List<|Option<|List Af)×Int)->St:=(λ (x:((List<|Ab×Int)×(List Af)×(List Ab)×(List<|Option<|List Af)×Int))=>ZK e a c i x.1 x.2.1 x.2.2.1 x.2.2.2.1 x.2.2.2.2)
variable {e a u G v c U J K V R l L S i w b m o j ac A aa M O p C E t q P B}
theorem Ji (x:((List Int)×Int)) (z:(((List Int)×Int)⊕(List Int))) (H:B4 n e a c i w b m o j t x.1 x.2=some z):WP (cxk 113 5) (AX Try.f62) [1,1,1,1,0,1,1,1,0,0,1,1,0,0,1,1,0,1,0,0] (AQ 5 (Gb e a c i w b m o j t) (JZ e a c i w b m o j t) z) (Gb e a c i w b m o j t x):=by
 obtain⟨q,P⟩:=x;refine sr<|ck 1<|en<|sq<|cn H (λ H=>?_)<|λ H=>?_
 ·exact sk<|qz<|sq<|bk 3<|sr<|bx H λ bb af H=>sp (AM eU8 af)<|ck 2<|en<|rz<|ck 3<|bx H λ bc ag H=>sp (Br eU8 7 1 ag)<|ck 1<|ae<|qN<|qz<|rz<|ck 2<|ae (by cases H;exact og<|sg [0,1,5,8,9,64,65,66,71,72,73])
 ·exact ex 2<|qx (by cases H;exact xo rfl<|sg [0,1,5,8,9,64,65,66])
theorem Jj (x:((List (Ab×Int))×(List Af)×(List Ab)×(List (Option (List Af)))×Int)) (z:(((List (Ab×Int))×(List Af)×(List Ab)×(List (Option (List Af)))×Int)⊕((List (Ab×Int))×(List Af)×(List Ab)×(List (Option (List Af)))))) (H:Bl n e a c i x.1 x.2.1 x.2.2.1 x.2.2.2.1 x.2.2.2.2=some z):WP (cxk 113 5) (AX Try.f62) [1,1,1,1,0,1,1,1,0,0] (AQ 5 (Gc e a c i) (J0 e a c) z) (Gc e a c i x):=by
 obtain⟨w,b,m,o,j⟩:=x;refine sr<|ck 1<|en<|sq<|cn H (λ H=>?_)<|λ H=>?_
 ·refine sk<|qz<|sj (λ (x:((List<|Ab×Int)×(List Af)×(List Ab)×(List<|Option<|List Af)))=>ZM e a c i j x.1 x.2.1 x.2.2.1 x.2.2.2) (λ (x:((List<|Ab×Int)×(List Af)×(List Ab)×(List<|Option<|List Af)))=>Dh n j x.1 x.2.1 x.2.2.1 x.2.2.2) z ?_ (λ f=>?_)
  ·rintro⟨O,p,C,E⟩ H;exact rz<|ck 2<|ae (by cases H;exact og<|sg [0,1,5,64,65,66])
  refine bk 1<|sr<|bx H λ t ah H=>sp (AM Be ah)<|ck 3<|en<|sr<|ck 1<|en<|sq<|sr<|ck 2<|sp (A1 eU8 t.Cells)<|ck 1<|en<|bk 2<|bx H λ a6 ai H=>lX Ji ai (tr (As.nilo 9 1 (by kernel_rfl))<|sg [0,1,5,8,9,64,65,66,71,72,73]) rfl λ s aj=>qH<|qs (aj)<|sq<|rx 12 15 (fz (enc:=eU8) (xs:=a6) 9 7 1)<|ck 1<|bx H λ bd ak H=>sp (AM eU8 ak)<|ck 7<|bx H λ be al H=>sp (RG eU8 1 al)<|bx H λ s7 am H=>sp (JbM am)<|ck 1<|bx H λ I ap H=>xs (xok _ _) (g:=true) rfl (Gi) [0,8,2,9,4] (DO ap) rfl<|ck 2<|mx<|ck 1<|nz<|qz<|sr<|ck 2<|bx H λ bf ar H=>cb (ks:=[5]) (obl:=[(0+List.length b,List.length<|b.map Ax)]) false (leK leM<|leZ) (JB Yy<|JB rfl rfl) (RY ar) (Or.inr trivial) rfl<|ck 1<|en<|cn H (λ H=>?_)<|λ H=>?_
  ·exact rz<|ck 3<|bx H λ a7 au H=>sp (Br Ax 5 3 au)<|ck 1<|ae<|qN<|qs (sg [0,1,5,64,65,66])<|f (I.1,a7,I.2.1,I.2.2.1) H
  ·exact sk<|qN<|qs (sg [0,1,5,64,65,66])<|f (I.1,b,I.2.1,I.2.2.1) H
 ·exact ex 0<|qx (by cases H;exact xo rfl<|sg [0,1,5])
theorem G3 {z} (H:Dv n e a u G v c=some z):CH Try.prog 62 [.ptr 0 0,.d (.int .i64 e)] [some (.box [.dptr (Aw a) 0,.osl 1 2 0 (u.length),.mp 2,.osl 3 1 0 (v.length),.mp 4]),some (.arr 2 (u.map Al)),some (.map true false (AC Al AN G)),some (.arr 1 (v.map (eOp Ax))),some (.map true true (AC AR AZ c))] 5 (.d (.sl (z.2.2.2.map Ax))) [some (.box [.dptr (Aw a) 0,.osl 5 2 0 (z.2.1.length),.mp 2,.osl 6 1 0 (z.2.2.1.length),.mp 4]),none,some (.map true false (AC Al AN z.1)),none,some (.map true true (AC AR AZ c)),some (.arr 2 (z.2.1.map Al)),some (.arr 1 (z.2.2.1.map (eOp Ax)))]:=by
 refine fL 113 5 (ZI e a u G v c) Try.func62<|sr<|ck 1<|en<|sq<|sq<|rn 7 (.refl _)<|ck 5<|bx H λ a8 W H=>sp (Bd 3 1 W)<|sp (CI (eOp Ax) 3 0 (ty 150) W) ?_;have hD:=YP H;refine nd0<|nlo (yok _ _) (xok _ _) (r:=a8) (enc:=Ax)<|λ b7 av=>?_;have H:=hD b7 av;refine en<|cn H (λ H=>?_)<|λ H=>?_
 ·exact sr<|ck 5<|bx H λ aw X H=>sp (Bd 3 1 X)<|sp (CI (eOp Ax) 3 0 (ty 150) X)<|ck 1<|en<|re<|qr (by cases H;exact pL<|rl (s':=Tz a c G u v<|Option.getD aw [])<|tr (tr (tr (JgK (enc:=Ax) (r:=aw) 4)<|Gx (k:=1) (sz:=2) 0 1 (u.map Al) (u.length) (by kernel_rfl) C0 leM rfl)<|Gx (k:=3) (sz:=1) 0 3 (v.map<|eOp Ax) (v.length) (by kernel_rfl) C0 leM rfl)<|sg [4])
 ·refine sk<|qz<|sr<|ck 2<|en<|sr<|ck 5<|bx H λ bh Y H=>sp (Bd 1 2 Y)<|sp (CI Al 1 0 (ty 109) Y)<|ck 2<|en<|sj (λ (x:((List<|Ab×Int)×(List Af)×(List Ab)×(List<|Option<|List Af)))=>ZJ e a c x.1 x.2.1 x.2.2.1 x.2.2.2) (λ (x:((List<|Ab×Int)×(List Af)×(List Ab)×(List<|Option<|List Af)))=>Bp n e x.1 x.2.1 x.2.2.1 x.2.2.2) z ?_ (λ h=>?_)
  ·rintro⟨R,l,L,S⟩ H;exact sq<|rg (fz (enc:=Ax) (xs:=l) 5 5 3)<|ck 6<|bx H λ bi Z H=>sp (Bd 7 1 Z)<|bx H λ a9 Q H=>stA (eOp Ax) 7 0 (ty 150) Z Q<|en<|sq<|rg (tr (sn 108 7 1<|Bb Q)<|snc 0 3 7 1<|Bb Q)<|ck 2<|en<|re (by cases H;exact pL<|rl (s':=Tz a c R L a9 l)<|sg [4])
  refine sr<|ck 3<|en<|cn H (λ H=>?_)<|λ H=>?_
  ·exact rlz 11 13 (.refl _)<|ck 2<|bx H λ b8 ay H=>sp (Gy ay)<|ck 5<|bx H λ s6 az H=>sp (Ko az)<|ck 1<|bx H λ ab a0 H=>xs (xok _ _) (g:=true) rfl (Gi) [0,1,2,3,4] (DO a0) rfl<|ck 1<|mx<|ck 1<|nx 16 14<|mx<|bx H λ ba a2 H=>sp (Br Ax 5 3 a2)<|nx 16 15<|mx<|ck 1<|nz<|qs (sg [0,1,5])<|h (ab.1,ba,ab.2.1,ab.2.2.1) H
  ·exact sr<|ck 9<|bx H λ i a3 H=>sp (AM (eL Be) a3)<|ck 1<|sp (A1 Be i)<|ck 1<|en<|bk 0<|bx H λ T a4 H=>lX Jj a4 (tr (tr (Gx (k:=1) (sz:=2) 0 1 (u.map Al) (u.length) (by kernel_rfl) C0 leM rfl)<|Gx (k:=3) (sz:=1) 0 3 (v.map<|eOp Ax) (v.length) (by kernel_rfl) C0 leM rfl)<|sg [0,1,5,64,65,66]) rfl λ s a5=>qH<|qs (tr (a5)<|sg [0,1,5])<|h (T.1,T.2.1,T.2.2.1,T.2.2.2) H
end
section
variable (h:Ah) (b:Ap) (C:(List (Int×(List Ah)))) (t:(List Ab)) (E:(List (Ab×Int))) (u:(List (Option (List Af)))) (g:(List (Am×An))) (P:(List (Int×(List Ah)))) (Q:(List (Ab×Int))) (G:(List Ab)) (I:(List (Option (List Af)))) (i:((List (Ab×Int))×(List Ab)×(List (Option (List Af)))×(List Af))) (j:(List (Int×(List Ah)))) (J:(List (Ab×Int))) (v:(List Ab)) (w:(List (Option (List Af)))) (l:Int) (R:(List (Int×(List Ah)))) (S:(List (Ab×Int))) (K:(List Ab)) (L:(List (Option (List Af)))) (o:Af) (e:((List (Ab×Int))×(List Ab)×(List (Option (List Af)))×(List Af))) (c:(List (Int×(List Ah)))) (q:Int) (r:(List (Int×(List Ah)))) (p:(List (Int×(List Ah))))
def ZP:St:=⟨(0,.ptr 0 0)::(1,.agg [.d<|.int .i64 h.Pair.A,.d<|.int .i64 h.Pair.B,.d<|.int .i64 h.Lead.Side,.d<|.str h.Lead.Text])::(2,.mp 1)::[],[some<|.box [.dptr (Aw b) 0,.osl 2 2 0<|t.length,.mp 3,.osl 4 1 0<|u.length,.mp 5],some<|.nmp false (.d<|.sl [])<|D2 eU8 4 Aq C,some<|.arr 2<|t.map Al,some<|.map true false<|AC Al AN E,some<|.arr 1<|u.map<|eOp Ax,some<|.map true true<|AC AR AZ g]⟩
def ZQ:St:=⟨[],[some<|.box [.dptr (Aw b) 0,.osl 6 2 0<|G.length,.mp 3,.osl 7 1 0<|I.length,.mp 5],some<|.nmp false (.d<|.sl [])<|D2 eU8 4 Aq P,none,some<|.map true false<|AC Al AN Q,none,some<|.map true true<|AC AR AZ g,some<|.arr 2<|G.map Al,some<|.arr 1<|I.map<|eOp Ax]⟩
def ZR:St:=⟨(0,.ptr 0 0)::(2,.mp 1)::(4,.ptr 6 0)::(15,.d<|.sl<|i.2.2.2.map Ax)::(16,.d<|.int .i64 ((i.2.2.2.length:Nat):Int))::(17,.d<|.int .i64 l)::[],[some<|.box [.dptr (Aw b) 0,.osl 7 2 0<|v.length,.mp 3,.osl 8 1 0<|w.length,.mp 5],some<|.nmp false (.d<|.sl [])<|D2 eU8 4 Aq j,none,some<|.map true false<|AC Al AN J,none,some<|.map true true<|AC AR AZ g,some<|.box<|IU h,some<|.arr 2<|v.map Al,some<|.arr 1<|w.map<|eOp Ax]⟩
def ZS:St:=⟨[],[some<|.box [.dptr (Aw b) 0,.osl 6 2 0<|K.length,.mp 3,.osl 7 1 0<|L.length,.mp 5],some<|.nmp false (.d<|.sl [])<|D2 eU8 4 Aq R,none,some<|.map true false<|AC Al AN S,none,some<|.map true true<|AC AR AZ g,some<|.arr 2<|K.map Al,some<|.arr 1<|L.map<|eOp Ax]⟩
def ZT:St:=⟨(0,.ptr 0 0)::(2,.mp 1)::(4,.ptr 6 0)::(7,.ptr 7 0)::(15,.d<|.sl<|i.2.2.2.map Ax)::(16,.d<|.int .i64 ((i.2.2.2.length:Nat):Int))::(17,.d<|.int .i64 l)::(25,.d<|.sl<|e.2.2.2.map Ax)::(26,.d<|.int .i64 ((e.2.2.2.length:Nat):Int))::(27,.d<|.int .i64 q)::[],[some<|.box [.dptr (Aw b) 0,.osl 8 2 0<|e.2.1.length,.mp 3,.osl 9 1 0<|e.2.2.1.length,.mp 5],some<|.nmp false (.d<|.sl [])<|D2 eU8 4 Aq c,none,some<|.map true false<|AC Al AN e.1,none,some<|.map true true<|AC AR AZ g,some<|.box<|IU h,some<|.box<|Tv o,some<|.arr 2<|e.2.1.map Al,some<|.arr 1<|e.2.2.1.map<|eOp Ax]⟩
def ZU:St:=⟨(0,.ptr 0 0)::(2,.mp 1)::(4,.ptr 6 0)::(15,.d<|.sl<|i.2.2.2.map Ax)::(16,.d<|.int .i64 ((i.2.2.2.length:Nat):Int))::(17,.d<|.int .i64 l)::[],[some<|.box [.dptr (Aw b) 0,.osl 7 2 0<|e.2.1.length,.mp 3,.osl 8 1 0<|e.2.2.1.length,.mp 5],some<|.nmp false (.d<|.sl [])<|D2 eU8 4 Aq r,none,some<|.map true false<|AC Al AN e.1,none,some<|.map true true<|AC AR AZ g,some<|.box<|IU h,some<|.arr 2<|e.2.1.map Al,some<|.arr 1<|e.2.2.1.map<|eOp Ax]⟩
def ZV:St:=⟨(0,.ptr 0 0)::(2,.mp 1)::(4,.ptr 6 0)::(7,.ptr 7 0)::(15,.d<|.sl<|i.2.2.2.map Ax)::(16,.d<|.int .i64 ((i.2.2.2.length:Nat):Int))::(17,.d<|.int .i64 l)::(25,.d<|.sl<|e.2.2.2.map Ax)::(26,.d<|.int .i64 ((e.2.2.2.length:Nat):Int))::(27,.d<|.int .i64 q)::[],[some<|.box [.dptr (Aw b) 0,.osl 8 2 0<|e.2.1.length,.mp 3,.osl 9 1 0<|e.2.2.1.length,.mp 5],some<|.nmp false (.d<|.sl [])<|D2 eU8 4 Aq p,none,some<|.map true false<|AC Al AN e.1,none,some<|.map true true<|AC AR AZ g,some<|.box<|IU h,some<|.box<|Tv o,some<|.arr 2<|e.2.1.map Al,some<|.arr 1<|e.2.2.1.map<|eOp Ax]⟩
def ID:(List<|Int×(List Ah))->Ex->St->Prop:=xX 6 2<|λ (y:(List<|Int×(List Ah)))=>ZU h b g i l e y
def Fi:((List<|Int×(List Ah))×Int)->St:=(λ (x:((List<|Int×(List Ah))×Int))=>ZT h b g i l o e x.1 x.2)
def IE:((List<|Int×(List Ah))×(List<|Ab×Int)×(List Ab)×(List<|Option<|List Af))->Ex->St->Prop:=xX 6 0<|λ (y:((List<|Int×(List Ah))×(List<|Ab×Int)×(List Ab)×(List<|Option<|List Af)))=>ZS b g y.1 y.2.1 y.2.2.1 y.2.2.2
def Fj:((List<|Int×(List Ah))×(List<|Ab×Int)×(List Ab)×(List<|Option<|List Af)×Int)->St:=(λ (x:((List<|Int×(List Ah))×(List<|Ab×Int)×(List Ab)×(List<|Option<|List Af)×Int))=>ZR h b g i x.1 x.2.1 x.2.2.1 x.2.2.2.1 x.2.2.2.2)
variable {h b C t E u g P Q G I i j J v w l R S K L o e c q r p}
theorem H1 (x:((List (Int×(List Ah)))×Int)) (z:(((List (Int×(List Ah)))×Int)⊕(List (Int×(List Ah))))) (H:BL n h b g i l o e x.1 x.2=some z):WP (cxk 62 6) (AX Try.f44) [1,1,0,0,1,1,0,0,1,1,0,0] (AQ 6 (Fi h b g i l o e) (ID h b g i l e) z) (Fi h b g i l o e x):=by
 obtain⟨c,q⟩:=x;refine sr<|ck 1<|en<|sq<|cn H (λ H=>?_)<|λ H=>?_
 ·refine sk<|qz<|sj (λ (x:(List<|Int×(List Ah)))=>ZV h b g i l o e q x) (λ (x:(List<|Int×(List Ah)))=>Cg n q x) z ?_ (λ f=>?_)
  ·intro p H;exact rz<|ck 2<|ae (by cases H;exact og<|gP [0,2,4,7,15,16,17,25,26,27] [0,1,2,3,4,5,6,7,8,9]<|po1<|Pl.m false (.d<|.sl []) (nmM (encK:=eU8) (isz:=4) (enc:=Aq) (m:=p) λ _ _=>rfl)<|po1<|po1<|po1<|po1<|po1<|po1<|po1<|po1<|Pl.z)
  refine bk 3<|sr<|bx H λ ah T H=>sp (AM Ax T)<|ck 3<|en<|sq<|sr<|ck 5<|en<|cn H (λ H=>?_)<|λ H=>?_
  ·exact ex 3<|qx<|qH<|qs (gP [0,2,4,7,15,16,17,25,26,27] [0,1,2,3,4,5,6,7,8,9]<|po1<|Pl.m false (.d<|.sl []) (nmM (encK:=eU8) (isz:=4) (enc:=Aq) (m:=c) λ _ _=>rfl)<|po1<|po1<|po1<|po1<|po1<|po1<|po1<|po1<|Pl.z)<|f c H
  ·exact sk<|qz<|sr<|ck 11<|bx H λ ai U H=>ca false (Me U)<|ck 3<|en<|rg (JgH (ka:=false) (dv:=.d<|.sl []) (encK:=eU8) (isz:=4) (enc:=Aq) 1 12 o.Cell c)<|ck 6<|sp (YS (isz:=4) (n:=12) (encK:=eU8) (enc:=Aq) (k:=1) (m:=c) (key:=o.Cell) (x:=.int .u8 o.Cell) Jd8)<|ck 1<|bx H λ aj V H=>ca false (KN V)<|ck 1<|bx H λ O W H=>sp (Br Aq 12 4 W)<|sp (JbU (isz:=4) (n:=12) (n':=14) (l':=(O.length)) (a:=.osl 12 4 0<|List.length<|Cb o.Cell c) (encK:=eU8) (enc:=Aq) (k:=1) (m:=c) (key:=o.Cell) (x:=.int .u8 o.Cell) Jd8)<|ae<|qN<|qs (tr (JgI (ka:=false) (encK:=eU8) (isz:=4) (enc:=Aq) (dv:=.osl 12 4 0 0) 1 14 o.Cell O c)<|gP [0,2,4,7,15,16,17,25,26,27] [0,1,2,3,4,5,6,7,8,9]<|po1<|Pl.m false (.d<|.sl []) (nmM (encK:=eU8) (isz:=4) (enc:=Aq) (m:=(DY o.Cell O c)) λ _ _=>rfl)<|po1<|po1<|po1<|po1<|po1<|po1<|po1<|po1<|Pl.z)<|f (DY o.Cell O c) H
 ·exact ex 2<|qx (by cases H;exact xo rfl<|gP [0,2,4,15,16,17] [0,1,2,3,4,5,6,8,9]<|po1<|Pl.m false (.d<|.sl []) (nmM (encK:=eU8) (isz:=4) (enc:=Aq) (m:=c) λ _ _=>rfl)<|po1<|po1<|po1<|po1<|po1<|po1<|po1<|Pl.z)
theorem H2 (x:((List (Int×(List Ah)))×(List (Ab×Int))×(List Ab)×(List (Option (List Af)))×Int)) (z:(((List (Int×(List Ah)))×(List (Ab×Int))×(List Ab)×(List (Option (List Af)))×Int)⊕((List (Int×(List Ah)))×(List (Ab×Int))×(List Ab)×(List (Option (List Af)))))) (H:Ci n h b g i x.1 x.2.1 x.2.2.1 x.2.2.2.1 x.2.2.2.2=some z):WP (cxk 62 6) (AX Try.f44) [1,1,0,0] (AQ 6 (Fj h b g i) (IE b g) z) (Fj h b g i x):=by
 obtain⟨j,J,v,w,l⟩:=x;refine sr<|ck 1<|en<|sq<|cn H (λ H=>?_)<|λ H=>?_
 ·exact sk<|qz<|sq<|bk 1<|sr<|bx H λ o X H=>sp (AM Ax X)<|ck 3<|en<|sr<|ck 4<|bx H λ e Y H=>lt [0,7,3,8,5] (G3 Y)<|sp (A1 Ax e.2.2.2)<|ck 1<|en<|bk 2<|bx H λ ag Z H=>lX H1 Z (gP [0,2,4,7,15,16,17,25,26,27] [0,1,2,3,4,5,6,9,10,11]<|po1<|Pl.m false (.d<|.sl []) (nmM (encK:=eU8) (isz:=4) (enc:=Aq) (m:=j) λ _ _=>rfl)<|po1<|po1<|po1<|po1<|po1<|po1<|po1<|po1<|Pl.z) rfl λ s aa=>qH<|qN<|qs (aa)<|rz<|ck 2<|ae (by cases H;exact og<|gP [0,2,4,15,16,17] [0,1,2,3,4,5,6,7,8]<|po1<|Pl.m false (.d<|.sl []) (nmM (encK:=eU8) (isz:=4) (enc:=Aq) (m:=ag) λ _ _=>rfl)<|po1<|po1<|po1<|po1<|po1<|po1<|po1<|Pl.z)
 ·exact ex 0<|qx (by cases H;exact xo rfl<|gP [] [0,1,2,3,4,5,7,8]<|po1<|Pl.m false (.d<|.sl []) (nmM (encK:=eU8) (isz:=4) (enc:=Aq) (m:=j) λ _ _=>rfl)<|po1<|po1<|po1<|po1<|po1<|po1<|Pl.z)
theorem J1 {z} (H:DN n h b C t E u g=some z):CH Try.prog 44 [.ptr 0 0,.agg (IU h),.mp 1] [some (.box [.dptr (Aw b) 0,.osl 2 2 0 (t.length),.mp 3,.osl 4 1 0 (u.length),.mp 5]),some (.nmp false (.d (.sl [])) (D2 eU8 4 Aq C)),some (.arr 2 (t.map Al)),some (.map true false (AC Al AN E)),some (.arr 1 (u.map (eOp Ax))),some (.map true true (AC AR AZ g))] 6 (.tup []) [some (.box [.dptr (Aw b) 0,.osl 6 2 0 (z.2.2.1.length),.mp 3,.osl 7 1 0 (z.2.2.2.length),.mp 5]),some (.nmp false (.d (.sl [])) (D2 eU8 4 Aq z.1)),none,some (.map true false (AC Al AN z.2.1)),none,some (.map true true (AC AR AZ g)),some (.arr 2 (z.2.2.1.map Al)),some (.arr 1 (z.2.2.2.map (eOp Ax)))]:=by
 exact fL 62 6 (ZP h b C t E u g) Try.func44<|sr<|ck 1<|en<|sr<|ck 4<|bx H λ i ab H=>lt [0,2,3,4,5] (G3 ab)<|sp (A1 Ax i.2.2.2)<|ck 1<|en<|bk 0<|bx H λ M ac H=>lX H2 ac (gP [0,2,4,15,16,17] [0,1,2,3,4,5,6,7,8]<|po1<|Pl.m false (.d<|.sl []) (nmM (encK:=eU8) (isz:=4) (enc:=Aq) (m:=C) λ _ _=>rfl)<|po1<|po1<|po1<|po1<|po1<|po1<|po1<|Pl.z) rfl λ s af=>qH (by cases H;exact pL'<|rl (s':=ZQ b g M.1 M.2.1 M.2.2.1 M.2.2.2)<|tr (af)<|gP [] [0,1,2,3,4,5,6,7]<|po1<|Pl.m false (.d<|.sl []) (nmM (encK:=eU8) (isz:=4) (enc:=Aq) (m:=M.1) λ _ _=>rfl)<|po1<|po1<|po1<|po1<|po1<|po1<|Pl.z)
end
section
variable (a:Ah) (b:Ap) (c:(List Ab)) (f:(List (Ab×Int))) (e:(List (Option (List Af)))) (g:(List (Am×An))) (k:Bool)
def ZW:St:=⟨(0,.ptr 0 0)::(1,.agg [.d<|.int .i64 a.Pair.A,.d<|.int .i64 a.Pair.B,.d<|.int .i64 a.Lead.Side,.d<|.str a.Lead.Text])::[],[some<|.box [.dptr (Aw b) 0,.osl 1 2 0<|c.length,.mp 2,.osl 3 1 0<|e.length,.mp 4],some<|.arr 2<|c.map Al,some<|.map true false<|AC Al AN f,some<|.arr 1<|e.map<|eOp Ax,some<|.map true true<|AC AR AZ g]⟩
def ZX:St:=⟨(4,.d<|.bool k)::[],[some<|.box [.dptr (Aw b) 0,.osl 1 2 0<|c.length,.mp 2,.osl 3 1 0<|e.length,.mp 4],some<|.arr 2<|c.map Al,some<|.map true false<|AC Al AN f,some<|.arr 1<|e.map<|eOp Ax,some<|.map true true<|AC AR AZ g]⟩
variable {a b c f e g k}
theorem Jk {z} (H:Di n a b c f e g=some z):CH Try.prog 45 [.ptr 0 0,.agg (IU a)] [some (.box [.dptr (Aw b) 0,.osl 1 2 0 (c.length),.mp 2,.osl 3 1 0 (e.length),.mp 4]),some (.arr 2 (c.map Al)),some (.map true false (AC Al AN f)),some (.arr 1 (e.map (eOp Ax))),some (.map true true (AC AR AZ g))] 5 (.d (.bool z)) [some (.box [.dptr (Aw b) 0,.osl 1 2 0 (c.length),.mp 2,.osl 3 1 0 (e.length),.mp 4]),some (.arr 2 (c.map Al)),some (.map true false (AC Al AN f)),some (.arr 1 (e.map (eOp Ax))),some (.map true true (AC AR AZ g))]:=by
 exact fL 65 5 (ZW a b c f e g) Try.func45<|sr<|ck 2<|en<|sr<|ck 7<|bx H λ h l H=>sp (Bd 1 2 l)<|sp (CI Al 1 0 (ty 109) l)<|ck 7<|bx H λ i m H=>sp (Bd 1 2 m)<|sp (CI Al 1 0 (ty 109) m)<|ck 4<|en<|sr<|ck 6<|gc 2 (a.Lead.Side != 0)<|pA<|ck 2<|gc 2 ((a.Lead.Side != 0)&&(h.Rest==[]))<|pA<|ck 2<|gc 6 (((a.Lead.Side != 0)&&(h.Rest==[]))&&(i.Rest==[]))<|ck 1<|gc 1 (((a.Lead.Side != 0)&&(h.Rest==[]))&&(i.Rest==[]))<|bx H λ j o H=>sE (λ hg=>AM eB<|Eo o hg)<|gc 1 (((a.Lead.Side != 0)&&(h.Rest==[]))&&(i.Rest==[]))<|pA<|ck 2<|gc 6 ((((a.Lead.Side != 0)&&(h.Rest==[]))&&(i.Rest==[]))&&j)<|ck 1<|gc 1 ((((a.Lead.Side != 0)&&(h.Rest==[]))&&(i.Rest==[]))&&j)<|bx H λ q p H=>sE (λ hg=>AM eB<|Eo p hg)<|gc 1 ((((a.Lead.Side != 0)&&(h.Rest==[]))&&(i.Rest==[]))&&j)<|pA<|ck 1<|en<|re (by cases H;exact pL<|rl (s':=ZX b c f e g<|((((a.Lead.Side != 0)&&(h.Rest==[]))&&(i.Rest==[]))&&j)&&q)<|sg [4])
end
section
variable (b:Ap) (B:(List Ab)) (U:(List (Ab×Int))) (C:(List (Option (List Af)))) (V:(List (Am×An))) (aw:(List (Ab×Int))) (ay:(List (Am×An))) (W:(List Int)) (X:(List Ab)) (Y:(List (Option (List Af)))) (az:Bool) (Z:(List (Ab×Int))) (aa:(List (Am×An))) (a:(List (List ((List Ah)×Int)))) (r:(List (Int×(List Ah)))) (O:(List Ab)) (P:(List (Option (List Af)))) (a0:(List (Ab×Int))) (a2:(List (Am×An))) (ab:(List Ab)) (ac:(List (Option (List Af)))) (af:(List (Ab×Int))) (v:(List (Am×An))) (w:(List (Int×(List Ah)))) (i:(List (List ((List Ah)×Int)))) (Q:(List Ab)) (R:(List (Option (List Af)))) (g:Int) (a3:(List (Ab×Int))) (a4:(List (Am×An))) (E:(List (Int×(List Ah)))) (J:(List (List ((List Ah)×Int)))) (ag:(List Ab)) (ah:(List (Option (List Af)))) (g2:Bi) (ai:(List (Ab×Int))) (t:(List (Int×(List Ah)))) (S:(List Ab)) (T:(List (Option (List Af)))) (aj:Int) (a5:(List (Ab×Int))) (G:(List (Int×(List Ah)))) (ak:(List Ab)) (al:(List (Option (List Af)))) (c:((List (Ab×Int))×(List (Int×(List Ah)))×(List Ab)×(List (Option (List Af))))) (am:(List (Am×An))) (h:(List (List ((List Ah)×Int)))) (l:Int) (a6:(List (Am×An))) (K:(List (List ((List Ah)×Int)))) (ap:(List (Am×An))) (A:(List (List ((List Ah)×Int)))) (j:Bi) (ar:(List (Am×An))) (I:Int) (u:Bi) (a7:(List (Am×An))) (q:Bi) (au:(List (Am×An)))
def ZY:St:=⟨(0,.ptr 0 0)::[],[some<|.box [.dptr (Aw b) 0,.osl 1 2 0<|B.length,.mp 2,.osl 3 1 0<|C.length,.mp 4],some<|.arr 2<|B.map Al,some<|.map true false<|AC Al AN U,some<|.arr 1<|C.map<|eOp Ax,some<|.map true true<|AC AR AZ V]⟩
def Pm:St:=⟨(2,.osl 5 1 0<|W.length)::(3,.d<|.bool az)::[],[some<|.box [.dptr (Aw b) 0,.osl 6 2 0<|X.length,.mp 2,.osl 7 1 0<|Y.length,.mp 4],none,some<|.map true false<|AC Al AN aw,none,some<|.map true true<|AC AR AZ ay,some<|.arr 1<|W.map eU8,some<|.arr 2<|X.map Al,some<|.arr 1<|Y.map<|eOp Ax]⟩
def ZZ:St:=⟨(0,.ptr 0 0)::(5,.osl 5 1 0<|a.length)::(6,.mp 6)::[],[some<|.box [.dptr (Aw b) 0,.osl 7 2 0<|O.length,.mp 2,.osl 8 1 0<|P.length,.mp 4],none,some<|.map true false<|AC Al AN Z,none,some<|.map true true<|AC AR AZ aa,some<|.arr 1<|a.map<|ePG Aq,some<|.nmp false (.d<|.sl [])<|Ee eU8 Aq r,some<|.arr 2<|O.map Al,some<|.arr 1<|P.map<|eOp Ax]⟩
def Z0:St:=⟨[],[some<|.box [.dptr (Aw b) 0,.osl 5 2 0<|ab.length,.mp 2,.osl 6 1 0<|ac.length,.mp 4],none,some<|.map true false<|AC Al AN a0,none,some<|.map true true<|AC AR AZ a2,some<|.arr 2<|ab.map Al,some<|.arr 1<|ac.map<|eOp Ax]⟩
def Z1:St:=⟨(0,.ptr 0 0)::(6,.mp 5)::(7,.osl 6 1 0<|i.length)::(44,.osl 7 1 0<|a.length)::(45,.d<|.int .i64 ((a.length:Nat):Int))::(46,.d<|.int .i64 g)::[],[some<|.box [.dptr (Aw b) 0,.osl 8 2 0<|Q.length,.mp 2,.osl 9 1 0<|R.length,.mp 4],none,some<|.map true false<|AC Al AN af,none,some<|.map true true<|AC AR AZ v,some<|.nmp false (.d<|.sl [])<|Ee eU8 Aq w,some<|.arr 1<|i.map<|ePG Aq,some<|.arr 1<|a.map<|ePG Aq,some<|.arr 2<|Q.map Al,some<|.arr 1<|R.map<|eOp Ax]⟩
def Z2:St:=⟨(0,.ptr 0 0)::(6,.mp 5)::(7,.osl 6 1 0<|J.length)::[],[some<|.box [.dptr (Aw b) 0,.osl 7 2 0<|ag.length,.mp 2,.osl 8 1 0<|ah.length,.mp 4],none,some<|.map true false<|AC Al AN a3,none,some<|.map true true<|AC AR AZ a4,some<|.nmp false (.d<|.sl [])<|Ee eU8 Aq E,some<|.arr 1<|J.map<|ePG Aq,some<|.arr 2<|ag.map Al,some<|.arr 1<|ah.map<|eOp Ax]⟩
def Z3:St:=⟨(0,.ptr 0 0)::(6,.mp 5)::(7,.osl 6 1 0<|i.length)::(9,.d<|dPG Aq ((g2.Nodes,g2.Cell)::g2.From))::(44,.osl 7 1 0<|a.length)::(45,.d<|.int .i64 ((a.length:Nat):Int))::(46,.d<|.int .i64 g)::(54,.d<|.sl<|g2.Nodes.map Aq)::(55,.d<|.int .i64 ((g2.Nodes.length:Nat):Int))::(56,.d<|.int .i64 aj)::[],[some<|.box [.dptr (Aw b) 0,.osl 8 2 0<|S.length,.mp 2,.osl 9 1 0<|T.length,.mp 4],none,some<|.map true false<|AC Al AN ai,none,some<|.map true true<|AC AR AZ v,some<|.nmp false (.d<|.sl [])<|D2 eU8 4 Aq t,some<|.arr 1<|i.map<|ePG Aq,some<|.arr 1<|a.map<|ePG Aq,some<|.arr 2<|S.map Al,some<|.arr 1<|T.map<|eOp Ax]⟩
def Z4:St:=⟨(0,.ptr 0 0)::(6,.mp 5)::(7,.osl 6 1 0<|i.length)::(9,.d<|dPG Aq ((g2.Nodes,g2.Cell)::g2.From))::(44,.osl 7 1 0<|a.length)::(45,.d<|.int .i64 ((a.length:Nat):Int))::(46,.d<|.int .i64 g)::[],[some<|.box [.dptr (Aw b) 0,.osl 8 2 0<|ak.length,.mp 2,.osl 9 1 0<|al.length,.mp 4],none,some<|.map true false<|AC Al AN a5,none,some<|.map true true<|AC AR AZ v,some<|.nmp false (.d<|.sl [])<|D2 eU8 4 Aq G,some<|.arr 1<|i.map<|ePG Aq,some<|.arr 1<|a.map<|ePG Aq,some<|.arr 2<|ak.map Al,some<|.arr 1<|al.map<|eOp Ax]⟩
def HD:((List<|Ab×Int)×(List<|Int×(List Ah))×(List Ab)×(List<|Option<|List Af))->Ex->St->Prop:=xX 5 4<|λ (y:((List<|Ab×Int)×(List<|Int×(List Ah))×(List Ab)×(List<|Option<|List Af)))=>Z4 b a v i g g2 y.1 y.2.1 y.2.2.1 y.2.2.2
def Et:((List<|Ab×Int)×(List<|Int×(List Ah))×(List Ab)×(List<|Option<|List Af)×Int)->St:=(λ (x:((List<|Ab×Int)×(List<|Int×(List Ah))×(List Ab)×(List<|Option<|List Af)×Int))=>Z3 b a v i g g2 x.1 x.2.1 x.2.2.1 x.2.2.2.1 x.2.2.2.2)
def Z5:St:=⟨(0,.ptr 0 0)::(6,.mp 5)::(7,.osl 6 1 0<|h.length)::(9,.d<|dPG Aq ((g2.Nodes,g2.Cell)::g2.From))::(44,.osl 7 1 0<|a.length)::(45,.d<|.int .i64 ((a.length:Nat):Int))::(46,.d<|.int .i64 g)::(65,.d<|.int .u8 l)::[],[some<|.box [.dptr (Aw b) 0,.osl 8 2 0<|c.2.2.1.length,.mp 2,.osl 9 1 0<|c.2.2.2.length,.mp 4],none,some<|.map true false<|AC Al AN c.1,none,some<|.map true true<|AC AR AZ am,some<|.nmp false (.d<|.sl [])<|Ee eU8 Aq c.2.1,some<|.arr 1<|h.map<|ePG Aq,some<|.arr 1<|a.map<|ePG Aq,some<|.arr 2<|c.2.2.1.map Al,some<|.arr 1<|c.2.2.2.map<|eOp Ax]⟩
def W9:St:=⟨(0,.ptr 0 0)::(6,.mp 5)::(7,.osl 6 1 0<|K.length)::(44,.osl 7 1 0<|a.length)::(45,.d<|.int .i64 ((a.length:Nat):Int))::(46,.d<|.int .i64 g)::[],[some<|.box [.dptr (Aw b) 0,.osl 8 2 0<|c.2.2.1.length,.mp 2,.osl 9 1 0<|c.2.2.2.length,.mp 4],none,some<|.map true false<|AC Al AN c.1,none,some<|.map true true<|AC AR AZ a6,some<|.nmp false (.d<|.sl [])<|Ee eU8 Aq c.2.1,some<|.arr 1<|K.map<|ePG Aq,some<|.arr 1<|a.map<|ePG Aq,some<|.arr 2<|c.2.2.1.map Al,some<|.arr 1<|c.2.2.2.map<|eOp Ax]⟩
def Xa:St:=⟨(0,.ptr 0 0)::(6,.mp 5)::(7,.osl 6 1 0<|A.length)::(9,.d<|dPG Aq ((g2.Nodes,g2.Cell)::g2.From))::(44,.osl 7 1 0<|a.length)::(45,.d<|.int .i64 ((a.length:Nat):Int))::(46,.d<|.int .i64 g)::(65,.d<|.int .u8 l)::[],[some<|.box [.dptr (Aw b) 0,.osl 8 2 0<|c.2.2.1.length,.mp 2,.osl 9 1 0<|c.2.2.2.length,.mp 4],none,some<|.map true false<|AC Al AN c.1,none,some<|.map true true<|AC AR AZ ap,some<|.nmp false (.d<|.sl [])<|Ee eU8 Aq c.2.1,some<|.arr 1<|A.map<|ePG Aq,some<|.arr 1<|a.map<|ePG Aq,some<|.arr 2<|c.2.2.1.map Al,some<|.arr 1<|c.2.2.2.map<|eOp Ax]⟩
def Xb:St:=⟨(0,.ptr 0 0)::(6,.mp 5)::(7,.osl 6 1 0<|h.length)::(9,.d<|dPG Aq ((g2.Nodes,g2.Cell)::g2.From))::(13,.ptr 7 0)::(44,.osl 8 1 0<|a.length)::(45,.d<|.int .i64 ((a.length:Nat):Int))::(46,.d<|.int .i64 g)::(65,.d<|.int .u8 l)::(74,.d<|.sl<|List.map Aq<|Cb l c.2.1)::(75,.d<|.int .i64 ((List.length (Cb l c.2.1):Nat):Int))::(76,.d<|.int .i64 I)::[],[some<|.box [.dptr (Aw b) 0,.osl 9 2 0<|c.2.2.1.length,.mp 2,.osl 10 1 0<|c.2.2.2.length,.mp 4],none,some<|.map true false<|AC Al AN c.1,none,some<|.map true true<|AC AR AZ ar,some<|.nmp false (.d<|.sl [])<|Ee eU8 Aq c.2.1,some<|.arr 1<|h.map<|ePG Aq,some<|.box<|Lq j (.osl 11 4 0<|j.Nodes.length)<|.d<|dPG Aq j.From,some<|.arr 1<|a.map<|ePG Aq,some<|.arr 2<|c.2.2.1.map Al,some<|.arr 1<|c.2.2.2.map<|eOp Ax,some<|.arr 4<|j.Nodes.map Aq]⟩
def Xc:St:=⟨(0,.ptr 0 0)::(6,.mp 5)::(7,.osl 6 1 0<|h.length)::(9,.d<|dPG Aq ((g2.Nodes,g2.Cell)::g2.From))::(13,.ptr 7 0)::(44,.osl 8 1 0<|a.length)::(45,.d<|.int .i64 ((a.length:Nat):Int))::(46,.d<|.int .i64 g)::(65,.d<|.int .u8 l)::[],[some<|.box [.dptr (Aw b) 0,.osl 9 2 0<|c.2.2.1.length,.mp 2,.osl 10 1 0<|c.2.2.2.length,.mp 4],none,some<|.map true false<|AC Al AN c.1,none,some<|.map true true<|AC AR AZ a7,some<|.nmp false (.d<|.sl [])<|Ee eU8 Aq c.2.1,some<|.arr 1<|h.map<|ePG Aq,some<|.box<|Lq u (.osl 11 4 0<|u.Nodes.length)<|.d<|dPG Aq u.From,some<|.arr 1<|a.map<|ePG Aq,some<|.arr 2<|c.2.2.1.map Al,some<|.arr 1<|c.2.2.2.map<|eOp Ax,some<|.arr 4<|u.Nodes.map Aq]⟩
def Xd:St:=⟨(0,.ptr 0 0)::(6,.mp 5)::(7,.osl 6 1 0<|h.length)::(9,.d<|dPG Aq ((g2.Nodes,g2.Cell)::g2.From))::(13,.ptr 7 0)::(44,.osl 8 1 0<|a.length)::(45,.d<|.int .i64 ((a.length:Nat):Int))::(46,.d<|.int .i64 g)::(65,.d<|.int .u8 l)::(74,.d<|.sl<|List.map Aq<|Cb l c.2.1)::(75,.d<|.int .i64 ((List.length (Cb l c.2.1):Nat):Int))::(76,.d<|.int .i64 I)::[],[some<|.box [.dptr (Aw b) 0,.osl 9 2 0<|c.2.2.1.length,.mp 2,.osl 10 1 0<|c.2.2.2.length,.mp 4],none,some<|.map true false<|AC Al AN c.1,none,some<|.map true true<|AC AR AZ au,some<|.nmp false (.d<|.sl [])<|Ee eU8 Aq c.2.1,some<|.arr 1<|h.map<|ePG Aq,some<|.box<|Lq q (.osl 11 4 0<|q.Nodes.length)<|.d<|dPG Aq q.From,some<|.arr 1<|a.map<|ePG Aq,some<|.arr 2<|c.2.2.1.map Al,some<|.arr 1<|c.2.2.2.map<|eOp Ax,some<|.arr 4<|q.Nodes.map Aq]⟩
def HE:((Bi×(List<|Am×An))⊕((List<|Ab×Int)×(List<|Am×An)×(List Int)×(List Ab)×(List<|Option<|List Af)×Bool))->Ex->St->Prop:=xS (xX 5 8<|λ (y:(Bi×(List<|Am×An)))=>Xc b a g g2 c h l y.1 y.2)<|xL 5 ty Try.f25 (λ (y:((List<|Ab×Int)×(List<|Am×An)×(List Int)×(List Ab)×(List<|Option<|List Af)×Bool))=>.tup [.osl 5 1 0<|y.2.2.1.length,.d<|.bool y.2.2.2.2.2])<|λ (y:((List<|Ab×Int)×(List<|Am×An)×(List Int)×(List Ab)×(List<|Option<|List Af)×Bool))=>[some<|.box [.dptr (Aw b) 0,.osl 6 2 0<|y.2.2.2.1.length,.mp 2,.osl 7 1 0<|y.2.2.2.2.1.length,.mp 4],none,some<|.map true false<|AC Al AN y.1,none,some<|.map true true<|AC AR AZ y.2.1,some<|.arr 1<|y.2.2.1.map eU8,some<|.arr 2<|y.2.2.2.1.map Al,some<|.arr 1<|y.2.2.2.2.1.map<|eOp Ax]
def Eu:(Bi×(List<|Am×An)×Int)->St:=(λ (x:(Bi×(List<|Am×An)×Int))=>Xb b a g g2 c h l x.1 x.2.1 x.2.2)
def HF:(((List<|Am×An)×(List<|List<|(List Ah)×Int))⊕((List<|Ab×Int)×(List<|Am×An)×(List Int)×(List Ab)×(List<|Option<|List Af)×Bool))->Ex->St->Prop:=xS (xX 5 6<|λ (y:((List<|Am×An)×(List<|List<|(List Ah)×Int)))=>W9 b a g c y.1 y.2)<|xL 5 ty Try.f25 (λ (y:((List<|Ab×Int)×(List<|Am×An)×(List Int)×(List Ab)×(List<|Option<|List Af)×Bool))=>.tup [.osl 5 1 0<|y.2.2.1.length,.d<|.bool y.2.2.2.2.2])<|λ (y:((List<|Ab×Int)×(List<|Am×An)×(List Int)×(List Ab)×(List<|Option<|List Af)×Bool))=>[some<|.box [.dptr (Aw b) 0,.osl 6 2 0<|y.2.2.2.1.length,.mp 2,.osl 7 1 0<|y.2.2.2.2.1.length,.mp 4],none,some<|.map true false<|AC Al AN y.1,none,some<|.map true true<|AC AR AZ y.2.1,some<|.arr 1<|y.2.2.1.map eU8,some<|.arr 2<|y.2.2.2.1.map Al,some<|.arr 1<|y.2.2.2.2.1.map<|eOp Ax]
def Ew:((List<|Am×An)×(List<|List<|(List Ah)×Int)×Int)->St:=(λ (x:((List<|Am×An)×(List<|List<|(List Ah)×Int)×Int))=>Z5 b a g g2 c x.1 x.2.1 x.2.2)
def HG:(((List<|Ab×Int)×(List<|Am×An)×(List<|Int×(List Ah))×(List<|List<|(List Ah)×Int)×(List Ab)×(List<|Option<|List Af))⊕((List<|Ab×Int)×(List<|Am×An)×(List Int)×(List Ab)×(List<|Option<|List Af)×Bool))->Ex->St->Prop:=xS (xX 5 2<|λ (y:((List<|Ab×Int)×(List<|Am×An)×(List<|Int×(List Ah))×(List<|List<|(List Ah)×Int)×(List Ab)×(List<|Option<|List Af)))=>Z2 b y.1 y.2.1 y.2.2.1 y.2.2.2.1 y.2.2.2.2.1 y.2.2.2.2.2)<|xL 5 ty Try.f25 (λ (y:((List<|Ab×Int)×(List<|Am×An)×(List Int)×(List Ab)×(List<|Option<|List Af)×Bool))=>.tup [.osl 5 1 0<|y.2.2.1.length,.d<|.bool y.2.2.2.2.2])<|λ (y:((List<|Ab×Int)×(List<|Am×An)×(List Int)×(List Ab)×(List<|Option<|List Af)×Bool))=>[some<|.box [.dptr (Aw b) 0,.osl 6 2 0<|y.2.2.2.1.length,.mp 2,.osl 7 1 0<|y.2.2.2.2.1.length,.mp 4],none,some<|.map true false<|AC Al AN y.1,none,some<|.map true true<|AC AR AZ y.2.1,some<|.arr 1<|y.2.2.1.map eU8,some<|.arr 2<|y.2.2.2.1.map Al,some<|.arr 1<|y.2.2.2.2.1.map<|eOp Ax]
def Ey:((List<|Ab×Int)×(List<|Am×An)×(List<|Int×(List Ah))×(List<|List<|(List Ah)×Int)×(List Ab)×(List<|Option<|List Af)×Int)->St:=(λ (x:((List<|Ab×Int)×(List<|Am×An)×(List<|Int×(List Ah))×(List<|List<|(List Ah)×Int)×(List Ab)×(List<|Option<|List Af)×Int))=>Z1 b a x.1 x.2.1 x.2.2.1 x.2.2.2.1 x.2.2.2.2.1 x.2.2.2.2.2.1 x.2.2.2.2.2.2)
def HH:(((List<|Ab×Int)×(List<|Am×An)×(List Ab)×(List<|Option<|List Af))⊕((List<|Ab×Int)×(List<|Am×An)×(List Int)×(List Ab)×(List<|Option<|List Af)×Bool))->Ex->St->Prop:=xS (xX 5 0<|λ (y:((List<|Ab×Int)×(List<|Am×An)×(List Ab)×(List<|Option<|List Af)))=>Z0 b y.1 y.2.1 y.2.2.1 y.2.2.2)<|xL 5 ty Try.f25 (λ (y:((List<|Ab×Int)×(List<|Am×An)×(List Int)×(List Ab)×(List<|Option<|List Af)×Bool))=>.tup [.osl 5 1 0<|y.2.2.1.length,.d<|.bool y.2.2.2.2.2])<|λ (y:((List<|Ab×Int)×(List<|Am×An)×(List Int)×(List Ab)×(List<|Option<|List Af)×Bool))=>[some<|.box [.dptr (Aw b) 0,.osl 6 2 0<|y.2.2.2.1.length,.mp 2,.osl 7 1 0<|y.2.2.2.2.1.length,.mp 4],none,some<|.map true false<|AC Al AN y.1,none,some<|.map true true<|AC AR AZ y.2.1,some<|.arr 1<|y.2.2.1.map eU8,some<|.arr 2<|y.2.2.2.1.map Al,some<|.arr 1<|y.2.2.2.2.1.map<|eOp Ax]
def Ez:((List<|Ab×Int)×(List<|Am×An)×(List<|List<|(List Ah)×Int)×(List<|Int×(List Ah))×(List Ab)×(List<|Option<|List Af))->St:=(λ (x:((List<|Ab×Int)×(List<|Am×An)×(List<|List<|(List Ah)×Int)×(List<|Int×(List Ah))×(List Ab)×(List<|Option<|List Af)))=>ZZ b x.1 x.2.1 x.2.2.1 x.2.2.2.1 x.2.2.2.2.1 x.2.2.2.2.2)
variable {b B U C V aw ay W X Y az Z aa a r O P a0 a2 ab ac af v w i Q R g a3 a4 E J ag ah g2 ai t S T aj a5 G ak al c am h l a6 K ap A j ar I u a7 q au}
theorem Hi (x:((List (Ab×Int))×(List (Int×(List Ah)))×(List Ab)×(List (Option (List Af)))×Int)) (z:(((List (Ab×Int))×(List (Int×(List Ah)))×(List Ab)×(List (Option (List Af)))×Int)⊕((List (Ab×Int))×(List (Int×(List Ah)))×(List Ab)×(List (Option (List Af)))))) (H:Bs n b a v i g g2 x.1 x.2.1 x.2.2.1 x.2.2.2.1 x.2.2.2.2=some z):WP (cxk 113 5) (AX Try.f25) [1,1,1,1,1,1,0,0,0,1,0,1,0,1,0,0,1,1,0,0,1,1,0,1,0,0] (AQ 5 (Et b a v i g g2) (HD b a v i g g2) z) (Et b a v i g g2 x):=by
 obtain⟨ai,t,S,T,aj⟩:=x;refine sr<|ck 1<|en<|sq<|cn H (λ H=>?_)<|λ H=>?_
 ·exact sk<|qz<|sq<|bk 5<|sr<|bx H λ b6 be H=>sp (AM Aq be)<|ck 3<|en<|rz<|ck 3<|bx H λ L bf H=>ltP [0,5,8,2,9,4] (J1 bf) (po1<|Pl.m false (.d<|.sl []) (nmM (encK:=eU8) (isz:=4) (enc:=Aq) (m:=t) λ _ _=>rfl)<|po1<|po1<|po1<|po1<|Pl.z)<|tb (f:=Gm<|DF [0,5,8,2,9,4] 11 6) [some<|.box [.dptr (Aw b) 0,.osl 11 2 0<|L.2.2.1.length,.mp 2,.osl 12 1 0<|L.2.2.2.length,.mp 4],none,some<|.map true false<|AC Al AN L.2.1,none,some<|.map true true<|AC AR AZ v,some<|.nmp false (.d<|.sl [])<|D2 eU8 4 Aq L.1,some<|.arr 1<|i.map<|ePG Aq,some<|.arr 1<|a.map<|ePG Aq,none,none,some<|.box<|IU b6,some<|.arr 2<|L.2.2.1.map Al,some<|.arr 1<|L.2.2.2.map<|eOp Ax] (po1<|po1<|po1<|po1<|po1<|Pl.m false (.d<|.sl []) (nmM (encK:=eU8) (isz:=4) (enc:=Aq) (m:=L.1) λ _ _=>rfl)<|po1<|po1<|po1<|po1<|po1<|po1<|po1<|Pl.z)<|ae<|qN<|qz<|rz<|ck 2<|ae (by cases H;exact og<|gP [0,6,7,9,44,45,46,54,55,56] [0,1,2,3,4,5,6,7,11,12]<|po1<|po1<|po1<|po1<|po1<|Pl.m false (.d<|.sl []) (nmM (encK:=eU8) (isz:=4) (enc:=Aq) (m:=L.1) λ _ _=>rfl)<|po1<|po1<|po1<|po1<|Pl.z)
 ·exact ex 4<|qx (by cases H;exact xo rfl<|gP [0,6,7,9,44,45,46] [0,1,2,3,4,5,6,7,8,9]<|po1<|po1<|po1<|po1<|po1<|Pl.m false (.d<|.sl []) (nmM (encK:=eU8) (isz:=4) (enc:=Aq) (m:=t) λ _ _=>rfl)<|po1<|po1<|po1<|po1<|Pl.z)
theorem Ef (x:(Bi×(List (Am×An))×Int)) (z:((Bi×(List (Am×An))×Int)⊕((Bi×(List (Am×An)))⊕((List (Ab×Int))×(List (Am×An))×(List Int)×(List Ab)×(List (Option (List Af)))×Bool)))) (H:Bt n b a g g2 c h l x.1 x.2.1 x.2.2=some z):WP (cxk 113 5) (AX Try.f25) [1,1,1,1,1,1,0,0,0,1,0,1,0,1,0,0,1,1,0,0,1,1,1,1,0,0,1,1,0,0,1,1,0,1,0,0] (AQ 5 (Eu b a g g2 c h l) (HE b a g g2 c h l) z) (Eu b a g g2 c h l x):=by
 obtain⟨j,ar,I⟩:=x;refine sr<|ck 1<|en<|sq<|cn H (λ H=>?_)<|λ H=>?_
 ·refine sk<|qz<|sj (λ (x:(Bi×(List<|Am×An)))=>Xd b a g g2 c h l I x.1 x.2) (λ (x:(Bi×(List<|Am×An)))=>Cr n I x.1 x.2) z ?_ (λ o=>?_)
  ·rintro⟨q,au⟩ H;exact rz<|ck 2<|ae (by cases H;exact og<|gP [0,6,7,9,13,44,45,46,65,74,75,76] [0,1,2,3,4,5,6,7,8,9,10,11]<|po1<|po1<|po1<|po1<|po1<|Pl.m false (.d<|.sl []) (Iv (encK:=eU8) (enc:=Aq) (m:=c.2.1) λ _=>rfl)<|po1<|po1<|po1<|po1<|po1<|po1<|Pl.z)
  refine bk 9<|sr<|bx H λ cg bg H=>sp (AM Aq bg)<|ck 3<|en<|sq<|sr<|ck 2<|bx H λ bd bh H=>lt [0,9,2,10,4] (Ga bh)<|ck 1<|en<|cn H (λ H=>?_)<|λ H=>?_
  ·exact ex 9<|qx<|qH<|qs (gP [0,6,7,9,13,44,45,46,65,74,75,76] [0,1,2,3,4,5,6,7,8,9,10,11]<|po1<|po1<|po1<|po1<|po1<|Pl.m false (.d<|.sl []) (Iv (encK:=eU8) (enc:=Aq) (m:=c.2.1) λ _=>rfl)<|po1<|po1<|po1<|po1<|po1<|po1<|Pl.z)<|o (j,bd.1) H
  ·refine sk<|qz<|sq<|sr<|ck 2<|bx H λ ch bi H=>lt [0,9,2,10,4] (Jk bi)<|en<|cn H (λ H=>?_)<|λ H=>?_
   ·exact sq<|rg (tr (fzc (enc:=Aq) (xs:=j.Nodes) 7 0 11 4)<|NZ [13] 7 (by kernel_rfl))<|ck 1<|bx H λ bj bl H=>cl [List.length bj] (Ls bl)<|ck 2<|en<|re<|qr<|qR<|qr (by cases H;exact lo rfl<|rl (s':=Pm b c.1 bd.1 bj c.2.2.1 c.2.2.2 true)<|sg [2,3])
   ·exact sk<|qz<|rz<|ck 7<|bx H λ b7 bm H=>sp (Br Aq 11 4 bm)<|ck 3<|ae<|qN<|qs (gP [0,6,7,9,13,44,45,46,65,74,75,76] [0,1,2,3,4,5,6,7,8,9,10,14]<|po1<|po1<|po1<|po1<|po1<|Pl.m false (.d<|.sl []) (Iv (encK:=eU8) (enc:=Aq) (m:=c.2.1) λ _=>rfl)<|po1<|po1<|po1<|po1<|po1<|po1<|Pl.z)<|o (({ Nodes:=b7,From:=j.From,Cell:=j.Cell }:Bi),bd.1) H
 ·exact ex 8<|qx (by cases H;exact xo rfl<|gP [0,6,7,9,13,44,45,46,65] [0,1,2,3,4,5,6,7,8,9,10,11]<|po1<|po1<|po1<|po1<|po1<|Pl.m false (.d<|.sl []) (Iv (encK:=eU8) (enc:=Aq) (m:=c.2.1) λ _=>rfl)<|po1<|po1<|po1<|po1<|po1<|po1<|Pl.z)
theorem Eg (x:((List (Am×An))×(List (List ((List Ah)×Int)))×Int)) (z:(((List (Am×An))×(List (List ((List Ah)×Int)))×Int)⊕(((List (Am×An))×(List (List ((List Ah)×Int))))⊕((List (Ab×Int))×(List (Am×An))×(List Int)×(List Ab)×(List (Option (List Af)))×Bool)))) (H:Bu n b a g g2 c x.1 x.2.1 x.2.2=some z):WP (cxk 113 5) (AX Try.f25) [1,1,1,1,1,1,0,0,0,1,0,1,0,1,0,0,1,1,0,0,1,1,1,1,0,0] (AQ 5 (Ew b a g g2 c) (HF b a g c) z) (Ew b a g g2 c x):=by
 obtain⟨am,h,l⟩:=x;refine sr<|ck 1<|en<|sq<|cn H (λ H=>?_)<|λ H=>?_
 ·refine sk<|qz<|sj (λ (x:((List<|Am×An)×(List<|List<|(List Ah)×Int)))=>Xa b a g g2 c l x.1 x.2) (λ (x:((List<|Am×An)×(List<|List<|(List Ah)×Int)))=>Dj n l x.1 x.2) z ?_ (λ p=>?_)
  ·rintro⟨ap,A⟩ H;exact rz<|ck 2<|ae (by cases H;exact og<|gP [0,6,7,9,44,45,46,65] [0,1,2,3,4,5,6,7,8,9]<|po1<|po1<|po1<|po1<|po1<|Pl.m false (.d<|.sl []) (Iv (encK:=eU8) (enc:=Aq) (m:=c.2.1) λ _=>rfl)<|po1<|po1<|po1<|po1<|Pl.z)
  refine bk 7<|sr<|ck 2<|en<|sr<|ck 5<|en<|sq<|sr<|ck 2<|sp (W4 (encK:=eU8) (enc:=Aq) (k:=5) (m:=c.2.1) (key:=l) (x:=.int .u8 l) Jd8)<|sp (A1 Aq<|Cb l c.2.1)<|ck 1<|en<|bk 8<|bx H λ b8 a8 H=>?_;rcases b8 with M|ci
  ·refine lX Ef a8 (tr (DK 10 0 4 (by kernel_rfl))<|gP [0,6,7,9,13,44,45,46,65,74,75,76] [0,1,2,3,4,5,6,10,7,8,9,11]<|po1<|po1<|po1<|po1<|po1<|Pl.m false (.d<|.sl []) (Iv (encK:=eU8) (enc:=Aq) (m:=c.2.1) λ _=>rfl)<|po1<|po1<|po1<|po1<|po1<|po1<|Pl.z) rfl λ s bn=>qH<|qs (bn)<|sr<|ck 6<|en<|cn H (λ H=>?_)<|λ H=>?_
   ·exact rg (tr (tr (tr (tr (tr (fzc (enc:=Aq) (xs:=M.1.Nodes) 7 0 11 4)<|NZ [13,100,101,102] 7 (by kernel_rfl))<|QG (e:=Ht M.1) 13 (by kernel_rfl))<|QG (e:=Ht M.1) 100 (by kernel_rfl))<|QG (e:=Ht M.1) 101 (by kernel_rfl))<|QG (e:=Ht M.1) 102 (by kernel_rfl))<|ck 3<|bx H λ b9 bp H=>sp (Br (ePG Aq) 6 1 bp)<|ck 1<|ae<|qN<|qs (gP [0,6,7,9,44,45,46,65] [0,1,2,3,4,5,13,8,9,10]<|po1<|po1<|po1<|po1<|po1<|Pl.m false (.d<|.sl []) (Iv (encK:=eU8) (enc:=Aq) (m:=c.2.1) λ _=>rfl)<|po1<|po1<|po1<|po1<|Pl.z)<|p (M.2,b9) H
   ·exact sk<|qN<|qs (gP [0,6,7,9,44,45,46,65] [0,1,2,3,4,5,6,8,9,10]<|po1<|po1<|po1<|po1<|po1<|Pl.m false (.d<|.sl []) (Iv (encK:=eU8) (enc:=Aq) (m:=c.2.1) λ _=>rfl)<|po1<|po1<|po1<|po1<|Pl.z)<|p (M.2,h) H
  ·exact lL Ef a8 (tr (DK 10 0 4 (by kernel_rfl))<|gP [0,6,7,9,13,44,45,46,65,74,75,76] [0,1,2,3,4,5,6,10,7,8,9,11]<|po1<|po1<|po1<|po1<|po1<|Pl.m false (.d<|.sl []) (Iv (encK:=eU8) (enc:=Aq) (m:=c.2.1) λ _=>rfl)<|po1<|po1<|po1<|po1<|po1<|po1<|Pl.z) rfl λ s bq=>qR<|qr<|qR<|qr (by cases H;exact lo rfl bq)
 ·exact ex 6<|qx (by cases H;exact xo rfl<|gP [0,6,7,44,45,46] [0,1,2,3,4,5,6,7,8,9]<|po1<|po1<|po1<|po1<|po1<|Pl.m false (.d<|.sl []) (Iv (encK:=eU8) (enc:=Aq) (m:=c.2.1) λ _=>rfl)<|po1<|po1<|po1<|po1<|Pl.z)
theorem Eh (x:((List (Ab×Int))×(List (Am×An))×(List (Int×(List Ah)))×(List (List ((List Ah)×Int)))×(List Ab)×(List (Option (List Af)))×Int)) (z:(((List (Ab×Int))×(List (Am×An))×(List (Int×(List Ah)))×(List (List ((List Ah)×Int)))×(List Ab)×(List (Option (List Af)))×Int)⊕(((List (Ab×Int))×(List (Am×An))×(List (Int×(List Ah)))×(List (List ((List Ah)×Int)))×(List Ab)×(List (Option (List Af))))⊕((List (Ab×Int))×(List (Am×An))×(List Int)×(List Ab)×(List (Option (List Af)))×Bool)))) (H:Bv n b a x.1 x.2.1 x.2.2.1 x.2.2.2.1 x.2.2.2.2.1 x.2.2.2.2.2.1 x.2.2.2.2.2.2=some z):WP (cxk 113 5) (AX Try.f25) [1,1,1,1,1,1,0,0,0,1,0,1,0,1,0,0] (AQ 5 (Ey b a) (HG b) z) (Ey b a x):=by
 obtain⟨af,v,w,i,Q,R,g⟩:=x;refine sr<|ck 1<|en<|sq<|cn H (λ H=>?_)<|λ H=>?_
 ·refine sk<|qz<|sq<|bk 3<|sr<|bx H λ cj a9 H=>sp (Bd 7 1 a9)<|sp (CI (ePG Aq) 7 0 (ty 117) a9)<|ck 1<|en<|sr<|ck 1<|xzm (xok _ _) 5<|en<|sq<|sq<|bx H λ g2 br H=>rg (JcH (e:=Aq) 9 (Pb br) (by kernel_rfl))<|ck 4<|sp (A1 Aq g2.Nodes)<|ck 1<|en<|bk 4<|bx H λ c bt H=>lX Hi bt (tr (QG (e:=Ht g2) 9 (by kernel_rfl))<|gP [0,6,7,9,44,45,46,54,55,56] [0,1,2,3,4,5,6,7,8,9]<|po1<|po1<|po1<|po1<|po1<|Pl.m false (.d<|.sl []) (nmM (encK:=eU8) (isz:=4) (enc:=Aq) (m:=([]:(List<|Int×(List Ah)))) λ _ _=>rfl)<|po1<|po1<|po1<|po1<|Pl.z) rfl λ s bu=>qH<|qs (bu)<|sr<|ck 1<|en<|bk 6<|bx H λ cc ba H=>?_;rcases cc with cm|co
  ·exact lX Eg ba (tr (VM (ka:=false) (dv:=.d<|.sl []) (encK:=eU8) (isz:=4) (enc:=Aq) 5 c.2.1)<|gP [0,6,7,9,44,45,46,65] [0,1,2,3,4,5,6,7,8,9]<|po1<|po1<|po1<|po1<|po1<|Pl.m false (.d<|.sl []) (Iv (encK:=eU8) (enc:=Aq) (m:=c.2.1) λ _=>rfl)<|po1<|po1<|po1<|po1<|Pl.z) rfl λ s bv=>qH<|qN<|qs (bv)<|rz<|ck 2<|ae (by cases H;exact og<|gP [0,6,7,44,45,46] [0,1,2,3,4,5,6,7,8,9]<|po1<|po1<|po1<|po1<|po1<|Pl.m false (.d<|.sl []) (Iv (encK:=eU8) (enc:=Aq) (m:=c.2.1) λ _=>rfl)<|po1<|po1<|po1<|po1<|Pl.z)
  ·exact lL Eg ba (tr (VM (ka:=false) (dv:=.d<|.sl []) (encK:=eU8) (isz:=4) (enc:=Aq) 5 c.2.1)<|gP [0,6,7,9,44,45,46,65] [0,1,2,3,4,5,6,7,8,9]<|po1<|po1<|po1<|po1<|po1<|Pl.m false (.d<|.sl []) (Iv (encK:=eU8) (enc:=Aq) (m:=c.2.1) λ _=>rfl)<|po1<|po1<|po1<|po1<|Pl.z) rfl λ s bw=>qR<|qR<|qr (by cases H;exact lo rfl bw)
 ·exact ex 2<|qx (by cases H;exact xo rfl<|gP [0,6,7] [0,1,2,3,4,5,6,8,9]<|po1<|po1<|po1<|po1<|po1<|Pl.m false (.d<|.sl []) (Iv (encK:=eU8) (enc:=Aq) (m:=w) λ _=>rfl)<|po1<|po1<|po1<|Pl.z)
theorem Ei (x:((List (Ab×Int))×(List (Am×An))×(List (List ((List Ah)×Int)))×(List (Int×(List Ah)))×(List Ab)×(List (Option (List Af))))) (z:(((List (Ab×Int))×(List (Am×An))×(List (List ((List Ah)×Int)))×(List (Int×(List Ah)))×(List Ab)×(List (Option (List Af))))⊕(((List (Ab×Int))×(List (Am×An))×(List Ab)×(List (Option (List Af))))⊕((List (Ab×Int))×(List (Am×An))×(List Int)×(List Ab)×(List (Option (List Af)))×Bool)))) (H:BU n b x.1 x.2.1 x.2.2.1 x.2.2.2.1 x.2.2.2.2.1 x.2.2.2.2.2=some z):WP (cxk 113 5) (AX Try.f25) [1,1,1,1,1,1,0,0,0] (AQ 5 (Ez b) (HH b) z) (Ez b x):=by
 obtain⟨Z,aa,a,r,O,P⟩:=x;refine sq<|sr<|ck 3<|en<|cn H (λ H=>?_)<|λ H=>?_
 ·refine sk<|qz<|bk 1<|sr<|ck 1<|en<|sq<|sr<|ck 3<|en<|bk 2<|bx H λ cd bb H=>?_;rcases cd with ce|cp
  ·exact lX Eh bb (tr (As.nilo 7 1 (by kernel_rfl))<|gP [0,6,7,44,45,46] [0,1,2,3,4,6,9,5,7,8]<|po1<|po1<|po1<|po1<|po1<|Pl.m false (.d<|.sl []) (Iv (encK:=eU8) (enc:=Aq) (m:=r) λ _=>rfl)<|po1<|po1<|po1<|po1<|Pl.z) rfl λ s bz=>qH<|qs (bz)<|rz<|ck 2<|ae<|qN (by cases H;exact og<|gP [0,5,6] [0,1,2,3,4,6,5,7,8]<|po1<|po1<|po1<|po1<|po1<|po1<|Pl.m false (.d<|.sl []) (Iv (encK:=eU8) (enc:=Aq) (m:=ce.2.2.1) λ _=>rfl)<|po1<|po1<|Pl.z)
  ·exact lL Eh bb (tr (As.nilo 7 1 (by kernel_rfl))<|gP [0,6,7,44,45,46] [0,1,2,3,4,6,9,5,7,8]<|po1<|po1<|po1<|po1<|po1<|Pl.m false (.d<|.sl []) (Iv (encK:=eU8) (enc:=Aq) (m:=r) λ _=>rfl)<|po1<|po1<|po1<|po1<|Pl.z) rfl λ s b0=>qR<|qr<|qR (by cases H;exact lo rfl b0)
 ·exact ex 0<|qx (by cases H;exact xo rfl<|sg [])
theorem IF {z} (H:CY n b B U C V=some z):CH Try.prog 25 [.ptr 0 0] [some (.box [.dptr (Aw b) 0,.osl 1 2 0 (B.length),.mp 2,.osl 3 1 0 (C.length),.mp 4]),some (.arr 2 (B.map Al)),some (.map true false (AC Al AN U)),some (.arr 1 (C.map (eOp Ax))),some (.map true true (AC AR AZ V))] 5 (.tup [.osl 5 1 0 (z.2.2.1.length),.d (.bool z.2.2.2.2.2)]) [some (.box [.dptr (Aw b) 0,.osl 6 2 0 (z.2.2.2.1.length),.mp 2,.osl 7 1 0 (z.2.2.2.2.1.length),.mp 4]),none,some (.map true false (AC Al AN z.1)),none,some (.map true true (AC AR AZ z.2.1)),some (.arr 1 (z.2.2.1.map eU8)),some (.arr 2 (z.2.2.2.1.map Al)),some (.arr 1 (z.2.2.2.2.1.map (eOp Ax)))]:=by
 refine fL 113 5 (ZY b B U C V) Try.func25<|sr<|ck 2<|en<|sq<|sr<|ck 8<|en<|cn H (λ H=>?_)<|λ H=>?_
 ·exact sr<|ck 2<|en<|re<|qr (by cases H;exact pL<|rl (s':=Pm b U V ([]:List Int) B C false)<|tr (tr (tr (As.nilo 2 1 (by kernel_rfl))<|Gx (k:=1) (sz:=2) 0 1 (B.map Al) (B.length) (by kernel_rfl) C0 leM rfl)<|Gx (k:=3) (sz:=1) 0 3 (C.map<|eOp Ax) (C.length) (by kernel_rfl) C0 leM rfl)<|sg [2,3])
 ·refine sk<|qz<|sr<|ck 2<|bx H λ cq b1 H=>lt [0,1,2,3,4] (DO b1)<|ck 2<|bx H λ cr b2 H=>lt [0,5,2,6,4] (DO b2)<|ck 4<|en<|sr<|ck 2<|bx H λ cs b3 H=>lt [0,7,2,8,4] (Ga b3)<|en<|sr<|ck 1<|sF<|ck 1<|xbd (xok _ _)<|ck 2<|en<|sr<|ck 2<|en<|sq<|bk 0<|bx H λ cf bc H=>?_;rcases cf with av|ct
  ·exact lX Ei bc (tr (tr (JcG (ka:=false) (va:=false) 11)<|VM (ka:=false) (dv:=.d<|.sl []) (encK:=eU8) (isz:=4) (enc:=Aq) 11 ([]:(List<|Int×(List Ah))))<|gP [0,5,6] [0,1,2,3,4,10,11,7,8]<|po1<|po1<|po1<|po1<|po1<|po1<|Pl.m false (.d<|.sl []) (Iv (encK:=eU8) (enc:=Aq) (m:=([]:(List<|Int×(List Ah)))) λ _=>rfl)<|po1<|po1<|Pl.z) rfl λ s b4=>qH<|qs (b4)<|sr<|ck 2<|en<|re (by cases H;exact pL<|rl (s':=Pm b av.1 av.2.1 ([]:List Int) av.2.2.1 av.2.2.2 false)<|tr (As.nilo 2 1 (by kernel_rfl))<|sg [2,3])
  ·exact lL Ei bc (tr (tr (JcG (ka:=false) (va:=false) 11)<|VM (ka:=false) (dv:=.d<|.sl []) (encK:=eU8) (isz:=4) (enc:=Aq) 11 ([]:(List<|Int×(List Ah))))<|gP [0,5,6] [0,1,2,3,4,10,11,7,8]<|po1<|po1<|po1<|po1<|po1<|po1<|Pl.m false (.d<|.sl []) (Iv (encK:=eU8) (enc:=Aq) (m:=([]:(List<|Int×(List Ah)))) λ _=>rfl)<|po1<|po1<|Pl.z) rfl λ s b5=>qR<|qr (by cases H;exact pL b5)
end
section
variable (a:Aa)
def Jfj:St:=⟨(0,.agg [.d<|.int .i64 a.Modes,.d<|.int .u8 a.Accept,.d<|.sl<|a.Rules.map Av])::[],[]⟩
variable {a}
theorem Cs {z} (H:Bj n a=some z):AY Try.prog 10 [.agg (Bw a)] (.tup [.agg [.d (.sl (z.1.Cells.map eU8)),.d (.str z.1.A),.d (.str z.1.B)],.d (.int .i64 z.2)]):=by
 refine fO 38 (Jfj a) Try.func10<|sr<|ck 3<|en<|sq<|sr<|ck 1<|bx H λ o c H=>ca false (Mb c)<|ck 1<|en<|cn H (λ H=>?_)<|λ H=>?_
 ·exact sr<|ck 3<|en<|re<|qr (by cases H;exact pr<|rT (vs:=[.agg [.d<|.nil,.d<|.str [],.d<|.str []],.d<|.int .i64 20]) []<|t1 (a1<|c1 vn<|c1 vd<|c1 vd<|c0)<|t1 (ad vd)<|t0)
 ·refine sk<|qz<|sr<|ck 1<|bx H λ b e H=>lt [] (I1 e)<|tb (f:=Gm<|DF [] 2 0) [some<|.box<|Bw a,some<|.box [.d<|.nil,.d<|.str [],.d<|.str []],some<|.box<|Dl b (.osl 3 1 0<|b.Arcs.length)<|.osl 4 1 0<|b.Accepts.length,some<|.narr 1<|b.Arcs.map<|nL 3 Be,some<|.arr 1<|b.Accepts.map eB] (po1<|po1<|po1<|pn1 (nL 3 Be) b.Arcs<|po1<|Pl.z)<|ck 1<|en<|sq<|rg (tr (tr (Tn (encN:=(nL 3 Be)) (encD:=(eL Be)) (xss:=b.Arcs) (sz:=1) 2 0 3 (by kernel_rfl) (by kernel_rfl) (λ _=>rfl)<|λ _=>rfl)<|fzc (enc:=eB) (xs:=b.Accepts) 2 1 4 1)<|NZ [4] 2 (by kernel_rfl))<|ck 1<|bx H λ p g H=>lt [] (MS g)<|bx H λ l h H=>lt [5,6,7,8,9] (IF h)<|ck 5<|en<|sq<|sr<|ck 2<|en<|cn H (λ H=>?_)<|λ H=>?_
  ·exact sr<|ck 3<|en<|re<|qr (by cases H;exact pr<|rT (vs:=[.agg [.d<|.nil,.d<|.str [],.d<|.str []],.d<|.int .i64 0]) []<|t1 (a1<|c1 vn<|c1 vd<|c1 vd<|c0)<|t1 (ad vd)<|t0)
  ·refine sk<|qz<|sq<|rg (fz (enc:=eU8) (xs:=l.2.2.1) 5 10 1)<|ck 2<|bx H λ m i H=>ca false (Lt i)<|ck 1<|en<|sq<|sr<|ck 1<|sp (A1 eS m)<|ck 1<|en<|cn H (λ H=>?_)<|λ H=>?_
   ·exact sr<|ck 3<|en<|re<|qr (by cases H;exact pr<|rT (vs:=[.agg [.d<|.nil,.d<|.str [],.d<|.str []],.d<|.int .i64 0]) []<|t1 (a1<|c1 vn<|c1 vd<|c1 vd<|c0)<|t1 (ad vd)<|t0)
   ·exact sk<|qz<|sr<|ck 2<|bx H λ q j H=>sp (AM eS j)<|ck 2<|bx H λ r k H=>sp (AM eS k)<|ck 4<|en<|re (by cases H;exact pr rdT)
end
section
variable (a:(List Int)) (b:(List Int)) (e:Int)
def Jfk:St:=⟨(0,.d<|.sl<|a.map eU8)::(1,.d<|.sl<|b.map eU8)::[],[]⟩
def Jfl:St:=⟨(0,.d<|.sl<|a.map eU8)::(1,.d<|.sl<|b.map eU8)::(5,.d<|.int .i64 e)::[],[]⟩
def Jfm:St:=⟨[],[]⟩
def Lx:(Unit⊕Bool)->Ex->St->Prop:=xS (xX 0 0<|λ (_:Unit)=>Jfm)<|xR ty Try.f17<|λ (y:Bool)=>.d<|.bool y
def G4:Int->St:=(λ (x:Int)=>Jfl a b x)
variable {a b e}
theorem Gr (x:Int) (z:(Int⊕(Unit⊕Bool))) (H:Eb n a b x=some z):WP (cxk 26 0) (AX Try.f17) [1,1,0,1,0,0] (AQ 0 (G4 a b) (Lx) z) (G4 a b x):=by
 revert H;generalize x=e;intro H;refine sq<|sr<|ck 2<|sp (A1 eU8 a)<|ck 1<|en<|cn H (λ H=>?_)<|λ H=>?_
 ·refine sk<|qz<|sq<|bk 1<|sr<|ck 2<|bx H λ k f H=>sp (AM eU8 f)<|ck 3<|bx H λ l g H=>sp (AM eU8 g)<|ck 2<|en<|cn H (λ H=>?_)<|λ H=>?_
  ·exact sr<|ck 1<|en<|re<|qR<|qr (by cases H;exact ro rfl rd)
  ·exact sk<|qN<|qz<|rz<|ck 3<|ae (by cases H;exact og<|sg [0,1,5])
 ·exact ex 0<|qx (by cases H;exact xo rfl<|sg [])
theorem H3 {z} (H:Es n a b=some z):AY Try.prog 17 [.d (.sl (a.map eU8)),.d (.sl (b.map eU8))] (.d (.bool z)):=by
 refine fO 26 (Jfk a b) Try.func17<|sr<|ck 1<|en<|sq<|sr<|ck 1<|sp (A1 eU8 a)<|ck 1<|sp (A1 eU8 b)<|ck 1<|en<|cn H (λ H=>?_)<|λ H=>?_
 ·exact sr<|ck 1<|en<|re<|qr (by cases H;exact pr rd)
 ·refine sk<|qz<|sq<|sr<|ck 1<|en<|bk 0<|bx H λ j c H=>?_;rcases j with m|o
  ·exact lX Gr c (sg [0,1,5]) rfl λ s h=>qH<|qs (h)<|sr<|ck 1<|en<|re (by cases H;exact pr rd)
  ·exact lR Gr c (sg [0,1,5]) rfl λ s i=>qR<|qr (by cases H;exact pr i)
end
section
variable (a:Cd) (b:Cd)
def Jfn:St:=⟨(0,.agg [.d<|.sl<|a.Cells.map eU8,.d<|.str a.A,.d<|.str a.B])::(1,.agg [.d<|.sl<|b.Cells.map eU8,.d<|.str b.A,.d<|.str b.B])::[],[]⟩
variable {a b}
theorem Hy {z} (H:GY n a b=some z):AY Try.prog 12 [.agg (RO a),.agg (RO b)] (.d (.bool z)):=by
 exact fO 24 (Jfn a b) Try.func12<|sr<|ck 3<|en<|sr<|ck 7<|gc 1 (a.A==b.A)<|ck 1<|gc 2 (a.A==b.A)<|pA<|ck 2<|gc 1 ((a.A==b.A)&&(a.B==b.B))<|ck 1<|gc 1 ((a.A==b.A)&&(a.B==b.B))<|bx H λ e c H=>cG false (leZ) rfl (λ hg=>H3<|Eo c hg) (Or.inl rfl) (D0 (λ hh=>hh)<|D0 (λ hh=>hh)<|Gi) rfl<|pA<|ck 1<|en<|re (by cases H;exact pr rd)
end
section
variable (a:(List UInt8)) (b:(List UInt8))
def Jfo:St:=⟨(0,.d<|.str a)::(1,.d<|.str b)::[],[]⟩
variable {a b}
theorem MT {z} (H:KZ n a b=some z):AY Try.prog 71 [.d (.str a),.d (.str b)] (.d (.bool z)):=by
 exact fO 18 (Jfo a b) Try.func71<|sr<|ck 1<|en<|sr<|ck 8<|gc 1 (decide<|((a.length:Nat):Int)>=((b.length:Nat):Int))<|bx H λ e c H=>sE (λ hg=>Ko<|Eo c hg)<|ck 1<|gc 1 (decide<|((a.length:Nat):Int)>=((b.length:Nat):Int))<|pA<|ck 1<|en<|re (by cases H;exact pr rd)
end
section
variable (a:(List UInt8)) (b:(List UInt8))
def Jfp:St:=⟨(0,.d<|.str a)::(1,.d<|.str b)::[],[]⟩
variable {a b}
theorem MU {z} (H:K0 n a b=some z):AY Try.prog 56 [.d (.str a),.d (.str b)] (.d (.bool z)):=by
 exact fO 8 (Jfp a b) Try.func56<|sr<|ck 1<|en<|sr<|ck 2<|bx H λ e c H=>ca true (MT c)<|ck 1<|en<|re (by cases H;exact pr rd)
end
end Go.AI
end
section
namespace Go.AI
open Go.Proofs
set_option maxRecDepth 10000
variable {n:Nat}
section
variable (g:Ap) (c:(List Int)) (f:(List UInt8)) (q:(List (AL×Bool))) (p:(List AL)) (b:AL) (o:(List EY)) (e:(List (AL×Bool))) (h:(List AL)) (u:Int) (w:(List (AL×Bool))) (r:(List AL)) (t:(List (AL×Bool))) (j:(List AL))
def Jfq:St:=⟨(0,.dptr (Aw g) 0)::(1,.d<|.sl<|c.map eU8)::(2,.d<|.str f)::[],[]⟩
def Jfr:St:=⟨(0,.dptr (Aw g) 0)::(1,.d<|.sl<|c.map eU8)::(2,.d<|.str f)::(7,.mp 0)::(8,.osl 1 3 0<|p.length)::[],[some<|.map true false<|AC CF eB q,some<|.arr 3<|p.map CF]⟩
def Jfs:St:=⟨[],[]⟩
def Jft:St:=⟨(0,.dptr (Aw g) 0)::(1,.d<|.sl<|c.map eU8)::(2,.d<|.str f)::(7,.mp 0)::(8,.osl 1 3 0<|h.length)::(9,.ptr 2 0)::(61,.d<|.sl<|o.map Be)::(62,.d<|.int .i64 ((o.length:Nat):Int))::(63,.d<|.int .i64 u)::[],[some<|.map true false<|AC CF eB e,some<|.arr 3<|h.map CF,some<|.box<|Zk b]⟩
def Jfu:St:=⟨(0,.dptr (Aw g) 0)::(1,.d<|.sl<|c.map eU8)::(2,.d<|.str f)::(7,.mp 0)::(8,.osl 1 3 0<|r.length)::[],[some<|.map true false<|AC CF eB w,some<|.arr 3<|r.map CF]⟩
def Jfv:St:=⟨(0,.dptr (Aw g) 0)::(1,.d<|.sl<|c.map eU8)::(2,.d<|.str f)::(7,.mp 0)::(8,.osl 1 3 0<|j.length)::(9,.ptr 2 0)::(61,.d<|.sl<|o.map Be)::(62,.d<|.int .i64 ((o.length:Nat):Int))::(63,.d<|.int .i64 u)::[],[some<|.map true false<|AC CF eB t,some<|.arr 3<|j.map CF,some<|.box<|Zk b]⟩
def Jl:((List<|AL×Bool)×(List AL))->Ex->St->Prop:=xX 0 2<|λ (y:((List<|AL×Bool)×(List AL)))=>Jfu g c f y.1 y.2
def Fm:((List<|AL×Bool)×(List AL)×Int)->St:=(λ (x:((List<|AL×Bool)×(List AL)×Int))=>Jft g c f b o x.1 x.2.1 x.2.2)
def Jm:(Unit⊕Bool)->Ex->St->Prop:=xS (xX 0 0<|λ (_:Unit)=>Jfs)<|xR ty Try.f33<|λ (y:Bool)=>.d<|.bool y
def Fn:((List<|AL×Bool)×(List AL))->St:=(λ (x:((List<|AL×Bool)×(List AL)))=>Jfr g c f x.1 x.2)
variable {g c f q p b o e h u w r t j}
theorem IG (x:((List (AL×Bool))×(List AL)×Int)) (z:(((List (AL×Bool))×(List AL)×Int)⊕((List (AL×Bool))×(List AL)))) (H:Gn n g c f b o x.1 x.2.1 x.2.2=some z):WP (cxk 111 0) (AX Try.f33) [1,1,1,0,0,0,1,0,1,1,1,1,0,0] (AQ 0 (Fm g c f b o) (Jl g c f) z) (Fm g c f b o x):=by
 obtain⟨e,h,u⟩:=x;refine sr<|ck 1<|en<|sq<|cn H (λ H=>?_)<|λ H=>?_
 ·refine sk<|qz<|sj (λ (x:((List<|AL×Bool)×(List AL)))=>Jfv g c f b o u x.1 x.2) (λ (x:((List<|AL×Bool)×(List AL)))=>CZ n u x.1 x.2) z ?_ (λ a=>?_)
  ·rintro⟨t,j⟩ H;exact rz<|ck 2<|ae (by cases H;exact og<|sg [0,1,2,7,8,9,61,62,63])
  refine bk 3<|sr<|bx H λ i G H=>sp (AM Be G)<|ck 3<|en<|sq<|sr<|ck 3<|bx H λ X I H=>sp (RG eU8 1 I)<|ck 2<|bx H λ E J H=>ca false (K4 J)<|ck 4<|gc 1 (!(!E))<|bx H λ s9 K H=>sE (λ hg=>Ko<|Eo K hg)<|ck 1<|gc 1 (!(!E))<|bx H λ Y L H=>cG false (leZ) rfl (λ hg=>MU<|Eo L hg) (Or.inl rfl) (D0 (λ hh=>hh)<|D0 (λ hh=>hh)<|Gi) rfl<|gc 1 (!(!E))<|pO<|en<|cn H (λ H=>?_)<|λ H=>?_
  ·exact ex 3<|qx<|qH<|qs (sg [0,1,2,7,8,9,61,62,63])<|a (e,h) H
  ·refine sk<|qz<|sr<|ck 4<|sp (A1 eU8 i.Cells)<|ck 12<|en<|sr<|ck 2<|sp (JE (enc:=eB) (encK:=CF) (k:=0) (e1:=λ x=>.bool x) (m:=e) (l:=[.d<|.int .i64<|Bg .i64 b.Cell ((i.Cells.length:Nat):Int),.d<|.int .i64<|Bg .i64 b.Byte ((i.Print.length:Nat):Int),.d<|.int .i64 i.To]) (key:=({ Cell:=Bg .i64 b.Cell ((i.Cells.length:Nat):Int),Byte:=Bg .i64 b.Byte ((i.Print.length:Nat):Int),State:=i.To }:AL)) (z:=false) (vz:=[.bool false]) UX false)<|ck 1<|en<|cn H (λ H=>?_)<|λ H=>?_
   ·exact sr<|ck 2<|sp (Kp (enc:=eB) (encK:=CF) (k:=0) (e1:=λ x=>.bool x) (m:=e) (l:=[.d<|.int .i64<|Bg .i64 b.Cell ((i.Cells.length:Nat):Int),.d<|.int .i64<|Bg .i64 b.Byte ((i.Print.length:Nat):Int),.d<|.int .i64 i.To]) (key:=({ Cell:=Bg .i64 b.Cell ((i.Cells.length:Nat):Int),Byte:=Bg .i64 b.Byte ((i.Print.length:Nat):Int),State:=i.To }:AL)) (y:=true) (v:=.d<|.bool true) (vz:=[.bool false]) UX)<|en<|rz<|ck 3<|bx H λ V M H=>sp (Br CF 1 3 M)<|ck 1<|ae<|qN<|qs (sg [0,1,2,7,8,9,61,62,63])<|a ((DY ({ Cell:=Bg .i64 b.Cell ((i.Cells.length:Nat):Int),Byte:=Bg .i64 b.Byte ((i.Print.length:Nat):Int),State:=i.To }:AL) true e),V) H
   ·exact sk<|qN<|qs (sg [0,1,2,7,8,9,61,62,63])<|a (e,h) H
 ·exact ex 2<|qx (by cases H;exact xo rfl<|sg [0,1,2,7,8])
theorem Fk (x:((List (AL×Bool))×(List AL))) (z:(((List (AL×Bool))×(List AL))⊕(Unit⊕Bool))) (H:Gp n g c f x.1 x.2=some z):WP (cxk 111 0) (AX Try.f33) [1,1,1,0,0,0] (AQ 0 (Fn g c f) (Jm) z) (Fn g c f x):=by
 obtain⟨q,p⟩:=x;refine sq<|sr<|ck 3<|en<|cn H (λ H=>?_)<|λ H=>?_
 ·refine sk<|qz<|bk 1<|sr<|ck 4<|bx H λ b B H=>sp (Bd 1 3 B)<|sp (CI CF 1 0 (ty 138) B)<|ck 2<|en<|sr<|ck 4<|bx H λ O A H=>sp (UN 1 3 A)<|ck 1<|en<|sq<|sq<|rg (Yx (k:=1) (sz:=3) 8 (O.map CF) (O.length) (by kernel_rfl) (Rx A) (UK (enc:=CF) A)<|Ry A)<|ck 3<|sp (A1 eU8 c)<|ck 3<|gc 1 (b.Cell==((c.length:Nat):Int))<|ck 1<|gc 2 (b.Cell==((c.length:Nat):Int))<|pA<|ck 2<|gc 3 ((b.Cell==((c.length:Nat):Int))&&(b.Byte==((f.length:Nat):Int)))<|ck 1<|gc 1 ((b.Cell==((c.length:Nat):Int))&&(b.Byte==((f.length:Nat):Int)))<|bx H λ Z P H=>sE (λ hg=>AM eB<|Eo P hg)<|gc 1 ((b.Cell==((c.length:Nat):Int))&&(b.Byte==((f.length:Nat):Int)))<|pA<|en<|cn H (λ H=>?_)<|λ H=>?_
  ·exact sr<|ck 1<|en<|re<|qr<|qR (by cases H;exact ro rfl rd)
  ·exact sk<|qz<|sr<|ck 6<|bx H λ o Q H=>sp (AM (eL Be) Q)<|ck 1<|sp (A1 Be o)<|ck 1<|en<|bk 2<|bx H λ aa R H=>lX IG R (sg [0,1,2,7,8,9,61,62,63]) rfl λ s S=>qH<|qN (by cases H;exact og<|tr (S)<|sg [0,1,2,7,8])
 ·exact ex 0<|qx (by cases H;exact xo rfl<|sg [])
theorem Gs {z} (H:FA n g c f=some z):AY Try.prog 33 [.dptr (Aw g) 0,.d (.sl (c.map eU8)),.d (.str f)] (.d (.bool z)):=by
 refine fO 111 (Jfq g c f) Try.func33<|sr<|ck 1<|en<|sr<|ck 2<|sp (Kp (enc:=eB) (encK:=CF) (k:=0) (e1:=λ x=>.bool x) (m:=[]) (l:=[.d<|.int .i64 0,.d<|.int .i64 0,.d<|.int .i64 0]) (key:=({ Cell:=0,Byte:=0,State:=0 }:AL)) (y:=true) (v:=.d<|.bool true) (vz:=[.bool false]) UX)<|ck 2<|en<|sr<|ck 3<|en<|sq<|bk 0<|bx H λ W C H=>?_;rcases W with ab|ac
 ·exact lX Fk C (sg [0,1,2,7,8]) rfl λ s T=>qH<|qs (T)<|sr<|ck 1<|en<|re (by cases H;exact pr rd)
 ·exact lR Fk C (sg [0,1,2,7,8]) rfl λ s U=>qR<|qr (by cases H;exact pr U)
end
section
variable (a:Aa) (b:Cd)
def Jfw:St:=⟨(0,.agg [.d<|.int .i64 a.Modes,.d<|.int .u8 a.Accept,.d<|.sl<|a.Rules.map Av])::(1,.agg [.d<|.sl<|b.Cells.map eU8,.d<|.str b.A,.d<|.str b.B])::[],[]⟩
variable {a b}
theorem HI {z} (H:FB n a b=some z):AY Try.prog 20 [.agg (Bw a),.agg (RO b)] (.d (.bool z)):=by
 refine fO 32 (Jfw a b) Try.func20<|sr<|ck 3<|en<|sq<|sr<|ck 1<|bx H λ e g H=>ca false (Mb g)<|ck 3<|gc 1 (!(!e))<|ck 1<|gc 2 (!(!e))<|pO<|en<|cn H (λ H=>?_)<|λ H=>?_
 ·exact sr<|ck 1<|en<|re<|qr (by cases H;exact pr rd)
 ·exact sk<|qz<|sr<|ck 1<|bx H λ c h H=>lt [] (I1 h)<|tb (f:=Gm<|DF [] 2 0) [some<|.box<|Bw a,some<|.box<|RO b,some<|.box<|Dl c (.osl 3 1 0<|c.Arcs.length)<|.osl 4 1 0<|c.Accepts.length,some<|.narr 1<|c.Arcs.map<|nL 3 Be,some<|.arr 1<|c.Accepts.map eB] (po1<|po1<|po1<|pn1 (nL 3 Be) c.Arcs<|po1<|Pl.z)<|ck 1<|en<|sq<|rg (tr (tr (Tn (encN:=(nL 3 Be)) (encD:=(eL Be)) (xss:=c.Arcs) (sz:=1) 2 0 3 (by kernel_rfl) (by kernel_rfl) (λ _=>rfl)<|λ _=>rfl)<|fzc (enc:=eB) (xs:=c.Accepts) 2 1 4 1)<|NZ [5] 2 (by kernel_rfl))<|ck 5<|bx H λ i j H=>ca false (Gs j)<|ck 3<|gc 1 i<|ck 1<|gc 1 i<|bx H λ l k H=>cG false (leZ) rfl (λ hg=>Gs<|Eo k hg) (Or.inl rfl) (D0 (λ hh=>hh)<|D0 (λ hh=>hh)<|D0 (λ hh=>hh)<|Gi) rfl<|pA<|ck 1<|en<|re (by cases H;exact pr rd)
end
section
variable (b:(List UInt8)) (c:(List Int)) (a:(D7 Int))
def Jfx:St:=⟨(0,.d<|.str b)::(1,.d<|.sl<|c.map eU8)::(2,.agg [.d<|.int .i64 a.a0,.d<|.int .i64 a.a1])::[],[]⟩
variable {b c a}
theorem AS {z} (H:A6 n b c a=some z):AY Try.prog 36 [.d (.str b),.d (.sl (c.map eU8)),.agg [.d (.int .i64 a.a0),.d (.int .i64 a.a1)]] (.agg [.d (.str z.Print),.d (.sl (z.Cells.map eU8)),.d (.int .u8 z.Left),.d (.int .u8 z.Right),.d (.int .i64 z.From),.d (.int .i64 z.To)]):=by
 exact fO 14 (Jfx b c a) Try.func36<|sr<|ck 2<|en<|sr<|ck 8<|en<|re (by cases H;exact pr rd)
end
def Jfy:St:=⟨[],[]⟩
theorem Pn {z} (H:Nw n=some z):AY Try.prog 34 [] (.own 6 (z.map Av)):=by
 exact fO 16 Jfy Try.func34<|sr<|ck 1<|en<|sr<|ck 3<|en<|sr<|sF<|ck 1<|bx H λ e a H=>ca false (AS a)<|sF<|ck 1<|bx H λ f b H=>ca false (AS b)<|sF<|ck 1<|bx H λ g c H=>ca false (AS c)<|sF<|ck 1<|bx H λ h d H=>ca false (AS d)<|ck 2<|en<|re (by cases H;exact pr<|rO (v:=.osl 1 6 0<|List.length [e,f,g,h]) [1]<|ao vo)
section
variable (b:Int) (c:Int) (a:(D7 Int))
def Jfz:St:=⟨(0,.d<|.int .u8 b)::(1,.d<|.int .i64 c)::(2,.agg [.d<|.int .i64 a.a0,.d<|.int .i64 a.a1])::[],[]⟩
variable {b c a}
theorem FC {z} (H:FK n b c a=some z):AY Try.prog 35 [.d (.int .u8 b),.d (.int .i64 c),.agg [.d (.int .i64 a.a0),.d (.int .i64 a.a1)]] (.agg [.d (.str z.Print),.d (.sl (z.Cells.map eU8)),.d (.int .u8 z.Left),.d (.int .u8 z.Right),.d (.int .i64 z.From),.d (.int .i64 z.To)]):=by
 exact fO 16 (Jfz b c a) Try.func35<|sr<|ck 2<|en<|sr<|ck 1<|sF<|ck 1<|bx H λ g e H=>ca false (AS e)<|ck 2<|en<|sr<|ck 1<|bx H λ h f H=>so (JC f)<|ck 2<|en<|sr<|ck 2<|en<|re (by cases H;exact pr rd)
end
section
variable (b:Int) (c:(List Az))
def JfA:St:=⟨(0,.d<|.int .u8 b)::[],[]⟩
def JfB:St:=⟨(2,.ptr 0 0)::(3,.osl 1 6 0<|c.length)::[],[some<|.box [.d<|.int .i64 0,.d<|.int .u8 0,.osl 2 6 0<|List.length ([]:List Az)],some<|.arr 6<|c.map Av,some<|.arr 6<|List.map Av ([]:List Az)]⟩
variable {b c}
theorem J2 {z} (H:FY n b=some z):AY Try.prog 21 [.d (.int .u8 b)] (.agg [.d (.int .i64 z.Modes),.d (.int .u8 z.Accept),.own 6 (z.Rules.map Av)]):=by
 refine fO 121 (JfA b) Try.func21<|sr<|ck 1<|en<|sr<|bx H λ e f H=>cl [List.length e] (Pn f)<|ck 13<|en<|sj (λ (x:(List Az))=>JfB x) (λ (x:(List Az))=>EQ n x) z ?_ (λ a=>?_)
 ·intro c H;exact sr<|ck 3<|en<|re (by cases H;exact pr<|rO (v:=.agg [.d<|.int .i64 1,.d<|.int .u8 1,.osl 1 6 0<|c.length]) [1]<|a1<|c1 vd<|c1 vd<|c1 vo<|c0)
 refine sr<|ck 2<|en<|bk 0<|sr<|ck 2<|en<|cn H (λ H=>?_)<|λ H=>?_
 ·exact sr<|ck 2<|bx H λ W g H=>ca false (FC g)<|sF<|ck 1<|bx H λ X h H=>ca false (AS h)<|sF<|ck 1<|bx H λ Y i H=>ca false (AS i)<|sF<|ck 1<|bx H λ Z j H=>ca false (AS j)<|ck 1<|bx H λ P k H=>sp (Br Av 1 6 k)<|ck 1<|en<|sr<|ck 3<|en<|re<|qR<|qr (by cases H;exact pr<|rO (v:=.agg [.d<|.int .i64 2,.d<|.int .u8 3,.osl 7 6 0<|P.length]) [7]<|a1<|c1 vd<|c1 vd<|c1 vo<|c0)
 ·refine sr<|ck 2<|en<|cn H (λ H=>?_)<|λ H=>?_
  ·exact sr<|ck 2<|bx H λ aa l H=>ca false (FC l)<|sF<|ck 1<|bx H λ ab m H=>ca false (AS m)<|sF<|ck 1<|bx H λ ac o H=>ca false (AS o)<|ck 1<|bx H λ Q p H=>sp (Br Av 1 6 p)<|ck 1<|en<|sr<|ck 3<|en<|re<|qR<|qr (by cases H;exact pr<|rO (v:=.agg [.d<|.int .i64 2,.d<|.int .u8 1,.osl 7 6 0<|Q.length]) [7]<|a1<|c1 vd<|c1 vd<|c1 vo<|c0)
  ·refine sr<|ck 2<|en<|cn H (λ H=>?_)<|λ H=>?_
   ·exact rz<|ck 1<|sF<|ck 1<|bx H λ af q H=>ca false (AS q)<|sF<|ck 1<|bx H λ ag r H=>ca false (AS r)<|sF<|ck 1<|bx H λ ah s H=>ca false (AS s)<|ck 1<|bx H λ R t H=>sp (Br Av 1 6 t)<|ck 1<|ae<|qN<|qs (tr (DK 0 2 6 (by kernel_rfl))<|sg [2,3])<|a R H
   ·refine sr<|ck 2<|en<|cn H (λ H=>?_)<|λ H=>?_
    ·exact rz<|ck 1<|sF<|ck 1<|bx H λ ai u H=>ca false (AS u)<|ck 1<|bx H λ S w H=>sp (Br Av 1 6 w)<|ck 1<|ae<|qN<|qs (tr (DK 0 2 6 (by kernel_rfl))<|sg [2,3])<|a S H
    ·refine sr<|ck 2<|en<|cn H (λ H=>?_)<|λ H=>?_
     ·exact sr<|sF<|ck 1<|bx H λ aj y H=>ca false (AS y)<|sF<|ck 1<|bx H λ ak A H=>ca false (AS A)<|ck 4<|en<|sr<|ck 4<|en<|rz<|ck 3<|sF<|ck 1<|bx H λ al B H=>ca false (AS B)<|ck 1<|bx H λ T C H=>sp (Br Av 1 6 C)<|ck 1<|ae<|qN<|qs (tr (DK 0 2 6 (by kernel_rfl))<|sg [2,3])<|a T H
     ·refine sr<|ck 2<|en<|cn H (λ H=>?_)<|λ H=>?_
      ·exact sr<|ck 2<|bx H λ am E H=>ca false (FC E)<|sF<|ck 1<|bx H λ ap G H=>ca false (AS G)<|sF<|ck 1<|bx H λ ar I H=>ca false (AS I)<|ck 1<|bx H λ U J H=>sp (Br Av 1 6 J)<|ck 1<|en<|sr<|ck 3<|en<|re<|qR<|qr (by cases H;exact pr<|rO (v:=.agg [.d<|.int .i64 2,.d<|.int .u8 1,.osl 7 6 0<|U.length]) [7]<|a1<|c1 vd<|c1 vd<|c1 vo<|c0)
      ·refine sr<|ck 2<|en<|cn H (λ H=>?_)<|λ H=>?_
       ·exact rz<|ck 1<|sF<|ck 1<|bx H λ au K H=>ca false (AS K)<|sF<|ck 1<|bx H λ av L H=>ca false (AS L)<|sF<|ck 1<|bx H λ aw M H=>ca false (AS M)<|ck 1<|bx H λ V O H=>sp (Br Av 1 6 O)<|ck 1<|ae<|qN<|qs (tr (DK 0 2 6 (by kernel_rfl))<|sg [2,3])<|a V H
       ·exact sk<|qN<|qs (tr (DK 0 2 6 (by kernel_rfl))<|sg [2,3])<|a e H
end
section
variable (a:Aa)
def JfC:St:=⟨(0,.agg [.d<|.int .i64 a.Modes,.d<|.int .u8 a.Accept,.d<|.sl<|a.Rules.map Av])::[],[]⟩
variable {a}
theorem I2 {z} (H:Iy n a=some z):AY Try.prog 13 [.agg (Bw a)] (.d (.bool z)):=by
 exact fO 12 (JfC a) Try.func13<|sr<|ck 2<|en<|sr<|ck 1<|bx H λ c b H=>ca false (Cs b)<|ck 6<|en<|sr<|ck 3<|en<|re (by cases H;exact pr rd)
end
def Jhr:St:=⟨[],[]⟩
theorem PZ {z} (H:GZ n=some z):AY Try.prog 8 [] (.d (.bool z)):=by
 exact fO 152 Jhr Try.func8<|sr<|ck 1<|en<|sr<|ck 4<|en<|sr<|ck 2<|en<|sq<|rg (tr (fz (enc:=eU8) (xs:=[1]) 1 0 1)<|fz (enc:=eU8) (xs:=[3]) 2 1 1)<|sF<|ck 2<|sF<|bx H λ T m H=>ca false (EV m)<|bx H λ a o H=>ca false (Cs o)<|ck 6<|en<|sq<|rg (fz (enc:=eU8) (xs:=[1,3]) 3 2 1)<|sF<|ck 3<|sF<|bx H λ U p H=>ca false (EV p)<|bx H λ b q H=>ca false (Cs q)<|ck 6<|en<|sr<|sF<|ck 2<|sF<|bx H λ V r H=>ca false (EV r)<|bx H λ g s H=>ca false (Cs s)<|ck 6<|en<|sr<|sF<|ck 3<|sF<|bx H λ W t H=>ca false (EV t)<|bx H λ c u H=>ca false (Cs u)<|ck 6<|en<|sr<|sF<|ck 2<|sF<|ck 1<|sF<|bx H λ X v H=>ca false (EV v)<|bx H λ e w H=>ca false (Cs w)<|ck 6<|en<|sr<|ck 1<|bx H λ i x H=>ca false (Cs x)<|ck 6<|en<|sr<|ck 4<|gc 1 (a.2==0)<|pA<|ck 3<|gc 1 ((a.2==0)&&(b.2==50))<|bx H λ f y H=>cG false (leZ) rfl (λ hg=>Hy<|Eo y hg) (Or.inl rfl) (D0 (λ hh=>hh)<|D0 (λ hh=>hh)<|Gi) rfl<|pA<|ck 2<|gc 1 (((a.2==0)&&(b.2==50))&&f)<|pA<|ck 3<|gc 1 ((((a.2==0)&&(b.2==50))&&f)&&(g.2==50))<|bx H λ j A H=>cG false (leZ) rfl (λ hg=>Hy<|Eo A hg) (Or.inl rfl) (D0 (λ hh=>hh)<|D0 (λ hh=>hh)<|Gi) rfl<|pA<|ck 1<|en<|sr<|ck 4<|gc 1 (c.2==0)<|pA<|ck 3<|gc 1 ((c.2==0)&&(e.2==50))<|bx H λ h B H=>cG false (leZ) rfl (λ hg=>Hy<|Eo B hg) (Or.inl rfl) (D0 (λ hh=>hh)<|D0 (λ hh=>hh)<|Gi) rfl<|pA<|ck 2<|gc 1 (((c.2==0)&&(e.2==50))&&h)<|pA<|ck 1<|en<|sr<|sF<|ck 2<|sF<|bx H λ Y C H=>ca false (EV C)<|ck 2<|en<|sr<|ck 3<|pA<|ck 3<|gc 1 ((((((a.2==0)&&(b.2==50))&&f)&&(g.2==50))&&j)&&((((c.2==0)&&(e.2==50))&&h)&&(i.2==20)))<|bx H λ k E H=>cG (ks:=[10]) (obl:=[(0+List.length [1,1],List.length<|List.map eU8 [1,1])]) false (leK leM<|leZ) (JB rfl<|JB (Jgt<|JB Yy<|JB rfl<|JB rfl rfl) rfl) (λ hg=>HI<|Eo E hg) (Or.inr trivial) (D0 (λ hh=>hh)<|D0 (λ hh=>hh)<|Gi) rfl<|pA<|ck 3<|gc 1 (((((((a.2==0)&&(b.2==50))&&f)&&(g.2==50))&&j)&&((((c.2==0)&&(e.2==50))&&h)&&(i.2==20)))&&k)<|bx H λ l G H=>cG false (leZ) rfl (λ hg=>HI<|Eo G hg) (Or.inl rfl) (D0 (λ hh=>hh)<|D0 (λ hh=>hh)<|Gi) rfl<|gc 1 (((((((a.2==0)&&(b.2==50))&&f)&&(g.2==50))&&j)&&((((c.2==0)&&(e.2==50))&&h)&&(i.2==20)))&&k)<|pA<|ck 3<|gc 1 ((((((((a.2==0)&&(b.2==50))&&f)&&(g.2==50))&&j)&&((((c.2==0)&&(e.2==50))&&h)&&(i.2==20)))&&k)&&(!l))<|bx H λ I J H=>cG false (leZ) rfl (λ hg=>HI<|Eo J hg) (Or.inl rfl) (D0 (λ hh=>hh)<|D0 (λ hh=>hh)<|Gi) rfl<|gc 1 ((((((((a.2==0)&&(b.2==50))&&f)&&(g.2==50))&&j)&&((((c.2==0)&&(e.2==50))&&h)&&(i.2==20)))&&k)&&(!l))<|pA<|ck 1<|bx H λ Q K H=>cG false (leZ) rfl (λ hg=>J2<|Eo K hg) (Or.inl rfl) (Gi) rfl<|bx H λ L M H=>cG false (leZ) rfl (λ hg=>I2<|Eo M hg) (Or.inl rfl) (D0 (λ hh=>hh)<|Gi) rfl<|pA<|ck 1<|bx H λ R O H=>cG false (leZ) rfl (λ hg=>J2<|Eo O hg) (Or.inl rfl) (Gi) rfl<|bx H λ S P H=>cG false (leZ) rfl (λ hg=>I2<|Eo P hg) (Or.inl rfl) (D0 (λ hh=>hh)<|Gi) rfl<|gc 1 ((((((((((a.2==0)&&(b.2==50))&&f)&&(g.2==50))&&j)&&((((c.2==0)&&(e.2==50))&&h)&&(i.2==20)))&&k)&&(!l))&&(!I))&&L)<|pA<|ck 1<|en<|re (by cases H;exact pr rd)
section
variable (a:CQ) (g:Int) (b:Az) (h:Int) (e:Az) (c:Az) (i:Int) (f:Az)
def JfD:St:=⟨(0,.agg [.d<|.sl<|a.P.map eU8,.d<|.sl<|a.C.map eU8,.d<|.int .u8 a.L,.d<|.int .u8 a.R,.d<|.int .u8 a.W.a0,.d<|.int .u8 a.W.a1])::(1,.d<|.int .i64 g)::[],[]⟩
def JfE:St:=⟨(2,.ptr 0 0)::(4,.ptr 1 0)::(5,.d<|.str [97,98,99,65,66,49,50,45,46])::(7,.ptr 2 0)::(8,.d<|.int .i64 h)::[],[some<|.box<|L9 a,some<|.box [.d<|.str [],.osl 3 1 0<|List.length ([]:List Int),.d<|.int .u8 0,.d<|.int .u8 0,.d<|.int .i64 0,.d<|.int .i64 0],some<|.box<|N0 b<|.osl 4 1 0<|b.Cells.length,some<|.arr 1<|List.map eU8 ([]:List Int),some<|.arr 1<|b.Cells.map eU8]⟩
def JfF:St:=⟨(2,.ptr 0 0)::(4,.ptr 1 0)::(7,.ptr 2 0)::[],[some<|.box<|L9 a,some<|.box [.d<|.str [],.osl 3 1 0<|List.length ([]:List Int),.d<|.int .u8 0,.d<|.int .u8 0,.d<|.int .i64 0,.d<|.int .i64 0],some<|.box<|N0 e<|.osl 4 1 0<|e.Cells.length,some<|.arr 1<|List.map eU8 ([]:List Int),some<|.arr 1<|e.Cells.map eU8]⟩
def P0:Az->Ex->St->Prop:=xX 0 0<|λ (y:Az)=>JfF a y
def K5:(Az×Int)->St:=(λ (x:(Az×Int))=>JfE a x.1 x.2)
def JfG:St:=⟨(2,.ptr 0 0)::(4,.ptr 1 0)::(7,.ptr 2 0)::(10,.osl 3 1 0<|List.length [1,3,9,5,7,32,44,60])::(11,.d<|.int .i64 i)::[],[some<|.box<|L9 a,some<|.box [.d<|.str [],.osl 4 1 0<|List.length ([]:List Int),.d<|.int .u8 0,.d<|.int .u8 0,.d<|.int .i64 0,.d<|.int .i64 0],some<|.box<|N0 c<|.osl 5 1 0<|c.Cells.length,some<|.arr 1<|List.map eU8 [1,3,9,5,7,32,44,60],some<|.arr 1<|List.map eU8 ([]:List Int),some<|.arr 1<|c.Cells.map eU8]⟩
def JfH:St:=⟨(4,.ptr 0 0)::(7,.ptr 1 0)::[],[some<|.box [.d<|.str [],.osl 2 1 0<|List.length ([]:List Int),.d<|.int .u8 0,.d<|.int .u8 0,.d<|.int .i64 0,.d<|.int .i64 0],some<|.box<|N0 f<|.osl 3 1 0<|f.Cells.length,some<|.arr 1<|List.map eU8 ([]:List Int),some<|.arr 1<|f.Cells.map eU8]⟩
def P3:Az->Ex->St->Prop:=xX 0 2<|λ (y:Az)=>JfH y
def K6:(Az×Int)->St:=(λ (x:(Az×Int))=>JfG a x.1 x.2)
variable {a g b h e c i f}
theorem Po (x:(Az×Int)) (z:((Az×Int)⊕Az)) (H:ES n a x.1 x.2=some z):WP (cxk 101 0) (AX Try.f14) [1,1,1,0,1,0,0] (AQ 0 (K5 a) (P0 a) z) (K5 a x):=by
 obtain⟨b,h⟩:=x;refine sq<|sr<|ck 3<|sp (A1 eU8 a.P)<|ck 3<|gc 1 (decide<|h<((a.P.length:Nat):Int))<|pA<|en<|cn H (λ H=>?_)<|λ H=>?_
 ·exact sk<|qz<|sq<|bk 1<|sr<|ck 3<|bx H λ J o H=>sp (AM eU8 o)<|ck 4<|en<|rz<|ck 6<|bx H λ K p H=>sp (Ko p)<|bx H λ M q H=>sp (RC q)<|ck 2<|ae<|qN<|qz<|rz<|ck 3<|ae (by cases H;exact og<|sg [2,4,5,7,8])
 ·exact ex 0<|qx (by cases H;exact xo rfl<|sg [2,4,7])
theorem Pp (x:(Az×Int)) (z:((Az×Int)⊕Az)) (H:C6 n a x.1 x.2=some z):WP (cxk 101 0) (AX Try.f14) [1,1,1,1,1,1,0,1,0,0] (AQ 0 (K6 a) (P3) z) (K6 a x):=by
 obtain⟨c,i⟩:=x;refine sq<|sr<|ck 3<|sp (A1 eU8 a.C)<|ck 3<|gc 1 (decide<|i<((a.C.length:Nat):Int))<|pA<|en<|cn H (λ H=>?_)<|λ H=>?_
 ·exact sk<|qz<|sq<|bk 3<|rz<|ck 6<|bx H λ O r H=>sp (AM eU8 r)<|ck 2<|bx H λ Q j H=>sp (Bd 3 1 j)<|sp (CI eU8 3 0 (ty 52) j)<|ck 1<|bx H λ S t H=>sp (Br eU8 5 1 t)<|ck 2<|ae<|qN<|qz<|rz<|ck 3<|ae (by cases H;exact og<|sg [2,4,7,10,11])
 ·exact ex 2<|qx (by cases H;exact xo rfl<|sg [4,7])
theorem TA {z} (H:HW n a g=some z):AY Try.prog 14 [.agg (L9 a),.d (.int .i64 g)] (.agg [.d (.str z.Print),.own 1 (z.Cells.map eU8),.d (.int .u8 z.Left),.d (.int .u8 z.Right),.d (.int .i64 z.From),.d (.int .i64 z.To)]):=by
 exact fO 101 (JfD a g) Try.func14<|sr<|ck 2<|en<|sr<|ck 3<|en<|sr<|ck 4<|bx H λ T k H=>sp (Bd 2 1 k)<|sp (CI eU8 2 0 (ty 5) k)<|ck 4<|bx H λ U l H=>sp (Bd 2 1 l)<|sp (CI eU8 2 0 (ty 5) l)<|ck 5<|bx H λ V u H=>so (OY u)<|ck 5<|bx H λ I w H=>so (OY w)<|ck 3<|en<|sq<|sr<|ck 1<|en<|bk 0<|bx H λ X A H=>lX Po A (tr (tr (DK 1 1 1 (by kernel_rfl))<|DK 3 1 1 (by kernel_rfl))<|sg [2,4,5,7,8]) rfl λ s B=>qH<|qs (B)<|sr<|ck 2<|en<|sr<|ck 5<|bx H λ Y m H=>sp (Bd 5 1 m)<|sp (CI eU8 5 0 (ty 52) m)<|ck 3<|en<|sq<|sr<|ck 1<|en<|bk 2<|bx H λ Z E H=>lX Pp E (sg [2,4,7,10,11]) rfl λ s G=>qH<|qs (G)<|sr<|ck 2<|en<|re (by cases H;exact pr<|rO (v:=.agg [.d<|.str z.Print,.osl 3 1 0<|z.Cells.length,.d<|.int .u8 z.Left,.d<|.int .u8 z.Right,.d<|.int .i64 z.From,.d<|.int .i64 z.To]) [3]<|a1<|c1 vd<|c1 vo<|c1 vd<|c1 vd<|c1 vd<|c1 vd<|c0)
end
section
variable (a:Int)
def JfI:St:=⟨(0,.d<|.int .u8 a)::[],[]⟩
variable {a}
theorem MV {z} (H:HC n a=some z):AY Try.prog 81 [.d (.int .u8 a)] (.d (.bool z)):=by
 exact fO 11 (JfI a) Try.func81<|sr<|ck 1<|en<|sr<|ck 5<|gc 2 (decide<|Dc .u8 a 127>=32)<|pA<|ck 1<|en<|re (by cases H;exact pr rd)
end
section
variable (a:(List UInt8)) (c:Int)
def JfJ:St:=⟨(0,.d<|.str a)::[],[]⟩
def JfK:St:=⟨(0,.d<|.str a)::(4,.d<|.int .i64 c)::[],[]⟩
def JfL:St:=⟨(0,.d<|.str a)::[],[]⟩
def P4:(Unit⊕(Int×Int))->Ex->St->Prop:=xS (xX 0 0<|λ (_:Unit)=>JfL a)<|xR ty Try.f78<|λ (y:(Int×Int))=>.tup [.d<|.int .i64 y.1,.d<|.int .i64 y.2]
def K7:Int->St:=(λ (x:Int)=>JfK a x)
variable {a c}
theorem J3 (x:Int) (z:(Int⊕(Unit⊕(Int×Int)))) (H:Hs n a x=some z):WP (cxk 19 0) (AX Try.f78) [1,0,1,0,0] (AQ 0 (K7 a) (P4 a) z) (K7 a x):=by
 revert H;generalize x=c;intro H;refine sq<|sr<|ck 4<|en<|cn H (λ H=>?_)<|λ H=>?_
 ·refine sk<|qz<|sq<|bk 1<|sr<|ck 2<|bx H λ m e H=>sp (Gy e)<|bx H λ j f H=>ca false (MV f)<|ck 1<|en<|cn H (λ H=>?_)<|λ H=>?_
  ·exact sr<|ck 3<|en<|re<|qR<|qr (by cases H;exact ro rfl rdT)
  ·exact sk<|qN<|qz<|rz<|ck 3<|ae (by cases H;exact og<|sg [0,4])
 ·exact ex 0<|qx (by cases H;exact xo rfl<|sg [0])
theorem TB {z} (H:L8 n a=some z):AY Try.prog 78 [.d (.str a)] (.tup [.d (.int .i64 z.1),.d (.int .i64 z.2)]):=by
 refine fO 19 (JfJ a) Try.func78<|sr<|ck 2<|en<|sq<|sr<|ck 1<|en<|bk 0<|bx H λ i b H=>?_;rcases i with k|l
 ·exact lX J3 b (sg [0,4]) rfl λ s g=>qH<|qs (g)<|sr<|ck 4<|en<|re (by cases H;exact pr rdT)
 ·exact lR J3 b (sg [0,4]) rfl λ s h=>qR<|qr (by cases H;exact pr h)
end
section
variable (a:(List UInt8))
def JfM:St:=⟨(0,.d<|.str a)::[],[]⟩
variable {a}
theorem P5 {z} (H:Iz n a=some z):AY Try.prog 69 [.d (.str a)] (.d (.bool z)):=by
 exact fO 12 (JfM a) Try.func69<|sr<|ck 1<|en<|sr<|ck 1<|bx H λ c b H=>ca false (TB b)<|ck 5<|en<|sr<|ck 3<|en<|re (by cases H;exact pr rd)
end
section
variable (a:Int)
def JfN:St:=⟨(0,.d<|.int .u8 a)::[],[]⟩
variable {a}
theorem RZ {z} (H:MN n a=some z):AY Try.prog 70 [.d (.int .u8 a)] (.d (.bool z)):=by
 exact fO 6 (JfN a) Try.func70<|sr<|ck 1<|en<|sr<|ck 4<|en<|re (by cases H;exact pr rd)
end
section
variable (a:Az) (h:Int) (c:Bool) (l:Int) (i:Bool) (f:Bool) (b:Bool) (m:Int) (j:Bool)
def JfO:St:=⟨(0,.agg [.d<|.str a.Print,.d<|.sl<|a.Cells.map eU8,.d<|.int .u8 a.Left,.d<|.int .u8 a.Right,.d<|.int .i64 a.From,.d<|.int .i64 a.To])::(1,.d<|.int .i64 h)::[],[]⟩
def JfP:St:=⟨(2,.ptr 0 0)::(5,.d<|.bool c)::(6,.d<|.bool false)::(7,.d<|.int .i64 l)::[],[some<|.box<|JG a]⟩
def JfQ:St:=⟨(2,.ptr 0 0)::(5,.d<|.bool i)::(6,.d<|.bool false)::[],[some<|.box<|JG a]⟩
def Pq:Bool->Ex->St->Prop:=xX 0 0<|λ (y:Bool)=>JfQ a y
def J4:(Bool×Int)->St:=(λ (x:(Bool×Int))=>JfP a x.1 x.2)
def JfR:St:=⟨(2,.ptr 0 0)::(5,.d<|.bool f)::(6,.d<|.bool b)::(8,.d<|.int .i64 m)::[],[some<|.box<|JG a]⟩
def JfS:St:=⟨(2,.ptr 0 0)::(5,.d<|.bool f)::(6,.d<|.bool j)::[],[some<|.box<|JG a]⟩
def Pr:(Bool⊕Bool)->Ex->St->Prop:=xS (xX 0 2<|λ (y:Bool)=>JfS a f y)<|xR ty Try.f52<|λ (y:Bool)=>.d<|.bool y
def J5:(Bool×Int)->St:=(λ (x:(Bool×Int))=>JfR a f x.1 x.2)
variable {a h c l i f b m j}
theorem NM (x:(Bool×Int)) (z:((Bool×Int)⊕Bool)) (H:Ec n a x.1 x.2=some z):WP (cxk 125 0) (AX Try.f52) [1,1,1,1,0,1,0,0] (AQ 0 (J4 a) (Pq a) z) (J4 a x):=by
 obtain⟨c,l⟩:=x;refine sq<|sr<|ck 5<|en<|cn H (λ H=>?_)<|λ H=>?_
 ·exact sk<|qz<|sq<|bk 1<|rz<|ck 3<|gc 1 (!c)<|ck 1<|bx H λ E o H=>sE (λ hg=>Gy<|Eo o hg)<|bx H λ C p H=>cG false (leZ) rfl (λ hg=>RZ<|Eo p hg) (Or.inl rfl) (D0 (λ hh=>hh)<|Gi) rfl<|pO<|ck 1<|ae<|qN<|qz<|rz<|ck 3<|ae (by cases H;exact og<|sg [2,5,6,7])
 ·exact ex 0<|qx (by cases H;exact xo rfl<|sg [2,5,6])
theorem I3 (x:(Bool×Int)) (z:((Bool×Int)⊕(Bool⊕Bool))) (H:Dk n a f x.1 x.2=some z):WP (cxk 125 0) (AX Try.f52) [1,1,1,1,1,0,1,0,0] (AQ 0 (J5 a f) (Pr a f) z) (J5 a f x):=by
 obtain⟨b,m⟩:=x;refine sq<|sr<|ck 3<|sp (A1 eU8 a.Cells)<|ck 1<|en<|cn H (λ H=>?_)<|λ H=>?_
 ·refine sk<|qz<|sq<|bk 3<|sq<|sr<|ck 3<|bx H λ G q H=>sp (AM eU8 q)<|ck 2<|en<|cn H (λ H=>?_)<|λ H=>?_
  ·exact sr<|ck 1<|en<|re<|qr<|qR<|qr (by cases H;exact ro rfl rd)
  ·exact sk<|qz<|rz<|ck 3<|gc 1 (!b)<|ck 1<|bx H λ I r H=>sE (λ hg=>AM eU8<|Eo r hg)<|gc 2 (!b)<|pO<|ck 1<|ae<|qN<|qz<|rz<|ck 3<|ae (by cases H;exact og<|sg [2,5,6,8])
 ·exact ex 2<|qx (by cases H;exact xo rfl<|sg [2,5,6])
theorem R1 {z} (H:Kx n a h=some z):AY Try.prog 52 [.agg (JG a),.d (.int .i64 h)] (.d (.bool z)):=by
 refine fO 125 (JfO a h) Try.func52<|sr<|ck 2<|en<|sq<|sr<|ck 2<|bx H λ e t H=>ca false (P5 t)<|ck 3<|gc 3 (!(!e))<|pO<|ck 2<|gc 1 (!((!e)||(decide<|((a.Print.length:Nat):Int)>4)))<|sE (g:=(!((!e)||(decide<|((a.Print.length:Nat):Int)>4)))) (λ hg=>A1 eU8 a.Cells)<|gc 1 (!((!e)||(decide<|((a.Print.length:Nat):Int)>4)))<|pO<|ck 2<|gc 1 (!(((!e)||(decide<|((a.Print.length:Nat):Int)>4))||(decide<|((a.Cells.length:Nat):Int)<1)))<|sE (g:=(!(((!e)||(decide<|((a.Print.length:Nat):Int)>4))||(decide<|((a.Cells.length:Nat):Int)<1)))) (λ hg=>A1 eU8 a.Cells)<|gc 1 (!(((!e)||(decide<|((a.Print.length:Nat):Int)>4))||(decide<|((a.Cells.length:Nat):Int)<1)))<|pO<|en<|cn H (λ H=>?_)<|λ H=>?_
 ·exact sr<|ck 1<|en<|re<|qr (by cases H;exact pr rd)
 ·refine sk<|qz<|sq<|sr<|ck 5<|gc 2 (!(decide<|a.Left<1))<|pO<|ck 2<|gc 2 (!((decide<|a.Left<1)||(decide<|a.Left>63)))<|pO<|ck 2<|gc 2 (!(((decide<|a.Left<1)||(decide<|a.Left>63))||(decide<|a.Right<1)))<|pO<|ck 2<|gc 2 (!((((decide<|a.Left<1)||(decide<|a.Left>63))||(decide<|a.Right<1))||(decide<|a.Right>63)))<|pO<|ck 2<|gc 1 (!(((((decide<|a.Left<1)||(decide<|a.Left>63))||(decide<|a.Right<1))||(decide<|a.Right>63))||(decide<|a.From<0)))<|ck 1<|gc 1 (!(((((decide<|a.Left<1)||(decide<|a.Left>63))||(decide<|a.Right<1))||(decide<|a.Right>63))||(decide<|a.From<0)))<|pO<|ck 2<|gc 2 (!((((((decide<|a.Left<1)||(decide<|a.Left>63))||(decide<|a.Right<1))||(decide<|a.Right>63))||(decide<|a.From<0))||(decide<|a.From>=h)))<|pO<|ck 2<|gc 1 (!(((((((decide<|a.Left<1)||(decide<|a.Left>63))||(decide<|a.Right<1))||(decide<|a.Right>63))||(decide<|a.From<0))||(decide<|a.From>=h))||(decide<|a.To<0)))<|ck 1<|gc 1 (!(((((((decide<|a.Left<1)||(decide<|a.Left>63))||(decide<|a.Right<1))||(decide<|a.Right>63))||(decide<|a.From<0))||(decide<|a.From>=h))||(decide<|a.To<0)))<|pO<|en<|cn H (λ H=>?_)<|λ H=>?_
  ·exact sr<|ck 1<|en<|re<|qr (by cases H;exact pr rd)
  ·refine sk<|qz<|sr<|ck 2<|en<|sq<|sr<|ck 1<|en<|bk 0<|bx H λ f u H=>lX NM u (sg [2,5,6,7]) rfl λ s v=>qH<|qs (v)<|sq<|sr<|ck 1<|en<|bk 2<|bx H λ B k H=>?_;rcases B with J|K
   ·refine lX I3 k (sg [2,5,6,8]) rfl λ s w=>qH<|qs (w)<|sq<|sr<|ck 2<|en<|cn H (λ H=>?_)<|λ H=>?_
    ·exact sr<|ck 3<|en<|re<|qr (by cases H;exact pr rd)
    ·exact sk<|qz<|sr<|ck 6<|gc 1 (((a.Print.length:Nat):Int)==1)<|sE (g:=(((a.Print.length:Nat):Int)==1)) (λ hg=>A1 eU8 a.Cells)<|gc 1 (((a.Print.length:Nat):Int)==1)<|pA<|ck 2<|pA<|ck 1<|en<|re (by cases H;exact pr rd)
   ·exact lR I3 k (sg [2,5,6,8]) rfl λ s A=>qR<|qr (by cases H;exact pr A)
end
section
variable (a:Az) (b:Az)
def JfT:St:=⟨(0,.agg [.d<|.str a.Print,.d<|.sl<|a.Cells.map eU8,.d<|.int .u8 a.Left,.d<|.int .u8 a.Right,.d<|.int .i64 a.From,.d<|.int .i64 a.To])::(1,.agg [.d<|.str b.Print,.d<|.sl<|b.Cells.map eU8,.d<|.int .u8 b.Left,.d<|.int .u8 b.Right,.d<|.int .i64 b.From,.d<|.int .i64 b.To])::[],[]⟩
variable {a b}
theorem NN {z} (H:GE n a b=some z):AY Try.prog 53 [.agg (JG a),.agg (JG b)] (.d (.bool z)):=by
 exact fO 45 (JfT a b) Try.func53<|sr<|ck 3<|en<|sr<|ck 7<|gc 1 (a.Print==b.Print)<|ck 1<|gc 1 (a.Print==b.Print)<|bx H λ c e H=>cG false (leZ) rfl (λ hg=>H3<|Eo e hg) (Or.inl rfl) (D0 (λ hh=>hh)<|D0 (λ hh=>hh)<|Gi) rfl<|pA<|ck 2<|gc 1 ((a.Print==b.Print)&&c)<|ck 1<|gc 2 ((a.Print==b.Print)&&c)<|pA<|ck 2<|gc 1 (((a.Print==b.Print)&&c)&&(a.Left==b.Left))<|ck 1<|gc 2 (((a.Print==b.Print)&&c)&&(a.Left==b.Left))<|pA<|ck 2<|gc 1 ((((a.Print==b.Print)&&c)&&(a.Left==b.Left))&&(a.Right==b.Right))<|ck 1<|gc 2 ((((a.Print==b.Print)&&c)&&(a.Left==b.Left))&&(a.Right==b.Right))<|pA<|ck 2<|gc 1 (((((a.Print==b.Print)&&c)&&(a.Left==b.Left))&&(a.Right==b.Right))&&(a.From==b.From))<|ck 1<|gc 2 (((((a.Print==b.Print)&&c)&&(a.Left==b.Left))&&(a.Right==b.Right))&&(a.From==b.From))<|pA<|ck 1<|en<|re (by cases H;exact pr rd)
end
section
variable (a:Aa) (b:Int) (f:Int)
def JfU:St:=⟨(0,.agg [.d<|.int .i64 a.Modes,.d<|.int .u8 a.Accept,.d<|.sl<|a.Rules.map Av])::[],[]⟩
def JfV:St:=⟨(1,.ptr 0 0)::(4,.d<|.int .i64 b)::[],[some<|.box<|Bw a]⟩
def JfW:St:=⟨[],[]⟩
def JfX:St:=⟨(1,.ptr 0 0)::(4,.d<|.int .i64 b)::(5,.d<|.int .i64 f)::[],[some<|.box<|Bw a]⟩
def JfY:St:=⟨(1,.ptr 0 0)::(4,.d<|.int .i64 b)::[],[some<|.box<|Bw a]⟩
def Ps:(Unit⊕(Int×Int))->Ex->St->Prop:=xS (xX 0 2<|λ (_:Unit)=>JfY a b)<|xR ty Try.f29<|λ (y:(Int×Int))=>.tup [.d<|.int .i64 y.1,.d<|.int .i64 y.2]
def J6:Int->St:=(λ (x:Int)=>JfX a b x)
def Pt:(Unit⊕(Int×Int))->Ex->St->Prop:=xS (xX 0 0<|λ (_:Unit)=>JfW)<|xR ty Try.f29<|λ (y:(Int×Int))=>.tup [.d<|.int .i64 y.1,.d<|.int .i64 y.2]
def J7:Int->St:=(λ (x:Int)=>JfV a x)
variable {a b f}
theorem I4 (x:Int) (z:(Int⊕(Unit⊕(Int×Int)))) (H:Fe n a b x=some z):WP (cxk 74 0) (AX Try.f29) [1,1,0,1,0,0,1,0,0,1,1,0,0] (AQ 0 (J6 a b) (Ps a b) z) (J6 a b x):=by
 revert H;generalize x=f;intro H;refine sq<|sr<|ck 3<|en<|cn H (λ H=>?_)<|λ H=>?_
 ·refine sk<|qz<|sq<|bk 3<|sr<|ck 3<|bx H λ B h H=>sp (AM Av h)<|ck 4<|bx H λ C i H=>sp (AM Av i)<|ck 1<|bx H λ v j H=>ca false (NN j)<|en<|cn H (λ H=>?_)<|λ H=>?_
  ·exact sr<|ck 3<|en<|re<|qR<|qr (by cases H;exact ro rfl rdT)
  ·exact sk<|qN<|qz<|rz<|ck 3<|ae (by cases H;exact og<|sg [1,4,5])
 ·exact ex 2<|qx (by cases H;exact xo rfl<|sg [1,4])
theorem I5 (x:Int) (z:(Int⊕(Unit⊕(Int×Int)))) (H:Ff n a x=some z):WP (cxk 74 0) (AX Try.f29) [1,1,0,1,0,0] (AQ 0 (J7 a) (Pt) z) (J7 a x):=by
 revert H;generalize x=b;intro H;refine sq<|sr<|ck 3<|sp (A1 Av a.Rules)<|ck 1<|en<|cn H (λ H=>?_)<|λ H=>?_
 ·refine sk<|qz<|sq<|bk 1<|sq<|sr<|ck 3<|bx H λ E k H=>sp (AM Av k)<|ck 3<|bx H λ w l H=>ca false (R1 l)<|ck 1<|en<|cn H (λ H=>?_)<|λ H=>?_
  ·exact sr<|ck 3<|en<|re<|qr<|qR<|qr (by cases H;exact ro rfl rdT)
  ·refine sk<|qz<|sr<|ck 1<|en<|bk 2<|bx H λ t c H=>?_;rcases t with G|I
   ·exact lX I4 c (sg [1,4,5]) rfl λ s m=>qH<|qN<|qs (m)<|rz<|ck 3<|ae (by cases H;exact og<|sg [1,4])
   ·exact lR I4 c (sg [1,4,5]) rfl λ s o=>qR<|qR<|qr (by cases H;exact ro rfl o)
 ·exact ex 0<|qx (by cases H;exact xo rfl<|sg [])
theorem R2 {z} (H:Ky n a=some z):AY Try.prog 29 [.agg (Bw a)] (.tup [.d (.int .i64 z.1),.d (.int .i64 z.2)]):=by
 refine fO 74 (JfU a) Try.func29<|sr<|ck 3<|en<|sq<|sr<|ck 5<|gc 2 (!(decide<|a.Modes<1))<|pO<|ck 2<|gc 2 (!((decide<|a.Modes<1)||(decide<|a.Modes>8)))<|pO<|ck 2<|gc 2 (!(((decide<|a.Modes<1)||(decide<|a.Modes>8))||(a.Accept==0)))<|ck 1<|gc 1 (!(((decide<|a.Modes<1)||(decide<|a.Modes>8))||(a.Accept==0)))<|bx H λ A p H=>soG (λ hg=>JC<|Eo p hg) (D0 (λ hh=>hh)<|Gi)<|gc 1 (!(((decide<|a.Modes<1)||(decide<|a.Modes>8))||(a.Accept==0)))<|pO<|ck 2<|gc 1 (!((((decide<|a.Modes<1)||(decide<|a.Modes>8))||(a.Accept==0))||(decide<|IntKind.i64.wrap a.Accept>=OP .i64 1 a.Modes)))<|sE (g:=(!((((decide<|a.Modes<1)||(decide<|a.Modes>8))||(a.Accept==0))||(decide<|IntKind.i64.wrap a.Accept>=OP .i64 1 a.Modes)))) (λ hg=>A1 Av a.Rules)<|gc 1 (!((((decide<|a.Modes<1)||(decide<|a.Modes>8))||(a.Accept==0))||(decide<|IntKind.i64.wrap a.Accept>=OP .i64 1 a.Modes)))<|pO<|ck 2<|gc 1 (!(((((decide<|a.Modes<1)||(decide<|a.Modes>8))||(a.Accept==0))||(decide<|IntKind.i64.wrap a.Accept>=OP .i64 1 a.Modes))||(decide<|((a.Rules.length:Nat):Int)<1)))<|sE (g:=(!(((((decide<|a.Modes<1)||(decide<|a.Modes>8))||(a.Accept==0))||(decide<|IntKind.i64.wrap a.Accept>=OP .i64 1 a.Modes))||(decide<|((a.Rules.length:Nat):Int)<1)))) (λ hg=>A1 Av a.Rules)<|gc 1 (!(((((decide<|a.Modes<1)||(decide<|a.Modes>8))||(a.Accept==0))||(decide<|IntKind.i64.wrap a.Accept>=OP .i64 1 a.Modes))||(decide<|((a.Rules.length:Nat):Int)<1)))<|pO<|en<|cn H (λ H=>?_)<|λ H=>?_
 ·exact sr<|ck 2<|en<|re<|qr (by cases H;exact pr rdT)
 ·refine sk<|qz<|sq<|sr<|ck 1<|en<|bk 0<|bx H λ u e H=>?_;rcases u with J|K
  ·exact lX I5 e (sg [1,4]) rfl λ s q=>qH<|qs (q)<|sr<|ck 2<|en<|re (by cases H;exact pr rdT)
  ·exact lR I5 e (sg [1,4]) rfl λ s r=>qR<|qr (by cases H;exact pr r)
end
section
variable (a:Aa)
def JfZ:St:=⟨(0,.agg [.d<|.int .i64 a.Modes,.d<|.int .u8 a.Accept,.d<|.sl<|a.Rules.map Av])::[],[]⟩
variable {a}
theorem R3 {z} (H:MO n a=some z):AY Try.prog 15 [.agg (Bw a)] (.d (.bool z)):=by
 exact fO 12 (JfZ a) Try.func15<|sr<|ck 2<|en<|sr<|ck 1<|bx H λ c b H=>ca false (R2 b)<|ck 5<|en<|sr<|ck 3<|en<|re (by cases H;exact pr rd)
end
section
variable (b:Jb) (a:Aa) (j:Aa) (h:Int) (q:Aa) (m:Aa) (i:Aa) (g:Int) (r:Aa) (o:Aa) (p:Aa)
def Jhs:St:=⟨(0,.agg [.d<|.int .u8 b.Base,.d<|.int .u8 b.Drop,.d<|.sl<|b.More.map EU])::[],[]⟩
def Jht:St:=⟨(1,.ptr 0 0)::(2,.ptr 1 0)::(3,.ptr 2 0)::(4,.osl 3 6 0<|a.Rules.length)::(5,.d<|.int .i64 h)::[],[some<|.box<|UW b,some<|.box [.d<|.int .i64 0,.d<|.int .u8 0,.osl 4 6 0<|List.length ([]:List Az)],some<|.box<|BV j<|.osl 5 6 0<|j.Rules.length,some<|.arr 6<|a.Rules.map Av,some<|.arr 6<|List.map Av ([]:List Az),some<|.arr 6<|j.Rules.map Av]⟩
def Jhu:St:=⟨(1,.ptr 0 0)::(2,.ptr 1 0)::(3,.ptr 2 0)::(4,.osl 3 6 0<|a.Rules.length)::[],[some<|.box<|UW b,some<|.box [.d<|.int .i64 0,.d<|.int .u8 0,.osl 4 6 0<|List.length ([]:List Az)],some<|.box<|BV q<|.osl 5 6 0<|q.Rules.length,some<|.arr 6<|a.Rules.map Av,some<|.arr 6<|List.map Av ([]:List Az),some<|.arr 6<|q.Rules.map Av]⟩
def Jhv:St:=⟨(1,.ptr 0 0)::(2,.ptr 1 0)::(3,.ptr 2 0)::(4,.osl 3 6 0<|a.Rules.length)::(5,.d<|.int .i64 h)::[],[some<|.box<|UW b,some<|.box [.d<|.int .i64 0,.d<|.int .u8 0,.osl 4 6 0<|List.length ([]:List Az)],some<|.box<|BV m<|.osl 5 6 0<|m.Rules.length,some<|.arr 6<|a.Rules.map Av,some<|.arr 6<|List.map Av ([]:List Az),some<|.arr 6<|m.Rules.map Av]⟩
def P6:Aa->Ex->St->Prop:=xX 0 0<|λ (y:Aa)=>Jhu b a y
def K8:(Aa×Int)->St:=(λ (x:(Aa×Int))=>Jht b a x.1 x.2)
def Jhw:St:=⟨(1,.ptr 0 0)::(2,.ptr 1 0)::(3,.ptr 2 0)::(4,.osl 3 6 0<|a.Rules.length)::(6,.d<|.int .i64 g)::[],[some<|.box<|UW b,some<|.box [.d<|.int .i64 0,.d<|.int .u8 0,.osl 4 6 0<|List.length ([]:List Az)],some<|.box<|BV i<|.osl 5 6 0<|i.Rules.length,some<|.arr 6<|a.Rules.map Av,some<|.arr 6<|List.map Av ([]:List Az),some<|.arr 6<|i.Rules.map Av]⟩
def Jhx:St:=⟨(2,.ptr 0 0)::(3,.ptr 1 0)::(4,.osl 2 6 0<|a.Rules.length)::[],[some<|.box [.d<|.int .i64 0,.d<|.int .u8 0,.osl 3 6 0<|List.length ([]:List Az)],some<|.box<|BV r<|.osl 4 6 0<|r.Rules.length,some<|.arr 6<|a.Rules.map Av,some<|.arr 6<|List.map Av ([]:List Az),some<|.arr 6<|r.Rules.map Av]⟩
def Jhy:St:=⟨(1,.ptr 0 0)::(2,.ptr 1 0)::(3,.ptr 2 0)::(4,.osl 3 6 0<|a.Rules.length)::(6,.d<|.int .i64 g)::[],[some<|.box<|UW b,some<|.box [.d<|.int .i64 0,.d<|.int .u8 0,.osl 4 6 0<|List.length ([]:List Az)],some<|.box<|BV o<|.osl 5 6 0<|o.Rules.length,some<|.arr 6<|a.Rules.map Av,some<|.arr 6<|List.map Av ([]:List Az),some<|.arr 6<|o.Rules.map Av]⟩
def P7:Aa->Ex->St->Prop:=xX 0 2<|λ (y:Aa)=>Jhx a y
def K9:(Aa×Int)->St:=(λ (x:(Aa×Int))=>Jhw b a x.1 x.2)
def Jhz:St:=⟨(2,.ptr 0 0)::(3,.ptr 1 0)::[],[some<|.box [.d<|.int .i64 0,.d<|.int .u8 0,.osl 2 6 0<|List.length ([]:List Az)],some<|.box<|BV p<|.osl 3 6 0<|p.Rules.length,some<|.arr 6<|List.map Av ([]:List Az),some<|.arr 6<|p.Rules.map Av]⟩
variable {b a j h q m i g r o p}
theorem Pu (x:(Aa×Int)) (z:((Aa×Int)⊕Aa)) (H:C7 n b a x.1 x.2=some z):WP (cxk 77 0) (AX Try.f9) [1,1,1,1,0,1,0,0] (AQ 0 (K8 b a) (P6 b a) z) (K8 b a x):=by
 obtain⟨j,h⟩:=x;refine sq<|sr<|ck 4<|en<|cn H (λ H=>?_)<|λ H=>?_
 ·refine sk<|qz<|sj (λ (x:Aa)=>Jhv b a h x) (λ (x:Aa)=>D4 n h x) z ?_ (λ c=>?_)
  ·intro m H;exact rz<|ck 3<|ae (by cases H;exact og<|sg [1,2,3,4,5])
  refine bk 1<|sr<|ck 3<|bx H λ R B H=>so (JC B)<|ck 2<|en<|cn H (λ H=>?_)<|λ H=>?_
  ·exact rz<|ck 4<|bx H λ U t H=>sp (Bd 3 6 t)<|sp (CI Av 3 0 (ty 42) t)<|ck 1<|bx H λ Q C H=>sp (Br Av 5 6 C)<|ck 2<|ae<|qN<|qs (sg [1,2,3,4,5])<|c ({ Modes:=j.Modes,Accept:=j.Accept,Rules:=Q }:Aa) H
  ·exact sk<|qN<|qs (sg [1,2,3,4,5])<|c j H
 ·exact ex 0<|qx (by cases H;exact xo rfl<|sg [1,2,3,4])
theorem Pv (x:(Aa×Int)) (z:((Aa×Int)⊕Aa)) (H:C8 n b a x.1 x.2=some z):WP (cxk 77 0) (AX Try.f9) [1,1,1,1,1,0,1,0,0] (AQ 0 (K9 b a) (P7 a) z) (K9 b a x):=by
 obtain⟨i,g⟩:=x;refine sq<|sr<|ck 3<|sp (A1 EU b.More)<|ck 3<|gc 1 (decide<|g<((b.More.length:Nat):Int))<|pA<|en<|cn H (λ H=>?_)<|λ H=>?_
 ·refine sk<|qz<|sj (λ (x:Aa)=>Jhy b a g x) (λ (x:Aa)=>D5 n g x) z ?_ (λ e=>?_)
  ·intro o H;exact rz<|ck 3<|ae (by cases H;exact og<|sg [1,2,3,4,6])
  refine bk 3<|sr<|ck 5<|bx H λ V E H=>sp (AM EU E)<|ck 3<|bx H λ S G H=>ca false (TA G)<|ck 1<|bx H λ u I H=>sp (Br Av 5 6 I)<|ck 2<|en<|sr<|ck 1<|bx H λ T J H=>cb (ks:=[7]) (obl:=[(0+List.length u,List.length<|u.map Av)]) false (leK leM<|leZ) (JB (Jgt<|JB rfl<|JB rfl<|JB Yy rfl) rfl) (R3 J) (Or.inr trivial) rfl<|ck 1<|en<|cn H (λ H=>?_)<|λ H=>?_
  ·exact rz<|ck 6<|bx H λ w l H=>sp (UN 7 6 l)<|ck 2<|ae<|qN<|qs (tr (Gx (k:=7) (sz:=6) 2 2 (w.map Av) (w.length) (by kernel_rfl) (Rx l) (UK (enc:=Av) l)<|Ry l)<|sg [1,2,3,4,6])<|e ({ Modes:=i.Modes,Accept:=i.Accept,Rules:=w }:Aa) H
  ·exact sk<|qN<|qs (sg [1,2,3,4,6])<|e ({ Modes:=i.Modes,Accept:=i.Accept,Rules:=u }:Aa) H
 ·exact ex 2<|qx (by cases H;exact xo rfl<|sg [2,3,4])
theorem TC {z} (H:FZ n b=some z):AY Try.prog 9 [.agg (UW b)] (.agg [.d (.int .i64 z.Modes),.d (.int .u8 z.Accept),.own 6 (z.Rules.map Av)]):=by
 refine fO 77 (Jhs b) Try.func9<|sr<|ck 2<|en<|sr<|ck 2<|bx H λ a K H=>cl [List.length a.Rules] (J2 K)<|ck 2<|en<|sr<|ck 3<|en<|sr<|ck 3<|en<|sq<|sr<|ck 1<|en<|bk 0<|bx H λ W L H=>lX Pu L (tr (DK 1 2 6 (by kernel_rfl))<|sg [1,2,3,4,5]) rfl λ s M=>qH<|qs (M)<|sq<|sr<|ck 1<|en<|bk 2<|bx H λ A O H=>lX Pv O (sg [1,2,3,4,6]) rfl λ s P=>qH<|qs (P)<|sj (λ (x:Aa)=>Jhz x) (λ (x:Aa)=>ET n x) z ?_ (λ f=>?_)
 ·intro p H;exact sr<|ck 2<|en<|re (by cases H;exact pr<|rO (v:=.agg [.d<|.int .i64 z.Modes,.d<|.int .u8 z.Accept,.osl 3 6 0<|z.Rules.length]) [3]<|a1<|c1 vd<|c1 vd<|c1 vo<|c0)
 refine sr<|ck 4<|en<|cn H (λ H=>?_)<|λ H=>?_
 ·exact rz<|ck 3<|ae<|qs (sg [2,3])<|f ({ Modes:=A.Modes,Accept:=A.Accept,Rules:=a.Rules }:Aa) H
 ·exact sk<|qs (sg [2,3])<|f A H
end
section
variable (h:Jb) (e:Int) (b:Bool) (a:Aa) (j:Aa) (k:Int) (o:Aa) (i:Aa) (l:Aa) (m:Int) (p:Aa)
def JhA:St:=⟨(0,.agg [.d<|.int .u8 h.Base,.d<|.int .u8 h.Drop,.d<|.sl<|h.More.map EU])::(1,.d<|.int .u8 e)::[],[]⟩
def JhB:St:=⟨(1,.d<|.int .u8 e)::(5,.d<|.bool b)::(6,.ptr 0 0)::(7,.ptr 1 0)::(8,.d<|.int .i64 ((a.Rules.length:Nat):Int))::(9,.d<|.int .i64 k)::[],[some<|.box<|BV a<|.osl 2 6 0<|a.Rules.length,some<|.box<|BV j<|.osl 3 6 0<|j.Rules.length,some<|.arr 6<|a.Rules.map Av,some<|.arr 6<|j.Rules.map Av]⟩
def JhC:St:=⟨(1,.d<|.int .u8 e)::(5,.d<|.bool b)::(6,.ptr 0 0)::(7,.ptr 1 0)::(8,.d<|.int .i64 ((a.Rules.length:Nat):Int))::[],[some<|.box<|BV a<|.osl 2 6 0<|a.Rules.length,some<|.box<|BV o<|.osl 3 6 0<|o.Rules.length,some<|.arr 6<|a.Rules.map Av,some<|.arr 6<|o.Rules.map Av]⟩
def KO:Aa->Ex->St->Prop:=xX 0 0<|λ (y:Aa)=>JhC e b a y
def Gt:(Aa×Int)->St:=(λ (x:(Aa×Int))=>JhB e b a x.1 x.2)
def JhD:St:=⟨(5,.d<|.bool b)::(6,.ptr 0 0)::(7,.ptr 1 0)::[],[some<|.box<|BV a<|.osl 2 6 0<|a.Rules.length,some<|.box<|BV i<|.osl 3 6 0<|i.Rules.length,some<|.arr 6<|a.Rules.map Av,some<|.arr 6<|i.Rules.map Av]⟩
def JhE:St:=⟨(5,.d<|.bool b)::(6,.ptr 0 0)::(7,.ptr 1 0)::(8,.d<|.int .i64 ((a.Rules.length:Nat):Int))::(10,.d<|.int .i64 m)::[],[some<|.box<|BV a<|.osl 2 6 0<|a.Rules.length,some<|.box<|BV l<|.osl 3 6 0<|l.Rules.length,some<|.arr 6<|a.Rules.map Av,some<|.arr 6<|l.Rules.map Av]⟩
def JhF:St:=⟨(5,.d<|.bool b)::(6,.ptr 0 0)::(7,.ptr 1 0)::[],[some<|.box<|BV a<|.osl 2 6 0<|a.Rules.length,some<|.box<|BV p<|.osl 3 6 0<|p.Rules.length,some<|.arr 6<|a.Rules.map Av,some<|.arr 6<|p.Rules.map Av]⟩
def KP:Aa->Ex->St->Prop:=xX 0 2<|λ (y:Aa)=>JhF b a y
def Gu:(Aa×Int)->St:=(λ (x:(Aa×Int))=>JhE b a x.1 x.2)
variable {h e b a j k o i l m p}
theorem J8 (x:(Aa×Int)) (z:((Aa×Int)⊕Aa)) (H:Cl n e b a x.1 x.2=some z):WP (cxk 98 0) (AX Try.f4) [1,1,1,1,1,0,1,0,0] (AQ 0 (Gt e b a) (KO e b a) z) (Gt e b a x):=by
 obtain⟨j,k⟩:=x;refine sq<|sr<|ck 3<|en<|cn H (λ H=>?_)<|λ H=>?_
 ·exact sk<|qz<|sq<|bk 1<|rz<|ck 9<|bx H λ R w H=>so (OY w)<|bx H λ S q H=>sp (Bd 2 6 q)<|sp (CI Av 2 0 (ty 42) q)<|ck 1<|bx H λ Z A H=>sp (Br Av 3 6 A)<|ck 2<|ae<|qN<|qz<|rz<|ck 3<|ae (by cases H;exact og<|sg [1,5,6,7,8,9])
 ·exact ex 0<|qx (by cases H;exact xo rfl<|sg [1,5,6,7,8])
theorem J9 (x:(Aa×Int)) (z:((Aa×Int)⊕Aa)) (H:Cm n b a x.1 x.2=some z):WP (cxk 98 0) (AX Try.f4) [1,1,1,1,1,1,0,1,0,1,0,0] (AQ 0 (Gu b a) (KP b a) z) (Gu b a x):=by
 obtain⟨l,m⟩:=x;refine sq<|sr<|ck 4<|en<|cn H (λ H=>?_)<|λ H=>?_
 ·exact sk<|qz<|sq<|bk 3<|rz<|ck 15<|bx H λ T r H=>sp (Bd 3 6 r)<|sp (CI Av 3 0 (ty 42) r)<|ck 3<|bx H λ U t H=>sp (Bd 3 6 t)<|sp (CI Av 3 0 (ty 42) t)<|bx H λ V u H=>sp (Bd 3 6 u)<|bx H λ aa f H=>stA Av 3 0 (ty 42) u f<|bx H λ W v H=>sp (VJ 3 6 ((Bb f)) v)<|bx H λ ab g H=>stA Av 3 0 (ty 42) v g<|ae<|qN<|qz<|rg (tr (tr (tr (tr (sn 54 3 6<|Eq.trans (Bb f)<|Bb g)<|sn 57 3 6<|Eq.trans (Bb f)<|Bb g)<|sn 63 3 6<|Eq.trans (Bb f)<|Bb g)<|sn 71 3 6<|Eq.trans (Bb f)<|Bb g)<|snc 1 2 3 6<|Eq.trans (Bb f)<|Bb g)<|ck 3<|ae (by cases H;exact og<|sg [5,6,7,8,10])
 ·exact ex 2<|qx (by cases H;exact xo rfl<|sg [5,6,7])
theorem Mi {z} (H:Fg n h e=some z):AY Try.prog 4 [.agg (UW h),.d (.int .u8 e)] (.d (.bool z)):=by
 refine fO 98 (JhA h e) Try.func4<|sr<|ck 2<|en<|sr<|bx H λ b B H=>ca false (PZ B)<|ck 1<|en<|sr<|ck 1<|bx H λ a C H=>cl [List.length a.Rules] (TC C)<|ck 2<|en<|sr<|ck 7<|en<|sr<|ck 3<|en<|sq<|sr<|ck 1<|en<|bk 0<|bx H λ E G H=>lX J8 G (sg [1,5,6,7,8,9]) rfl λ s I=>qH<|qs (I)<|sj (λ (x:Aa)=>JhD b a x) (λ (x:Aa)=>CT n b a x) z ?_ (λ c=>?_)
 ·intro i H;exact sq<|rg (fzc (enc:=Av) (xs:=a.Rules) 0 2 2 6)<|ck 1<|bx H λ X J H=>ca false (Cs J)<|ck 6<|en<|sq<|rg (fzc (enc:=Av) (xs:=i.Rules) 1 2 3 6)<|ck 1<|bx H λ Y K H=>ca false (Cs K)<|ck 6<|en<|sr<|ck 2<|bx H λ L M H=>ca false (Hy M)<|ck 3<|gc 1 L<|pA<|ck 2<|pA<|ck 1<|en<|re (by cases H;exact pr rd)
 refine sr<|ck 3<|en<|cn H (λ H=>?_)<|λ H=>?_
 ·exact sr<|ck 1<|en<|bk 2<|bx H λ O P H=>lX J9 P (sg [5,6,7,8,10]) rfl λ s Q=>qH<|qs (tr (Q)<|sg [5,6,7])<|c O H
 ·exact sk<|qs (sg [5,6,7])<|c E H
end
end Go.AI
end
section
namespace Go.AI
def CRd (F:Nat->Option Obj) (l:List D) (cs:List Value):Prop:=l.length=cs.length/\∀ (i:Nat) (y:D) (v:Value),l[i]?=some y->cs[i]?=some v->A9 F y v
def G5 {α:Type} (P:Program) (t:TypeId) (enc:α->List D) (ok:α->Prop):Prop:=
 ∀ (H:Type) (e:TypeId×Value->H) (w:World) (base:Nat) (spare:Nat->Bool) (held:Bool) (fuel:Nat) (cs:List Value) (x:DataW H×List MemPlace),DataW.trod e P w base spare held fuel t cs=some x->∃ a:α,ok a/\CRd (λ b=>w.heap[b]?) (enc a) cs
theorem R4 {F:Nat->Option Obj} {y:D} {v:Value} (h:A9 F y v):CRd F [y] [v]:=by
 refine⟨rfl,λ i a b ha hb=>?_⟩;cases i with
 | zero=>simp at ha hb;subst ha;subst hb;exact h
 | succ i=>simp at ha
theorem Xe {P:Program} {t:TypeId} {k:IntKind} (ht:P.underlying t=some (.int k)):G5 P t (λ n=>[.int k n]) (λ n=>(Lit.int k n).wf=true):=by
 intro H e w base spare held fuel cs x h;obtain⟨n,rfl,_,hw⟩:=DataW.trod_int ht h;exact⟨n,hw,R4 (.int k n)⟩
theorem TD {α:Type} {Q:Nat->α->Prop}:∀ n,(∀ i,i<n->∃ a,Q i a)->∃ l:List α,l.length=n/\∀ i a,l[i]?=some a->Q i a:=by
 intro n;induction n with
 | zero=>intro _;exact⟨[],rfl,λ i a h=>by simp at h⟩
 | succ n ih=>
  intro h;obtain⟨l,hl,hq⟩:=ih λ i hi=>h i (by omega);obtain⟨a,ha⟩:=h n (by omega);refine⟨l++[a],by simp[hl],λ i b hb=>?_⟩;rcases Ji8 i l.length with hlt|hge
  ·rw[Jjq hlt]at hb;exact hq i b hb
  ·rw[JjA hge]at hb;have:i-l.length=0:=by have:=Ae hb;simp at this;omega
   rw[this]at hb;simp at hb;subst hb;have:i=n:=by omega
   subst this;exact ha
theorem TE {α β:Type} {f:α->Option β}:∀ {l:List α} {r:List β},l.mapM f=some r->r.length=l.length/\∀ (i:Nat) (a:α),l[i]?=some a->r[i]?=f a:=by
 intro l;induction l with
 | nil=>intro r h;simp at h;subst h;exact⟨rfl,λ i a h=>by simp at h⟩
 | cons a l ih=>
  intro r h;rw[List.mapM_cons]at h;simp only[Option.bind_eq_bind,Option.bind_eq_some_iff,Option.pure_def,Jjs]at h;obtain⟨b,hb,r',hr',rfl⟩:=h;obtain⟨h1,h2⟩:=ih hr';refine⟨by simp[h1],λ i x hx=>?_⟩;cases i with
  | zero=>simp at hx;subst hx;simp[hb]
  | succ i=>simpa using h2 i x (by simpa using hx)
theorem R5 {α:Type} {P:Program} {t e:TypeId} {enc:α->List D} {ok:α->Prop} {sz:Nat} (ht:P.underlying t=some (.slice e)) (hsz:P.cellsOf e=sz) (h1:Nat.ble 1 sz=true) (hl:∀ a,(enc a).length=sz) (he:G5 P e enc ok):G5 P t (eL enc) (λ l=>l.length<=9223372036854775807/\∀ a∈l,ok a):=by
 intro H en w base spare held fuel cs x h;have h1:=Jjx h1;rcases DataW.trod_slice ht h with⟨rfl,_⟩|⟨a,len,cap,elems,rest,n,_,rfl,_,_,hcap,hmx,hel,hget,_,_⟩
 ·exact⟨[],⟨by simp,λ a h=>by simp at h⟩,R4 (.sl0 _ _)⟩
 ·rw[hsz]at hget;have hex:∀ i,i<len->∃ y:α,ok y/\∃ ci,w.cells? base (a.add (i*sz)) sz=some ci/\CRd (λ b=>w.heap[b]?) (enc y) ci:=λ i hi=>by
   have hg:=hget i hi;rw[Jji (show i<elems.length by omega)]at hg;simp only[Option.bind_eq_some_iff]at hg;obtain⟨ci,hc,htr⟩:=hg;obtain⟨y,hy,hcr⟩:=he H en w base spare held n ci _ htr;exact⟨y,hy,ci,hc,hcr⟩
  obtain⟨l,hll,hq⟩:=TD len hex;refine⟨l,⟨by unfold maxLen at hmx;omega,λ y hy=>?_⟩,R4 ?_⟩
  ·obtain⟨i,hi⟩:=List.mem_iff_getElem?.1 hy;exact(hq i y hi).1
  ·rcases Nat.eq_zero_or_pos len with h0|hpos
   ·have:l=[]:=List.length_eq_zero_iff.1 (by omega);subst this;subst h0;exact .sl0 _ _
   ·
    have hcell:∀ i y,l[i]?=some y->∀ j,j<sz->∃ v,w.cell? ((a.add (i*sz)).add j)=some v/\∀ d,(enc y)[j]?=some d->A9 (λ b=>w.heap[b]?) d v:=λ i y hy j hj=>by
     obtain⟨_,ci,hc,hcr⟩:=hq i y hy;unfold World.cells? at hc;split at hc
     ·obtain⟨g1,g2⟩:=TE hc;have:=g2 j j (by simp[hj]);have hjc:j<ci.length:=by rw[g1];simpa using hj
      rw[Jji hjc]at this;exact⟨ci[j],this.symm,λ d hd=>hcr.2 j d _ hd (Jji hjc)⟩
     ·cases hc
    have h0:l[0]?=some l[0]:=Jji (by omega);obtain⟨v0,hv0,_⟩:=hcell 0 _ h0 0 (by omega);have ha0:(a.add (0*sz)).add 0=a:=by simp[Addr.add]
    rw[ha0]at hv0;obtain⟨b,off,spot⟩:=a;unfold World.cell? at hv0;simp only at hv0;split at hv0
    ·rename_i c ty fr hblk;cases spot with
     | some s=>simp at hv0
     | none=>
      have hcell':∀ i y,l[i]?=some y->∀ j d,(enc y)[j]?=some d->∃ v,c[off+i*sz+j]?=some v/\A9 (λ b=>w.heap[b]?) d v:=λ i y hy j d hd=>by
       have hj:j<sz:=by rw[← hl y];exact Ae hd
       obtain⟨v,hv,hr⟩:=hcell i y hy j hj;rw[BH,BH,Jp hblk]at hv;exact⟨v,hv,hr d hd⟩
      have hlen:(l.map enc).length=len:=by simp[hll]
      have:=A9.sl (F:=λ b=>w.heap[b]?) (l.map enc) b off cap sz c ty fr (λ i j=>(c[off+i*sz+j]?).getD undef) hblk (λ e he=>by
        simp only[Jja]at he;obtain⟨y,_,rfl⟩:=he;exact hl y) (by omega) (λ i e hi j d hd=>by
        simp only[Jjm,Jjl]at hi;obtain⟨y,hy,rfl⟩:=hi;obtain⟨v,hv,_⟩:=hcell' i y hy j d hd;simp only[hv,Ji3]) (λ i e hi j d hd=>by
        simp only[Jjm,Jjl]at hi;obtain⟨y,hy,rfl⟩:=hi;obtain⟨v,hv,hr⟩:=hcell' i y hy j d hd;simp only[hv,Ji3];exact hr)
      rw[hlen]at this;exact this
    ·cases hv0
theorem Ny {α:Type} {P:Program} {t e:TypeId} {enc:α->List D} {ok:α->Prop} {sz:Nat} (ht:P.underlying t=some (.slice e)) (hsz:P.cellsOf e=sz) (h1:Nat.ble 1 sz=true) (hl:∀ a,(enc a).length=sz) (he:G5 P e enc ok):G5 P t (eL enc) (λ l=>∀ a∈l,ok a):=by
 intro H en w base spare held fuel cs x h;obtain⟨l,h1,h2⟩:=R5 ht hsz h1 hl he H en w base spare held fuel cs x h;exact⟨l,h1.2,h2⟩
theorem EA {F:Nat->Option Obj} {l m:List D} {cs:List Value} {o n:Nat} (h:CRd F l ((cs.drop o).take n)) (hn:Nat.beq l.length n=true) (h':CRd F m (cs.drop (o+n))):CRd F (l++m) (cs.drop o):=by
 have hn:=Jjp hn;have e:cs.drop o=(cs.drop o).take n++cs.drop (o+n):=by rw[← List.drop_drop,List.take_append_drop]
 rw[e];refine⟨by simp only[List.length_append,h.1,h'.1],λ i y v hy hv=>?_⟩;rcases Ji8 i l.length with hlt|hge
 ·rw[Jjq hlt]at hy;rw[Jjq (by rw[← h.1];exact hlt)]at hv;exact h.2 i y v hy hv
 ·rw[JjA hge]at hy;rw[JjA (by rw[← h.1];exact hge),← h.1]at hv;exact h'.2 _ y v hy hv
theorem R6 {F:Nat->Option Obj} {cs:List Value} {o:Nat} (h:cs.length<=o):CRd F [] (cs.drop o):=by
 rw[List.drop_eq_nil_of_le h];exact⟨rfl,λ i y v hy=>by simp at hy⟩
theorem UY {H:Type} {enc:TypeId×Value->H} {P:Program} {w:World} {base:Nat} {spare:Nat->Bool} {held:Bool} {fuel:Nat} {t e:TypeId} {n:Nat} {cs:List Value} {x:DataW H×List MemPlace} (ht:P.underlying t=some (.array n e)) (h:DataW.trod enc P w base spare held fuel t cs=some x) :
  ∃ m,cs.length=P.cellsOf t/\∀ i,i<n->∃ y,DataW.trod enc P w base spare held m e ((cs.drop (i*P.cellsOf e)).take (P.cellsOf e))=some y:=by
 cases fuel with
 | zero=>simp[DataW.trod]at h
 | succ m=>
  unfold DataW.trod at h;rw[ht]at h;split at h<;>simp_all;obtain⟨xs,hp,_⟩:=h.2;refine⟨m,λ i hi=>?_⟩;obtain⟨g1,g2⟩:=TE hp;have:=g2 i i (by simp[hi]);have hlt:i<xs.length:=by rw[g1];simpa using hi
  rw[Jji hlt]at this;exact⟨_,_,this.symm⟩
end Go.AI
end
section
namespace Go.AI
open Go.ChangeShapes Go.WideShapes Go.ChangeAt Go.RowKit
variable {P:Program} {H:Type} {en:TypeId×Value->H} {W W':World} {base:Nat} {spare:Nat->Bool} {held:Bool} {t e:TypeId} {v:Value} {d:DataW H} {ps:List MemPlace} {α:Type} {enc:α->List D} {ok:α->Prop}
theorem Jca {cs:Array Value} (hv:v=.agg cs) (hd:DataW.Trod en P W base spare held t v d ps) (hr:G5 P t enc ok):∃ a,ok a/\Ai (λ b=>W.heap[b]?) noR (.agg ((enc a).map .d)) v:=by
 subst hv;obtain⟨fuel,hf⟩:=hd;obtain⟨a,h1,h2,h3⟩:=hr H en W base spare held fuel _ _ hf;refine⟨a,h1,.agg _ _ (by simpa [Value.cells]using h2) λ i x u hx hu=>?_⟩;simp only[Jjm,Jjl]at hx;obtain⟨y,hy,rfl⟩:=hx;exact .d _ _ (h3 i y u hy (by simpa [Value.cells]using hu))
theorem Jcb {y:α->D} (hc:v.cells=#[v]) (hd:DataW.Trod en P W base spare held t v d ps) (hr:G5 P t enc ok) (he:∀ a,enc a=[y a]):∃ a,ok a/\Ai (λ b=>W.heap[b]?) noR (.d (y a)) v:=by
 obtain⟨fuel,hf⟩:=hd;obtain⟨a,h1,h2,h3⟩:=hr H en W base spare held fuel _ _ hf;refine⟨a,h1,.d _ _ (h3 0 (y a) v (by rw[he];rfl) (by rw[hc];rfl))⟩
theorem Jf0 {F:Nat->Option Obj} {ρ:Nat->Option Loc}:CR F ρ [] []:=⟨rfl,λ i a v h=>by simp at h⟩
theorem VQ {F:Nat->Option Obj} {ρ:Nat->Option Loc} {a:AV} {v:Value} {l:List AV} {vs:List Value} (h:Ai F ρ a v) (h':CR F ρ l vs):CR F ρ (a::l) (v::vs):=by
 refine⟨by simp[h'.1],λ i x u hx hu=>?_⟩;cases i with
 | zero=>simp at hx hu;subst hx;subst hu;exact h
 | succ i=>exact h'.2 i x u (by simpa using hx) (by simpa using hu)
theorem fld {w:World} {fuel:Nat} {cs:List Value} {fs:Array Field} {xs:List (DataW H×List MemPlace)} (hg:∀ (i:Nat) (f:Field),fs[i]?=some f->DataW.trod en P w base spare held fuel f.type ((cs.drop f.offset).take (P.cellsOf f.type))=xs[i]?) (hxl:xs.length=fs.size) (i:Nat) {f:Field} (hf:fs[i]?=some f) (u o n:Nat) (hu:f.type=u) (ho:f.offset=o) (hn:P.cellsOf u=n) (hr:G5 P u enc ok) :
  ∃ a,ok a/\CRd (λ b=>w.heap[b]?) (enc a) ((cs.drop o).take n):=by
 have:=hg i f hf;have hi:i<xs.length:=by rw[hxl];exact Ar hf
 rw[Jji hi,hu,ho,hn]at this;exact hr H en w base spare held fuel _ _ this
theorem JhG {w:World} {fuel:Nat} {cs:List Value} {m:Nat} (hg:∀ i,i<m->∃ y,DataW.trod en P w base spare held fuel e ((cs.drop (i*P.cellsOf e)).take (P.cellsOf e))=some y) (i:Nat) (hi:Nat.ble (i+1) m=true) (o n:Nat) (hn:P.cellsOf e=n) (ho:i*n=o) (hr:G5 P e enc ok) :
  ∃ a,ok a/\CRd (λ b=>w.heap[b]?) (enc a) ((cs.drop o).take n):=by
 obtain⟨y,hy⟩:=hg i (Jjx hi);rw[hn,ho]at hy;exact hr H en w base spare held fuel _ _ hy
theorem Z6 {f:FuncId} {args:List AV} {vs:Array Value} (hc:AY P f args (.d (.bool true))) (hcr:CR (λ b=>W.heap[b]?) noR args vs.toList):Calls P f vs W λ e W'=>e=.returned (.bool true)/\(∀ before:List MemPlace,W.keptBut W' (·∈before))/\∀ b,b<W.heap.size->W'.heap[b]?=W.heap[b]? := by
 refine(hc.2 (λ b=>W.heap[b]?) W vs hcr λ b o h=>h).mono λ e W' h=>?_;obtain⟨v,F',ρ,rfl,hS,hr,hmu⟩:=h;have hv:v=.bool true:=by
  have:(BO true 0 (.d (.bool true))).1=.d (.bool true):=rfl;rw[this]at hr;exact hr.bool
 subst hv;have hold:∀ b,b<W.heap.size->W'.heap[b]?=W.heap[b]? := λ b hb=>hS.old b (by omega);refine⟨rfl,λ before=>World.keptBut_mono (λ p hp=>hp.elim) (?_:W.keptBut W' λ _=>False),hold⟩;refine⟨hmu.os,hmu.out,λ i hi=>?_⟩;rw[hold i hi];cases hh:W.heap[i]? with
 | none=>rfl
 | some o=>cases o<;>first|exact⟨rfl,rfl,rfl,λ _ _=>rfl⟩|exact .inr ⟨rfl,rfl⟩|rfl
theorem Xf {f:Func} {s:ChangeSpec} {apart fresh handsOn again:Bool} {args:Array Value} {ds gs:List (DataW H)} {before pa pv:List MemPlace}
  (hW:DataW.Whole en P f.params.toList s.vars apart W args.toList ds gs before)
  (hres:∀ (b:Nat) (sp:Nat->Bool) (hd:Bool),DataW.TrodAll en P W' b sp hd f.resultTypes.toList (v.resultList f.resultTypes.size) (s.fn H (ds++gs)).results [])
  (hargs:∀ sp:Nat->Bool,(∀ p∈before,sp p.block=true)->DataW.TrodAll en P W' 0 sp true f.params.toList args.toList (s.fn H (ds++gs)).args pa)
  (hvars:∀ sp:Nat->Bool,(∀ p∈before,sp p.block=true)->DataW.TrodVars en P W' sp s.vars (s.fn H (ds++gs)).vars pv)
  (hps:before=pa++pv) (hk:W.keptBut W' (·∈before)) (hold:∀ b,b<W.heap.size->W'.heap[b]?=W.heap[b]?)
  (hok:∀ (j:Nat) (t:TypeId) (r:Value),f.resultTypes[j]?=some t->(v.resultList f.resultTypes.size)[j]?=some r->Value.okWide P W' .any 0 t r) :
  s.post en P f apart fresh handsOn again W args v W':=by
 have hin:∀ p∈before,(λ b=>decide (b<W.heap.size)) p.block=true:=λ p hp=>by simpa using hW.lt p hp
 have hlt:=hW.lt;refine⟨ds,gs,before,[],pa,pv,hW,hres _ _ _,hargs _ hin,hvars _ hin,World.keptBut_mono (λ p hp=>⟨hp,?_⟩) hk,λ _=>?_⟩
 ·rw[hps,List.mem_append]at hp;exact Or.inr hp
 ·obtain⟨_,_,_,_,_,hz,hn⟩:=hW;refine⟨hok,_,_,([]++pa)++pv,⟨[]++pa,pv,trodAll_append (hargs _ (λ _ _=>rfl)) (hres _ _ _),hvars _ (λ _ _=>rfl),rfl,?_,?_⟩,?_⟩
  ·intro b off hp;have hp:MemPlace.cell b off∈before:=by rw[hps];simpa using hp
   have:=hz b off hp;simp only[World.frozen?,hold b (hlt _ hp)]at this⊢;exact this
  ·intro ha;have:=hn ha;rw[hps]at this;simpa using this
  ·intro p hp _;rw[hps];simpa using hp
theorem Jc0 (hl:laidOutB P=true) (hr:P.readableRec t=true) (hrow:t<P.types.size) (h:DataW.Trod en P W 0 (λ _=>true) true t v d ps) (hb:∀ p∈ps,p.block<W.heap.size) {sp:Nat->Bool} (hs:∀ p∈ps,sp p.block=true) (hold:∀ b,b<W.heap.size->W'.heap[b]?=W.heap[b]?):DataW.Trod en P W' 0 sp true t v d ps:=by
 refine WideElems.Trod_stays hl hr hrow h (λ p hp=>?_) hs;have:=hb p hp;cases p with
 | cell b o=>exact World.cell?_of_block (w:=W) (hold b this)
 | map b=>exact hold b this
end Go.AI
end
section
namespace Go.AI
open Go.Proofs Go.ChangeShapes Go.WideShapes Go.ChangeAt Go.RowKit
def okI (k:IntKind) (n:Int):Prop:=(Lit.int k n).wf=true
theorem rd5:G5 Try.prog 5 eU8 (okI .u8):=Xe Try.underlying5
theorem JhH:G5 Try.prog 44 (eL eU8) (λ l=>∀ a∈l,okI .u8 a):=Ny (sz:=1) Try.underlying44 (by kernel_rfl) rfl (λ _=>rfl) rd5
theorem JiC:G5 Try.prog 45 (Jhp eU8) (λ x=>okI .u8 x.a0/\okI .u8 x.a1):=by
 intro H e w base spare held fuel cs x h;obtain⟨m,hcl,hg⟩:=UY Try.underlying45 h;have hcl:cs.length=2:=hcl.trans (by kernel_rfl);obtain⟨a0,k0,c0⟩:=JhG hg 0 rfl 0 1 (by kernel_rfl) rfl rd5;obtain⟨a1,k1,c1⟩:=JhG hg 1 rfl 1 1 (by kernel_rfl) rfl rd5;refine⟨⟨a0,a1⟩,⟨k0,k1⟩,?_⟩;have:=EA c0 rfl (EA c1 rfl (R6 (Nat.le_of_eq hcl)));exact this
def IH (x:CQ):Prop:=(∀ a∈x.P,okI .u8 a)/\(∀ a∈x.C,okI .u8 a)/\okI .u8 x.L/\okI .u8 x.R/\(okI .u8 x.W.a0/\okI .u8 x.W.a1)
theorem JiD:G5 Try.prog 47 EU IH:=by
 intro H e w base spare held fuel cs x h;obtain⟨xs,n,_,_,hcl,hxl,hg⟩:=DataW.trod_struct Try.underlying47 h;have hcl:cs.length=6:=hcl.trans (by kernel_rfl);obtain⟨a0,k0,c0⟩:=fld hg hxl 0 rfl 44 0 1 rfl rfl (by kernel_rfl) JhH;obtain⟨a1,k1,c1⟩:=fld hg hxl 1 rfl 44 1 1 rfl rfl (by kernel_rfl) JhH;obtain⟨a2,k2,c2⟩:=fld hg hxl 2 rfl 5 2 1 rfl rfl (by kernel_rfl) rd5;obtain⟨a3,k3,c3⟩:=fld hg hxl 3 rfl 5 3 1 rfl rfl (by kernel_rfl) rd5;obtain⟨a4,k4,c4⟩:=fld hg hxl 4 rfl 45 4 2 rfl rfl (by kernel_rfl) JiC;refine⟨⟨a0,a1,a2,a3,a4⟩,⟨k0,k1,k2,k3,k4⟩,?_⟩;have:=EA c0 rfl (EA c1 rfl (EA c2 rfl (EA c3 rfl (EA c4 rfl (R6 (Nat.le_of_eq hcl))))));exact this
theorem JiE:G5 Try.prog 22 (eL EU) (λ l=>∀ a∈l,IH a):=Ny (sz:=6) Try.underlying22 (by kernel_rfl) rfl (λ _=>rfl) JiD
def UZ (x:Jb):Prop:=okI .u8 x.Base/\okI .u8 x.Drop/\(∀ a∈x.More,IH a)
theorem JiF:G5 Try.prog 24 Jhq UZ:=by
 intro H e w base spare held fuel cs x h;obtain⟨xs,n,_,_,hcl,hxl,hg⟩:=DataW.trod_struct Try.underlying24 h;have hcl:cs.length=3:=hcl.trans (by kernel_rfl);obtain⟨a0,k0,c0⟩:=fld hg hxl 0 rfl 5 0 1 rfl rfl (by kernel_rfl) rd5;obtain⟨a1,k1,c1⟩:=fld hg hxl 1 rfl 5 1 1 rfl rfl (by kernel_rfl) rd5;obtain⟨a2,k2,c2⟩:=fld hg hxl 2 rfl 22 2 1 rfl rfl (by kernel_rfl) JiE;refine⟨⟨a0,a1,a2⟩,⟨k0,k1,k2⟩,?_⟩;have:=EA c0 rfl (EA c1 rfl (EA c2 rfl (R6 (Nat.le_of_eq hcl))));exact this
end Go.AI
end
section
namespace Go.AI
def Le {α:Type} (a b:Option α):Prop:=∀ z,a=some z->b=some z
theorem Le.refl {α:Type} (a:Option α):Le a a:=λ _ h=>h
theorem Le.bind {α β:Type} {a a':Option α} {f f':α->Option β} (h:Le a a') (hf:∀ x,Le (f x) (f' x)):Le (a.bind f) (a'.bind f'):=by
 intro z hz;obtain⟨x,h1,h2⟩:=bind_some hz;rw[h x h1];exact hf x z h2
theorem Le.ite {α:Type} {c:Prop} [Decidable c] {a a' b b':Option α} (h:Le a a') (h':Le b b'):Le (if c then a else b) (if c then a' else b'):=by
 split
 ·exact h
 ·exact h'
theorem Le.whl {σ ρ:Type} {body body':σ->Option (σ⊕ρ)} (hb:∀ x,Le (body x) (body' x)):∀ {n m:Nat},n<=m->∀ x,Le (whl body n x) (whl body' m x):=by
 intro n;induction n with
 | zero=>intro m _ x z hz;cases hz
 | succ n ih=>
  intro m hm x z hz;cases m with
  | zero=>omega
  | succ m=>
   simp only[Go.AI.whl]at hz⊢;cases hx:body x with
   | none=>rw[hx]at hz;cases hz
   | some y=>
    rw[hb x y hx];rw[hx]at hz;cases y with
    | inl y=>exact ih (by omega) y z hz
    | inr r=>exact hz
def Ev {α:Type} (f:Nat->Option α) (z:α):Prop:=∃ n,∀ m,n<=m->f m=some z
theorem Ev.const {α:Type} {z:α}:Ev (λ _=>some z) z:=⟨0,λ _ _=>rfl⟩
theorem Ev.of {α:Type} {f:Nat->Option α} {z:α} (hm:∀ n m,n<=m->Le (f n) (f m)) {n:Nat} (h:f n=some z):Ev f z:=⟨n,λ m hnm=>hm n m hnm z h⟩
theorem Ev.all {α:Type} {f:Nat->Option α} {z:α} (h:∀ n,f n=some z):Ev f z:=⟨0,λ m _=>h m⟩
theorem Ev.bind {α β:Type} {f:Nat->Option α} {g:Nat->α->Option β} {x:α} {z:β} (h:Ev f x) (hg:Ev (λ n=>g n x) z):Ev (λ n=>(f n).bind (g n)) z:=by
 obtain⟨n,hn⟩:=h;obtain⟨m,hm⟩:=hg;refine⟨max n m,λ k hk=>?_⟩;show(f k).bind (g k)=_;rw[hn k (by omega)];exact hm k (by omega)
theorem Ev.out {α:Type} {f:Nat->Option α} {z:α} (h:Ev f z):∃ n,f n=some z:=by
 obtain⟨n,hn⟩:=h;exact⟨n,hn n (Ji7 n)⟩
theorem Ev.congr {α:Type} {f g:Nat->Option α} {z:α} (h:Ev f z) (e:∀ n,g n=f n):Ev g z:=by
 obtain⟨n,hn⟩:=h;exact⟨n,λ m hm=>by rw[e m];exact hn m hm⟩
theorem Ev.whl {σ ρ:Type} {body:Nat->σ->Option (σ⊕ρ)} {r:ρ} (I:Nat->σ->Prop) (h:∀ k x,I k x->(∃ y j,j<k/\I j y/\Ev (λ n=>body n x) (.inl y))\/Ev (λ n=>body n x) (.inr r)):∀ (k:Nat) (x:σ),I k x->Ev (λ n=>Go.AI.whl (body n) n x) r:=by
 have key:∀ (k:Nat) (x:σ),I k x->∃ N c,∀ n fuel,N<=n->c<=fuel->Go.AI.whl (body n) fuel x=some r:=by
  intro k;induction k using Nat.strongRecOn with
  | _ k ih=>
   intro x hx;rcases h k x hx with⟨y,j,hj,hy,N1,h1⟩|⟨N1,h1⟩
   ·obtain⟨N2,c,h2⟩:=ih j hj y hy;refine⟨max N1 N2,c+1,λ n fuel hn hf=>?_⟩;cases fuel with
    | zero=>omega
    | succ fuel=>
     have e:=h1 n (by omega);simp only at e;simp only[Go.AI.whl,e];exact h2 n fuel (by omega) (by omega)
   ·refine⟨N1,1,λ n fuel hn hf=>?_⟩;cases fuel with
    | zero=>omega
    | succ fuel=>
     have e:=h1 n hn;simp only at e;simp only[Go.AI.whl,e]
 intro k x hx;obtain⟨N,c,hh⟩:=key k x hx;exact⟨max N c,λ m hm=>hh m m (by omega) (by omega)⟩
end Go.AI
end
section
namespace Go.AI
variable {α ε σ ρ ζ β:Type}
theorem Le.dem {S:α->Prop} {k k':α->Option ζ} (h:∀ a,Le (k a) (k' a)):Le (dem S k) (dem S k'):=by
 intro z hz;have h1:=YP hz;have h0:∃ a,S a:=by
  unfold Go.AI.dem at hz;split at hz
  ·rename_i hx;exact hx.choose_spec.1
  ·cases hz
 exact YQ h0 λ a ha=>h a _ (h1 a ha)
end Go.AI
end
section
namespace Go.AI
theorem U0 (a:Int):IntKind.i64.wrap a=if decide (a % 18446744073709551616>=9223372036854775808)=true then a % 18446744073709551616-18446744073709551616 else a % 18446744073709551616:=rfl
theorem QI (a:Int):IntKind.u8.wrap a=a % 256:=rfl
theorem Pw {a:Int} (h:-9223372036854775808<=a) (h':a<9223372036854775808):IntKind.i64.wrap a=a:=by
 rw[U0];split
 ·rename_i hc;simp at hc;omega
 ·rename_i hc;simp at hc;omega
theorem Px {a b:Int} (h:-9223372036854775808<=a+b) (h':a+b<9223372036854775808):Bg .i64 a b=a+b:=Pw h h'
theorem Z7 {a b:Int} (h:-9223372036854775808<=a-b) (h':a-b<9223372036854775808):Gh .i64 a b=a-b:=Pw h h'
theorem JhI {a:Int} (h:0<=a) (h':a<256):IntKind.u8.wrap a=a:=by
 rw[QI];omega
theorem TF (a:Int):0<=IntKind.u8.wrap a/\IntKind.u8.wrap a<256:=by
 rw[QI];omega
def R7 (m k:Int):Bool:=decide (0<=k)&&decide (k<8)&&(Dc .u8 (Jdi .u8 m k) 1==1)
theorem Z8 (n:Nat) (m k:Int):Iw n m k=some (R7 m k):=by
 unfold Iw R7;by_cases h:0<=k
 ·by_cases h':k<8<;>simp[h,h',BZ]
 ·simp[h]
def G6 (b:Int):Int:=
 if(decide (97<=Dc .u8 b 127)&&decide (Dc .u8 b 127<=122))=true then 1
 else if(decide (65<=Dc .u8 b 127)&&decide (Dc .u8 b 127<=90))=true then 2
 else if(decide (48<=Dc .u8 b 127)&&decide (Dc .u8 b 127<=57))=true then 3
 else if(Dc .u8 b 127==32)=true then 4 else 5
theorem TG (n:Nat) (b:Int):GG n b=some (G6 b):=by
 unfold GG G6;split
 ·rfl
 ·split
  ·rfl
  ·split
   ·rfl
   ·split<;>rfl
theorem TH (b:Int):1<=G6 b/\G6 b<=5:=by
 unfold G6;split
 ·omega
 ·split
  ·omega
  ·split
   ·omega
   ·split<;>omega
def QJ (s:List UInt8) (i:Nat):Int:=(s[i]?.getD 0).toNat
theorem R8 {s:List UInt8} {i:Nat} (h:i<s.length):I9 s (i:Int)=some (QJ s i):=by
 unfold I9 QJ;rw[if_pos (by omega)];simp
def VR:Ad:=⟨0,0,0⟩
def Py (r:Az) (s:Ad):Ad×Bool:=
 if((r.From != s.Mode)||!R7 r.Left s.Last)=true then(VR,false)
 else if(r.Print==[])=true then
  (if(Dc .u8 s.Need r.Right==0)=true then(VR,false)else(⟨r.To,s.Last,Dc .u8 s.Need r.Right⟩,true))
 else if(!R7 s.Need (G6 (QJ r.Print 0)))=true then(VR,false)
 else(⟨r.To,G6 (QJ r.Print (r.Print.length-1)),r.Right⟩,true)
def BB (t:Aa) (s:Ad) (k:Int):Ad×Bool:=
 if(decide (k<0)||decide (k>=(t.Rules.length:Int)))=true then(VR,false)else Py (t.Rules[k.toNat]?.getD default) s
def Jc1 (t:Aa):Prop:=∀ r∈t.Rules,r.Print.length<9223372036854775808
theorem TI {α:Type} [Inhabited α] {l:List α} {k:Int} (h:0<=k) (h':k<l.length):idx l k=some (l[k.toNat]?.getD default):=by
 unfold idx;rw[if_pos h];have:k.toNat<l.length:=by omega
 simp[this]
theorem N3 {t:Aa} (ht:Jc1 t) (n:Nat) (s:Ad) (k:Int):JF n t s k=some (BB t s k):=by
 unfold JF BB;by_cases hk:(decide (k<0)||decide (k>=(t.Rules.length:Int)))=true
 ·rw[if_pos hk,if_pos hk];rfl
 ·rw[if_neg hk,if_neg hk];simp only[JjB,decide_eq_true_eq,not_or,Int.not_lt,ge_iff_le,Int.not_le]at hk;rw[TI hk.1 hk.2];have hmem:(t.Rules[k.toNat]?.getD default)∈t.Rules:=by
   have:k.toNat<t.Rules.length:=by omega
   simp[this]
  have hlen:=ht _ hmem;generalize t.Rules[k.toNat]?.getD default=r at hlen⊢;simp only[JiY,Z8,TG];unfold Py;by_cases h1:r.From=s.Mode
  ·simp only[h1,bne_self_eq_false,Bool.not_false,if_true,JiY,Bool.false_or];by_cases h2:R7 r.Left s.Last=true
   ·simp only[h2,Ji5,Jju,if_false];by_cases h3:r.Print=[]
    ·simp only[h3,beq_self_eq_true,if_true];split<;>rfl
    ·have h3':(r.Print==[])=false:=by simpa using h3
     have hpos:0<r.Print.length:=List.length_pos_iff.2 h3;simp only[h3',Jju,if_false];have e0:=R8 (s:=r.Print) (i:=0) hpos;simp only[Int.natCast_zero]at e0;rw[e0];have e1:Gh .i64 ((r.Print.length:Nat):Int) 1=((r.Print.length-1:Nat):Int):=by rw[Z7 (by omega) (by omega)];omega
     rw[e1,R8 (by omega)];simp only[JiY];split<;>rfl
   ·have h2:R7 r.Left s.Last=false:=by simpa using h2
    simp only[h2,Bool.not_false,if_true];rfl
  ·have h1':(r.From != s.Mode)=true:=by simpa using h1
   simp only[h1',Ji5,Jju,if_false,JiY,Bool.true_or,if_true];rfl
end Go.AI
end
section
namespace Go.AI
theorem Ak {α:Type} {l:List α} {i:Nat} {x:α} (h:l[i]?=some x):i<l.length:=(List.getElem?_eq_some_iff.1 h).1
def BC (t:Aa) (s:Ad):Bool:=decide (s.Mode<t.Modes)&&R7 t.Accept s.Mode&&R7 s.Need 0
theorem Pz (n:Nat) (t:Aa) (s:Ad):FW n t s=some (BC t s):=by
 unfold FW BC;simp only[Z8];by_cases h1:s.Mode<t.Modes
 ·cases h2:R7 t.Accept s.Mode<;>simp[h1]
 ·simp[h1]
end Go.AI
end
section
namespace Go.AI
theorem U1 (a b:Int) (h:0<=b) (h':b<256):0<=Dc .u8 a b/\Dc .u8 a b<=b:=by
 unfold Dc;have hb:(BitVec.ofInt 8 b).toNat=b.toNat:=by
  rw[BitVec.toNat_ofInt];omega
 have hle:(BitVec.ofInt 8 a &&& BitVec.ofInt 8 b).toNat<=b.toNat:=by
  rw[BitVec.toNat_and,hb];exact Nat.and_le_right
 have e:(BitVec.ofInt IntKind.u8.bits a &&& BitVec.ofInt IntKind.u8.bits b).toNat=(BitVec.ofInt 8 a &&& BitVec.ofInt 8 b).toNat:=rfl;rw[e,JhI (by omega) (by omega)];omega
def Ly (r:Az):Prop:=0<=r.To/\r.To<2/\0<=r.Right/\r.Right<=63/\r.Print.length<=3
def Gv (t:Aa):Prop:=t.Rules.length<=11/\∀ r∈t.Rules,Ly r
theorem Gv.short {t:Aa} (h:Gv t):Jc1 t:=λ r hr=>by have:=(h.2 r hr).2.2.2.2;omega
def InU (s:Ad):Prop:=0<=s.Mode/\s.Mode<2/\0<=s.Last/\s.Last<=5/\0<=s.Need/\s.Need<=63
def Jf1:List Ad:=(List.range 768).map λ i=>⟨(i / 384:Nat),(i / 64 % 6:Nat),(i % 64:Nat)⟩
theorem Z9 {s:Ad} (h:InU s):s∈Jf1:=by
 obtain⟨h1,h2,h3,h4,h5,h6⟩:=h;obtain⟨m,l,d⟩:=s;simp only at h1 h2 h3 h4 h5 h6;simp only[Jf1,Jja,List.mem_range];refine⟨m.toNat*384+l.toNat*64+d.toNat,by omega,?_⟩;have e1:(m.toNat*384+l.toNat*64+d.toNat) / 384=m.toNat:=by omega
 have e2:(m.toNat*384+l.toNat*64+d.toNat) / 64 % 6=l.toNat:=by omega
 have e3:(m.toNat*384+l.toNat*64+d.toNat) % 64=d.toNat:=by omega
 rw[e1,e2,e3];congr 1<;>omega
theorem Jaa {l m:List Ad} (h:l.Nodup) (hs:∀ x∈l,x∈m):l.length<=m.length:=by
 induction l generalizing m with
 | nil=>simp
 | cons a l ih=>
  rw[List.nodup_cons]at h;have ha:=hs a (by simp);have hlen:(m.erase a).length=m.length-1:=List.length_erase_of_mem ha;have hpos:0<m.length:=List.length_pos_of_mem ha;have:=ih (m:=m.erase a) h.2 λ x hx=>by
   have hne:x≠a:=λ e=>h.1 (e▸hx);exact(List.mem_erase_of_ne hne).2 (hs x (by simp[hx]))
  simp;omega
theorem Jab {l:List Ad} (h:l.Nodup) (hs:∀ x∈l,InU x):l.length<=768:=by
 have:=Jaa h λ x hx=>Z9 (hs x hx);simpa [Jf1]using this
theorem Jac {t:Aa} (ht:Gv t) {s:Ad} (hs:InU s) {k:Int} (h:(BB t s k).2=true):InU (BB t s k).1:=by
 unfold BB at h⊢;split at h
 ·cases h
 ·rename_i hk;rw[if_neg hk];simp only[JjB,decide_eq_true_eq,not_or,Int.not_lt,ge_iff_le,Int.not_le]at hk;have hmem:(t.Rules[k.toNat]?.getD default)∈t.Rules:=by
   have:k.toNat<t.Rules.length:=by omega
   simp[this]
  have hr:=ht.2 _ hmem;generalize t.Rules[k.toNat]?.getD default=r at hr h⊢;obtain⟨a1,a2,a3,a4,a5⟩:=hr;obtain⟨b1,b2,b3,b4,b5,b6⟩:=hs;unfold Py at h⊢;split at h
  ·cases h
  ·rename_i h1;rw[if_neg h1];split at h
   ·rename_i h2;rw[if_pos h2];split at h
    ·cases h
    ·rename_i h3;rw[if_neg h3];have:=U1 s.Need r.Right a3 (by omega);exact⟨a1,a2,b3,b4,this.1,by show Dc .u8 s.Need r.Right<=63;omega⟩
   ·rename_i h2;rw[if_neg h2];split at h
    ·cases h
    ·rename_i h3;rw[if_neg h3];have:=TH (QJ r.Print (r.Print.length-1));exact⟨a1,a2,by show 0<=G6 _;omega,by show G6 _<=5;omega,a3,a4⟩
def G7:Ad:=⟨0,0,63⟩
def KQ (t:Aa) (s:Ad) (st:List Ad) (k:Nat):List Ad:=if(BB t s k).2=true/\(BB t s k).1 ∉ st then st++[(BB t s k).1]else st
def NO (t:Aa) (s:Ad) (m:Nat) (st:List Ad):List Ad:=(List.range m).foldl (KQ t s) st
theorem Kz (t:Aa) (s:Ad) (m:Nat) (st:List Ad):NO t s (m+1) st=KQ t s (NO t s m st) m:=by
 simp[NO,List.range_succ]
def TJ (t:Aa):Nat->Nat->List Ad->List Ad
 | 0,_,st=>st
 | f+1,i,st=>match st[i]? with
  | some s=>TJ t f (i+1) (NO t s t.Rules.length st)
  | none=>st
def AP (t:Aa):List Ad:=TJ t 800 0 [G7]
structure Fp (t:Aa) (st:List Ad):Prop where
 nodup:st.Nodup
 inU:∀ s∈st,InU s
 first:st[0]?=some G7
 origin:∀ (j:Nat) (s:Ad),st[j]?=some s->0<j->∃ (i:Nat) (s':Ad) (k:Nat),i<j/\st[i]?=some s'/\k<t.Rules.length/\BB t s' k=(s,true)
theorem Fp.len {t:Aa} {st:List Ad} (h:Fp t st):st.length<=768:=Jab h.nodup h.inU
theorem Fp.add {t:Aa} (ht:Gv t) {st:List Ad} (h:Fp t st) {i:Nat} {s:Ad} (hi:st[i]?=some s) {k:Nat} (hk:k<t.Rules.length):Fp t (KQ t s st k):=by
 unfold KQ;split
 ·rename_i hc;have hil:=Ak hi;refine⟨?_,λ x hx=>?_,?_,λ j x hj h0=>?_⟩
  ·rw[List.nodup_append];refine⟨h.nodup,by simp,λ a ha b hb=>?_⟩;simp at hb;subst hb;exact λ e=>hc.2 (e▸ha)
  ·simp only[List.mem_append,List.mem_singleton]at hx;rcases hx with hx|rfl
   ·exact h.inU x hx
   ·exact Jac ht (h.inU s (Jjk hi)) hc.1
  ·rw[Jjq (by omega)];exact h.first
  ·rcases Ji8 j st.length with hlt|hge
   ·rw[Jjq hlt]at hj;obtain⟨i',s',k',a1,a2,a3,a4⟩:=h.origin j x hj h0;exact⟨i',s',k',a1,by rw[Jjq (by omega)];exact a2,a3,a4⟩
   ·rw[JjA hge]at hj;have:j-st.length=0:=by have:=Ak hj;simp at this;omega
    rw[this]at hj;simp at hj;subst hj;refine⟨i,s,k,by omega,by rw[Jjq hil];exact hi,hk,?_⟩;exact Prod.ext rfl hc.1
 ·exact h
theorem TL (t:Aa) (s:Ad) (st:List Ad) (k:Nat):st <+: KQ t s st k:=by
 unfold KQ;split
 ·exact List.prefix_append _ _
 ·exact List.prefix_refl _
theorem H4 (t:Aa) (s:Ad) (st:List Ad):∀ m,st <+: NO t s m st:=by
 intro m;induction m with
 | zero=>exact List.prefix_refl _
 | succ m ih=>rw[Kz];exact ih.trans (TL _ _ _ _)
theorem CG {α:Type} {l m:List α} (h:l <+: m) {i:Nat} {x:α} (hi:l[i]?=some x):m[i]?=some x:=by
 obtain⟨r,rfl⟩:=h;rw[Jjq (Ak hi)];exact hi
theorem Fp.exp {t:Aa} (ht:Gv t) {st:List Ad} (h:Fp t st) {i:Nat} {s:Ad} (hi:st[i]?=some s):∀ m,m<=t.Rules.length->Fp t (NO t s m st):=by
 intro m;induction m with
 | zero=>intro _;exact h
 | succ m ih=>
  intro hm;rw[Kz];exact(ih (by omega)).add ht (CG (H4 t s st m) hi) (by omega)
theorem Jad (t:Aa) (s:Ad) (st:List Ad):∀ m k:Nat,k<m->(BB t s k).2=true->(BB t s k).1∈NO t s m st:=by
 intro m;induction m with
 | zero=>intro k hk;omega
 | succ m ih=>
  intro k hk h;rw[Kz];by_cases e:k=m
  ·subst e;unfold KQ;by_cases hc:(BB t s k).1∈NO t s k st
   ·rw[if_neg (λ hh=>hh.2 hc)];exact hc
   ·rw[if_pos ⟨h,hc⟩];simp
  ·exact(TL t s _ m).subset (ih k (by omega) h)
def Jae (t:Aa) (i:Nat) (st:List Ad):Prop:=∀ (j:Nat) (s:Ad),j<i->st[j]?=some s->∀ k:Nat,k<t.Rules.length->(BB t s k).2=true->(BB t s k).1∈st
theorem Jf2 {t:Aa} (ht:Gv t):∀ (f i:Nat) (st:List Ad),Fp t st->Jae t i st->768<f+i->Fp t (TJ t f i st)/\∀ i',Jae t i' (TJ t f i st):=by
 intro f;induction f with
 | zero=>
  intro i st h hd hf;have:=h.len;refine⟨h,λ i' j s hj hs=>?_⟩;have hs:st[j]?=some s:=hs;exact hd j s (by have:=Ak hs;omega) hs
 | succ f ih=>
  intro i st h hd hf;simp only[TJ];cases hi:st[i]? with
  | none=>
   refine⟨h,λ i' j s hj hs=>?_⟩;have hs:st[j]?=some s:=hs;exact hd j s (by have:=Ak hs;rw[List.getElem?_eq_none_iff]at hi;omega) hs
  | some s=>
   refine ih (i+1) _ (h.exp ht hi _ (Ji7 _)) (λ j x hj hx k hk hk2=>?_) (by omega);by_cases e:j=i
   ·subst e;have:=CG (H4 t s st t.Rules.length) hi;rw[this]at hx;cases hx;exact Jad t s st _ k hk hk2
   ·have hjl:j<st.length:=by have:=Ak hi;omega
    have hxx:st[j]?=some st[j]:=Jji hjl;have:=CG (H4 t s st t.Rules.length) hxx;rw[this]at hx;cases hx;exact(H4 t s st t.Rules.length).subset (hd j _ (by omega) hxx k hk hk2)
theorem Ed {t:Aa} (ht:Gv t):Fp t (AP t)/\∀ i,Jae t i (AP t):=by
 refine Jf2 ht 800 0 [G7] ⟨by simp,λ s hs=>?_,rfl,λ j s hj h0=>?_⟩ (λ j s hj=>by omega) (by omega)
 ·simp at hs;subst hs;exact⟨by decide,by decide,by decide,by decide,by decide,by decide⟩
 ·cases j with
  | zero=>omega
  | succ j=>simp at hj
end Go.AI
end
section
namespace Go.AI
theorem JiN {σ ρ:Type} {body:Nat->σ->Option (σ⊕ρ)} {R:ρ->Prop} (I:Nat->σ->Prop) (h:∀ k x,I k x->(∃ y j,j<k/\I j y/\Ev (λ n=>body n x) (.inl y))\/∃ r,R r/\Ev (λ n=>body n x) (.inr r)):∀ (k:Nat) (x:σ),I k x->∃ r,R r/\Ev (λ n=>Go.AI.whl (body n) n x) r:=by
 have key:∀ (k:Nat) (x:σ),I k x->∃ r,R r/\∃ N c,∀ n fuel,N<=n->c<=fuel->Go.AI.whl (body n) fuel x=some r:=by
  intro k;induction k using Nat.strongRecOn with
  | _ k ih=>
   intro x hx;rcases h k x hx with⟨y,j,hj,hy,N1,h1⟩|⟨r,hr,N1,h1⟩
   ·obtain⟨r,hr,N2,c,h2⟩:=ih j hj y hy;refine⟨r,hr,max N1 N2,c+1,λ n fuel hn hf=>?_⟩;cases fuel with
    | zero=>omega
    | succ fuel=>
     have e:=h1 n (by omega);simp only at e;simp only[Go.AI.whl,e];exact h2 n fuel (by omega) (by omega)
   ·refine⟨r,hr,N1,1,λ n fuel hn hf=>?_⟩;cases fuel with
    | zero=>omega
    | succ fuel=>
     have e:=h1 n hn;simp only at e;simp only[Go.AI.whl,e]
 intro k x hx;obtain⟨r,hr,N,c,hh⟩:=key k x hx;exact⟨r,hr,max N c,λ m hm=>hh m m (by omega) (by omega)⟩
def I6 (st:List Ad) (nb:List (Ad×Int)):Prop:=∀ s,BK s nb=(st.findIdx? λ x=>decide (x=s)).map λ i=>(i:Int)
theorem Dm {st:List Ad} {s:Ad} {i:Nat} (hn:st.Nodup) (h:st[i]?=some s):(st.findIdx? λ x=>decide (x=s))=some i:=by
 have hi:=Ak h;rw[List.findIdx?_eq_some_iff_getElem];have he:st[i]=s:=by rw[Jji hi]at h;exact Option.some.inj h
 refine⟨hi,by simpa using he,λ j hj=>?_⟩;simp only[Ji6,decide_eq_false_iff_not];intro e;have:=(List.getElem_inj (i:=j) (j:=i) (h₀:=by omega) (h₁:=hi) hn).1 (by rw[e,he]);omega
theorem II {st:List Ad} {s:Ad} (h:s ∉ st):(st.findIdx? λ x=>decide (x=s))=none:=by
 rw[List.findIdx?_eq_none_iff];intro y hy;simp only[decide_eq_false_iff_not];exact λ e=>h (e▸hy)
theorem H5 {κ α:Type} [DecidableEq κ] (k k':κ) (v:α) (m:List (κ×α)):BK k' (DY k v m)=if k'=k then some v else BK k' m:=by
 induction m with
 | nil=>simp[DY,BK]
 | cons p m ih=>
  simp only[DY];by_cases h:k=p.1
  ·rw[if_pos h];simp only[BK];by_cases h':k'=k
   ·simp[h']
   ·have:k'≠p.1:=λ e=>h' (e.trans h.symm);simp[h',this]
  ·rw[if_neg h];simp only[BK];by_cases h':k'=p.1
   ·have:k'≠k:=λ e=>h (e▸h');rw[if_pos h',if_neg this,if_pos h']
   ·rw[if_neg h',if_neg h',ih]
theorem I6.snoc {st:List Ad} {nb:List (Ad×Int)} (h:I6 st nb) (hn:st.Nodup) {p:Ad} (hp:p ∉ st):I6 (st++[p]) (DY p (st.length:Nat) nb):=by
 intro s;rw[H5];have hnd:(st++[p]).Nodup:=by
  rw[List.nodup_append];exact⟨hn,by simp,λ a ha b hb=>by simp at hb;subst hb;exact λ e=>hp (e▸ha)⟩
 by_cases e:s=p
 ·subst e;rw[if_pos rfl,Dm hnd (i:=st.length) (by simp)];rfl
 ·rw[if_neg e,h s];by_cases hs:s∈st
  ·obtain⟨i,hi⟩:=List.mem_iff_getElem?.1 hs;rw[Dm hn hi,Dm hnd (i:=i) (by rw[Jjq (Ak hi)];exact hi)]
  ·rw[II hs,II (by simp[hs,e])]
def G8 (i m j k:Nat):Prop:=j<i\/(j=i/\k<m)
structure CX (t:Aa) (st:List Ad) (fr:List (List Int)) (i m:Nat):Prop where
 len:fr.length=st.length
 cov:∀ j s k,G8 i m j k->st[j]?=some s->k<t.Rules.length->(BB t s (k:Nat)).2=true->(BB t s (k:Nat)).1∈st
 sound:∀ (n:Nat) l,fr[n]?=some l->∀ x∈l,∃ (j:Nat) (s:Ad) (k:Nat) (s':Ad),x=(j:Int)/\st[j]?=some s/\k<t.Rules.length/\st[n]?=some s'/\BB t s (k:Nat)=(s',true)
 compl:∀ (n:Nat) l,fr[n]?=some l->∀ (j:Nat) (s:Ad) (k:Nat) (s':Ad),G8 i m j k->st[j]?=some s->k<t.Rules.length->st[n]?=some s'->BB t s (k:Nat)=(s',true)->(j:Int)∈l
 small:∀ (n:Nat) l,fr[n]?=some l->l.length<=i*11+m
theorem CX.snoc {t:Aa} {st:List Ad} {fr:List (List Int)} {i m:Nat} (h:CX t st fr i m) {p:Ad} (hp:p ∉ st) (hi:i<st.length):CX t (st++[p]) (fr++[[]]) i m:=by
 have hget:∀ (j:Nat) s,G8 i m j 0\/j<=i->(st++[p])[j]?=some s->st[j]?=some s:=λ j s hj hs=>by
  rcases Ji8 j st.length with hlt|hge
  ·rwa[Jjq hlt]at hs
  ·rcases hj with (h1|⟨h1,_⟩)|h1<;>omega
 have hle:∀ {j k},G8 i m j k->j<=i:=λ h=>by rcases h with h|⟨h,_⟩<;>omega
 refine⟨by simp[h.len],λ j s k ht hs hk h2=>?_,λ n l hl x hx=>?_,λ n l hl j s k s' ht hs hk hs' he=>?_,λ n l hl=>?_⟩
 ·exact List.mem_append_left _ (h.cov j s k ht (hget j s (.inr (hle ht)) hs) hk h2)
 ·rcases Ji8 n fr.length with hlt|hge
  ·rw[Jjq hlt]at hl;obtain⟨j,s,k,s',a1,a2,a3,a4,a5⟩:=h.sound n l hl x hx;exact⟨j,s,k,s',a1,by rw[Jjq (Ak a2)];exact a2,a3,by rw[Jjq (Ak a4)];exact a4,a5⟩
  ·rw[JjA hge]at hl;have:n-fr.length=0:=by have:=Ak hl;simp at this;omega
   rw[this]at hl;simp at hl;subst hl;simp at hx
 ·have hs0:=hget j s (.inr (hle ht)) hs;have hmem:s'∈st:=by have:=h.cov j s k ht hs0 hk (by rw[he]);rwa[he]at this
  rcases Ji8 n fr.length with hlt|hge
  ·rw[Jjq hlt]at hl;rw[Jjq (by rw[← h.len];exact hlt)]at hs';exact h.compl n l hl j s k s' ht hs0 hk hs' he
  ·have hn:n=st.length:=by have:=Ak hs';simp at this;rw[h.len]at hge;omega
   subst hn;simp at hs';subst hs';exact absurd hmem hp
 ·rcases Ji8 n fr.length with hlt|hge
  ·rw[Jjq hlt]at hl;exact h.small n l hl
  ·rw[JjA hge]at hl;have:n-fr.length=0:=by have:=Ak hl;simp at this;omega
   rw[this]at hl;simp at hl;subst hl;simp
theorem CX.put {t:Aa} {st:List Ad} {fr:List (List Int)} {i m:Nat} (h:CX t st fr i m) (hnd:st.Nodup) {s p:Ad} {q:Nat} {l:List Int} (hs:st[i]?=some s) (hm:m<t.Rules.length) (hst:BB t s (m:Nat)=(p,true)) (hq:st[q]?=some p) (hl:fr[q]?=some l):CX t st (fr.set q (l++[(i:Int)])) i (m+1):=by
 have htk:∀ {j k},G8 i (m+1) j k->G8 i m j k\/(j=i/\k=m):=λ {j k} h=>by
  unfold G8 at *;omega
 have hql:=Ak hl;refine⟨by simp[h.len],λ j x k ht hx hk h2=>?_,λ n l' hl' x hx=>?_,λ n l' hl' j x k x' ht hx hk hx' he=>?_,λ n l' hl'=>?_⟩
 ·rcases htk ht with ht|⟨rfl,rfl⟩
  ·exact h.cov j x k ht hx hk h2
  ·rw[hs]at hx;cases hx;rw[hst];exact Jjk hq
 ·by_cases e:n=q
  ·subst e;rw[Jjt hql]at hl';cases hl';simp only[List.mem_append,List.mem_singleton]at hx;rcases hx with hx|rfl
   ·exact h.sound n l hl x hx
   ·exact⟨i,s,m,p,rfl,hs,hm,hq,hst⟩
  ·rw[Jjy (Ne.symm e)]at hl';exact h.sound n l' hl' x hx
 ·rcases htk ht with ht|⟨rfl,rfl⟩
  ·by_cases e:n=q
   ·subst e;rw[Jjt hql]at hl';cases hl';exact List.mem_append_left _ (h.compl n l hl j x k x' ht hx hk hx' he)
   ·rw[Jjy (Ne.symm e)]at hl';exact h.compl n l' hl' j x k x' ht hx hk hx' he
  ·rw[hs]at hx;cases hx;rw[hst]at he;cases he;have e:n=q:=by
    have h1:=Ak hx';have h2:=Ak hq;rw[Jji h1]at hx';rw[Jji h2]at hq;exact(List.getElem_inj (h₀:=h1) (h₁:=h2) hnd).1 ((Option.some.inj hx').trans (Option.some.inj hq).symm)
   subst e;rw[Jjt hql]at hl';cases hl';simp
 ·by_cases e:n=q
  ·subst e;rw[Jjt hql]at hl';cases hl';have:=h.small n l hl;simp;omega
  ·rw[Jjy (Ne.symm e)]at hl';have:=h.small n l' hl';omega
theorem CX.skip {t:Aa} {st:List Ad} {fr:List (List Int)} {i m:Nat} (h:CX t st fr i m) {s:Ad} (hs:st[i]?=some s) (hst:(BB t s (m:Nat)).2=false):CX t st fr i (m+1):=by
 have htk:∀ {j k},G8 i (m+1) j k->G8 i m j k\/(j=i/\k=m):=λ {j k} h=>by
  unfold G8 at *;omega
 refine⟨h.len,λ j x k ht hx hk h2=>?_,h.sound,λ n l hl j x k x' ht hx hk hx' he=>?_,λ n l hl=>by have:=h.small n l hl;omega⟩
 ·rcases htk ht with ht|⟨rfl,rfl⟩
  ·exact h.cov j x k ht hx hk h2
  ·rw[hs]at hx;cases hx;rw[hst]at h2;cases h2
 ·rcases htk ht with ht|⟨rfl,rfl⟩
  ·exact h.compl n l hl j x k x' ht hx hk hx' he
  ·rw[hs]at hx;cases hx;rw[he]at hst;cases hst
end Go.AI
end
section
namespace Go.AI
theorem IJ {α:Type} {l:List α} {i:Nat} {x:α} (h:l[i]?=some x):idx l (i:Int)=some x:=by
 unfold idx;rw[if_pos (by omega)];simpa using h
theorem EL {α:Type} {eb:Nat} {xs ys:List α} (h:(xs.length+ys.length)*eb<=70368744177664):app eb xs ys=some (xs++ys):=by
 unfold app;rw[if_pos h]
theorem TM {t:Aa} (ht:Gv t) {i m:Nat} {s:Ad} {st:List Ad} {fr:List (List Int)} {nb:List (Ad×Int)} (hF:Fp t st) (hi:st[i]?=some s) (hN:I6 st nb) (hR:CX t st fr i m) (hm:m<t.Rules.length) :
  ∃ fr' nb',I6 (KQ t s st m) nb'/\CX t (KQ t s st m) fr' i (m+1)/\∀ n,BT n t (i:Int) st fr nb (m:Int)=some (.inl (KQ t s st m,fr',nb',((m+1:Nat):Int))):=by
 have hil:=Ak hi;have hlen:=hF.len;have hrl:=ht.1;have hinc:Bg .i64 (m:Int) 1=((m+1:Nat):Int):=by rw[Px (by omega) (by omega)];rfl
 have hcond:decide ((m:Int)<((t.Rules.length:Nat):Int))=true:=by simpa using hm
 cases hp:(BB t s (m:Nat)).2 with
 | false=>
  have ha:KQ t s st m=st:=by unfold KQ;rw[if_neg (by rw[hp];simp)]
  refine⟨fr,nb,by rw[ha];exact hN,by rw[ha];exact hR.skip hi hp,λ n=>?_⟩;unfold BT;rw[if_pos hcond,IJ hi];simp only[JiY,N3 ht.short,hp,Bool.not_false,if_true,C1,hinc,ha]
 | true=>
  have hpe:BB t s (m:Nat)=((BB t s (m:Nat)).1,true):=Prod.ext rfl hp;generalize hpp:(BB t s (m:Nat)).1=p at hpe;by_cases hmem:p∈st
  ·have ha:KQ t s st m=st:=by unfold KQ;rw[if_neg (by rw[hpp];exact λ hh=>hh.2 hmem)]
   obtain⟨q,hq⟩:=List.mem_iff_getElem?.1 hmem;have hql:=Ak hq;obtain⟨lq,hfq⟩:∃ lq,fr[q]?=some lq:=⟨_,Jji (by rw[hR.len];exact hql)⟩;have hsm:=hR.small q _ hfq;have hget:BK p nb=some (q:Int):=by rw[hN p,Dm hF.nodup hq];rfl
   have hiv:i<768:=by omega
   refine⟨fr.set q (lq++[(i:Int)]),nb,by rw[ha];exact hN,by rw[ha];exact hR.put hF.nodup hi hm hpe hq hfq,λ n=>?_⟩;unfold BT;rw[if_pos hcond,IJ hi];simp only[JiY,N3 ht.short,hpe,hget,Option.isSome_some,Ji5,Jju,if_false,Ji3,D3];rw[IJ hfq];simp only[JiY];rw[EL (by simp;omega)];simp only[JiY,C1,hinc,ha,Jjr]
  ·have ha:KQ t s st m=st++[p]:=by unfold KQ;rw[if_pos ⟨hp,by rw[hpp];exact hmem⟩,hpp]
   have hnd:(st++[p]).Nodup:=by have:=(hF.add ht hi hm).nodup;rwa[ha]at this
   have hget:BK p nb=none:=by rw[hN p,II hmem];rfl
   have hR':=hR.snoc hmem hil;have hfq:(fr++[[]])[st.length]?=some ([]:List Int):=by rw[← hR.len];simp
   refine⟨(fr++[[]]).set st.length ([]++[(i:Int)]),DY p (st.length:Nat) nb,by rw[ha];exact hN.snoc hF.nodup hmem,by rw[ha];exact hR'.put hnd (by rw[Jjq hil];exact hi) hm hpe (by simp) hfq,λ n=>?_⟩;unfold BT;rw[if_pos hcond,IJ hi];simp only[JiY,N3 ht.short,hpe,hget,Option.isSome_none,Bool.not_false,Ji5,Jju,if_true,if_false];rw[EL (by simp;omega),JiY,EL (by simp[hR.len];omega),JiY];simp only[D3];rw[IJ hfq];simp only[JiY];rw[EL (by simp)];simp only[JiY,C1,hinc,ha,Jjr]
theorem CX.next {t:Aa} {st:List Ad} {fr:List (List Int)} {i:Nat} (h:CX t st fr i t.Rules.length) (hr:t.Rules.length<=11):CX t st fr (i+1) 0:=by
 have htk:∀ {j k},k<t.Rules.length->G8 (i+1) 0 j k->G8 i t.Rules.length j k:=λ {j k} hk h=>by
  unfold G8 at *;omega
 exact⟨h.len,λ j s k ht hs hk=>h.cov j s k (htk hk ht) hs hk,h.sound,λ n l hl j s k s' ht hs hk=>h.compl n l hl j s k s' (htk hk ht) hs hk,λ n l hl=>by have:=h.small n l hl;omega⟩
theorem Jaf {t:Aa} (ht:Gv t) {i:Nat} {s:Ad} {st:List Ad} {fr:List (List Int)} {nb:List (Ad×Int)} (hF:Fp t st) (hi:st[i]?=some s) (hN:I6 st nb) (hR:CX t st fr i 0) :
  ∃ r:List Ad×List (List Int)×List (Ad×Int),(r.1=NO t s t.Rules.length st/\I6 r.1 r.2.2/\CX t r.1 r.2.1 (i+1) 0) /\
   Ev (λ n=>whl (λ (x:((List Ad)×(List (List Int))×(List (Ad×Int))×Int))=>BT n t (i:Int) x.1 x.2.1 x.2.2.1 x.2.2.2) n (st,fr,nb,0)) r:=by
 refine JiN (body:=λ n x=>BT n t (i:Int) x.1 x.2.1 x.2.2.1 x.2.2.2) (λ k x=>∃ m:Nat,m<=t.Rules.length/\k=t.Rules.length-m/\x.1=NO t s m st/\x.2.2.2=(m:Int)/\I6 x.1 x.2.2.1/\CX t x.1 x.2.1 i m) ?_ t.Rules.length (st,fr,nb,0) ⟨0,by omega,by omega,rfl,rfl,hN,hR⟩;rintro k ⟨st',fr',nb',m'⟩ ⟨m,hm,rfl,h1,h2,h3,h4⟩;simp only at h1 h2 h3 h4;subst h1;subst h2;rcases Ji8 m t.Rules.length with hlt|hge
 ·left;have hi':(NO t s m st)[i]?=some s:=CG (H4 t s st m) hi;obtain⟨fr2,nb2,g1,g2,g3⟩:=TM ht (hF.exp ht hi m hm) hi' h3 h4 hlt;exact⟨_,t.Rules.length-(m+1),by omega,⟨m+1,hlt,rfl,(Kz t s m st).symm,rfl,g1,g2⟩,Ev.all g3⟩
 ·right;have e:m=t.Rules.length:=by omega
  subst e;refine⟨(NO t s t.Rules.length st,fr',nb'),⟨rfl,h3,h4.next ht.1⟩,Ev.all λ n=>?_⟩;unfold BT;rw[if_neg (by simp)]
theorem PA {t:Aa} (ht:Gv t):∃ fr,CX t (AP t) fr (AP t).length 0/\Ev (λ n=>FV n t) (AP t,fr):=by
 have h0:Fp t [G7]:=⟨by simp,λ s hs=>by simp at hs;subst hs;exact⟨by decide,by decide,by decide,by decide,by decide,by decide⟩,rfl,λ j s hj h0=>by cases j with|zero=>omega|succ j=>simp at hj⟩;have loop:∃ r:List Ad×List (List Int),(r.1=AP t/\CX t r.1 r.2 r.1.length 0) /\
   Ev (λ n=>whl (λ (x:((List Ad)×(List (List Int))×(List (Ad×Int))×Int))=>C2 n t x.1 x.2.1 x.2.2.1 x.2.2.2) n ([G7],([[]]:List (List Int)),(DY G7 0 []),0)) r:=by
  refine JiN (body:=λ n x=>C2 n t x.1 x.2.1 x.2.2.1 x.2.2.2) (λ k x=>∃ i:Nat,i<=x.1.length/\k=800-i/\TJ t (800-i) i x.1=AP t/\x.2.2.2=(i:Int)/\Fp t x.1/\I6 x.1 x.2.2.1/\CX t x.1 x.2.1 i 0) ?_ 800 _ ⟨0,by simp,by omega,rfl,rfl,h0,?_,?_⟩
  ·rintro k ⟨st,fr,nb,i'⟩ ⟨i,hil,rfl,hb,hi',hF,hN,hR⟩;simp only at hil hb hi' hF hN hR;subst hi';have hlen:=hF.len;rcases Ji8 i st.length with hlt|hge
   ·left;have hi:st[i]?=some st[i]:=Jji hlt;obtain⟨r,⟨g1,g2,g3⟩,g4⟩:=Jaf ht hF hi hN hR;have hexp:=hF.exp ht hi _ (Ji7 _);refine⟨(r.1,r.2.1,r.2.2,((i+1:Nat):Int)),800-(i+1),by omega,⟨i+1,?_,rfl,?_,rfl,by rw[g1];exact hexp,g2,g3⟩,?_⟩
    ·simp only[g1];have:=(H4 t st[i] st t.Rules.length).length_le;omega
    ·simp only[g1];rw[← hb];have e:800-i=(800-(i+1))+1:=by omega
     rw[e];simp only[TJ,hi]
    ·refine(Ev.bind g4 (g:=λ _ y2=>some (.inl (y2.1,y2.2.1,y2.2.2,((i+1:Nat):Int)))) Ev.const).congr λ n=>?_;unfold C2;rw[if_pos (by simpa using hlt)];have hinc:Bg .i64 (i:Int) 1=((i+1:Nat):Int):=by rw[Px (by omega) (by omega)];rfl
     rw[hinc]
   ·right;have e:i=st.length:=by omega
    subst e;have hst:st=AP t:=by
     rw[← hb];have e:800-st.length=(800-(st.length+1))+1:=by omega
     rw[e];simp[TJ]
    refine⟨(st,fr),⟨hst,hR⟩,Ev.all λ n=>?_⟩;unfold C2;rw[if_neg (by simp)]
  ·intro s;simp only[DY,BK];by_cases e:s=G7
   ·subst e;simp
   ·have:¬ G7=s:=λ h=>e h.symm;simp[e,this]
  ·refine⟨rfl,λ j s k ht=>?_,λ n l hl x hx=>?_,λ n l hl j s k s' ht=>?_,λ n l hl=>?_⟩
   ·unfold G8 at ht;omega
   ·cases n with
    | zero=>simp at hl;subst hl;simp at hx
    | succ n=>simp at hl
   ·unfold G8 at ht;omega
   ·cases n with
    | zero=>simp at hl;subst hl;simp
    | succ n=>simp at hl
 obtain⟨⟨st,fr⟩,⟨g1,g2⟩,g3⟩:=loop;simp only at g1 g2;subst g1;refine⟨fr,g2,?_⟩;have hs:∀ n,MM n=some G7:=λ n=>rfl;refine(Ev.bind g3 (g:=λ _ y3=>some (y3.1,y3.2)) Ev.const).congr λ n=>?_;unfold FV;rw[hs,JiY]
theorem U2 {t:Aa} (ht:Gv t):Ev (λ n=>Lp n t) (AP t):=by
 obtain⟨fr,_,h⟩:=PA ht;exact(Ev.bind h (g:=λ _ r=>some r.1) Ev.const).congr λ n=>rfl
end Go.AI
end
section
namespace Go.AI
def Tot {α:Type} (f:Nat->Option α) (P:α->Prop):Prop:=∃ z,P z/\Ev f z
def Rd2 {σ ρ:Type} (I:σ->Prop) (P:ρ->Prop):σ⊕ρ->Prop
 | .inl y=>I y
 | .inr r=>P r
variable {α β σ ρ:Type} {P R:α->Prop}
theorem Tot.ev {f:Nat->Option α} {z:α} (h:Tot f (λ x=>x=z)):Ev f z:=by obtain⟨_,rfl,h⟩:=h;exact h
theorem Ev.tot {f:Nat->Option α} {z:α} (h:Ev f z) (hp:P z):Tot f P:=⟨z,hp,h⟩
theorem JiO {z:α} (h:P z):Tot (λ _=>some z) P:=⟨z,h,Ev.const⟩
theorem Tot.all {f:Nat->Option α} {z:α} (h:∀ n,f n=some z) (hp:P z):Tot f P:=⟨z,hp,Ev.all h⟩
theorem Tot.mono {f:Nat->Option α} (h:Tot f R) (hp:∀ x,R x->P x):Tot f P:=by obtain⟨z,hz,h⟩:=h;exact⟨z,hp z hz,h⟩
theorem Tot.bind {f:Nat->Option β} {g:Nat->β->Option α} {R:β->Prop} (h:Tot f R) (k:∀ x,R x->Tot (λ n=>g n x) P):Tot (λ n=>(f n).bind (g n)) P:=by
 obtain⟨x,hx,h⟩:=h;obtain⟨z,hz,h'⟩:=k x hx;exact⟨z,hz,Ev.bind h h'⟩
theorem JiP {f:Nat->Option β} {g:Nat->β->Option α} {x:β} (h:Ev f x) (k:Tot (λ n=>g n x) P):Tot (λ n=>(f n).bind (g n)) P:=by
 obtain⟨z,hz,h'⟩:=k;exact⟨z,hz,Ev.bind h h'⟩
theorem Tot.bindC {x:Option β} {y:β} {g:Nat->β->Option α} (h:x=some y) (k:Tot (λ n=>g n y) P):Tot (λ n=>x.bind (g n)) P:=by subst h;exact k
theorem JiQ {f:Nat->Option β} {y:β} {g:Nat->β->Option α} (h:∀ n,f n=some y) (k:Tot (λ n=>g n y) P):Tot (λ n=>(f n).bind (g n)) P:=JiP (Ev.all h) k
theorem Tot.ite {c:Bool} {a b:Nat->Option α} (h1:c=true->Tot a P) (h2:c=false->Tot b P):Tot (λ n=>if c=true then a n else b n) P:=by
 cases c with
 | true=>exact h1 rfl
 | false=>exact h2 rfl
theorem Tot.iteT {c:Bool} {a b:Nat->Option α} (h:c=true) (k:Tot a P):Tot (λ n=>if c=true then a n else b n) P:=by subst h;exact k
theorem Tot.iteF {c:Bool} {a b:Nat->Option α} (h:c=false) (k:Tot b P):Tot (λ n=>if c=true then a n else b n) P:=by subst h;exact k
theorem Tot.guard {c:Bool} {f:Nat->Option β} {d:β} {g:Nat->β->Option α} {R:β->Prop} (h:c=true->Tot f R) (k:∀ x,(c=true->R x)->Tot (λ n=>g n x) P):Tot (λ n=>(if c=true then f n else some d).bind (g n)) P:=by
 cases c with
 | true=>exact Tot.bind (h rfl) λ x hx=>k x λ _=>hx
 | false=>exact k d λ h=>by cases h
theorem Tot.congr {f g:Nat->Option α} (h:Tot f P) (e:∀ n,g n=f n):Tot g P:=by obtain⟨z,hz,h⟩:=h;exact⟨z,hz,h.congr e⟩
theorem Tot.whl {body:Nat->σ->Option (σ⊕ρ)} {P:ρ->Prop} (I:Nat->σ->Prop) (h:∀ k x,I k x->Tot (λ n=>body n x) (Rd2 (λ y=>∃ j,j<k/\I j y) P)):∀ (k:Nat) (x:σ),I k x->Tot (λ n=>Go.AI.whl (body n) n x) P:=by
 have key:∀ (k:Nat) (x:σ),I k x->∃ r,P r/\∃ N c,∀ n fuel,N<=n->c<=fuel->Go.AI.whl (body n) fuel x=some r:=by
  intro k;induction k using Nat.strongRecOn with
  | _ k ih=>
   intro x hx;obtain⟨z,hz,N1,h1⟩:=h k x hx;cases z with
   | inl y=>
    obtain⟨j,hj,hy⟩:=hz;obtain⟨r,hr,N2,c,h2⟩:=ih j hj y hy;refine⟨r,hr,max N1 N2,c+1,λ n fuel hn hf=>?_⟩;cases fuel with
    | zero=>omega
    | succ fuel=>
     have e:=h1 n (by omega);simp only at e;simp only[Go.AI.whl,e];exact h2 n fuel (by omega) (by omega)
   | inr r=>
    refine⟨r,hz,N1,1,λ n fuel hn hf=>?_⟩;cases fuel with
    | zero=>omega
    | succ fuel=>
     have e:=h1 n hn;simp only at e;simp only[Go.AI.whl,e]
 intro k x hx;obtain⟨r,hr,N,c,hh⟩:=key k x hx;exact⟨r,hr,max N c,λ m hm=>hh m m (by omega) (by omega)⟩
theorem Tot.upto {body:Nat->σ->Option (σ⊕ρ)} {P:ρ->Prop} (N:Nat) (I:Nat->σ->Prop)
  (step:∀ i x,i<N->I i x->Tot (λ n=>body n x) (Rd2 (I (i+1)) P))
  (last:∀ x,I N x->Tot (λ n=>body n x) (Rd2 (λ _=>False) P)) (x:σ) (h0:I 0 x):Tot (λ n=>Go.AI.whl (body n) n x) P:=by
 refine Tot.whl (body:=body) (λ k x=>∃ i,i<=N/\k=N-i/\I i x) ?_ N x ⟨0,by omega,by omega,h0⟩;rintro k x ⟨i,hi,rfl,hx⟩;rcases Ji8 i N with hlt|hge
 ·refine(step i x hlt hx).mono λ z hz=>?_;cases z with
  | inl y=>exact⟨N-(i+1),by omega,i+1,by omega,rfl,hz⟩
  | inr r=>exact hz
 ·have:i=N:=by omega
  subst this;refine(last x hx).mono λ z hz=>?_;cases z with
  | inl y=>exact hz.elim
  | inr r=>exact hz
theorem Dn {l:List α} {i:Nat} {x:α} (h:l[i]?=some x):idx l (i:Int)=some x:=by
 unfold idx;rw[if_pos (by omega)];simpa using h
theorem Bk {l:List α} {i:Nat} (h:i<l.length):idx l (i:Int)=some l[i]:=Dn (Jji h)
theorem PB {eb:Nat} {xs ys:List α} (h:(xs.length+ys.length)*eb<=70368744177664):app eb xs ys=some (xs++ys):=by
 unfold app;rw[if_pos h]
theorem G9 {l:List α} {i:Nat} {y:α} (h:i<l.length):put l (i:Int) y=some (l.set i y):=by
 unfold put;rw[if_pos (by omega),Jjr]
theorem R9 {x y:List UInt8} (h:x.length+y.length<=9223372036854775807):cat x y=some (x++y):=by
 unfold cat;rw[if_pos h]
end Go.AI
end
section
namespace Go.AI
theorem Jcc (a:Int):IntKind.i64.wrap a=if decide (a % 18446744073709551616>=9223372036854775808)=true then a % 18446744073709551616-18446744073709551616 else a % 18446744073709551616:=rfl
theorem w64 {a:Int} (h:-9223372036854775808<=a) (h':a<9223372036854775808):IntKind.i64.wrap a=a:=by
 rw[Jcc];simp only[decide_eq_true_eq];split<;>omega
theorem VS {a b:Int} (h:-9223372036854775808<=a+b) (h':a+b<9223372036854775808):Bg .i64 a b=a+b:=w64 h h'
theorem QK {a b:Int} (h:-9223372036854775808<=a-b) (h':a-b<9223372036854775808):Gh .i64 a b=a-b:=w64 h h'
theorem Bo {i:Nat} (h:i<9223372036854775807):Bg .i64 (i:Int) 1=((i+1:Nat):Int):=by rw[VS]<;>omega
theorem Jf3 (a:Int):IntKind.u8.wrap a=a % 256:=rfl
theorem w8 {a:Int} (h:0<=a) (h':a<256):IntKind.u8.wrap a=a:=by rw[Jf3];omega
theorem MW {a m:Int} (h:0<=a) (hm:0<m):A8 a m=a % m/\0<=A8 a m/\A8 a m<m:=by
 have e:A8 a m=a % m:=by unfold A8;rw[Int.tmod_eq_emod_of_nonneg h]
 rw[e];exact⟨rfl,Int.emod_nonneg _ (by omega),Int.emod_lt_of_pos _ hm⟩
variable {α β σ ρ:Type}
theorem JhJ [Inhabited α] {l:List α} {i:Int} (h:0<=i) (h':i<l.length):idx l i=some (l.getD i.toNat default):=by
 unfold idx;rw[if_pos h,List.getD_eq_getElem?_getD,Jji (by omega)];rfl
theorem Ha [Inhabited α] {l:List α} {i:Nat} (h:i<l.length):idx l (i:Int)=some (l.getD i default):=by
 rw[JhJ (by omega) (by omega),Jjr]
theorem Jag {l:List α} {a b:Int} (h:0<=a) (h1:a<=b) (h2:b<=l.length):sub l a b=some ((l.take b.toNat).drop a.toNat):=by
 unfold sub;rw[if_pos ⟨h,h1,h2⟩]
theorem VT {l:List α} {k:Nat} (h:k<=l.length):sub l 0 (k:Int)=some (l.take k):=by
 rw[Jag (by omega) (by omega) (by omega)];simp
theorem Jah {eb:Nat} {k:Int} {z:α} (h:0<=k) (h':k.toNat*eb<=70368744177664):mkl eb k z=some (List.replicate k.toNat z):=by
 unfold mkl;rw[if_pos ⟨h,h'⟩]
theorem CK {b:Bool} (h:b=true):BZ b=some ():=by subst h;rfl
theorem U3 {body:σ->Option (σ⊕ρ)} {r:ρ} (st:Nat->σ) (k:Nat) (step:∀ i,i<k->body (st i)=some (.inl (st (i+1)))) (last:body (st k)=some (.inr r)):∀ n,k<n->whl body n (st 0)=some r:=by
 have key:∀ (j n i:Nat),i+j=k->j<n->whl body n (st i)=some r:=by
  intro j;induction j with
  | zero=>
   intro n i hi hn;cases n with
   | zero=>omega
   | succ n=>
    have:i=k:=by omega
    subst this;simp only[whl,last]
  | succ j ih=>
   intro n i hi hn;cases n with
   | zero=>omega
   | succ n=>simp only[whl,step i (by omega)];exact ih n (i+1) (by omega) (by omega)
 intro n hn;exact key k n 0 (by omega) hn
theorem Ev.to {body:Nat->σ->Option (σ⊕ρ)} {r:ρ} (st:Nat->σ) (k:Nat) (h:∃ N,∀ n,N<=n->(∀ i,i<k->body n (st i)=some (.inl (st (i+1))))/\body n (st k)=some (.inr r)):Ev (λ n=>Go.AI.whl (body n) n (st 0)) r:=by
 obtain⟨N,h⟩:=h;exact⟨max N (k+1),λ n hn=>U3 st k (h n (by omega)).1 (h n (by omega)).2 n (by omega)⟩
def Hz (N:Nat) (stop:Nat->Option ρ) (d:ρ):ρ:=((List.range N).findSome? stop).getD d
theorem Xg {N:Nat} {stop:Nat->Option ρ} {d:ρ} (h:∀ i,i<N->stop i=none):Hz N stop d=d:=by
 unfold Hz;rw[List.findSome?_eq_none_iff.2 λ i hi=>h i (List.mem_range.1 hi)];rfl
theorem Xh {N:Nat} {stop:Nat->Option ρ} {d r:ρ} (k:Nat) (hk:k<N) (hr:stop k=some r) (h:∀ i,i<k->stop i=none):Hz N stop d=r:=by
 unfold Hz;have:(List.range N).findSome? stop=some r:=by
  have e:List.range N=List.range k++(List.range (N-k)).map (k+·):=by rw[← List.range_add];congr 1;omega
  rw[e,List.findSome?_append,List.findSome?_eq_none_iff.2 λ i hi=>h i (List.mem_range.1 hi)];have:N-k=(N-k-1)+1:=by omega
  rw[this,List.range_succ_eq_map];simp[hr]
 rw[this];rfl
theorem P8 (N:Nat) (stop:Nat->Option ρ) (d:ρ):((∀ i,i<N->stop i=none)/\Hz N stop d=d)\/∃ k r,k<N/\stop k=some r/\(∀ i,i<k->stop i=none)/\Hz N stop d=r:=by
 by_cases h:∀ i,i<N->stop i=none
 ·exact .inl ⟨h,Xg h⟩
 ·right;have hex:∃ k,k<N/\stop k≠none:=by
   apply Classical.byContradiction;intro hh;exact h λ i hi=>Classical.byContradiction λ hn=>hh ⟨i,hi,hn⟩
  have key:∀ m,(∃ k,k<m/\k<N/\stop k≠none)->∃ k,k<N/\stop k≠none/\∀ i,i<k->stop i=none:=by
   intro m;induction m with
   | zero=>rintro⟨k,hk,_⟩;omega
   | succ m ih=>
    rintro⟨k,hk,h1,h2⟩;by_cases hm:∃ k,k<m/\k<N/\stop k≠none
    ·exact ih hm
    ·refine⟨k,h1,h2,λ i hi=>Classical.byContradiction λ hn=>hm ⟨i,by omega,by omega,hn⟩⟩
  obtain⟨k0,h1,h2⟩:=hex;obtain⟨k,h3,h4,h5⟩:=key (k0+1) ⟨k0,by omega,h1,h2⟩;obtain⟨r,hr⟩:=Option.ne_none_iff_exists'.1 h4;exact⟨k,r,h3,hr,h5,Xh k h3 hr h5⟩
theorem Xi {body:Int->Option (Int⊕ρ)} {N:Nat} (stop:Nat->Option ρ) {d:ρ} (h1:∀ i,i<N->body (i:Int)=some (match stop i with|some r=>.inr r|none=>.inl ((i+1:Nat):Int))) (h2:body (N:Int)=some (.inr d)):∀ n,N<n->whl body n 0=some (Hz N stop d):=by
 intro n hn;rcases P8 N stop d with⟨h,e⟩|⟨k,r,hk,hr,h,e⟩
 ·rw[e];exact U3 (λ i=>(i:Int)) N (λ i hi=>by rw[h1 i hi,h i hi]) h2 n hn
 ·rw[e];exact U3 (λ i=>(i:Int)) k (λ i hi=>by rw[h1 i (by omega),h i hi]) (by rw[h1 k hk,hr]) n (by omega)
theorem Ev.first {body:Nat->Int->Option (Int⊕ρ)} {N:Nat} (stop:Nat->Option ρ) {d:ρ} (h:∃ M,∀ n,M<=n->(∀ i,i<N->body n (i:Int)=some (match stop i with|some r=>.inr r|none=>.inl ((i+1:Nat):Int)))/\body n (N:Int)=some (.inr d)):Ev (λ n=>Go.AI.whl (body n) n 0) (Hz N stop d):=by
 obtain⟨M,h⟩:=h;exact⟨max M (N+1),λ n hn=>Xi stop (h n (by omega)).1 (h n (by omega)).2 n (by omega)⟩
theorem JiR {P:α->Prop} {c:Bool} {f:Nat->Option β} {d:β} {g:Nat->β->Option α} (hc:c=false) (k:Tot (λ n=>g n d) P):Tot (λ n=>(if c=true then f n else some d).bind (g n)) P:=by
 subst hc;exact k
theorem JiS {f:Nat->Nat->Option α} {z:Nat->α} (N:Nat) (h:∀ i,i<N->Ev (λ n=>f n i) (z i)):∃ M,∀ n,M<=n->∀ i,i<N->f n i=some (z i):=by
 induction N with
 | zero=>exact⟨0,λ n _ i hi=>by omega⟩
 | succ N ih=>
  obtain⟨M1,h1⟩:=ih λ i hi=>h i (by omega);obtain⟨M2,h2⟩:=h N (by omega);exact⟨max M1 M2,λ n hn i hi=>by
   by_cases e:i=N
   ·subst e;exact h2 n (by omega)
   ·exact h1 n (by omega) i (by omega)⟩
end Go.AI
end
section
namespace Go.AI
def scan {ρ:Type} (N:Nat) (stop:Nat->Option ρ):Unit⊕ρ:=match (List.range N).findSome? stop with
 | some r=>.inr r
 | none=>.inl ()
theorem FL {ρ:Type} {body:Nat->Int->Option (Int⊕(Unit⊕ρ))} (N:Nat) (stop:Nat->Option ρ)
  (h:∀ i,i<N->Ev (λ n=>body n (i:Int)) (match stop i with|some r=>.inr (.inr r)|none=>.inl ((i+1:Nat):Int)))
  (h2:Ev (λ n=>body n (N:Int)) (.inr (.inl ()))):Ev (λ n=>whl (body n) n 0) (AI.scan N stop):=by
 have key:∀ (k i:Nat),i+k=N->(List.range N).findSome? stop=((List.range k).map (i+·)).findSome? stop->∃ M c,∀ n fuel,M<=n->c<=fuel->whl (body n) fuel (i:Int)=some (AI.scan N stop):=by
  intro k;induction k with
  | zero=>
   intro i hi hf;have:i=N:=by omega
   subst this;obtain⟨M,hM⟩:=h2;refine⟨M,1,λ n fuel hn hfu=>?_⟩;obtain⟨fuel,rfl⟩:∃ f,fuel=f+1:=⟨fuel-1,by omega⟩;have e:=hM n hn;simp only at e;simp only[AI.whl,e];unfold AI.scan;rw[hf];rfl
  | succ k ih=>
   intro i hi hf;obtain⟨M,hM⟩:=h i (by omega);have hs:(List.range (k+1)).map (i+·)=i::(List.range k).map ((i+1)+·):=by
    rw[List.range_succ_eq_map];simp only[Jje,Nat.add_zero,List.map_map,List.cons.injEq,true_and];apply Jjg;intro a _;simp only[Function.comp];omega
   rw[hs,List.findSome?_cons]at hf;cases hst:stop i with
   | some r=>
    rw[hst]at hf hM;refine⟨M,1,λ n fuel hn hfu=>?_⟩;obtain⟨fuel,rfl⟩:∃ f,fuel=f+1:=⟨fuel-1,by omega⟩;have e:=hM n hn;simp only at e;simp only[AI.whl,e];unfold AI.scan;rw[hf]
   | none=>
    rw[hst]at hf hM;obtain⟨M2,c,h3⟩:=ih (i+1) (by omega) hf;refine⟨max M M2,c+1,λ n fuel hn hfu=>?_⟩;obtain⟨fuel,rfl⟩:∃ f,fuel=f+1:=⟨fuel-1,by omega⟩;have e:=hM n (by omega);simp only at e;simp only[AI.whl,e];exact h3 n fuel (by omega) (by omega)
 obtain⟨M,c,hh⟩:=key N 0 (by omega) (by simp);exact⟨max M c,λ m hm=>hh m m (by omega) (by omega)⟩
theorem GH {ρ:Type} {N:Nat} {stop:Nat->Option ρ} (h:∀ i,i<N->stop i=none):scan N stop=.inl ():=by
 unfold scan;rw[List.findSome?_eq_none_iff.2 λ i hi=>h i (List.mem_range.1 hi)]
theorem GI {ρ:Type} {N:Nat} {stop:Nat->Option ρ} {i:Nat} (hi:i<N) (h:(stop i).isSome=true):∃ k r,k<N/\stop k=some r/\scan N stop=.inr r:=by
 unfold scan;cases hf:(List.range N).findSome? stop with
 | none=>rw[List.findSome?_eq_none_iff.1 hf i (List.mem_range.2 hi)]at h;cases h
 | some r=>
  obtain⟨k,hk,hr⟩:=List.exists_of_findSome?_eq_some hf;exact⟨k,r,List.mem_range.1 hk,hr,rfl⟩
def Mj (b:UInt8):Int:=(b.toNat:Int)
def Gw (b:UInt8):Bool:=decide (Dc .u8 (Mj b) 127>=32)&&decide (Dc .u8 (Mj b) 127<=126)
def C3 (b:UInt8):Bool:=Dc .u8 (Mj b) 127==32
theorem Mk {s:List UInt8} {i:Nat} {b:UInt8} (h:s[i]?=some b):I9 s (i:Int)=some (Mj b):=by
 rw[R8 (Ak h)];unfold QJ Mj;rw[h];rfl
theorem P9 {i n:Nat} (h:i<n):decide ((i:Int)<((n:Nat):Int))=true:=by simpa using h
def Nz (s:List UInt8):Int×Int:=match scan s.length (λ i=>if Gw (s.getD i 0)then none else some ((i:Int),(60:Int)))with
 | .inl _=>(((s.length:Nat):Int),0)
 | .inr p=>p
theorem Cc {α:Type} {l:List α} {i:Nat} {d:α} (h:i<l.length):l.getD i d=l[i]:=by
 rw[List.getD_eq_getElem?_getD,Jji h];rfl
theorem Jcd {s:List UInt8} (hl:s.length<9223372036854775807):Ev (λ n=>L7 n s) (Nz s):=by
 unfold L7 Nz;refine Ev.bind (FL s.length (λ i=>if Gw (s.getD i 0)then none else some ((i:Int),(60:Int))) (λ i hi=>Ev.all λ n=>?_) (Ev.all λ n=>?_)) ?_
 ·unfold Hr;have hg:s[i]?=some s[i]:=Jji hi;rw[if_pos (P9 hi),Mk hg,Cc hi];have hc:Gj n (Mj s[i])=some (Gw s[i]):=rfl;simp only[JiY,hc];cases Gw s[i]with
  | true=>simp[Bo (show i<9223372036854775807 by omega)]
  | false=>simp
 ·unfold Hr;rw[if_neg (by simp)]
 ·generalize scan s.length _=z;cases z<;>exact Ev.const
theorem Jai {s:List UInt8} (hl:s.length<9223372036854775807):Ev (λ n=>L8 n s) (Nz s):=by
 unfold L8 Nz;refine Ev.bind (FL s.length (λ i=>if Gw (s.getD i 0)then none else some ((i:Int),(60:Int))) (λ i hi=>Ev.all λ n=>?_) (Ev.all λ n=>?_)) ?_
 ·unfold Hs;have hg:s[i]?=some s[i]:=Jji hi;rw[if_pos (P9 hi),Mk hg,Cc hi];have hc:HC n (Mj s[i])=some (Gw s[i]):=rfl;simp only[JiY,hc];cases Gw s[i]with
  | true=>simp[Bo (show i<9223372036854775807 by omega)]
  | false=>simp
 ·unfold Hs;rw[if_neg (by simp)]
 ·generalize scan s.length _=z;cases z<;>exact Ev.const
theorem TN {s:List UInt8} (h:s.all Gw=true):Nz s=(((s.length:Nat):Int),0):=by
 unfold Nz;rw[GH λ i hi=>by rw[Cc hi,Ji2.1 h _ (Ji4 hi)];rfl]
theorem QL {s:List UInt8} (h:s.all Gw=false):(Nz s).2=60:=by
 rw[List.all_eq_false]at h;obtain⟨b,hb,hc⟩:=h;obtain⟨i,hi,e⟩:=List.getElem_of_mem hb;unfold Nz;obtain⟨k,r,hk,hr,hs⟩:=GI (stop:=λ i=>if Gw (s.getD i 0)then none else some ((i:Int),(60:Int))) hi (by
  rw[Cc hi,e];simp only[Ji6]at hc;rw[hc];rfl)
 rw[hs];simp only at hr⊢;split at hr
 ·cases hr
 ·cases hr;rfl
theorem Xj {s:List UInt8} (hl:s.length<9223372036854775807):Ev (λ n=>Iz n s) (s.all Gw):=by
 unfold Iz;refine Ev.bind (Jai hl) ?_;cases h:s.all Gw with
 | true=>rw[TN h];exact Ev.const
 | false=>rw[QL h];exact Ev.const
def B5 (r:Az) (m:Int):Bool:=
 r.Print.all Gw&&decide (r.Print.length<=4)&&decide (1<=r.Cells.length)&&decide (r.Cells.length<=4) &&
 (decide (1<=r.Left)&&decide (r.Left<=63)&&decide (1<=r.Right)&&decide (r.Right<=63)&&decide (0<=r.From)&&decide (r.From<m)&&decide (0<=r.To)&&decide (r.To<m)) &&
 r.Cells.all (λ c=>decide (c<63)) &&
 (bif r.Print.any C3 then decide (r.Print.length=1)&&decide (r.Cells.length=1)&&r.Cells.any (λ c=>c==0)else !r.Cells.any (λ c=>c==0))
end Go.AI
end
section
namespace Go.AI
theorem Xk {r:Az} (hl:r.Print.length<9223372036854775807):Ev (λ n=>whl (λ (x:(Bool×Int))=>Ec n r x.1 x.2) n (false,0)) (r.Print.any C3):=by
 refine Ev.whl (body:=λ n x=>Ec n r x.1 x.2) (λ k x=>∃ i:Nat,x.2=(i:Int)/\i<=r.Print.length/\k=r.Print.length-i/\x.1=(r.Print.take i).any C3) ?_ r.Print.length (false,0) ⟨0,rfl,by omega,by omega,by simp⟩;rintro k ⟨b,i'⟩ ⟨i,h1,hi,rfl,h2⟩;simp only at h1 h2;subst h1;subst h2;rcases Ji8 i r.Print.length with hlt|hge
 ·left;have hg:r.Print[i]?=some r.Print[i]:=Jji hlt;have hcond:decide ((i:Int)<((r.Print.length:Nat):Int))=true:=by simpa using hlt
  refine⟨((r.Print.take (i+1)).any C3,((i+1:Nat):Int)),r.Print.length-(i+1),by omega,⟨i+1,rfl,by omega,rfl,rfl⟩,Ev.all λ n=>?_⟩;unfold Ec;rw[if_pos hcond];have ht:(r.Print.take (i+1)).any C3=((r.Print.take i).any C3||C3 r.Print[i]):=by
   rw[List.take_add_one,hg];simp only[Option.toList_some,List.any_append,List.any_cons,List.any_nil,Bool.or_false]
  have hsp:∀ n,MN n (Mj r.Print[i])=some (C3 r.Print[i]):=λ n=>rfl;rw[ht,Px (by omega) (by omega),Mk hg];cases (r.Print.take i).any C3 with
  | true=>simp
  | false=>simp[hsp]
 ·right;have e:i=r.Print.length:=by omega
  subst e;refine Ev.all λ n=>?_;unfold Ec;rw[if_neg (by simp),List.take_length]
theorem Ev.upto {σ ρ:Type} {body:Nat->σ->Option (σ⊕ρ)} {R:ρ->Prop} (N:Nat) (I:Nat->σ->Prop)
  (step:∀ i x,i<N->I i x->(∃ y,I (i+1) y/\Ev (λ n=>body n x) (.inl y))\/∃ r,R r/\Ev (λ n=>body n x) (.inr r))
  (last:∀ x,I N x->∃ r,R r/\Ev (λ n=>body n x) (.inr r)) (x:σ) (h0:I 0 x):∃ r,R r/\Ev (λ n=>Go.AI.whl (body n) n x) r:=by
 refine JiN (body:=body) (λ k x=>∃ i,i<=N/\k=N-i/\I i x) ?_ N x ⟨0,by omega,by omega,h0⟩;rintro k x ⟨i,hi,rfl,hx⟩;rcases Ji8 i N with hlt|hge
 ·rcases step i x hlt hx with⟨y,hy,hE⟩|h
  ·exact .inl ⟨y,N-(i+1),by omega,⟨i+1,by omega,rfl,hy⟩,hE⟩
  ·exact .inr h
 ·have:i=N:=by omega
  subst this;exact .inr (last x hx)
theorem Xl {r:Az} (hl:r.Cells.length<9223372036854775807) (y:Bool):∃ z:Bool⊕Bool,(if r.Cells.all (λ c=>decide (c<63))=true then z=.inl (r.Cells.any (λ c=>c==0))else z=.inr false)/\Ev (λ n=>whl (λ (x:(Bool×Int))=>Dk n r y x.1 x.2) n (false,0)) z:=by
 refine Ev.upto (body:=λ n x=>Dk n r y x.1 x.2) r.Cells.length (λ i x=>x.2=(i:Int)/\x.1=(r.Cells.take i).any (λ c=>c==0)/\(r.Cells.take i).all (λ c=>decide (c<63))=true) ?_ ?_ (false,0) ⟨rfl,by simp,by simp⟩
 ·rintro i ⟨b,i'⟩ hlt ⟨h1,h2,h3⟩;simp only at h1 h2;subst h1;subst h2;have hg:r.Cells[i]?=some r.Cells[i]:=Jji hlt;have hcond:decide ((i:Int)<((r.Cells.length:Nat):Int))=true:=by simpa using hlt
  by_cases hc:r.Cells[i]<63
  ·left;refine⟨((r.Cells.take (i+1)).any (λ c=>c==0),((i+1:Nat):Int)),⟨rfl,rfl,?_⟩,Ev.all λ n=>?_⟩
   ·rw[List.take_add_one,hg];simp only[Option.toList_some,List.all_append,h3,List.all_cons,decide_eq_true hc,List.all_nil,Bool.and_self]
   ·unfold Dk;have ht:(r.Cells.take (i+1)).any (λ c=>c==0)=((r.Cells.take i).any (λ c=>c==0)||r.Cells[i]==0):=by
     rw[List.take_add_one,hg];simp only[Option.toList_some,List.any_append,List.any_cons,List.any_nil,Bool.or_false]
    rw[if_pos hcond,IJ hg,JiY,if_neg (by simpa using hc),ht,Px (by omega) (by omega)];cases (r.Cells.take i).any (λ c=>c==0)with
    | true=>simp
    | false=>simp
  ·right;refine⟨.inr false,?_,Ev.all λ n=>?_⟩
   ·rw[if_neg];intro h;rw[Ji2]at h;exact hc (by simpa using h r.Cells[i] (Ji4 hlt))
   ·unfold Dk;rw[if_pos hcond,IJ hg,JiY,if_pos (by simp;omega)]
 ·rintro⟨b,i'⟩ ⟨h1,h2,h3⟩;simp only at h1 h2;subst h1;subst h2;rw[List.take_length]at h3⊢;refine⟨.inl (r.Cells.any (λ c=>c==0)),by rw[if_pos h3],Ev.all λ n=>?_⟩;unfold Dk;rw[if_neg (by simp)]
theorem Jaj {r:Az} (hp:r.Print.length<9223372036854775807) (hc:r.Cells.length<9223372036854775807) (m:Int):Ev (λ n=>Kx n r m) (B5 r m):=by
 obtain⟨z,hz,hE⟩:=Xl hc (r.Print.any C3);have h1:=Xj hp;have h2:=Xk (r:=r) hp;unfold Kx;refine Ev.bind h1 ?_;unfold B5;generalize r.Print.all Gw=a;by_cases g1:((((!a)||(decide (((r.Print.length:Nat):Int)>4)))||(decide (((r.Cells.length:Nat):Int)<1)))||(decide (((r.Cells.length:Nat):Int)>4)))=true
 ·simp only[g1,if_true];have:(a&&decide (r.Print.length<=4)&&decide (1<=r.Cells.length)&&decide (r.Cells.length<=4))=false:=by
   rw[← Ji6];intro h;simp only[Jjj,decide_eq_true_eq]at h;simp only[JjB,decide_eq_true_eq,Bool.not_eq_true']at g1;rcases g1 with ((g|g)|g)|g
   ·rw[g]at h;simp at h
   all_goals omega
  rw[this];exact Ev.const
 ·simp only[g1];by_cases g2:((((((((decide (r.Left<1))||(decide (r.Left>63)))||(decide (r.Right<1)))||(decide (r.Right>63)))||(decide (r.From<0)))||(decide (r.From>=m)))||(decide (r.To<0)))||(decide (r.To>=m)))=true
  ·simp only[g2,if_true];have:(decide (1<=r.Left)&&decide (r.Left<=63)&&decide (1<=r.Right)&&decide (r.Right<=63)&&decide (0<=r.From)&&decide (r.From<m)&&decide (0<=r.To)&&decide (r.To<m))=false:=by
    rw[← Ji6];intro h;simp only[Jjj,decide_eq_true_eq]at h;simp only[JjB,decide_eq_true_eq]at g2;omega
   rw[this,Bool.and_false];exact Ev.const
  ·have e1:(a&&decide (r.Print.length<=4)&&decide (1<=r.Cells.length)&&decide (r.Cells.length<=4))=true:=by
    simp only[JjB,decide_eq_true_eq,Bool.not_eq_true',not_or]at g1;simp only[Jjj,decide_eq_true_eq];refine⟨⟨⟨by simpa using g1.1.1.1,?_⟩,?_⟩,?_⟩<;>omega
   have e2:(decide (1<=r.Left)&&decide (r.Left<=63)&&decide (1<=r.Right)&&decide (r.Right<=63)&&decide (0<=r.From)&&decide (r.From<m)&&decide (0<=r.To)&&decide (r.To<m))=true:=by
    simp only[JjB,decide_eq_true_eq,not_or]at g2;simp only[Jjj,decide_eq_true_eq];omega
   rw[e1,e2];simp only[g2,Jju,if_false];refine Ev.bind h2 (Ev.bind hE ?_);split at hz
   ·rename_i h;subst hz;rw[h];generalize r.Print.any C3=b;cases b with
    | false=>exact Ev.const
    | true=>
     refine Ev.all λ n=>?_;simp only[Ji5,Jju,if_false,Bool.and_true,Bool.true_and,cond_true];congr 3<;>rw[Bool.eq_iff_iff]<;>simp<;>omega
   ·rename_i h;subst hz;rw[Ji6]at h;rw[h];exact Ev.const
end Go.AI
end
section
namespace Go.AI
theorem Ev.iteT {α:Type} {c:Bool} {a b:Nat->Option α} {z:α} (h:c=true) (k:Ev a z):Ev (λ n=>if c=true then a n else b n) z:=by subst h;exact k
theorem Ev.iteF {α:Type} {c:Bool} {a b:Nat->Option α} {z:α} (h:c=false) (k:Ev b z):Ev (λ n=>if c=true then a n else b n) z:=by subst h;exact k
theorem Ev.bindC {α β:Type} {x:Option β} {y:β} {g:Nat->β->Option α} {z:α} (h:x=some y) (k:Ev (λ n=>g n y) z):Ev (λ n=>x.bind (g n)) z:=by subst h;exact k
theorem Ev.guard {α β:Type} {c:Bool} {f:Nat->Option β} {d x:β} {g:Nat->β->Option α} {z:α} (h:c=true->Ev f x) (k:Ev (λ n=>g n (if c=true then x else d)) z):Ev (λ n=>(if c=true then f n else some d).bind (g n)) z:=by
 cases c with
 | true=>exact Ev.bind (h rfl) k
 | false=>exact k
theorem Jak {α β:Type} {a:List α} {b:List β}:(((a.length:Nat):Int) != ((b.length:Nat):Int))=decide (a.length≠b.length):=by
 rw[Bool.eq_iff_iff];simp only[bne_iff_ne,ne_eq,decide_eq_true_eq];omega
theorem QM {α:Type} [DecidableEq α] [Inhabited α] (a b:List α) (h:a.length=b.length):scan a.length (λ i=>if a.getD i default=b.getD i default then none else some false)=if a=b then .inl ()else .inr false:=by
 by_cases e:a=b
 ·subst e;rw[if_pos rfl];exact GH λ i _=>by rw[if_pos rfl]
 ·rw[if_neg e];have:∃ i,i<a.length/\a.getD i default≠b.getD i default:=by
   apply Classical.byContradiction;intro hn;refine e (List.ext_getElem h λ i h1 h2=>?_);have:=Classical.byContradiction λ hc=>hn ⟨i,h1,hc⟩;rwa[Cc h1,Cc h2]at this
  obtain⟨i,hi,hne⟩:=this;obtain⟨k,r,_,hr,hs⟩:=GI (stop:=λ i=>if a.getD i default=b.getD i default then none else some false) hi (by rw[if_neg hne];rfl)
  rw[hs];split at hr
  ·cases hr
  ·cases hr;rfl
theorem Ml (a b:List Int) (ha:a.length<9223372036854775807):Ev (λ n=>Es n a b) (decide (a=b)):=by
 unfold Es;rw[Jak];by_cases h:a.length=b.length
 ·refine Ev.iteF (by simp[h]) ?_;refine Ev.bind (FL a.length (λ i=>if a.getD i default=b.getD i default then none else some false) (λ i hi=>Ev.all λ n=>?_) (Ev.all λ n=>?_)) ?_
  ·unfold Eb;rw[if_pos (P9 hi),Ha hi,Ha (by omega)];simp only[JiY];by_cases e:a.getD i default=b.getD i default
   ·rw[if_neg (by simp only[bne_iff_ne,ne_eq];exact λ hh=>hh e),if_pos e,Bo (by omega)]
   ·rw[if_pos (by simp only[bne_iff_ne,ne_eq];exact e),if_neg e]
  ·unfold Eb;rw[if_neg (by simp)]
  ·rw[QM a b h];by_cases e:a=b
   ·rw[if_pos e,decide_eq_true e];exact Ev.const
   ·rw[if_neg e,decide_eq_false e];exact Ev.const
 ·refine Ev.iteT (by simp[h]) ?_;rw[decide_eq_false (λ e=>h (by rw[e]))];exact Ev.const
theorem TO (a b:List Int) (ha:a.length<9223372036854775807):Ev (λ n=>Kr n a b) (decide (a=b)):=by
 unfold Kr;rw[Jak];by_cases h:a.length=b.length
 ·refine Ev.iteF (by simp[h]) ?_;refine Ev.bind (FL a.length (λ i=>if a.getD i default=b.getD i default then none else some false) (λ i hi=>Ev.all λ n=>?_) (Ev.all λ n=>?_)) ?_
  ·unfold GC;rw[if_pos (P9 hi),Ha hi,Ha (by omega)];simp only[JiY];by_cases e:a.getD i default=b.getD i default
   ·rw[if_neg (by simp only[bne_iff_ne,ne_eq];exact λ hh=>hh e),if_pos e,Bo (by omega)]
   ·rw[if_pos (by simp only[bne_iff_ne,ne_eq];exact e),if_neg e]
  ·unfold GC;rw[if_neg (by simp)]
  ·rw[QM a b h];by_cases e:a=b
   ·rw[if_pos e,decide_eq_true e];exact Ev.const
   ·rw[if_neg e,decide_eq_false e];exact Ev.const
 ·refine Ev.iteT (by simp[h]) ?_;rw[decide_eq_false (λ e=>h (by rw[e]))];exact Ev.const
theorem VU (a b:Az):decide (a=b)=(a.Print==b.Print&&decide (a.Cells=b.Cells)&&a.Left==b.Left&&a.Right==b.Right&&a.From==b.From&&a.To==b.To):=by
 rw[Bool.eq_iff_iff];cases a;cases b;simp only[decide_eq_true_eq,Az.mk.injEq,Jjj,beq_iff_eq];exact⟨λ⟨h1,h2,h3,h4,h5,h6⟩=>⟨⟨⟨⟨⟨h1,h2⟩,h3⟩,h4⟩,h5⟩,h6⟩,λ⟨⟨⟨⟨⟨h1,h2⟩,h3⟩,h4⟩,h5⟩,h6⟩=>⟨h1,h2,h3,h4,h5,h6⟩⟩
theorem TP (a b:Az) (ha:a.Cells.length<9223372036854775807):Ev (λ n=>GE n a b) (decide (a=b)):=by
 unfold GE;refine Ev.guard (λ _=>Ml a.Cells b.Cells ha) (Ev.all λ n=>?_);rw[VU];cases h:(a.Print==b.Print)<;>simp
theorem Jal (a b:Az) (ha:a.Cells.length<9223372036854775807):Ev (λ n=>Ks n a b) (decide (a=b)):=by
 unfold Ks;refine Ev.guard (λ _=>TO a.Cells b.Cells ha) (Ev.all λ n=>?_);rw[VU];cases (a.Print==b.Print)<;>cases (a.Left==b.Left)<;>cases (a.Right==b.Right)<;>cases (a.From==b.From)<;>cases (a.To==b.To)<;>simp
theorem TQ (b:UInt8):(G6 (Mj b)==4)=C3 b:=by
 have:∀ k:Nat,k<256->(G6 (k:Int)==4)=(Dc .u8 (k:Int) 127==32):=by decide +kernel
 exact this b.toNat b.toNat_lt
theorem Jam {s:List UInt8} {f:UInt8->Bool}:scan s.length (λ i=>if f (s.getD i 0)then some true else none)=if s.any f then .inr true else .inl ():=by
 cases h:s.any f with
 | false=>
  rw[List.any_eq_false]at h;exact GH λ i hi=>by rw[Cc hi,if_neg (h _ (Ji4 hi))]
 | true=>
  rw[List.any_eq_true]at h;obtain⟨b,hb,hf⟩:=h;obtain⟨i,hi,e⟩:=List.getElem_of_mem hb;obtain⟨k,r,_,hr,hs⟩:=GI (stop:=λ i=>if f (s.getD i 0)then some true else none) hi (by rw[Cc hi,e,hf];rfl)
  rw[hs];split at hr
  ·cases hr;rfl
  ·cases hr
theorem TR {s:List UInt8} (hl:s.length<9223372036854775807):Ev (λ n=>GA n s) (s.any C3):=by
 unfold GA;refine Ev.bind (FL s.length (λ i=>if C3 (s.getD i 0)then some true else none) (λ i hi=>Ev.all λ n=>?_) (Ev.all λ n=>?_)) ?_
 ·unfold EC;have hg:s[i]?=some s[i]:=Jji hi;rw[if_pos (P9 hi),Mk hg,Cc hi];simp only[JiY,TG,TQ];cases C3 s[i]with
  | true=>simp
  | false=>simp[Bo (show i<9223372036854775807 by omega)]
 ·unfold EC;rw[if_neg (by simp)]
 ·rw[Jam];cases s.any C3<;>exact Ev.const
theorem Xm {l:List Int} {f:Int->Bool}:scan l.length (λ i=>if f (l.getD i 0)then none else some false)=if l.all f then .inl ()else .inr false:=by
 cases h:l.all f with
 | true=>
  rw[Ji2]at h;exact GH λ i hi=>by rw[Cc hi,if_pos (h _ (Ji4 hi))]
 | false=>
  rw[List.all_eq_false]at h;obtain⟨b,hb,hf⟩:=h;obtain⟨i,hi,e⟩:=List.getElem_of_mem hb;obtain⟨k,r,_,hr,hs⟩:=GI (stop:=λ i=>if f (l.getD i 0)then none else some false) hi (by rw[Cc hi,e,if_neg hf];rfl)
  rw[hs];split at hr
  ·cases hr
  ·cases hr;rfl
def NA (c:Int):Bool:=decide (c<63)&&!(c==0)
theorem Xn {r:Az} (hp:r.Print.length<9223372036854775807) (hc:r.Cells.length<9223372036854775807) (m:Int):Ev (λ n=>Kq n r m) (B5 r m):=by
 unfold Kq;by_cases g1:(((decide (((r.Print.length:Nat):Int)>4))||(decide (((r.Cells.length:Nat):Int)<1)))||(decide (((r.Cells.length:Nat):Int)>4)))=true
 ·refine Ev.iteT g1 ?_;have:B5 r m=false:=by
   rw[← Ji6];intro h;simp only[B5,Jjj,decide_eq_true_eq]at h;simp only[JjB,decide_eq_true_eq]at g1;omega
  rw[this];exact Ev.const
 ·rw[Ji6]at g1;refine Ev.iteF g1 (Ev.bind (Jcd hp) ?_);cases ha:r.Print.all Gw with
  | false=>
   refine Ev.iteT (by rw[QL ha];rfl) ?_;have:B5 r m=false:=by simp[B5,ha]
   rw[this];exact Ev.const
  | true=>
   refine Ev.iteF (by rw[TN ha];rfl) ?_;by_cases g2:((((decide (r.Left<1))||(decide (r.Left>63)))||(decide (r.Right<1)))||(decide (r.Right>63)))=true
   ·refine Ev.iteT g2 ?_;have:B5 r m=false:=by
     rw[← Ji6];intro h;simp only[B5,Jjj,decide_eq_true_eq]at h;simp only[JjB,decide_eq_true_eq]at g2;omega
    rw[this];exact Ev.const
   ·rw[Ji6]at g2;refine Ev.iteF g2 ?_;by_cases g3:((((decide (r.From<0))||(decide (r.From>=m)))||(decide (r.To<0)))||(decide (r.To>=m)))=true
    ·refine Ev.iteT g3 ?_;have:B5 r m=false:=by
      rw[← Ji6];intro h;simp only[B5,Jjj,decide_eq_true_eq]at h;simp only[JjB,decide_eq_true_eq]at g3;omega
     rw[this];exact Ev.const
    ·rw[Ji6]at g3;refine Ev.iteF g3 (Ev.bind (TR hp) ?_);simp only[Jjh,decide_eq_false_iff_not]at g1 g2 g3;have e1:B5 r m=(r.Cells.all (λ c=>decide (c<63))&&(bif r.Print.any C3 then decide (r.Print.length=1)&&decide (r.Cells.length=1)&&r.Cells.any (λ c=>c==0)else !r.Cells.any (λ c=>c==0))):=by
      unfold B5;rw[ha];have:(true&&decide (r.Print.length<=4)&&decide (1<=r.Cells.length)&&decide (r.Cells.length<=4)&&(decide (1<=r.Left)&&decide (r.Left<=63)&&decide (1<=r.Right)&&decide (r.Right<=63)&&decide (0<=r.From)&&decide (r.From<m)&&decide (0<=r.To)&&decide (r.To<m)))=true:=by
       simp only[Jjj,decide_eq_true_eq,true_and];omega
      rw[this,Bool.true_and]
     rw[e1];cases hsp:r.Print.any C3 with
     | true=>
      refine Ev.iteT rfl ?_;by_cases g4:((((r.Print.length:Nat):Int)==1)&&(((r.Cells.length:Nat):Int)==1))=true
      ·have hl:r.Print.length=1/\r.Cells.length=1:=by
        simp only[Jjj,beq_iff_eq]at g4;omega
       obtain⟨c,hcell⟩:=List.length_eq_one_iff.1 hl.2;have hi:idx r.Cells 0=some c:=by rw[hcell];rfl
       simp only[g4,if_true,hi,JiY];refine Ev.all λ n=>?_;rw[hcell];simp only[hl.1,List.all_cons,List.all_nil,List.any_cons,List.any_nil,List.length_cons,List.length_nil,Bool.and_true,Bool.or_false,decide_true,Bool.true_and,cond_true];cases h0:(c==0)with
       | false=>simp
       | true=>
        have:c=0:=by simpa using h0
        subst this;rfl
      ·rw[Ji6]at g4;simp only[g4,Jju,if_false,JiY,Bool.false_and];refine Ev.all λ n=>?_;have:(decide (r.Print.length=1)&&decide (r.Cells.length=1))=false:=by
        rw[← Ji6];intro h;simp only[Jjj,decide_eq_true_eq]at h;rw[← Ji6]at g4;apply g4;simp[h.1,h.2]
       simp[this]
     | false=>
      refine Ev.iteF rfl ?_;refine Ev.bind (FL r.Cells.length (λ i=>if NA (r.Cells.getD i 0)then none else some false) (λ i hi=>Ev.all λ n=>?_) (Ev.all λ n=>?_)) ?_
      ·unfold GB;rw[if_pos (P9 hi),Ha hi,show r.Cells.getD i default=r.Cells.getD i 0 from rfl];generalize r.Cells.getD i 0=c;simp only[JiY,ML];by_cases hcc:NA c=true
       ·simp only[NA,Jjj,decide_eq_true_eq,Bool.not_eq_true',beq_eq_false_iff_ne,ne_eq]at hcc;rw[if_neg (by simp;omega),if_pos (by simp[NA];omega),Bo (by omega)]
       ·rw[if_pos (by simp[NA]at hcc⊢;omega),if_neg hcc]
      ·unfold GB;rw[if_neg (by simp)]
      ·rw[Xm];have e2:(r.Cells.all (λ c=>decide (c<63))&&!r.Cells.any (λ c=>c==0))=r.Cells.all NA:=by
        rw[Bool.eq_iff_iff];simp only[NA,Jjj,Ji2,Bool.not_eq_true',List.any_eq_false,Ji6];exact⟨λ h x hx=>⟨h.1 x hx,h.2 x hx⟩,λ h=>⟨λ x hx=>(h x hx).1,λ x hx=>(h x hx).2⟩⟩
       simp only[cond_false];rw[e2];cases r.Cells.all NA<;>exact Ev.const
end Go.AI
end
