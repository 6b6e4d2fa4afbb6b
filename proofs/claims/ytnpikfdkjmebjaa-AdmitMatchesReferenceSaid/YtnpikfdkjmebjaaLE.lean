/- Part 5 of 7 of the proof. -/
import Derived.Test.YtnpikfdkjmebjaaLD
import Derived.ChangeArms
import Derived.WalkKit
import Derived.ProofKit
import Derived.OpenShut
import Derived.Carry
import Derived.WideKeyArgs
import Derived.ChangeSame
section
namespace Go.AI
open Go.Proofs
set_option maxRecDepth 10000
theorem xok (n kl:Nat):XOK Try.prog (cxk n kl):=⟨tyOK,rfl⟩
theorem fO (k:Nat) (s:St) {fn:Func} {f:FuncId} {args:List AV} {r:AV} (hf:Try.prog.funcs[f]? = some fn) (h:WP (cxk k 0) (AR fn) [] (Ve (cxk k 0).ty fn.results.toList r) s) (hb:fn.body=some (AR fn):=by kernel_rfl) (hnm:(fn.name == "runtime.NumGoroutine")=false:=by kernel_rfl) (hnt:(cxk k 0).nt.n=fn.ntmps:=by kernel_rfl) (hlen:Nat.ble args.length fn.ntmps=true:=by kernel_rfl) (hs:(⟨(List.range args.length).zip args,[]⟩:St)=s:=by kernel_rfl):AQ Try.prog f args r:=fo follows (Jfb k 0) hf h hb hnm hnt hlen hs
theorem fL (k nb:Nat) (s:St) {fn:Func} {f:FuncId} {args:List AV} {O0 O1:List (Option Ob)} {r:AV} (hf:Try.prog.funcs[f]? = some fn) (h:WP (cxk k nb) (AR fn) [] (Sw nb (cxk k nb).ty fn.results.toList r O1) s) (hb:fn.body=some (AR fn):=by kernel_rfl) (hnm:(fn.name == "runtime.NumGoroutine")=false:=by kernel_rfl) (hnt:(cxk k nb).nt=⟨fn.ntmps,[],nb,qfT⟩:=by kernel_rfl) (hlen:Nat.ble args.length fn.ntmps=true:=by kernel_rfl) (hs:(⟨(List.range args.length).zip args,O0⟩:St)=s:=by kernel_rfl):BV Try.prog f args O0 nb r O1:=fl follows (Jfb k nb) hf h hb hnm hnt hlen hs
theorem yok (n kl:Nat):YOK Try.prog (cxk n kl):=⟨rfl⟩
variable {n:Nat}
def Ax (x:AE):List D:=[.str x.Print,.sl<|x.Cells.map eU8,.int .u8 x.Left,.int .u8 x.Right,.int .i64 x.From,.int .i64 x.To]
def A2 (x:Ae):List D:=[.int .i64 x.Mode,.int .i64 x.Last,.int .u8 x.Need]
def Bm (x:Fv):List D:=[.str x.Print,.sl<|x.Cells.map eU8,.int .i64 x.To]
def AA (x:As):List D:=[.sl<|x.Arcs.map<|eL Bm,.sl<|x.Accepts.map eB,.bool x.Alive]
def AB (x:Ai):List D:=[.int .u8 x.Cell,.str x.Print,.int .i64 x.To]
def Jba (x:BY):List D:=[.int .i64 x.Side,.str x.Text]
def AZ (x:Ao):List D:=[.int .i64 x.A,.int .i64 x.B]
def Au (x:Aj):List D:=[.int .i64 x.Pair.A,.int .i64 x.Pair.B,.int .i64 x.Lead.Side,.str x.Lead.Text]
def H5 (x:Bq):List D:=[.sl<|x.Nodes.map Au,dPG Au x.From,.int .u8 x.Cell]
theorem QA {x:(List ((List Aj)×Int))} {y:Bq} (h:TI x=some y):x=(y.Nodes,y.Cell)::y.From:=by
  cases x with
  | nil=>cases h
  | cons p r=>cases h;rfl
def An (x:Ad):List D:=[.int .i64 x.State,.str x.Rest]
@[reducible] def Jkb {α:Type} (e:α->List D) (x:EC α):List D:=e x.a0++e x.a1
def A4 (x:Ap):List D:=[.int .i64 x.N,.int .i64 x.Leads.a0.Side,.str x.Leads.a0.Text,.int .i64 x.Leads.a1.Side,.str x.Leads.a1.Text]
def CS (x:AW):List D:=[.int .i64 x.Cell,.int .i64 x.Byte,.int .i64 x.State]
def Fr (x:C0):List D:=[.sl<|x.P.map eU8,.sl<|x.C.map eU8,.int .u8 x.L,.int .u8 x.R,.int .u8 x.W.a0,.int .u8 x.W.a1]
def Jkc (x:JZ):List D:=[.int .u8 x.Base,.int .u8 x.Drop,.sl<|x.More.map Fr]
def Aq (x:Ah):List D:=[.int .i64 x.S.Mode,.int .i64 x.S.Last,.int .u8 x.S.Need,.int .i64 x.Rule,.int .i64 x.At,.str x.Text]
def FN (x:Ab) (v2:AV):List AV:=[.d<|.int .i64 x.Modes,.d<|.int .u8 x.Accept,v2]
def Kv (x:AE):List AV:=[.d<|.str x.Print,.d<|.sl<|x.Cells.map eU8,.d<|.int .u8 x.Left,.d<|.int .u8 x.Right,.d<|.int .i64 x.From,.d<|.int .i64 x.To]
def Ba (x:Ab):List AV:=[.d<|.int .i64 x.Modes,.d<|.int .u8 x.Accept,.d<|.sl<|x.Rules.map Ax]
def NZ (x:Ae):List AV:=[.d<|.int .i64 x.Mode,.d<|.int .i64 x.Last,.d<|.int .u8 x.Need]
def DC (x:As) (v0:AV) (v1:AV):List AV:=[v0,v1,.d<|.bool x.Alive]
def Vs (x:Ai):List AV:=[.d<|.int .u8 x.Cell,.d<|.str x.Print,.d<|.int .i64 x.To]
def JG (x:Aj):List AV:=[.d<|.int .i64 x.Pair.A,.d<|.int .i64 x.Pair.B,.d<|.int .i64 x.Lead.Side,.d<|.str x.Lead.Text]
def Jgj (x:Fv):List AV:=[.d<|.str x.Print,.d<|.sl<|x.Cells.map eU8,.d<|.int .i64 x.To]
def Jfc (x:Ap):List AV:=[.d<|.int .i64 x.N,.d<|.int .i64 x.Leads.a0.Side,.d<|.str x.Leads.a0.Text,.d<|.int .i64 x.Leads.a1.Side,.d<|.str x.Leads.a1.Text]
def Mx (x:Bq) (v0:AV) (v1:AV):List AV:=[v0,v1,.d<|.int .u8 x.Cell]
def TJ (x:Bk):List AV:=[.d<|.sl<|x.Cells.map eU8,.d<|.str x.A,.d<|.str x.B]
def Jbb (x:AW):List AV:=[.d<|.int .i64 x.Cell,.d<|.int .i64 x.Byte,.d<|.int .i64 x.State]
def Nf (x:C0):List AV:=[.d<|.sl<|x.P.map eU8,.d<|.sl<|x.C.map eU8,.d<|.int .u8 x.L,.d<|.int .u8 x.R,.d<|.int .u8 x.W.a0,.d<|.int .u8 x.W.a1]
def Px (x:AE) (v1:AV):List AV:=[.d<|.str x.Print,v1,.d<|.int .u8 x.Left,.d<|.int .u8 x.Right,.d<|.int .i64 x.From,.d<|.int .i64 x.To]
def WU (x:JZ):List AV:=[.d<|.int .u8 x.Base,.d<|.int .u8 x.Drop,.d<|.sl<|x.More.map Fr]
def Ng (x:Ah):List AV:=[.d<|.int .i64 x.S.Mode,.d<|.int .i64 x.S.Last,.d<|.int .u8 x.S.Need,.d<|.int .i64 x.Rule,.d<|.int .i64 x.At,.d<|.str x.Text]
def Aw (x:Aa) (v4:AV):List AV:=[.d<|.int .i64 x.T.Modes,.d<|.int .u8 x.T.Accept,.d<|.sl<|x.T.Rules.map Ax,.d<|.int .i64 x.Left,v4,.d<|.str x.C.A,.d<|.str x.C.B,.d<|.bool x.Ok]
theorem Jgk:∀ a b:Int,Az [.int .u8] ((eU8 a).map .d) ((eU8 b).map .d)=some (decide (a=b)):=by
  intro a b;simp[Az,eU8]
  all_goals (first|rfl|(rw[Bool.eq_iff_iff];simp))
theorem SG:∀ a b:Ae,Az [.int .i64,.int .i64,.int .u8] ((A2 a).map .d) ((A2 b).map .d)=some (decide (a=b)):=by
  intro a b;cases a;cases b;simp[Az,A2,Bool.decide_and]
  all_goals (first|rfl|(rw[Bool.eq_iff_iff];simp))
theorem Jbc:∀ a b:Ad,Az [.int .i64,.string] ((An a).map .d) ((An b).map .d)=some (decide (a=b)):=by
  intro a b;cases a;cases b;simp[Az,An,Bool.decide_and]
  all_goals (first|rfl|(rw[Bool.eq_iff_iff];simp))
theorem Jbd:∀ a b:Ao,Az [.int .i64,.int .i64] ((AZ a).map .d) ((AZ b).map .d)=some (decide (a=b)):=by
  intro a b;cases a;cases b;simp[Az,AZ,Bool.decide_and]
  all_goals (first|rfl|(rw[Bool.eq_iff_iff];simp))
theorem WV:∀ a b:AW,Az [.int .i64,.int .i64,.int .i64] ((CS a).map .d) ((CS b).map .d)=some (decide (a=b)):=by
  intro a b;cases a;cases b;simp[Az,CS,Bool.decide_and]
  all_goals (first|rfl|(rw[Bool.eq_iff_iff];simp))
section
variable (a:(List (List UInt8))) (b:(List (List Int))) (c:Ab) (f:Int) (e:Ab)
def Jgl:St:=⟨(0,.d<|.sl<|a.map eS)::(1,.d<|.sl<|b.map<|eL eU8)::[],[]⟩
def Jgm:St:=⟨(0,.d<|.sl<|a.map eS)::(1,.d<|.sl<|b.map<|eL eU8)::(4,.ptr 0 0)::(5,.ptr 1 0)::(6,.d<|.int .i64 f)::[],[some<|.box [.d<|.int .i64 0,.d<|.int .u8 0,.osl 2 6 0<|List.length ([]:List AE)],some<|.box<|FN c<|.osl 3 6 0<|c.Rules.length,some<|.arr 6<|List.map Ax ([]:List AE),some<|.arr 6<|c.Rules.map Ax]⟩
def Jgn:St:=⟨(4,.ptr 0 0)::(5,.ptr 1 0)::[],[some<|.box [.d<|.int .i64 0,.d<|.int .u8 0,.osl 2 6 0<|List.length ([]:List AE)],some<|.box<|FN e<|.osl 3 6 0<|e.Rules.length,some<|.arr 6<|List.map Ax ([]:List AE),some<|.arr 6<|e.Rules.map Ax]⟩
def RE:Ab->Ex->St->Prop:=xX 0 0<|λ (y:Ab)=>Jgn y
def L3:(Ab×Int)->St:=(λ (x:(Ab×Int))=>Jgm a b x.1 x.2)
variable {a b c f e}
theorem QB (x:(Ab×Int)) (z:((Ab×Int)⊕Ab)) (H:OQ n a b x.1 x.2=some z):WP (cxk 29 0) (AR Try.f19) [1,1,0,1,0,0] (AO 0 (L3 a b) (RE) z) (L3 a b x):=by
 obtain⟨c,f⟩:=x;refine sq<|sr<|ck 2<|sp (AS eS a)<|ck 1<|en<|cn H (λ H=>?_)<|λ H=>?_
 ·exact sk<|qz<|sq<|bk 1<|rz<|ck 4<|bx H λ l h H=>sp (AC eS h)<|ck 3<|bx H λ m i H=>sp (AC (eL eU8) i)<|ck 3<|bx H λ o j H=>sp (Bh Ax 3 6 j)<|ck 2<|ae<|qN<|qz<|rz<|ck 3<|ae (by cases H;exact og<|sg [0,1,4,5,6])
 ·exact ex 0<|qx (by cases H;exact xo rfl<|sg [4,5])
theorem Fs {z} (H:FD n a b=some z):AQ Try.prog 19 [.d (.sl (a.map eS)),.d (.sl (b.map (eL eU8)))] (.agg [.d (.int .i64 z.Modes),.d (.int .u8 z.Accept),.own 6 (z.Rules.map Ax)]):=by
 exact fO 29 (Jgl a b) Try.func19<|sr<|ck 1<|en<|sr<|ck 3<|en<|sq<|sr<|ck 1<|en<|bk 0<|bx H λ p k H=>lX QB k (tr (tr (Cu 0 2 6 (by kernel_rfl))<|Cu 1 2 6 (by kernel_rfl))<|sg [0,1,4,5,6]) rfl λ s g=>qH<|qs (g)<|sr<|ck 2<|en<|re (by cases H;exact pr<|rO (v:=.agg [.d<|.int .i64 z.Modes,.d<|.int .u8 z.Accept,.osl 3 6 0<|z.Rules.length]) [3]<|a1<|c1 vd<|c1 vd<|c1 vo<|c0)
end
section
variable (a:Int)
def Jgo:St:=⟨(0,.d<|.int .u8 a)::[],[]⟩
variable {a}
theorem My {z} (H:G3 n a=some z):AQ Try.prog 79 [.d (.int .u8 a)] (.d (.bool z)):=by
 exact fO 12 (Jgo a) Try.func79<|sr<|ck 1<|en<|sr<|ck 3<|en<|sr<|ck 4<|gc 1 (decide<|32<=Cs .u8 a 127)<|pA<|ck 1<|en<|re (by cases H;exact pr rd)
end
section
variable (a:(List UInt8)) (b:Int)
def Jgp:St:=⟨(0,.d<|.str a)::[],[]⟩
def Jgq:St:=⟨(0,.d<|.str a)::(6,.d<|.int .i64 ((a.length:Nat):Int))::(7,.d<|.int .i64 b)::[],[]⟩
def Jgr:St:=⟨(0,.d<|.str a)::[],[]⟩
def RG:(Unit⊕(Int×Int))->Ex->St->Prop:=xS (xX 0 0<|λ (_:Unit)=>Jgr a)<|xR ty Try.f72<|λ (y:(Int×Int))=>.tup [.d<|.int .i64 y.1,.d<|.int .i64 y.2]
def L4:Int->St:=(λ (x:Int)=>Jgq a x)
variable {a b}
theorem Kw (x:Int) (z:(Int⊕(Unit⊕(Int×Int)))) (H:H3 n a x=some z):WP (cxk 19 0) (AR Try.f72) [1,0,1,0,0] (AO 0 (L4 a) (RG a) z) (L4 a x):=by
 revert H;generalize x=b;intro H;refine sr<|ck 1<|en<|sq<|cn H (λ H=>?_)<|λ H=>?_
 ·refine sk<|qz<|sq<|bk 1<|sr<|ck 2<|en<|sr<|ck 2<|bx H λ j g H=>sp (FC g)<|bx H λ k h H=>ca false (My h)<|ck 1<|en<|cn H (λ H=>?_)<|λ H=>?_
  ·exact sr<|ck 3<|en<|re<|qR<|qr (by cases H;exact ro rfl rdT)
  ·exact sk<|qN<|qz<|rz<|ck 2<|ae (by cases H;exact og<|sg [0,6,7])
 ·exact ex 0<|qx (by cases H;exact xo rfl<|sg [0])
theorem Vt {z} (H:Nc n a=some z):AQ Try.prog 72 [.d (.str a)] (.tup [.d (.int .i64 z.1),.d (.int .i64 z.2)]):=by
 refine fO 19 (Jgp a) Try.func72<|sr<|ck 2<|en<|sq<|sr<|ck 3<|en<|bk 0<|bx H λ i f H=>?_;rcases i with l|m
 ·exact lX Kw f (sg [0,6,7]) rfl λ s c=>qH<|qs (c)<|sr<|ck 4<|en<|re (by cases H;exact pr rdT)
 ·exact lR Kw f (sg [0,6,7]) rfl λ s e=>qR<|qr (by cases H;exact pr e)
end
section
variable (a:Int)
def Jgs:St:=⟨(0,.d<|.int .u8 a)::[],[]⟩
variable {a}
theorem Jj {z} (H:Hu n a=some z):AQ Try.prog 61 [.d (.int .u8 a)] (.d (.int .i64 z)):=by
 refine fO 30 (Jgs a) Try.func61<|sr<|ck 1<|en<|sr<|ck 3<|en<|sq<|bk 0<|sr<|ck 4<|gc 1 (decide<|97<=Cs .u8 a 127)<|pA<|ck 1<|en<|cn H (λ H=>?_)<|λ H=>?_
 ·exact sr<|ck 1<|en<|re<|qR<|qr (by cases H;exact pr rd)
 ·refine sr<|ck 4<|gc 1 (decide<|65<=Cs .u8 a 127)<|pA<|ck 1<|en<|cn H (λ H=>?_)<|λ H=>?_
  ·exact sr<|ck 1<|en<|re<|qR<|qr (by cases H;exact pr rd)
  ·refine sr<|ck 4<|gc 1 (decide<|48<=Cs .u8 a 127)<|pA<|ck 1<|en<|cn H (λ H=>?_)<|λ H=>?_
   ·exact sr<|ck 1<|en<|re<|qR<|qr (by cases H;exact pr rd)
   ·refine sr<|ck 3<|en<|cn H (λ H=>?_)<|λ H=>?_
    ·exact sr<|ck 1<|en<|re<|qR<|qr (by cases H;exact pr rd)
    ·exact sk<|qN<|qz<|sr<|ck 1<|en<|re (by cases H;exact pr rd)
end
section
variable (a:(List UInt8)) (b:Int)
def Jgt:St:=⟨(0,.d<|.str a)::[],[]⟩
def Jgu:St:=⟨(0,.d<|.str a)::(5,.d<|.int .i64 ((a.length:Nat):Int))::(6,.d<|.int .i64 b)::[],[]⟩
def Jgv:St:=⟨[],[]⟩
def Nh:(Unit⊕Bool)->Ex->St->Prop:=xS (xX 0 0<|λ (_:Unit)=>Jgv)<|xR ty Try.f73<|λ (y:Bool)=>.d<|.bool y
def H6:Int->St:=(λ (x:Int)=>Jgu a x)
variable {a b}
theorem HK (x:Int) (z:(Int⊕(Unit⊕Bool))) (H:E3 n a x=some z):WP (cxk 15 0) (AR Try.f73) [1,0,1,0,0] (AO 0 (H6 a) (Nh) z) (H6 a x):=by
 revert H;generalize x=b;intro H;refine sr<|ck 1<|en<|sq<|cn H (λ H=>?_)<|λ H=>?_
 ·refine sk<|qz<|sq<|bk 1<|sr<|ck 2<|en<|sr<|ck 2<|bx H λ j g H=>sp (FC g)<|bx H λ k h H=>ca false (Jj h)<|ck 1<|en<|cn H (λ H=>?_)<|λ H=>?_
  ·exact sr<|ck 1<|en<|re<|qR<|qr (by cases H;exact ro rfl rd)
  ·exact sk<|qN<|qz<|rz<|ck 2<|ae (by cases H;exact og<|sg [0,5,6])
 ·exact ex 0<|qx (by cases H;exact xo rfl<|sg [])
theorem O8 {z} (H:Hn n a=some z):AQ Try.prog 73 [.d (.str a)] (.d (.bool z)):=by
 refine fO 15 (Jgt a) Try.func73<|sr<|ck 1<|en<|sq<|sr<|ck 3<|en<|bk 0<|bx H λ i c H=>?_;rcases i with l|m
 ·exact lX HK c (sg [0,5,6]) rfl λ s e=>qH<|qs (e)<|sr<|ck 1<|en<|re (by cases H;exact pr rd)
 ·exact lR HK c (sg [0,5,6]) rfl λ s f=>qR<|qr (by cases H;exact pr f)
end
section
variable (a:Int)
def Jgw:St:=⟨(0,.d<|.int .u8 a)::[],[]⟩
variable {a}
theorem TL {z} (H:NV n a=some z):AQ Try.prog 74 [.d (.int .u8 a)] (.d (.bool z)):=by
 exact fO 5 (Jgw a) Try.func74<|sr<|ck 1<|en<|sr<|ck 3<|en<|re (by cases H;exact pr rd)
end
section
variable (a:AE) (b:Int) (c:Int)
def Jgx:St:=⟨(0,.agg [.d<|.str a.Print,.d<|.sl<|a.Cells.map eU8,.d<|.int .u8 a.Left,.d<|.int .u8 a.Right,.d<|.int .i64 a.From,.d<|.int .i64 a.To])::(1,.d<|.int .i64 b)::[],[]⟩
def Jgy:St:=⟨(92,.d<|.sl<|a.Cells.map eU8)::(93,.d<|.int .i64 ((a.Cells.length:Nat):Int))::(94,.d<|.int .i64 c)::[],[]⟩
def Jgz:St:=⟨[],[]⟩
def QC:(Unit⊕Bool)->Ex->St->Prop:=xS (xX 0 0<|λ (_:Unit)=>Jgz)<|xR ty Try.f57<|λ (y:Bool)=>.d<|.bool y
def Kx:Int->St:=(λ (x:Int)=>Jgy a x)
variable {a b c}
theorem JH (x:Int) (z:(Int⊕(Unit⊕Bool))) (H:Ho n a x=some z):WP (cxk 110 0) (AR Try.f57) [1,1,1,1,1,1,0,1,0,0] (AO 0 (Kx a) (QC) z) (Kx a x):=by
 revert H;generalize x=c;intro H;refine sr<|ck 1<|en<|sq<|cn H (λ H=>?_)<|λ H=>?_
 ·refine sk<|qz<|sq<|bk 1<|sr<|bx H λ p f H=>sp (AC eU8 f)<|ck 2<|en<|sr<|ck 1<|bx H λ o h H=>ca false (TL h)<|ck 3<|gc 1 (!(!o))<|pO<|ck 2<|gc 1 (!((!o)||(p==63)))<|pO<|en<|cn H (λ H=>?_)<|λ H=>?_
  ·exact sr<|ck 1<|en<|re<|qR<|qr (by cases H;exact ro rfl rd)
  ·exact sk<|qN<|qz<|rz<|ck 2<|ae (by cases H;exact og<|sg [92,93,94])
 ·exact ex 0<|qx (by cases H;exact xo rfl<|sg [])
theorem TM {z} (H:Ln n a b=some z):AQ Try.prog 57 [.agg (Kv a),.d (.int .i64 b)] (.d (.bool z)):=by
 refine fO 110 (Jgx a b) Try.func57<|sr<|ck 2<|en<|sq<|sr<|ck 6<|gc 1 (!(decide<|((a.Print.length:Nat):Int)>4))<|sE (g:=(!(decide<|((a.Print.length:Nat):Int)>4))) (λ hg=>AS eU8 a.Cells)<|gc 1 (!(decide<|((a.Print.length:Nat):Int)>4))<|pO<|ck 2<|gc 1 (!((decide<|((a.Print.length:Nat):Int)>4)||(decide<|((a.Cells.length:Nat):Int)<1)))<|sE (g:=(!((decide<|((a.Print.length:Nat):Int)>4)||(decide<|((a.Cells.length:Nat):Int)<1)))) (λ hg=>AS eU8 a.Cells)<|gc 1 (!((decide<|((a.Print.length:Nat):Int)>4)||(decide<|((a.Cells.length:Nat):Int)<1)))<|pO<|en<|cn H (λ H=>?_)<|λ H=>?_
 ·exact sr<|ck 1<|en<|re<|qr (by cases H;exact pr rd)
 ·refine sk<|qz<|sq<|sr<|ck 2<|bx H λ t i H=>ca false (Vt i)<|ck 5<|en<|sr<|ck 2<|en<|cn H (λ H=>?_)<|λ H=>?_
  ·exact sr<|ck 1<|en<|re<|qr (by cases H;exact pr rd)
  ·refine sk<|qz<|sq<|sr<|ck 5<|gc 2 (!(decide<|a.Left<1))<|pO<|ck 2<|gc 2 (!((decide<|a.Left<1)||(decide<|a.Left>63)))<|pO<|ck 2<|gc 2 (!(((decide<|a.Left<1)||(decide<|a.Left>63))||(decide<|a.Right<1)))<|pO<|en<|cn H (λ H=>?_)<|λ H=>?_
   ·exact sr<|ck 1<|en<|re<|qr (by cases H;exact pr rd)
   ·refine sk<|qz<|sq<|sr<|ck 5<|gc 1 (!(decide<|a.From<0))<|ck 1<|gc 1 (!(decide<|a.From<0))<|pO<|ck 2<|gc 2 (!((decide<|a.From<0)||(decide<|a.From>=b)))<|pO<|ck 2<|gc 1 (!(((decide<|a.From<0)||(decide<|a.From>=b))||(decide<|a.To<0)))<|ck 1<|gc 1 (!(((decide<|a.From<0)||(decide<|a.From>=b))||(decide<|a.To<0)))<|pO<|en<|cn H (λ H=>?_)<|λ H=>?_
    ·exact sr<|ck 1<|en<|re<|qr (by cases H;exact pr rd)
    ·refine sk<|qz<|sq<|sr<|ck 2<|bx H λ u j H=>ca false (O8 j)<|en<|cn H (λ H=>?_)<|λ H=>?_
     ·exact sr<|ck 6<|gc 1 (((a.Print.length:Nat):Int)==1)<|sE (g:=(((a.Print.length:Nat):Int)==1)) (λ hg=>AS eU8 a.Cells)<|gc 1 (((a.Print.length:Nat):Int)==1)<|pA<|ck 2<|gc 1 ((((a.Print.length:Nat):Int)==1)&&(((a.Cells.length:Nat):Int)==1))<|bx H λ v k H=>sE (λ hg=>AC eU8<|CC k hg)<|gc 2 ((((a.Print.length:Nat):Int)==1)&&(((a.Cells.length:Nat):Int)==1))<|pA<|ck 1<|en<|re<|qr (by cases H;exact pr rd)
     ·refine sk<|qz<|sq<|sr<|ck 2<|sp (AS eU8 a.Cells)<|ck 1<|en<|bk 0<|bx H λ q e H=>?_;rcases q with w|r
      ·exact lX JH e (sg [92,93,94]) rfl λ s l=>qH<|qs (l)<|sr<|ck 1<|en<|re (by cases H;exact pr rd)
      ·exact lR JH e (sg [92,93,94]) rfl λ s m=>qR<|qr (by cases H;exact pr m)
end
section
variable (a:(List Int)) (b:(List Int)) (c:Int)
def JgA:St:=⟨(0,.d<|.sl<|a.map eU8)::(1,.d<|.sl<|b.map eU8)::[],[]⟩
def JgB:St:=⟨(0,.d<|.sl<|a.map eU8)::(1,.d<|.sl<|b.map eU8)::(12,.d<|.int .i64 ((a.length:Nat):Int))::(13,.d<|.int .i64 c)::[],[]⟩
def JgC:St:=⟨[],[]⟩
def QE:(Unit⊕Bool)->Ex->St->Prop:=xS (xX 0 0<|λ (_:Unit)=>JgC)<|xR ty Try.f75<|λ (y:Bool)=>.d<|.bool y
def Ky:Int->St:=(λ (x:Int)=>JgB a b x)
variable {a b c}
theorem JI (x:Int) (z:(Int⊕(Unit⊕Bool))) (H:Hp n a b x=some z):WP (cxk 26 0) (AR Try.f75) [1,1,0,1,0,0] (AO 0 (Ky a b) (QE) z) (Ky a b x):=by
 revert H;generalize x=c;intro H;refine sr<|ck 1<|en<|sq<|cn H (λ H=>?_)<|λ H=>?_
 ·refine sk<|qz<|sq<|bk 1<|sr<|ck 2<|en<|sr<|ck 2<|bx H λ m f H=>sp (AC eU8 f)<|ck 3<|bx H λ o g H=>sp (AC eU8 g)<|ck 2<|en<|cn H (λ H=>?_)<|λ H=>?_
  ·exact sr<|ck 1<|en<|re<|qR<|qr (by cases H;exact ro rfl rd)
  ·exact sk<|qN<|qz<|rz<|ck 2<|ae (by cases H;exact og<|sg [0,1,12,13])
 ·exact ex 0<|qx (by cases H;exact xo rfl<|sg [])
theorem TN {z} (H:Lo n a b=some z):AQ Try.prog 75 [.d (.sl (a.map eU8)),.d (.sl (b.map eU8))] (.d (.bool z)):=by
 refine fO 26 (JgA a b) Try.func75<|sr<|ck 1<|en<|sq<|sr<|ck 1<|sp (AS eU8 a)<|ck 1<|sp (AS eU8 b)<|ck 1<|en<|cn H (λ H=>?_)<|λ H=>?_
 ·exact sr<|ck 1<|en<|re<|qr (by cases H;exact pr rd)
 ·refine sk<|qz<|sq<|sr<|ck 1<|sp (AS eU8 a)<|ck 1<|en<|bk 0<|bx H λ h e H=>?_;rcases h with k|l
  ·exact lX JI e (sg [0,1,12,13]) rfl λ s i=>qH<|qs (i)<|sr<|ck 1<|en<|re (by cases H;exact pr rd)
  ·exact lR JI e (sg [0,1,12,13]) rfl λ s j=>qR<|qr (by cases H;exact pr j)
end
section
variable (a:AE) (b:AE)
def JgD:St:=⟨(0,.agg [.d<|.str a.Print,.d<|.sl<|a.Cells.map eU8,.d<|.int .u8 a.Left,.d<|.int .u8 a.Right,.d<|.int .i64 a.From,.d<|.int .i64 a.To])::(1,.agg [.d<|.str b.Print,.d<|.sl<|b.Cells.map eU8,.d<|.int .u8 b.Left,.d<|.int .u8 b.Right,.d<|.int .i64 b.From,.d<|.int .i64 b.To])::[],[]⟩
variable {a b}
theorem TO {z} (H:Lp n a b=some z):AQ Try.prog 58 [.agg (Kv a),.agg (Kv b)] (.d (.bool z)):=by
 exact fO 45 (JgD a b) Try.func58<|sr<|ck 3<|en<|sr<|ck 7<|gc 1 (a.From==b.From)<|ck 1<|gc 2 (a.From==b.From)<|pA<|ck 2<|gc 1 ((a.From==b.From)&&(a.To==b.To))<|ck 1<|gc 2 ((a.From==b.From)&&(a.To==b.To))<|pA<|ck 2<|gc 1 (((a.From==b.From)&&(a.To==b.To))&&(a.Left==b.Left))<|ck 1<|gc 2 (((a.From==b.From)&&(a.To==b.To))&&(a.Left==b.Left))<|pA<|ck 2<|gc 1 ((((a.From==b.From)&&(a.To==b.To))&&(a.Left==b.Left))&&(a.Right==b.Right))<|ck 1<|gc 2 ((((a.From==b.From)&&(a.To==b.To))&&(a.Left==b.Left))&&(a.Right==b.Right))<|pA<|ck 2<|gc 1 (((((a.From==b.From)&&(a.To==b.To))&&(a.Left==b.Left))&&(a.Right==b.Right))&&(a.Print==b.Print))<|ck 1<|gc 1 (((((a.From==b.From)&&(a.To==b.To))&&(a.Left==b.Left))&&(a.Right==b.Right))&&(a.Print==b.Print))<|bx H λ e c H=>cG false (leZ) rfl (λ hg=>TN<|CC c hg) (Or.inl rfl) (CB (λ hh=>hh)<|CB (λ hh=>hh)<|EA) rfl<|pA<|ck 1<|en<|re (by cases H;exact pr rd)
end
section
variable (a:Ab) (b:Int) (e:AE) (c:(List AE)) (f:Int)
def JgE:St:=⟨(0,.agg [.d<|.int .i64 a.Modes,.d<|.int .u8 a.Accept,.d<|.sl<|a.Rules.map Ax])::[],[]⟩
def JgF:St:=⟨(1,.ptr 0 0)::(39,.d<|.sl<|a.Rules.map Ax)::(40,.d<|.int .i64 ((a.Rules.length:Nat):Int))::(41,.d<|.int .i64 b)::[],[some<|.box<|Ba a]⟩
def JgG:St:=⟨[],[]⟩
def JgH:St:=⟨(1,.ptr 0 0)::(4,.d<|.int .i64 b)::(5,.ptr 1 0)::(39,.d<|.sl<|a.Rules.map Ax)::(40,.d<|.int .i64 ((a.Rules.length:Nat):Int))::(41,.d<|.int .i64 b)::(55,.d<|.sl<|c.map Ax)::(56,.d<|.int .i64 ((c.length:Nat):Int))::(57,.d<|.int .i64 f)::[],[some<|.box<|Ba a,some<|.box<|Kv e]⟩
def JgI:St:=⟨(1,.ptr 0 0)::(39,.d<|.sl<|a.Rules.map Ax)::(40,.d<|.int .i64 ((a.Rules.length:Nat):Int))::(41,.d<|.int .i64 b)::[],[some<|.box<|Ba a]⟩
def QF:(Unit⊕(Int×Int))->Ex->St->Prop:=xS (xX 0 2<|λ (_:Unit)=>JgI a b)<|xR ty Try.f37<|λ (y:(Int×Int))=>.tup [.d<|.int .i64 y.1,.d<|.int .i64 y.2]
def Kz:Int->St:=(λ (x:Int)=>JgH a b e c x)
def QG:(Unit⊕(Int×Int))->Ex->St->Prop:=xS (xX 0 0<|λ (_:Unit)=>JgG)<|xR ty Try.f37<|λ (y:(Int×Int))=>.tup [.d<|.int .i64 y.1,.d<|.int .i64 y.2]
def KA:Int->St:=(λ (x:Int)=>JgF a x)
variable {a b e c f}
theorem JJ (x:Int) (z:(Int⊕(Unit⊕(Int×Int)))) (H:FE n a b e c x=some z):WP (cxk 67 0) (AR Try.f37) [1,1,1,1,0,1,0,0,1,1,0,0,1,1,1,0,0] (AO 0 (Kz a b e c) (QF a b) z) (Kz a b e c x):=by
 revert H;generalize x=f;intro H;refine sr<|ck 1<|en<|sq<|cn H (λ H=>?_)<|λ H=>?_
 ·refine sk<|qz<|sq<|bk 3<|sr<|bx H λ I o H=>sp (AC Ax o)<|ck 3<|en<|sr<|ck 2<|bx H λ J p H=>ca false (TO p)<|en<|cn H (λ H=>?_)<|λ H=>?_
  ·exact sr<|ck 3<|en<|re<|qR<|qr (by cases H;exact ro rfl rdT)
  ·exact sk<|qN<|qz<|rz<|ck 2<|ae (by cases H;exact og<|sg [1,4,5,39,40,41,55,56,57])
 ·exact ex 2<|qx (by cases H;exact xo rfl<|sg [1,39,40,41])
theorem JK (x:Int) (z:(Int⊕(Unit⊕(Int×Int)))) (H:FF n a x=some z):WP (cxk 67 0) (AR Try.f37) [1,1,1,1,0,1,0,0] (AO 0 (KA a) (QG) z) (KA a x):=by
 revert H;generalize x=b;intro H;refine sr<|ck 1<|en<|sq<|cn H (λ H=>?_)<|λ H=>?_
 ·refine sk<|qz<|sq<|bk 1<|sr<|ck 1<|bx H λ e q H=>sp (AC Ax q)<|ck 4<|en<|sq<|sr<|ck 3<|bx H λ K r H=>ca false (TM r)<|ck 1<|en<|cn H (λ H=>?_)<|λ H=>?_
  ·exact sr<|ck 3<|en<|re<|qr<|qR<|qr (by cases H;exact ro rfl rdT)
  ·refine sk<|qz<|sr<|ck 3<|bx H λ c t H=>sp (JaA Ax 6 t)<|sp (AS Ax c)<|ck 1<|en<|bk 2<|bx H λ u h H=>?_;rcases u with A|B
   ·exact lX JJ h (sg [1,4,5,39,40,41,55,56,57]) rfl λ s i=>qH<|qN<|qs (i)<|rz<|ck 2<|ae (by cases H;exact og<|sg [1,39,40,41])
   ·exact lR JJ h (sg [1,4,5,39,40,41,55,56,57]) rfl λ s j=>qR<|qR<|qr (by cases H;exact ro rfl j)
 ·exact ex 0<|qx (by cases H;exact xo rfl<|sg [])
theorem TP {z} (H:Lq n a=some z):AQ Try.prog 37 [.agg (Ba a)] (.tup [.d (.int .i64 z.1),.d (.int .i64 z.2)]):=by
 refine fO 67 (JgE a) Try.func37<|sr<|ck 3<|en<|sq<|sr<|ck 5<|gc 2 (!(decide<|a.Modes<1))<|pO<|en<|cn H (λ H=>?_)<|λ H=>?_
 ·exact sr<|ck 2<|en<|re<|qr (by cases H;exact pr rdT)
 ·refine sk<|qz<|sq<|sr<|ck 5<|gc 2 (!(a.Accept==0))<|ck 1<|gc 1 (!(a.Accept==0))<|bx H λ C v H=>soG (λ hg=>Iz<|CC v hg) (CB (λ hh=>hh)<|EA)<|gc 1 (!(a.Accept==0))<|pO<|en<|cn H (λ H=>?_)<|λ H=>?_
  ·exact sr<|ck 2<|en<|re<|qr (by cases H;exact pr rdT)
  ·refine sk<|qz<|sq<|sr<|ck 2<|sp (AS Ax a.Rules)<|ck 3<|gc 1 (!(decide<|((a.Rules.length:Nat):Int)<1))<|sE (g:=(!(decide<|((a.Rules.length:Nat):Int)<1))) (λ hg=>AS Ax a.Rules)<|gc 1 (!(decide<|((a.Rules.length:Nat):Int)<1))<|pO<|en<|cn H (λ H=>?_)<|λ H=>?_
   ·exact sr<|ck 2<|en<|re<|qr (by cases H;exact pr rdT)
   ·refine sk<|qz<|sq<|sr<|ck 2<|sp (AS Ax a.Rules)<|ck 1<|en<|bk 0<|bx H λ w k H=>?_;rcases w with E|G
    ·exact lX JK k (sg [1,39,40,41]) rfl λ s l=>qH<|qs (l)<|sr<|ck 2<|en<|re (by cases H;exact pr rdT)
    ·exact lR JK k (sg [1,39,40,41]) rfl λ s m=>qR<|qr (by cases H;exact pr m)
end
section
variable (a:Ab)
def JgJ:St:=⟨(0,.agg [.d<|.int .i64 a.Modes,.d<|.int .u8 a.Accept,.d<|.sl<|a.Rules.map Ax])::[],[]⟩
variable {a}
theorem Ni {z} (H:Lr n a=some z):AQ Try.prog 22 [.agg (Ba a)] (.d (.bool z)):=by
 exact fO 12 (JgJ a) Try.func22<|sr<|ck 2<|en<|sr<|ck 1<|bx H λ c b H=>ca false (TP b)<|ck 5<|en<|sr<|ck 3<|en<|re (by cases H;exact pr rd)
end
def JgK:St:=⟨[],[]⟩
theorem TQ {z} (H:NW n=some z):AQ Try.prog 76 [] (.agg [.d (.int .i64 z.Mode),.d (.int .i64 z.Last),.d (.int .u8 z.Need)]):=by
 exact fO 2 JgK Try.func76<|sr<|ck 1<|en<|sr<|ck 2<|en<|re (by cases H;exact pr rd)
section
variable (b:Int) (a:Int)
def JgL:St:=⟨(0,.d<|.int .u8 b)::(1,.d<|.int .i64 a)::[],[]⟩
variable {b a}
theorem Jk {z} (H:Jf n b a=some z):AQ Try.prog 60 [.d (.int .u8 b),.d (.int .i64 a)] (.d (.bool z)):=by
 exact fO 18 (JgL b a) Try.func60<|sr<|ck 1<|en<|sr<|ck 4<|gc 1 (decide<|0<=a)<|pA<|ck 3<|bx H λ e c H=>soG (λ hg=>Iz<|CC c hg) (CB (λ hh=>hh)<|CB (λ hh=>hh)<|EA)<|gc 2 ((decide<|0<=a)&&(decide<|a<8))<|pA<|ck 1<|en<|re (by cases H;exact pr rd)
end
section
variable (b:Ab) (a:Ae) (c:Int)
def JgM:St:=⟨(0,.agg [.d<|.int .i64 b.Modes,.d<|.int .u8 b.Accept,.d<|.sl<|b.Rules.map Ax])::(1,.agg [.d<|.int .i64 a.Mode,.d<|.int .i64 a.Last,.d<|.int .u8 a.Need])::(2,.d<|.int .i64 c)::[],[]⟩
variable {b a c}
theorem OS {z} (H:Ku n b a c=some z):AQ Try.prog 41 [.agg (Ba b),.agg (NZ a),.d (.int .i64 c)] (.tup [.agg [.d (.int .i64 z.1.Mode),.d (.int .i64 z.1.Last),.d (.int .u8 z.1.Need)],.d (.bool z.2)]):=by
 refine fO 78 (JgM b a c) Try.func41<|sr<|ck 4<|en<|sq<|sr<|ck 5<|gc 1 (!(decide<|c<0))<|sE (g:=(!(decide<|c<0))) (λ hg=>AS Ax b.Rules)<|gc 1 (!(decide<|c<0))<|pO<|en<|cn H (λ H=>?_)<|λ H=>?_
 ·exact sr<|ck 3<|en<|re<|qr (by cases H;exact pr rdT)
 ·refine sk<|qz<|sr<|ck 3<|bx H λ e f H=>sp (AC Ax f)<|ck 3<|en<|sq<|sr<|ck 7<|gc 1 (!(e.From != a.Mode))<|ck 1<|gc 1 (!(e.From != a.Mode))<|bx H λ o h H=>cG false (leZ) rfl (λ hg=>Jk<|CC h hg) (Or.inl rfl) (CB (λ hh=>hh)<|CB (λ hh=>hh)<|EA) rfl<|gc 1 (!(e.From != a.Mode))<|pO<|en<|cn H (λ H=>?_)<|λ H=>?_
  ·exact sr<|ck 3<|en<|re<|qr (by cases H;exact pr rdT)
  ·refine sk<|qz<|sq<|sr<|ck 3<|en<|cn H (λ H=>?_)<|λ H=>?_
   ·refine sr<|ck 6<|en<|sq<|sr<|ck 2<|en<|cn H (λ H=>?_)<|λ H=>?_
    ·exact sr<|ck 3<|en<|re<|qr<|qr (by cases H;exact pr rdT)
    ·exact sk<|qz<|sr<|ck 8<|en<|re<|qr (by cases H;exact pr rdT)
   ·refine sk<|qz<|sq<|sr<|ck 4<|bx H λ s i H=>sp (FC i)<|bx H λ p j H=>ca false (Jj j)<|bx H λ q k H=>ca false (Jk k)<|ck 1<|en<|cn H (λ H=>?_)<|λ H=>?_
    ·exact sr<|ck 3<|en<|re<|qr (by cases H;exact pr rdT)
    ·exact sk<|qz<|sr<|ck 8<|bx H λ t l H=>sp (FC l)<|bx H λ r m H=>ca false (Jj m)<|ck 5<|en<|re (by cases H;exact pr rdT)
end
section
variable (f:Ab) (o:(List Ae)) (p:(List (List Int))) (A:(List (Ae×Int))) (u:Int) (B:(List Ae)) (K:(List (List Int))) (a:(List Ae)) (g:(List (List Int))) (b:(List (Ae×Int))) (L:Int) (C:(List Ae)) (M:(List (List Int))) (J:(List (Ae×Int))) (q:(List Ae)) (w:(List (List Int))) (E:(List (Ae×Int))) (h:(List Ae)) (c:(List (List Int))) (r:(List (Ae×Int))) (G:Int)
def JgN:St:=⟨(0,.agg [.d<|.int .i64 f.Modes,.d<|.int .u8 f.Accept,.d<|.sl<|f.Rules.map Ax])::[],[]⟩
def JgO:St:=⟨(1,.ptr 0 0)::(5,.osl 1 3 0<|o.length)::(6,.osl 2 1 0<|p.length)::(7,.mp 3)::(8,.d<|.int .i64 u)::[],[some<|.box<|Ba f,some<|.arr 3<|o.map A2,some<|.narr 1<|p.map<|nL 1 AX,some<|.map true false<|AH A2 AX A]⟩
def JgP:St:=⟨(5,.osl 0 3 0<|B.length)::(6,.osl 1 1 0<|K.length)::[],[some<|.arr 3<|B.map A2,some<|.narr 1<|K.map<|nL 1 AX]⟩
def JgQ:St:=⟨(1,.ptr 0 0)::(5,.osl 1 3 0<|a.length)::(6,.osl 2 1 0<|g.length)::(7,.mp 3)::(8,.d<|.int .i64 u)::(29,.d<|.int .i64 ((f.Rules.length:Nat):Int))::(30,.d<|.int .i64 L)::[],[some<|.box<|Ba f,some<|.arr 3<|a.map A2,some<|.narr 1<|g.map<|nL 1 AX,some<|.map true false<|AH A2 AX b]⟩
def JgR:St:=⟨(1,.ptr 0 0)::(5,.osl 1 3 0<|C.length)::(6,.osl 2 1 0<|M.length)::(7,.mp 3)::(8,.d<|.int .i64 u)::[],[some<|.box<|Ba f,some<|.arr 3<|C.map A2,some<|.narr 1<|M.map<|nL 1 AX,some<|.map true false<|AH A2 AX J]⟩
def JgS:St:=⟨(1,.ptr 0 0)::(5,.osl 1 3 0<|q.length)::(6,.osl 2 1 0<|w.length)::(7,.mp 3)::(8,.d<|.int .i64 u)::(29,.d<|.int .i64 ((f.Rules.length:Nat):Int))::(30,.d<|.int .i64 L)::[],[some<|.box<|Ba f,some<|.arr 3<|q.map A2,some<|.narr 1<|w.map<|nL 1 AX,some<|.map true false<|AH A2 AX E]⟩
def JgT:St:=⟨(1,.ptr 0 0)::(5,.osl 1 3 0<|h.length)::(6,.osl 2 1 0<|c.length)::(7,.mp 3)::(8,.d<|.int .i64 u)::(12,.d<|.int .i64 G)::(29,.d<|.int .i64 ((f.Rules.length:Nat):Int))::(30,.d<|.int .i64 L)::[],[some<|.box<|Ba f,some<|.arr 3<|h.map A2,some<|.narr 1<|c.map<|nL 1 AX,some<|.map true false<|AH A2 AX r]⟩
def N0:((List Ae)×(List<|List Int)×(List<|Ae×Int))->Ex->St->Prop:=xX 0 2<|λ (y:((List Ae)×(List<|List Int)×(List<|Ae×Int)))=>JgR f u y.1 y.2.1 y.2.2
def IE:((List Ae)×(List<|List Int)×(List<|Ae×Int)×Int)->St:=(λ (x:((List Ae)×(List<|List Int)×(List<|Ae×Int)×Int))=>JgQ f u x.1 x.2.1 x.2.2.1 x.2.2.2)
def N3:((List Ae)×(List<|List Int))->Ex->St->Prop:=xX 0 0<|λ (y:((List Ae)×(List<|List Int)))=>JgP y.1 y.2
def IF:((List Ae)×(List<|List Int)×(List<|Ae×Int)×Int)->St:=(λ (x:((List Ae)×(List<|List Int)×(List<|Ae×Int)×Int))=>JgO f x.1 x.2.1 x.2.2.1 x.2.2.2)
variable {f o p A u B K a g b L C M J q w E h c r G}
theorem Nj (x:((List Ae)×(List (List Int))×(List (Ae×Int))×Int)) (z:(((List Ae)×(List (List Int))×(List (Ae×Int))×Int)⊕((List Ae)×(List (List Int))×(List (Ae×Int))))) (H:B4 n f u x.1 x.2.1 x.2.2.1 x.2.2.2=some z):WP (cxk 78 0) (AR Try.f59) [1,1,1,1,0,1,0,0,1,0,0,1,0,0] (AO 0 (IE f u) (N0 f u) z) (IE f u x):=by
 obtain⟨a,g,b,L⟩:=x;refine sr<|ck 1<|en<|sq<|cn H (λ H=>?_)<|λ H=>?_
 ·refine sk<|qz<|sj (λ (x:((List Ae)×(List<|List Int)×(List<|Ae×Int)))=>JgS f u L x.1 x.2.1 x.2.2) (λ (x:((List Ae)×(List<|List Int)×(List<|Ae×Int)))=>Df n L x.1 x.2.1 x.2.2) z ?_ (λ i=>?_)
  ·rintro⟨q,w,E⟩ H;exact rz<|ck 2<|ae (by cases H;exact og<|gP [1,5,6,7,8,29,30] [0,1,2,3]<|po1<|po1<|pn1 (nL 1 AX) w<|po1<|Pl.z)
  refine bk 3<|sr<|ck 2<|en<|sr<|ck 3<|bx H λ ah T H=>sp (Bs 1 3 T)<|sp (De A2 1 0 (ty 79) T)<|ck 1<|bx H λ I X H=>ca false (OS X)<|ck 6<|en<|sq<|sr<|ck 2<|en<|cn H (λ H=>?_)<|λ H=>?_
  ·exact ex 3<|qx<|qH<|qs (gP [1,5,6,7,8,29,30] [0,1,2,3]<|po1<|po1<|pn1 (nL 1 AX) g<|po1<|Pl.z)<|i (a,g,b) H
  ·refine sk<|qz<|sr<|ck 2<|sp (Kt (enc:=AX) (encK:=A2) (k:=3) (e1:=λ x=>.int .i64 x) (m:=b) (l:=[.d<|.int .i64 I.1.Mode,.d<|.int .i64 I.1.Last,.d<|.int .u8 I.1.Need]) (key:=I.1) (z:=0) (vz:=[.int .i64 0]) SG true)<|ck 5<|en<|sj (λ (x:((List Ae)×(List<|List Int)×(List<|Ae×Int)×Int))=>JgT f u L x.1 x.2.1 x.2.2.1 x.2.2.2) (λ (x:((List Ae)×(List<|List Int)×(List<|Ae×Int)×Int))=>El n u L x.1 x.2.1 x.2.2.1 x.2.2.2) z ?_ (λ j=>?_)
   ·rintro⟨h,c,r,G⟩ H;exact bx H λ P O H=>rg (tr (so1 (encN:=(nL 1 AX)) 2 1 O)<|sno (encN:=(nL 1 AX)) (enc:=AX) O [.own 1<|P.map AX] P 1 2 0 1)<|ck 4<|sp (Bs 2 1 O)<|sp (TC (encN:=(nL 1 AX)) (row:=[.osl 4 1 0<|P.length]) (k:=2) (sz:=1) (off:=0) (t:=ty 82) (v:=.osl 4 1 0<|P.length) O)<|ck 2<|bx H λ Q Y H=>sp (Bh AX 4 1 Y)<|sp (Bs 2 1 O)<|sp (WL (encN:=(nL 1 AX)) (row:=[.osl 4 1 0<|P.length]) (row':=[.osl 6 1 0<|Q.length]) (k:=2) (sz:=1) (off:=0) (t:=ty 82) (v:=.osl 6 1 0<|Q.length) O)<|ae<|qN<|qs (tr (tr (tr (tr (tr (sni (encN:=(nL 1 AX)) (xs:=c) (n:=G) (enc:=AX) [.osl 6 1 0<|Q.length] Q 1 2 0 6 1)<|scl (encN:=(nL 1 AX)) (xss:=c) G [.own 1<|Q.map AX] 1 2 Q)<|sn 6 2 1<|lsS c G.toNat Q)<|sn 65 2 1<|lsS c G.toNat Q)<|sn 67 2 1<|lsS c G.toNat Q)<|gP [1,5,6,7,8,29,30] [0,1,2,3]<|po1<|po1<|pn1 (nL 1 AX) (List.set c G.toNat Q)<|po1<|Pl.z)<|i (h,(List.set c G.toNat Q),r) H
   refine sr<|ck 2<|en<|cn H (λ H=>?_)<|λ H=>?_
   ·exact sr<|ck 3<|en<|sr<|ck 3<|sp (Lm (enc:=AX) (encK:=A2) (k:=3) (e1:=λ x=>.int .i64 x) (m:=b) (l:=[.d<|.int .i64 I.1.Mode,.d<|.int .i64 I.1.Last,.d<|.int .u8 I.1.Need]) (key:=I.1) (y:=((a.length:Nat):Int)) (v:=.d<|.int .i64 ((a.length:Nat):Int)) (vz:=[.int .i64 0]) SG)<|en<|rz<|ck 3<|bx H λ l4 Z H=>sp (Bh A2 1 3 Z)<|ck 1<|sK false<|bx H λ l5 U H=>sp (JdW (encN:=(nL 1 AX)) (esz:=1) (k:=2) (e:=[.nil]) U)<|ck 2<|ae<|qs (tr (JfL (encN:=(nL 1 AX)) (xss:=g) (yss:=l5) (y:=([]:(List Int))) (row:=[.own 0 []]) (sz:=1) 7 (by kernel_rfl) (JdL U) (by kernel_rfl))<|gP [1,5,6,7,8,12,29,30] [0,6,7,3]<|po1<|po1<|pn1 (nL 1 AX) l5<|po1<|Pl.z)<|j (l4,l5,(Eh I.1 ((a.length:Nat):Int) b),((a.length:Nat):Int)) H
   ·exact sk<|qs (gP [1,5,6,7,8,12,29,30] [0,1,2,3]<|po1<|po1<|pn1 (nL 1 AX) g<|po1<|Pl.z)<|j (a,g,b,(Option.getD (BR I.1 b) 0)) H
 ·exact ex 2<|qx (by cases H;exact xo rfl<|gP [1,5,6,7,8] [0,1,2,3]<|po1<|po1<|pn1 (nL 1 AX) g<|po1<|Pl.z)
theorem Nk (x:((List Ae)×(List (List Int))×(List (Ae×Int))×Int)) (z:(((List Ae)×(List (List Int))×(List (Ae×Int))×Int)⊕((List Ae)×(List (List Int))))) (H:Dg n f x.1 x.2.1 x.2.2.1 x.2.2.2=some z):WP (cxk 78 0) (AR Try.f59) [1,1,1,1,0,1,0,0] (AO 0 (IF f) (N3) z) (IF f x):=by
 obtain⟨o,p,A,u⟩:=x;refine sq<|sr<|ck 4<|en<|cn H (λ H=>?_)<|λ H=>?_
 ·exact sk<|qz<|sq<|bk 1<|sr<|ck 2<|sp (AS Ax f.Rules)<|ck 1<|en<|bk 2<|bx H λ ab ac H=>lX Nj ac (gP [1,5,6,7,8,29,30] [0,1,2,3]<|po1<|po1<|pn1 (nL 1 AX) p<|po1<|Pl.z) rfl λ s V=>qH<|qN<|qs (V)<|rz<|ck 3<|ae (by cases H;exact og<|gP [1,5,6,7,8] [0,1,2,3]<|po1<|po1<|pn1 (nL 1 AX) ab.2.1<|po1<|Pl.z)
 ·exact ex 0<|qx (by cases H;exact xo rfl<|gP [5,6] [1,2]<|po1<|pn1 (nL 1 AX) p<|Pl.z)
theorem KB {z} (H:GC n f=some z):AQ Try.prog 59 [.agg (Ba f)] (.tup [.own 3 (z.1.map A2),.d (.sl (z.2.map (eL AX)))]):=by
 exact fO 78 (JgN f) Try.func59<|sr<|ck 3<|en<|sr<|bx H λ R af H=>ca false (TQ af)<|ck 2<|en<|sr<|ck 2<|sK true<|ck 2<|en<|sq<|rg (Jaw (sz:=1) (es:=[[.nil]]) 3 (List.map (nL 1 AX) ([[]]:List (List Int))) (by kernel_rfl) (by kernel_rfl))<|ck 2<|sp (Lm (enc:=AX) (encK:=A2) (k:=4) (e1:=λ x=>.int .i64 x) (m:=[]) (l:=[.d<|.int .i64 R.Mode,.d<|.int .i64 R.Last,.d<|.int .u8 R.Need]) (key:=R) (y:=0) (v:=.d<|.int .i64 0) (vz:=[.int .i64 0]) SG)<|ck 2<|en<|sq<|sr<|ck 1<|en<|bk 0<|bx H λ S ag H=>lX Nk ag (gP [1,5,6,7,8] [0,2,3,4]<|po1<|po1<|pn1 (nL 1 AX) ([[]]:List (List Int))<|po1<|Pl.z) rfl λ s W=>qH<|qs (W)<|sr<|ck 4<|ae<|qs (JdN (encN:=(nL 1 AX)) (encD:=(eL AX)) (xss:=S.2) (k:=1) (sz:=1) 3 (by kernel_rfl) (λ _=>rfl)<|λ _=>rfl)<|re (by cases H;exact pr<|rT (vs:=[.osl 0 3 0<|S.1.length,.d<|.sl<|S.2.map<|eL AX]) [0]<|t1 (ao vo)<|t1 (ad vd)<|t0)
end
section
variable (a:Ab)
def JgU:St:=⟨(0,.agg [.d<|.int .i64 a.Modes,.d<|.int .u8 a.Accept,.d<|.sl<|a.Rules.map Ax])::[],[]⟩
variable {a}
theorem RH {z} (H:Mw n a=some z):AQ Try.prog 38 [.agg (Ba a)] (.own 3 (z.map A2)):=by
 exact fO 11 (JgU a) Try.func38<|sr<|ck 2<|en<|sr<|ck 1<|bx H λ b c H=>cl [List.length b.1] (KB c)<|ck 5<|en<|sr<|ck 2<|en<|re (by cases H;exact pr<|rO (v:=.osl 1 3 0<|b.1.length) [1]<|ao vo)
end
section
variable (a:Ab) (b:Ae)
def JgV:St:=⟨(0,.agg [.d<|.int .i64 a.Modes,.d<|.int .u8 a.Accept,.d<|.sl<|a.Rules.map Ax])::(1,.agg [.d<|.int .i64 b.Mode,.d<|.int .i64 b.Last,.d<|.int .u8 b.Need])::[],[]⟩
variable {a b}
theorem KC {z} (H:GD n a b=some z):AQ Try.prog 40 [.agg (Ba a),.agg (NZ b)] (.d (.bool z)):=by
 exact fO 22 (JgV a b) Try.func40<|sr<|ck 3<|en<|sr<|ck 7<|gc 1 (decide<|b.Mode<a.Modes)<|ck 1<|gc 1 (decide<|b.Mode<a.Modes)<|bx H λ c e H=>cG false (leZ) rfl (λ hg=>Jk<|CC e hg) (Or.inl rfl) (CB (λ hh=>hh)<|CB (λ hh=>hh)<|EA) rfl<|pA<|ck 2<|gc 1 ((decide<|b.Mode<a.Modes)&&c)<|bx H λ g f H=>cG false (leZ) rfl (λ hg=>Jk<|CC f hg) (Or.inl rfl) (CB (λ hh=>hh)<|EA) rfl<|pA<|ck 1<|en<|re (by cases H;exact pr rd)
end
section
variable (g:Ab) (a:((List Ae)×(List (List Int)))) (b:(List Bool)) (h:(List Int)) (C:Int) (t:(List Bool)) (A:(List Int)) (i:(List Bool)) (p:(List Int)) (j:(List Bool)) (q:(List Int)) (u:(List Bool)) (o:(List Int)) (c:(List Bool)) (l:(List Int)) (E:Int) (w:(List Bool)) (B:(List Int)) (m:(List Bool)) (r:(List Int))
def JgW:St:=⟨(0,.agg [.d<|.int .i64 g.Modes,.d<|.int .u8 g.Accept,.d<|.sl<|g.Rules.map Ax])::[],[]⟩
def JgX:St:=⟨(1,.ptr 0 0)::(4,.d<|.sl<|a.2.map<|eL AX)::(5,.osl 1 1 0<|b.length)::(6,.osl 2 1 0<|h.length)::(20,.d<|.sl<|a.1.map A2)::(21,.d<|.int .i64 ((a.1.length:Nat):Int))::(22,.d<|.int .i64 C)::[],[some<|.box<|Ba g,some<|.arr 1<|b.map eB,some<|.arr 1<|h.map AX]⟩
def JgY:St:=⟨(4,.d<|.sl<|a.2.map<|eL AX)::(5,.osl 0 1 0<|t.length)::(6,.osl 1 1 0<|A.length)::[],[some<|.arr 1<|t.map eB,some<|.arr 1<|A.map AX]⟩
def JgZ:St:=⟨(1,.ptr 0 0)::(4,.d<|.sl<|a.2.map<|eL AX)::(5,.osl 1 1 0<|i.length)::(6,.osl 2 1 0<|p.length)::(20,.d<|.sl<|a.1.map A2)::(21,.d<|.int .i64 ((a.1.length:Nat):Int))::(22,.d<|.int .i64 C)::[],[some<|.box<|Ba g,some<|.arr 1<|i.map eB,some<|.arr 1<|p.map AX]⟩
def QH:((List Bool)×(List Int))->Ex->St->Prop:=xX 0 0<|λ (y:((List Bool)×(List Int)))=>JgY a y.1 y.2
def KD:((List Bool)×(List Int)×Int)->St:=(λ (x:((List Bool)×(List Int)×Int))=>JgX g a x.1 x.2.1 x.2.2)
def Jg0:St:=⟨(4,.d<|.sl<|a.2.map<|eL AX)::(5,.osl 0 1 0<|j.length)::(6,.osl 1 1 0<|q.length)::[],[some<|.arr 1<|j.map eB,some<|.arr 1<|q.map AX]⟩
def Jg1:St:=⟨(5,.osl 0 1 0<|u.length)::[],[some<|.arr 1<|u.map eB]⟩
def Jg2:St:=⟨(4,.d<|.sl<|a.2.map<|eL AX)::(5,.osl 0 1 0<|c.length)::(6,.osl 1 1 0<|l.length)::(55,.d<|.sl<|o.map AX)::(56,.d<|.int .i64 ((o.length:Nat):Int))::(57,.d<|.int .i64 E)::[],[some<|.arr 1<|c.map eB,some<|.arr 1<|l.map AX]⟩
def Jg3:St:=⟨(4,.d<|.sl<|a.2.map<|eL AX)::(5,.osl 0 1 0<|w.length)::(6,.osl 1 1 0<|B.length)::[],[some<|.arr 1<|w.map eB,some<|.arr 1<|B.map AX]⟩
def Jg4:St:=⟨(4,.d<|.sl<|a.2.map<|eL AX)::(5,.osl 0 1 0<|m.length)::(6,.osl 1 1 0<|r.length)::(55,.d<|.sl<|o.map AX)::(56,.d<|.int .i64 ((o.length:Nat):Int))::(57,.d<|.int .i64 E)::[],[some<|.arr 1<|m.map eB,some<|.arr 1<|r.map AX]⟩
def QI:((List Bool)×(List Int))->Ex->St->Prop:=xX 0 4<|λ (y:((List Bool)×(List Int)))=>Jg3 a y.1 y.2
def KE:((List Bool)×(List Int)×Int)->St:=(λ (x:((List Bool)×(List Int)×Int))=>Jg2 a o x.1 x.2.1 x.2.2)
def QJ:(List Bool)->Ex->St->Prop:=xX 0 2<|λ (y:(List Bool))=>Jg1 y
def KF:((List Bool)×(List Int))->St:=(λ (x:((List Bool)×(List Int)))=>Jg0 a x.1 x.2)
variable {g a b h C t A i p j q u o c l E w B m r}
theorem O9 (x:((List Bool)×(List Int)×Int)) (z:(((List Bool)×(List Int)×Int)⊕((List Bool)×(List Int)))) (H:ED n g a x.1 x.2.1 x.2.2=some z):WP (cxk 75 0) (AR Try.f39) [1,1,1,1,0,1,0,0] (AO 0 (KD g a) (QH a) z) (KD g a x):=by
 obtain⟨b,h,C⟩:=x;refine sr<|ck 1<|en<|sq<|cn H (λ H=>?_)<|λ H=>?_
 ·refine sk<|qz<|sj (λ (x:((List Bool)×(List Int)))=>JgZ g a C x.1 x.2) (λ (x:((List Bool)×(List Int)))=>FG n C x.1 x.2) z ?_ (λ e=>?_)
  ·rintro⟨i,p⟩ H;exact rz<|ck 2<|ae (by cases H;exact og<|sg [1,4,5,6,20,21,22])
  refine bk 1<|sr<|ck 1<|bx H λ ai S H=>sp (AC A2 S)<|ck 4<|en<|sr<|ck 2<|bx H λ aj T H=>ca false (KC T)<|en<|cn H (λ H=>?_)<|λ H=>?_
  ·exact sr<|ck 2<|bx H λ ak K H=>sp (Bs 1 1 K)<|bx H λ l7 J H=>stA eB 1 0 (ty 4) K J<|en<|rg (tr (sn 5 1 1<|B3 J)<|sn 30 1 1<|B3 J)<|ck 3<|bx H λ l8 U H=>sp (Bh AX 2 1 U)<|ck 1<|ae<|qN<|qs (sg [1,4,5,6,20,21,22])<|e (l7,l8) H
  ·exact sk<|qN<|qs (sg [1,4,5,6,20,21,22])<|e (b,h) H
 ·exact ex 0<|qx (by cases H;exact xo rfl<|sg [4,5,6])
theorem Pa (x:((List Bool)×(List Int)×Int)) (z:(((List Bool)×(List Int)×Int)⊕((List Bool)×(List Int)))) (H:EE n a o x.1 x.2.1 x.2.2=some z):WP (cxk 75 0) (AR Try.f39) [1,1,1,1,1,0,0,0,1,0,1,1,1,0,0] (AO 0 (KE a o) (QI a) z) (KE a o x):=by
 obtain⟨c,l,E⟩:=x;refine sr<|ck 1<|en<|sq<|cn H (λ H=>?_)<|λ H=>?_
 ·refine sk<|qz<|sj (λ (x:((List Bool)×(List Int)))=>Jg4 a o E x.1 x.2) (λ (x:((List Bool)×(List Int)))=>FH n E x.1 x.2) z ?_ (λ f=>?_)
  ·rintro⟨m,r⟩ H;exact rz<|ck 2<|ae (by cases H;exact og<|sg [4,5,6,55,56,57])
  refine bk 5<|sr<|bx H λ ap V H=>sp (AC AX V)<|ck 2<|en<|sr<|ck 2<|bx H λ ar L H=>sp (Bs 0 1 L)<|sp (De eB 0 0 (ty 4) L)<|ck 1<|en<|cn H (λ H=>?_)<|λ H=>?_
  ·exact sr<|ck 2<|bx H λ au M H=>sp (Bs 0 1 M)<|bx H λ W G H=>stA eB 0 0 (ty 4) M G<|en<|rg (tr (tr (sn 5 0 1<|B3 G)<|sn 61 0 1<|B3 G)<|sn 66 0 1<|B3 G)<|ck 3<|bx H λ X Y H=>sp (Bh AX 1 1 Y)<|ck 1<|ae<|qN<|qs (sg [4,5,6,55,56,57])<|f (W,X) H
  ·exact sk<|qN<|qs (sg [4,5,6,55,56,57])<|f (c,l) H
 ·exact ex 4<|qx (by cases H;exact xo rfl<|sg [4,5,6])
theorem Pb (x:((List Bool)×(List Int))) (z:(((List Bool)×(List Int))⊕(List Bool))) (H:Hq n a x.1 x.2=some z):WP (cxk 75 0) (AR Try.f39) [1,1,1,1,1,0,0,0] (AO 0 (KF a) (QJ) z) (KF a x):=by
 obtain⟨j,q⟩:=x;refine sq<|sr<|ck 3<|en<|cn H (λ H=>?_)<|λ H=>?_
 ·exact sk<|qz<|bk 3<|sr<|ck 4<|bx H λ av O H=>sp (Bs 1 1 O)<|sp (De AX 1 0 (ty 3) O)<|ck 1<|en<|sr<|ck 4<|bx H λ l9 I H=>sp (WK 1 1 I)<|ck 1<|en<|sq<|rg (Tv (k:=1) (sz:=1) 6 (l9.map AX) (l9.length) (by kernel_rfl) (Tx I) (WH (enc:=AX) I)<|Tz I)<|ck 2<|bx H λ o Z H=>sp (AC (eL AX) Z)<|ck 1<|sp (AS AX o)<|ck 1<|en<|bk 4<|bx H λ aw aa H=>lX Pa aa (sg [4,5,6,55,56,57]) rfl λ s P=>qH<|qN (by cases H;exact og<|tr (P)<|sg [4,5,6])
 ·exact ex 2<|qx (by cases H;exact xo rfl<|sg [5])
theorem TR {z} (H:Ls n g=some z):AQ Try.prog 39 [.agg (Ba g)] (.own 1 (z.map eB)):=by
 exact fO 75 (JgW g) Try.func39<|sr<|ck 2<|en<|sr<|ck 1<|bx H λ a ab H=>ca false (KB ab)<|ck 5<|en<|sr<|ck 1<|sp (AS A2 a.1)<|bx H λ l6 ac H=>sp (JeQ eB 1 ac)<|ck 1<|en<|sr<|ck 1<|en<|sq<|sr<|ck 1<|sp (AS A2 a.1)<|ck 1<|en<|bk 0<|bx H λ ay af H=>lX O9 af (tr (Ay.nilo 6 1 (by kernel_rfl))<|sg [1,4,5,6,20,21,22]) rfl λ s Q=>qH<|qs (Q)<|sq<|bk 2<|bx H λ az ag H=>lX Pb ag (sg [4,5,6]) rfl λ s R=>qH<|qs (R)<|sr<|ck 2<|en<|re (by cases H;exact pr<|rO (v:=.osl 0 1 0<|z.length) [0]<|ao vo)
end
section
variable (a:(List Ai)) (b:Ai) (c:Int)
def Jg5:St:=⟨(0,.d<|.sl<|a.map AB)::(1,.agg [.d<|.int .u8 b.Cell,.d<|.str b.Print,.d<|.int .i64 b.To])::[],[]⟩
def Jg6:St:=⟨(0,.d<|.sl<|a.map AB)::(3,.ptr 0 0)::(7,.d<|.int .i64 ((a.length:Nat):Int))::(8,.d<|.int .i64 c)::[],[some<|.box<|Vs b]⟩
def Jg7:St:=⟨[],[]⟩
def RI:(Unit⊕Int)->Ex->St->Prop:=xS (xX 0 0<|λ (_:Unit)=>Jg7)<|xR ty Try.f80<|λ (y:Int)=>.d<|.int .i64 y
def L5:Int->St:=(λ (x:Int)=>Jg6 a b x)
variable {a b c}
theorem KG (x:Int) (z:(Int⊕(Unit⊕Int))) (H:GE n a b x=some z):WP (cxk 19 0) (AR Try.f80) [1,0,1,0,0] (AO 0 (L5 a b) (RI) z) (L5 a b x):=by
 revert H;generalize x=c;intro H;refine sr<|ck 1<|en<|sq<|cn H (λ H=>?_)<|λ H=>?_
 ·refine sk<|qz<|sq<|bk 1<|sr<|ck 2<|en<|sr<|ck 3<|bx H λ j h H=>sp (AC AB h)<|ck 2<|en<|cn H (λ H=>?_)<|λ H=>?_
  ·exact sr<|ck 2<|en<|re<|qR<|qr (by cases H;exact ro rfl rd)
  ·exact sk<|qN<|qz<|rz<|ck 2<|ae (by cases H;exact og<|sg [0,3,7,8])
 ·exact ex 0<|qx (by cases H;exact xo rfl<|sg [])
theorem Vu {z} (H:Qz n a b=some z):AQ Try.prog 80 [.d (.sl (a.map AB)),.agg (Vs b)] (.d (.int .i64 z)):=by
 refine fO 19 (Jg5 a b) Try.func80<|sr<|ck 2<|en<|sq<|sr<|ck 1<|sp (AS AB a)<|ck 1<|en<|bk 0<|bx H λ i e H=>?_;rcases i with k|l
 ·exact lX KG e (sg [0,3,7,8]) rfl λ s f=>qH<|qs (f)<|sr<|ck 1<|en<|re (by cases H;exact pr rd)
 ·exact lR KG e (sg [0,3,7,8]) rfl λ s g=>qR<|qr (by cases H;exact pr g)
end
section
variable (b:(List Ai)) (a:Ai)
def Jg8:St:=⟨(0,.d<|.sl<|b.map AB)::(1,.agg [.d<|.int .u8 a.Cell,.d<|.str a.Print,.d<|.int .i64 a.To])::[],[]⟩
variable {b a}
theorem TT {z} (H:Lt n b a=some z):AQ Try.prog 77 [.d (.sl (b.map AB)),.agg (Vs a)] (.d (.bool z)):=by
 exact fO 9 (Jg8 b a) Try.func77<|sr<|ck 2<|en<|sr<|ck 2<|bx H λ e c H=>ca false (Vu c)<|ck 2<|en<|re (by cases H;exact pr rd)
end
section
variable (b:BY) (c:(List UInt8)) (e:(List UInt8)) (g:(List UInt8)) (h:(List UInt8)) (f:(List UInt8)) (i:(List UInt8)) (j:(List UInt8)) (k:(List UInt8))
def Jg9:St:=⟨(0,.agg [.d<|.int .i64 b.Side,.d<|.str b.Text])::(1,.d<|.str c)::(2,.d<|.str e)::[],[]⟩
def Jha:St:=⟨(1,.d<|.str g)::(2,.d<|.str h)::(6,.ptr 0 0)::[],[some<|.box [.d<|.int .i64 0,.d<|.str []]]⟩
def Jhb:St:=⟨(1,.d<|.str f)::(2,.d<|.str i)::(6,.ptr 0 0)::[],[some<|.box [.d<|.int .i64 0,.d<|.str []]]⟩
def Jhc:St:=⟨(1,.d<|.str j)::(2,.d<|.str k)::(6,.ptr 0 0)::[],[some<|.box [.d<|.int .i64 0,.d<|.str []]]⟩
def LK:(((List UInt8)×(List UInt8))⊕BY)->Ex->St->Prop:=xS (xX 0 1<|λ (y:((List UInt8)×(List UInt8)))=>Jhc y.1 y.2)<|xR ty Try.f63<|λ (y:BY)=>.agg [.d<|.int .i64 y.Side,.d<|.str y.Text]
def Hg:((List UInt8)×(List UInt8))->St:=(λ (x:((List UInt8)×(List UInt8)))=>Jhb x.1 x.2)
variable {b c e g h f i j k}
theorem GK (x:((List UInt8)×(List UInt8))) (z:(((List UInt8)×(List UInt8))⊕(((List UInt8)×(List UInt8))⊕BY))) (H:D5 n x.1 x.2=some z):WP (cxk 51 0) (AR Try.f63) [1,1,0,0,0] (AO 0 (Hg) (LK) z) (Hg x):=by
 obtain⟨f,i⟩:=x;refine sq<|sr<|ck 4<|gc 1 (!(f==[]))<|pA<|en<|cn H (λ H=>?_)<|λ H=>?_
 ·refine sk<|qz<|bk 2<|sq<|sr<|ck 1<|bx H λ G p H=>sp (FC p)<|ck 1<|bx H λ I q H=>sp (FC q)<|ck 1<|en<|cn H (λ H=>?_)<|λ H=>?_
  ·exact sr<|ck 2<|en<|re<|qr<|qR (by cases H;exact ro rfl rd)
  ·exact sk<|qz<|rz<|ck 1<|bx H λ J r H=>sp (Ll r)<|ck 1<|bx H λ K t H=>sp (Ll t)<|ck 2<|ae<|qN (by cases H;exact og<|sg [1,2,6])
 ·exact ex 1<|qx (by cases H;exact xo rfl<|sg [1,2,6])
theorem Nl {z} (H:FI n b c e=some z):AQ Try.prog 63 [.agg [.d (.int .i64 b.Side),.d (.str b.Text)],.d (.str c),.d (.str e)] (.agg [.d (.int .i64 z.Side),.d (.str z.Text)]):=by
 refine fO 51 (Jg9 b c e) Try.func63<|sr<|ck 2<|en<|sj (λ (x:((List UInt8)×(List UInt8)))=>Jha x.1 x.2) (λ (x:((List UInt8)×(List UInt8)))=>Cv n x.1 x.2) z ?_ (λ a=>?_)
 ·rintro⟨g,h⟩ H;refine sq<|bk 1<|bx H λ u l H=>?_;rcases u with A|B
  ·refine lX GK l (sg [1,2,6]) rfl λ s m=>qH<|qs (m)<|sq<|bk 3<|sr<|ck 3<|en<|cn H (λ H=>?_)<|λ H=>?_
   ·exact sr<|ck 3<|en<|re<|qR<|qr (by cases H;exact pr rd)
   ·refine sr<|ck 3<|en<|cn H (λ H=>?_)<|λ H=>?_
    ·exact sr<|ck 3<|en<|re<|qR<|qr (by cases H;exact pr rd)
    ·exact sk<|qN<|qz<|sr<|ck 2<|en<|re (by cases H;exact pr rd)
  ·exact lR GK l (sg [1,2,6]) rfl λ s o=>qR<|qr (by cases H;exact pr o)
 refine sr<|ck 2<|en<|bk 0<|sr<|ck 2<|en<|cn H (λ H=>?_)<|λ H=>?_
 ·exact rz<|ck 3<|bx H λ C v H=>sp (Qr v)<|ck 1<|ae<|qN<|qs (sg [1,2,6])<|a (C,e) H
 ·refine sr<|ck 2<|en<|cn H (λ H=>?_)<|λ H=>?_
  ·exact rz<|ck 3<|bx H λ E w H=>sp (Qr w)<|ck 1<|ae<|qN<|qs (sg [1,2,6])<|a (c,E) H
  ·refine sr<|ck 2<|en<|cn H (λ H=>?_)<|λ H=>?_
   ·exact sr<|ck 2<|en<|re<|qR<|qr (by cases H;exact pr rd)
   ·exact sk<|qN<|qs (sg [1,2,6])<|a (c,e) H
end
section
variable (e:Aj) (h:Aj)
def Jhd:St:=⟨(0,.agg [.d<|.int .i64 e.Pair.A,.d<|.int .i64 e.Pair.B,.d<|.int .i64 e.Lead.Side,.d<|.str e.Lead.Text])::[],[]⟩
def Jhe:St:=⟨(1,.ptr 0 0)::(2,.ptr 1 0)::[],[some<|.box<|JG h,some<|.box [.d<|.int .i64 0,.d<|.int .i64 0,.d<|.int .i64 0,.d<|.str []]]⟩
variable {e h}
theorem LL {z} (H:EF n e=some z):AQ Try.prog 64 [.agg (JG e)] (.agg [.d (.int .i64 z.Pair.A),.d (.int .i64 z.Pair.B),.d (.int .i64 z.Lead.Side),.d (.str z.Lead.Text)]):=by
 refine fO 48 (Jhd e) Try.func64<|sr<|ck 2<|en<|sq<|sr<|ck 9<|gc 2 (!(decide<|e.Pair.A<e.Pair.B))<|ck 1<|gc 4 (!(decide<|e.Pair.A<e.Pair.B))<|ck 1<|gc 3 ((!(decide<|e.Pair.A<e.Pair.B))&&(e.Pair.A==e.Pair.B))<|pG (g:=(!(decide<|e.Pair.A<e.Pair.B))) (v:=.d<|.bool<|(e.Pair.A==e.Pair.B)&&(e.Lead.Side != 2)) (λ hg=>YT (c:=.gv (!(decide<|e.Pair.A<e.Pair.B))<|.d<|.bool<|e.Pair.A==e.Pair.B) (a:=.gv ((!(decide<|e.Pair.A<e.Pair.B))&&(e.Pair.A==e.Pair.B))<|.d<|.bool<|e.Lead.Side != 2) (b:=.d<|.bool false) rfl rfl rfl ((λ hh=>hh) hg) (λ ht=>by rw[(λ hh=>hh) hg,ht];rfl) trivial)<|pO<|en<|cn H (λ H=>?_)<|λ H=>?_
 ·exact sr<|ck 2<|en<|re<|qr (by cases H;exact pr rd)
 ·refine sk<|qz<|sr<|ck 12<|en<|sj (λ (x:Aj)=>Jhe x) (λ (x:Aj)=>Cz n x) z ?_ (λ f=>?_)
  ·intro h H;exact sr<|ck 2<|en<|re (by cases H;exact pr rd)
  refine sr<|ck 3<|en<|bk 0<|sr<|ck 2<|en<|cn H (λ H=>?_)<|λ H=>?_
  ·exact rz<|ck 3<|ae<|qN<|qs (sg [1,2])<|f ({ Pair:=({ A:=e.Pair.B,B:=e.Pair.A }:Ao),Lead:=({ Side:=2,Text:=e.Lead.Text }:BY) }:Aj) H
  ·refine sr<|ck 2<|en<|cn H (λ H=>?_)<|λ H=>?_
   ·exact rz<|ck 3<|ae<|qN<|qs (sg [1,2])<|f ({ Pair:=({ A:=e.Pair.B,B:=e.Pair.A }:Ao),Lead:=({ Side:=1,Text:=e.Lead.Text }:BY) }:Aj) H
   ·exact sk<|qN<|qs (sg [1,2])<|f ({ Pair:=({ A:=e.Pair.B,B:=e.Pair.A }:Ao),Lead:=e.Lead }:Aj) H
end
section
variable (a:(List Int)) (f:(List Int)) (e:(List Int)) (h:Int) (i:Int) (g:(List Int))
def Jbe:St:=⟨(0,.osl 0 1 0<|a.length)::[],[some<|.arr 1<|a.map eU8]⟩
def Jbf:St:=⟨[],[some<|.arr 1<|f.map eU8]⟩
def Jbg:St:=⟨(0,.osl 0 1 0<|e.length)::(2,.d<|.int .i64 h)::(3,.d<|.int .i64 i)::[],[some<|.arr 1<|e.map eU8]⟩
def Jbh:St:=⟨[],[some<|.arr 1<|g.map eU8]⟩
def Pc:(List Int)->Ex->St->Prop:=xX 1 0<|λ (y:(List Int))=>Jbh y
def JL:((List Int)×Int×Int)->St:=(λ (x:((List Int)×Int×Int))=>Jbg x.1 x.2.1 x.2.2)
variable {a f e h i g}
theorem N4 (x:((List Int)×Int×Int)) (z:(((List Int)×Int×Int)⊕(List Int))) (H:ET n x.1 x.2.1 x.2.2=some z):WP (cxk 28 1) (AR Try.f65) [1,0,0] (AO 1 (JL) (Pc) z) (JL x):=by
 obtain⟨e,h,i⟩:=x;refine sq<|sr<|ck 3<|en<|cn H (λ H=>?_)<|λ H=>?_
 ·exact sk<|qz<|sq<|bk 1<|rz<|ck 6<|bx H λ q j H=>sp (Bs 0 1 j)<|sp (De eU8 0 0 (ty 52) j)<|ck 2<|bx H λ r k H=>sp (Bs 0 1 k)<|sp (De eU8 0 0 (ty 52) k)<|bx H λ t l H=>sp (Bs 0 1 l)<|bx H λ u b H=>stA eU8 0 0 (ty 52) l b<|bx H λ v m H=>sp (JdU 0 1 ((B3 b)) m)<|bx H λ w c H=>stA eU8 0 0 (ty 52) m c<|ae<|qN<|qz<|rg (tr (tr (tr (tr (sn 0 0 1<|Eq.trans (B3 b)<|B3 c)<|sn 14 0 1<|Eq.trans (B3 b)<|B3 c)<|sn 16 0 1<|Eq.trans (B3 b)<|B3 c)<|sn 18 0 1<|Eq.trans (B3 b)<|B3 c)<|sn 22 0 1<|Eq.trans (B3 b)<|B3 c)<|ck 6<|ae (by cases H;exact og<|sg [0,2,3])
 ·exact ex 0<|qx (by cases H;exact xo rfl<|sg [])
theorem RJ {z} (H:Jg n a=some z):BV Try.prog 65 [.osl 0 1 0 (a.length)] [some (.arr 1 (a.map eU8))] 1 (.tup []) [some (.arr 1 (z.map eU8))]:=by
 exact fL 28 1 (Jbe a) Try.func65<|sr<|ck 5<|en<|bk 0<|bx H λ A p H=>lX N4 p (sg [0,2,3]) rfl λ s o=>qH (by cases H;exact pL'<|rl (s':=Jbf z)<|tr (o)<|sg [])
end
section
variable (a:Bq) (b:(List Int)) (c:(List ((List Aj)×Int))) (f:(List Int))
def Jhf:St:=⟨(0,.dptr (H5 a) 0)::[],[]⟩
def Jhg:St:=⟨(0,.d<|dPG Au c)::(3,.osl 0 1 0<|b.length)::[],[some<|.arr 1<|b.map eU8]⟩
def Jhh:St:=⟨(3,.osl 0 1 0<|f.length)::[],[some<|.arr 1<|f.map eU8]⟩
def KH:(List Int)->Ex->St->Prop:=xX 0 0<|λ (y:(List Int))=>Jhh y
def GL:((List Int)×(List<|(List Aj)×Int))->St:=(λ (x:((List Int)×(List<|(List Aj)×Int)))=>Jhg x.1 x.2)
variable {a b c f}
theorem J0 (x:((List Int)×(List ((List Aj)×Int)))) (z:(((List Int)×(List ((List Aj)×Int)))⊕(List Int))) (H:Dt n x.1 x.2=some z):WP (cxk 23 0) (AR Try.f46) [1,1,0,0,0] (AO 0 (GL) (KH) z) (GL x):=by
 obtain⟨b,c⟩:=x;refine sq<|sq<|bx H λ g1 i H=>rg (JeU (e:=Au) 0 (QA i) (by kernel_rfl))<|ck 4<|xpn (xok _ _) Au (t:=117) (tt:=120) (r:=g1.From) (by kernel_rfl)<|en<|cn H (λ H=>?_)<|λ H=>?_
 ·exact sk<|qz<|sq<|bk 1<|rz<|ck 6<|bx H λ m j H=>sp (Bh eU8 0 1 j)<|ck 1<|ae<|qN<|qz<|rz<|ck 5<|ae (by cases H;exact og<|sg [0,3])
 ·exact ex 0<|qx (by cases H;exact xo rfl<|sg [3])
theorem Mz {z} (H:E4 n a=some z):AQ Try.prog 46 [.dptr (H5 a) 0] (.own 1 (z.map eU8)):=by
 exact fO 23 (Jhf a) Try.func46<|sr<|ck 1<|en<|sr<|ck 1<|en<|sq<|bk 0<|bx H λ o k H=>lX J0 k (tr (tr (SD (e:=H5 a) 0 (by kernel_rfl))<|Ay.nilo 3 1 (by kernel_rfl))<|sg [0,3]) rfl λ s g=>qH<|qs (g)<|sr<|ck 1<|bx H λ p l H=>lt [0] (RJ l)<|bx H λ _ h H=>en<|sq<|rg (tr (sn 3 0 1<|SC h)<|sn 20 0 1<|SC h)<|ck 2<|en<|re (by cases H;exact pr<|rO (v:=.osl 0 1 0<|z.length) [0]<|ao vo)
end
section
variable (b:(List Int)) (a:(List Int)) (c:Int)
def Jhi:St:=⟨(0,.d<|.sl<|b.map eU8)::(1,.d<|.sl<|a.map eU8)::[],[]⟩
def Jhj:St:=⟨(0,.d<|.sl<|b.map eU8)::(12,.d<|.sl<|a.map eU8)::(13,.d<|.int .i64 ((a.length:Nat):Int))::(14,.d<|.int .i64 c)::[],[]⟩
def Jhk:St:=⟨[],[]⟩
def Pd:(Unit⊕Bool)->Ex->St->Prop:=xS (xX 0 0<|λ (_:Unit)=>Jhk)<|xR ty Try.f47<|λ (y:Bool)=>.d<|.bool y
def JM:Int->St:=(λ (x:Int)=>Jhj b a x)
variable {b a c}
theorem IG (x:Int) (z:(Int⊕(Unit⊕Bool))) (H:EU n b a x=some z):WP (cxk 26 0) (AR Try.f47) [1,1,0,1,0,0] (AO 0 (JM b a) (Pd) z) (JM b a x):=by
 revert H;generalize x=c;intro H;refine sr<|ck 1<|en<|sq<|cn H (λ H=>?_)<|λ H=>?_
 ·refine sk<|qz<|sq<|bk 1<|sr<|ck 1<|bx H λ k h H=>sp (AC eU8 h)<|ck 3<|en<|sr<|ck 2<|bx H λ l i H=>sp (AC eU8 i)<|ck 3<|en<|cn H (λ H=>?_)<|λ H=>?_
  ·exact sr<|ck 1<|en<|re<|qR<|qr (by cases H;exact ro rfl rd)
  ·exact sk<|qN<|qz<|rz<|ck 2<|ae (by cases H;exact og<|sg [0,12,13,14])
 ·exact ex 0<|qx (by cases H;exact xo rfl<|sg [])
theorem L6 {z} (H:HG n b a=some z):AQ Try.prog 47 [.d (.sl (b.map eU8)),.d (.sl (a.map eU8))] (.d (.bool z)):=by
 refine fO 26 (Jhi b a) Try.func47<|sr<|ck 1<|en<|sq<|sr<|ck 1<|sp (AS eU8 b)<|ck 1<|sp (AS eU8 a)<|ck 1<|en<|cn H (λ H=>?_)<|λ H=>?_
 ·exact sr<|ck 1<|en<|re<|qr (by cases H;exact pr rd)
 ·refine sk<|qz<|sq<|sr<|ck 1<|sp (AS eU8 a)<|ck 1<|en<|bk 0<|bx H λ j e H=>?_;rcases j with m|o
  ·exact lX IG e (sg [0,12,13,14]) rfl λ s f=>qH<|qs (f)<|sr<|ck 1<|en<|re (by cases H;exact pr rd)
  ·exact lR IG e (sg [0,12,13,14]) rfl λ s g=>qR<|qr (by cases H;exact pr g)
end
section
variable (a:(List (List UInt8))) (b:(List UInt8))
def Jhl:St:=⟨(0,.d<|.sl<|a.map eS)::(1,.d<|.str b)::[],[]⟩
variable {a b}
theorem RM {z} (H:C6 n a b=some z):AQ Try.prog 48 [.d (.sl (a.map eS)),.d (.str b)] (.d (.sl (z.map eS))):=by
 refine fO 46 (Jhl a b) Try.func48<|sr<|ck 1<|en<|sq<|bk 0<|sr<|ck 1<|sp (AS eS a)<|ck 2<|en<|cn H (λ H=>?_)<|λ H=>?_
 ·exact sr<|ck 3<|ae<|qs (fz (enc:=eS) (xs:=[b]) 4 0 1)<|re<|qR<|qr (by cases H;exact pr rd)
 ·refine sr<|ck 2<|bx H λ k c H=>sp (AC eS c)<|ck 3<|en<|cn H (λ H=>?_)<|λ H=>?_
  ·exact sr<|ck 2<|bx H λ e f H=>sp (AC eS f)<|ck 3<|ae<|qs (fz (enc:=eS) (xs:=[b,e]) 4 0 1)<|re<|qR<|qr (by cases H;exact pr rd)
  ·refine sr<|ck 2<|bx H λ l g H=>sp (AC eS g)<|ck 3<|en<|cn H (λ H=>?_)<|λ H=>?_
   ·exact sr<|ck 2<|en<|re<|qR<|qr (by cases H;exact pr rd)
   ·refine sr<|ck 1<|sp (AS eS a)<|ck 4<|bx H λ m h H=>sE (λ hg=>AC eS<|CC h hg)<|gc 2 (!(((a.length:Nat):Int)==1))<|pO<|ck 1<|en<|cn H (λ H=>?_)<|λ H=>?_
    ·exact sr<|ck 1<|bx H λ i j H=>sp (AC eS j)<|ck 4<|ae<|qs (fz (enc:=eS) (xs:=[i,b]) 4 0 1)<|re<|qR<|qr (by cases H;exact pr rd)
    ·exact sk<|qN<|qz<|sr<|ck 2<|en<|re (by cases H;exact pr rd)
end
section
variable (f:As) (g:(List Int)) (i:(List (List (List (List UInt8))))) (w:Int) (A:(List (List (List (List UInt8))))) (b:(List (List (List (List UInt8))))) (c:Int) (B:(List (List (List (List UInt8))))) (l:(List (List (List UInt8)))) (a:(List (List (List UInt8)))) (h:Int) (C:(List (List (List (List UInt8))))) (E:(List (List UInt8))) (q:(List Fv)) (G:(List (List UInt8))) (r:Int) (Q:(List (List UInt8))) (L:(List (List UInt8))) (u:Fv) (I:(List (List UInt8))) (M:(List (List UInt8))) (R:Int) (S:(List (List UInt8)))
def Jhm:St:=⟨(0,.dptr (AA f) 0)::(1,.d<|.sl<|g.map eU8)::[],[]⟩
def Jhn:St:=⟨(0,.dptr (AA f) 0)::(1,.d<|.sl<|g.map eU8)::(5,.eptr 0 1 0 0)::(15,.d<|.int .i64 w)::[],[some<|.narr 1<|List.map (nL 1<|eL eS) i]⟩
def Jho:St:=⟨(0,.dptr (AA f) 0)::(1,.d<|.sl<|g.map eU8)::(5,.eptr 0 1 0 0)::[],[some<|.narr 1<|List.map (nL 1<|eL eS) A]⟩
def KI:(List<|List<|List<|List UInt8)->Ex->St->Prop:=xX 0 0<|λ (y:(List<|List<|List<|List UInt8))=>Jho f g y
def GM:((List<|List<|List<|List UInt8)×Int)->St:=(λ (x:((List<|List<|List<|List UInt8)×Int))=>Jhn f g x.1 x.2)
def Jhp:St:=⟨(0,.dptr (AA f) 0)::(1,.d<|.sl<|g.map eU8)::(5,.eptr 0 1 0 0)::(7,.d<|.int .i64 c)::[],[some<|.narr 1<|List.map (nL 1<|eL eS) b]⟩
def Jhq:St:=⟨(5,.eptr 0 1 0 0)::[],[some<|.narr 1<|List.map (nL 1<|eL eS) B]⟩
def Jhr:St:=⟨(0,.dptr (AA f) 0)::(1,.d<|.sl<|g.map eU8)::(5,.eptr 0 1 0 0)::(7,.d<|.int .i64 c)::(8,.osl 1 1 0<|a.length)::(38,.d<|.int .i64 ((l.length:Nat):Int))::(39,.d<|.int .i64 h)::[],[some<|.narr 1<|List.set (List.map (nL 1<|eL eS) b) (Int.toNat<|Bl c 5) [.osl 1 1 0<|a.length],some<|.arr 1<|a.map<|eL eS]⟩
def Jhs:St:=⟨(0,.dptr (AA f) 0)::(1,.d<|.sl<|g.map eU8)::(5,.eptr 0 1 0 0)::(7,.d<|.int .i64 c)::[],[some<|.narr 1<|List.map (nL 1<|eL eS) C]⟩
def Jht:St:=⟨(0,.dptr (AA f) 0)::(1,.d<|.sl<|g.map eU8)::(5,.eptr 0 1 0 0)::(7,.d<|.int .i64 c)::(8,.osl 1 1 0<|a.length)::(9,.d<|.int .i64 h)::(10,.osl 2 1 0<|E.length)::(38,.d<|.int .i64 ((l.length:Nat):Int))::(39,.d<|.int .i64 h)::[],[some<|.narr 1<|List.set (List.map (nL 1<|eL eS) b) (Int.toNat<|Bl c 5) [.osl 1 1 0<|a.length],some<|.arr 1<|a.map<|eL eS,some<|.arr 1<|E.map eS]⟩
def Jhu:St:=⟨(0,.dptr (AA f) 0)::(1,.d<|.sl<|g.map eU8)::(5,.eptr 0 1 0 0)::(7,.d<|.int .i64 c)::(8,.osl 1 1 0<|a.length)::(9,.d<|.int .i64 h)::(10,.d<|.sl<|G.map eS)::(38,.d<|.int .i64 ((l.length:Nat):Int))::(39,.d<|.int .i64 h)::(62,.d<|.sl<|q.map Bm)::(63,.d<|.int .i64 ((q.length:Nat):Int))::(64,.d<|.int .i64 r)::[],[some<|.narr 1<|List.set (List.map (nL 1<|eL eS) b) (Int.toNat<|Bl c 5) [.osl 1 1 0<|a.length],some<|.arr 1<|a.map<|eL eS]⟩
def Jef:St:=⟨(0,.dptr (AA f) 0)::(1,.d<|.sl<|g.map eU8)::(5,.eptr 0 1 0 0)::(7,.d<|.int .i64 c)::(8,.osl 1 1 0<|a.length)::(9,.d<|.int .i64 h)::(10,.d<|.sl<|Q.map eS)::(38,.d<|.int .i64 ((l.length:Nat):Int))::(39,.d<|.int .i64 h)::[],[some<|.narr 1<|List.set (List.map (nL 1<|eL eS) b) (Int.toNat<|Bl c 5) [.osl 1 1 0<|a.length],some<|.arr 1<|a.map<|eL eS]⟩
def Jeg:St:=⟨(0,.dptr (AA f) 0)::(1,.d<|.sl<|g.map eU8)::(5,.eptr 0 1 0 0)::(7,.d<|.int .i64 c)::(8,.osl 1 1 0<|a.length)::(9,.d<|.int .i64 h)::(10,.d<|.sl<|L.map eS)::(38,.d<|.int .i64 ((l.length:Nat):Int))::(39,.d<|.int .i64 h)::(62,.d<|.sl<|q.map Bm)::(63,.d<|.int .i64 ((q.length:Nat):Int))::(64,.d<|.int .i64 r)::[],[some<|.narr 1<|List.set (List.map (nL 1<|eL eS) b) (Int.toNat<|Bl c 5) [.osl 1 1 0<|a.length],some<|.arr 1<|a.map<|eL eS]⟩
def Jeh:St:=⟨(0,.dptr (AA f) 0)::(1,.d<|.sl<|g.map eU8)::(5,.eptr 0 1 0 0)::(7,.d<|.int .i64 c)::(8,.osl 1 1 0<|a.length)::(9,.d<|.int .i64 h)::(10,.d<|.sl<|M.map eS)::(12,.ptr 2 0)::(38,.d<|.int .i64 ((l.length:Nat):Int))::(39,.d<|.int .i64 h)::(62,.d<|.sl<|q.map Bm)::(63,.d<|.int .i64 ((q.length:Nat):Int))::(64,.d<|.int .i64 r)::(86,.d<|.sl<|I.map eS)::(87,.d<|.int .i64 ((I.length:Nat):Int))::(88,.d<|.int .i64 R)::[],[some<|.narr 1<|List.set (List.map (nL 1<|eL eS) b) (Int.toNat<|Bl c 5) [.osl 1 1 0<|a.length],some<|.arr 1<|a.map<|eL eS,some<|.box<|Jgj u]⟩
def Jei:St:=⟨(0,.dptr (AA f) 0)::(1,.d<|.sl<|g.map eU8)::(5,.eptr 0 1 0 0)::(7,.d<|.int .i64 c)::(8,.osl 1 1 0<|a.length)::(9,.d<|.int .i64 h)::(10,.d<|.sl<|S.map eS)::(38,.d<|.int .i64 ((l.length:Nat):Int))::(39,.d<|.int .i64 h)::(62,.d<|.sl<|q.map Bm)::(63,.d<|.int .i64 ((q.length:Nat):Int))::(64,.d<|.int .i64 r)::[],[some<|.narr 1<|List.set (List.map (nL 1<|eL eS) b) (Int.toNat<|Bl c 5) [.osl 1 1 0<|a.length],some<|.arr 1<|a.map<|eL eS]⟩
def KJ:(List<|List UInt8)->Ex->St->Prop:=xX 0 8<|λ (y:(List<|List UInt8))=>Jei f g b c l a h q r y
def GN:((List<|List UInt8)×Int)->St:=(λ (x:((List<|List UInt8)×Int))=>Jeh f g b c l a h q r u I x.1 x.2)
def KK:(List<|List UInt8)->Ex->St->Prop:=xX 0 6<|λ (y:(List<|List UInt8))=>Jef f g b c l a h y
def GO:((List<|List UInt8)×Int)->St:=(λ (x:((List<|List UInt8)×Int))=>Jhu f g b c l a h q x.1 x.2)
def KL:(List<|List<|List<|List UInt8)->Ex->St->Prop:=xX 0 4<|λ (y:(List<|List<|List<|List UInt8))=>Jhs f g c y
def GP:((List<|List<|List UInt8)×Int)->St:=(λ (x:((List<|List<|List UInt8)×Int))=>Jhr f g b c l x.1 x.2)
def KM:(List<|List<|List<|List UInt8)->Ex->St->Prop:=xX 0 2<|λ (y:(List<|List<|List<|List UInt8))=>Jhq y
def GQ:((List<|List<|List<|List UInt8)×Int)->St:=(λ (x:((List<|List<|List<|List UInt8)×Int))=>Jhp f g x.1 x.2)
variable {f g i w A b c B l a h C E q G r Q L u I M R S}
theorem J1 (x:((List (List (List (List UInt8))))×Int)) (z:(((List (List (List (List UInt8))))×Int)⊕(List (List (List (List UInt8)))))) (H:CO n f g x.1 x.2=some z):WP (cxk 109 0) (AR Try.f26) [1,1,0,1,0,0] (AO 0 (GM f g) (KI f g) z) (GM f g x):=by
 obtain⟨i,w⟩:=x;refine sr<|ck 1<|en<|sq<|cn H (λ H=>?_)<|λ H=>?_
 ·exact sk<|qz<|sq<|bk 1<|sr<|ck 2<|en<|bx H λ a9 ab H=>rg (so1 (encN:=(nL 1<|eL eS)) 0 1 ab)<|ck 5<|sp (AS (eL Bm) f.Arcs)<|bx H λ T W H=>sp (JaD 1 (ez:=[.nil]) W)<|bx H λ bd ac H=>sp (Pv 0 1 0 5 (j:=0) ac)<|sp (WL (encN:=(nL 1<|eL eS)) (row:=[.own 1<|a9.map<|eL eS]) (row':=[.osl 1 1 0<|Int.toNat ((f.Arcs.length:Nat):Int)]) (k:=0) (sz:=1) (off:=0) (t:=ty 125) (v:=.osl 1 1 0<|Int.toNat ((f.Arcs.length:Nat):Int)) ab)<|ae<|qN<|qz<|rg (tr (tr (tr (tr (Jf6 (e:=(eL eS)) (n:=((f.Arcs.length:Nat):Int)) 1 (TD W) (by kernel_rfl) rfl)<|sn 24 1 1<|Pu W)<|snr (encN:=(nL 1<|eL eS)) (xs:=i) (n:=w) [.osl 1 1 0<|Int.toNat ((f.Arcs.length:Nat):Int)] 1 0 0 1 1<|Pu W)<|sni (encN:=(nL 1<|eL eS)) (xs:=i) (n:=w) (enc:=(eL eS)) [.osl 1 1 0<|T.length] T 1 0 0 1 1)<|scl (encN:=(nL 1<|eL eS)) (xss:=i) w [.own 1<|T.map<|eL eS] 1 0 T)<|ck 2<|ae (by cases H;exact og<|gP [0,1,5,15] [0]<|pn1 (nL 1<|eL eS) (List.set i w.toNat T)<|Pl.z)
 ·exact ex 0<|qx (by cases H;exact xo rfl<|gP [0,1,5] [0]<|pn1 (nL 1<|eL eS) i<|Pl.z)
theorem J2 (x:((List (List UInt8))×Int)) (z:(((List (List UInt8))×Int)⊕(List (List UInt8)))) (H:Cb n f g b c l a h q r u I x.1 x.2=some z):WP (cxk 109 0) (AR Try.f26) [1,1,1,0,1,0,0,1,0,0,1,1,0,0,1,1,0,0,1,1,1,0,1,0,0,1,1,0,0,1,1,1,0,0] (AO 0 (GN f g b c l a h q r u I) (KJ f g b c l a h q r) z) (GN f g b c l a h q r u I x):=by
 obtain⟨M,R⟩:=x;refine sr<|ck 1<|en<|sq<|cn H (λ H=>?_)<|λ H=>?_
 ·exact sk<|qz<|sq<|bk 9<|sr<|bx H λ be af H=>sp (AC eS af)<|ck 2<|en<|rz<|ck 4<|bx H λ s5 ag H=>sp (Qr ag)<|bx H λ bf ah H=>ca false (RM ah)<|ck 1<|ae<|qN<|qz<|rz<|ck 2<|ae (by cases H;exact og<|gP [0,1,5,7,8,9,10,12,38,39,62,63,64,86,87,88] [0,1,2]<|Pl.n _ (nrH (n:=Int.toNat<|Bl c 5) (row:=[.osl 1 1 0<|a.length]) (row':=[.osl 1 1 0<|a.length]) (nrM (encN:=(nL 1<|eL eS)) (xss:=b) λ _=>rfl) rfl)<|po1<|po1<|Pl.z)
 ·exact ex 8<|qx (by cases H;exact xo rfl<|gP [0,1,5,7,8,9,10,38,39,62,63,64] [0,1]<|Pl.n _ (nrH (n:=Int.toNat<|Bl c 5) (row:=[.osl 1 1 0<|a.length]) (row':=[.osl 1 1 0<|a.length]) (nrM (encN:=(nL 1<|eL eS)) (xss:=b) λ _=>rfl) rfl)<|po1<|Pl.z)
theorem J3 (x:((List (List UInt8))×Int)) (z:(((List (List UInt8))×Int)⊕(List (List UInt8)))) (H:Cc n f g b c l a h q x.1 x.2=some z):WP (cxk 109 0) (AR Try.f26) [1,1,1,0,1,0,0,1,0,0,1,1,0,0,1,1,0,0,1,1,1,0,1,0,0] (AO 0 (GO f g b c l a h q) (KK f g b c l a h) z) (GO f g b c l a h q x):=by
 obtain⟨G,r⟩:=x;refine sr<|ck 1<|en<|sq<|cn H (λ H=>?_)<|λ H=>?_
 ·refine sk<|qz<|sj (λ (x:(List<|List UInt8))=>Jeg f g b c l a h q r x) (λ (x:(List<|List UInt8))=>Du n r x) z ?_ (λ o=>?_)
  ·intro L H;exact rz<|ck 2<|ae (by cases H;exact og<|gP [0,1,5,7,8,9,10,38,39,62,63,64] [0,1]<|Pl.n _ (nrH (n:=Int.toNat<|Bl c 5) (row:=[.osl 1 1 0<|a.length]) (row':=[.osl 1 1 0<|a.length]) (nrM (encN:=(nL 1<|eL eS)) (xss:=b) λ _=>rfl) rfl)<|po1<|Pl.z)
  refine bk 7<|sr<|bx H λ u ai H=>sp (AC Bm ai)<|ck 3<|en<|sq<|sr<|ck 2<|bx H λ bg aj H=>sp (TE eU8 1 aj)<|ck 2<|bx H λ bh ak H=>ca false (L6 ak)<|ck 1<|en<|cn H (λ H=>?_)<|λ H=>?_
  ·exact ex 7<|qx<|qH<|qs (gP [0,1,5,7,8,9,10,38,39,62,63,64] [0,1]<|Pl.n _ (nrH (n:=Int.toNat<|Bl c 5) (row:=[.osl 1 1 0<|a.length]) (row':=[.osl 1 1 0<|a.length]) (nrM (encN:=(nL 1<|eL eS)) (xss:=b) λ _=>rfl) rfl)<|po1<|Pl.z)<|o G H
  ·exact sk<|qz<|sq<|bx H λ _ X H=>bx H λ J O H=>rg (tr (Jf7 (encN:=(nL 1<|eL eS)) (xss:=b) (m:=(Bl c 5)) (n:=(Bl (Be .i64 c ((u.Cells.length:Nat):Int)) 5)) (row:=[.osl 1 1 0<|a.length]) (sz:=1) 0 (by kernel_rfl) O<|OP X)<|XK (enc:=(eL eS)) (es:=List.set (List.map (nL 1<|eL eS) b) (Int.toNat<|Bl c 5) [.osl 1 1 0<|a.length]) (n:=Int.toNat<|Bl (Be .i64 c ((u.Cells.length:Nat):Int)) 5) (row:=[.own 1<|J.map<|eL eS]) (sz:=1) (ys:=J) 0 0 1 [.osl 3 1 0<|J.length] (Jjx O) (by kernel_rfl) rfl (by kernel_rfl))<|ck 3<|sp (AS eU8 u.Cells)<|ck 2<|bx H λ bi al H=>sp (Pv 0 1 0 5 (j:=0) al)<|sp (Jf9 (encN:=(nL 1<|eL eS)) (xss:=b) (m:=(Bl c 5)) (row:=[.osl 1 1 0<|a.length]) (row2:=[.osl 3 1 0<|J.length]) (k:=0) (sz:=1) (off:=0) (t:=ty 125) (v:=.osl 3 1 0<|J.length) O)<|ck 2<|bx H λ I Y H=>sp (Bs 3 1 Y)<|sp (De (eL eS) 3 0 (ty 59) Y)<|sp (AS eS I)<|ck 1<|en<|bk 8<|bx H λ ba am H=>lX J2 am (tr (tr (XL (enc:=(eL eS)) (zs:=J) (es:=List.set (List.map (nL 1<|eL eS) b) (Int.toNat<|Bl c 5) [.osl 1 1 0<|a.length]) (n:=Int.toNat<|Bl (Be .i64 c ((u.Cells.length:Nat):Int)) 5) (row:=[.osl 3 1 0<|J.length]) (sz:=1) 0 0 3 1 [.own 1<|J.map<|eL eS] (by kernel_rfl) rfl rfl)<|Jf8 (encN:=(nL 1<|eL eS)) (xss:=b) (x:=J) (m:=(Bl c 5)) (n:=(Bl (Be .i64 c ((u.Cells.length:Nat):Int)) 5)) (row:=[.osl 1 1 0<|a.length]) (sz:=1) 0 (by kernel_rfl) O<|OP X)<|gP [0,1,5,7,8,9,10,12,38,39,62,63,64,86,87,88] [0,1,2]<|Pl.n _ (nrH (n:=Int.toNat<|Bl c 5) (row:=[.osl 1 1 0<|a.length]) (row':=[.osl 1 1 0<|a.length]) (nrM (encN:=(nL 1<|eL eS)) (xss:=b) λ _=>rfl) rfl)<|po1<|po1<|Pl.z) rfl λ s ap=>qH<|qN<|qs (tr (ap)<|gP [0,1,5,7,8,9,10,38,39,62,63,64] [0,1]<|Pl.n _ (nrH (n:=Int.toNat<|Bl c 5) (row:=[.osl 1 1 0<|a.length]) (row':=[.osl 1 1 0<|a.length]) (nrM (encN:=(nL 1<|eL eS)) (xss:=b) λ _=>rfl) rfl)<|po1<|Pl.z)<|o ba H
 ·exact ex 6<|qx (by cases H;exact xo rfl<|gP [0,1,5,7,8,9,10,38,39] [0,1]<|Pl.n _ (nrH (n:=Int.toNat<|Bl c 5) (row:=[.osl 1 1 0<|a.length]) (row':=[.osl 1 1 0<|a.length]) (nrM (encN:=(nL 1<|eL eS)) (xss:=b) λ _=>rfl) rfl)<|po1<|Pl.z)
theorem J4 (x:((List (List (List UInt8)))×Int)) (z:(((List (List (List UInt8)))×Int)⊕(List (List (List (List UInt8)))))) (H:Cd n f g b c l x.1 x.2=some z):WP (cxk 109 0) (AR Try.f26) [1,1,1,0,1,0,0,1,0,0,1,1,0,0] (AO 0 (GP f g b c l) (KL f g c) z) (GP f g b c l x):=by
 obtain⟨a,h⟩:=x;refine sr<|ck 1<|en<|sq<|cn H (λ H=>?_)<|λ H=>?_
 ·refine sk<|qz<|sq<|bk 5<|sr<|ck 2<|en<|sr<|ck 1<|en<|sj (λ (x:(List<|List UInt8))=>Jht f g b c l a h x) (λ (x:(List<|List UInt8))=>CP n f g b c l a h x) z ?_ (λ p=>?_)
  ·intro E H;exact sq<|sr<|ck 5<|bx H λ q ar H=>sp (AC (eL Bm) ar)<|ck 1<|sp (AS Bm q)<|ck 1<|en<|bk 6<|bx H λ bj au H=>lX J3 au (tr (fz (enc:=eS) (xs:=E) 10 2 1)<|gP [0,1,5,7,8,9,10,38,39,62,63,64] [0,1]<|Pl.n _ (nrH (n:=Int.toNat<|Bl c 5) (row:=[.osl 1 1 0<|a.length]) (row':=[.osl 1 1 0<|a.length]) (nrM (encN:=(nL 1<|eL eS)) (xss:=b) λ _=>rfl) rfl)<|po1<|Pl.z) rfl λ s av=>qH<|qs (av)<|rz<|ck 3<|bx H λ bl Z H=>sp (Bs 1 1 Z)<|bx H λ aw P H=>stA (eL eS) 1 0 (ty 59) Z P<|ae<|qN<|qz<|rg (tr (tr (sn 8 1 1<|B3 P)<|sn 100 1 1<|B3 P)<|snr (encN:=(nL 1<|eL eS)) (xs:=b) (n:=Bl c 5) [.osl 1 1 0<|a.length] 1 0 0 1 1<|B3 P)<|ck 2<|ae (by cases H;exact og<|gP [0,1,5,7,8,38,39] [0,1]<|Pl.n _ (nrH (n:=Int.toNat<|Bl c 5) (row:=[.osl 1 1 0<|aw.length]) (row':=[.osl 1 1 0<|aw.length]) (nrM (encN:=(nL 1<|eL eS)) (xss:=b) λ _=>rfl) rfl)<|po1<|Pl.z)
  refine sr<|ck 2<|sp (AS eU8 g)<|ck 3<|gc 3 (c==((g.length:Nat):Int))<|ck 1<|bx H λ bm ay H=>sE (λ hg=>AC eB<|CC ay hg)<|gc 1 (c==((g.length:Nat):Int))<|pA<|en<|cn H (λ H=>?_)<|λ H=>?_
  ·exact rz<|ck 2<|ae<|qs (gP [0,1,5,7,8,9,10,38,39] [0,1,2]<|Pl.n _ (nrH (n:=Int.toNat<|Bl c 5) (row:=[.osl 1 1 0<|a.length]) (row':=[.osl 1 1 0<|a.length]) (nrM (encN:=(nL 1<|eL eS)) (xss:=b) λ _=>rfl) rfl)<|po1<|po1<|Pl.z)<|p ([[]]) H
  ·exact sk<|qs (tr (Ay.nilo 10 1 (by kernel_rfl))<|gP [0,1,5,7,8,9,10,38,39] [0,1,2]<|Pl.n _ (nrH (n:=Int.toNat<|Bl c 5) (row:=[.osl 1 1 0<|a.length]) (row':=[.osl 1 1 0<|a.length]) (nrM (encN:=(nL 1<|eL eS)) (xss:=b) λ _=>rfl) rfl)<|po1<|po1<|Pl.z)<|p ([]:List (List UInt8)) H
 ·exact ex 4<|qx (by cases H;exact xo rfl<|tr (tr (sni (encN:=(nL 1<|eL eS)) (xs:=b) (n:=Bl c 5) (enc:=(eL eS)) [.osl 1 1 0<|a.length] a 1 0 0 1 1)<|scl (encN:=(nL 1<|eL eS)) (xss:=b) (Bl c 5) [.own 1<|a.map<|eL eS] 1 0 a)<|gP [0,1,5,7] [0]<|pn1 (nL 1<|eL eS) (List.set b (Int.toNat<|Bl c 5) a)<|Pl.z)
theorem J5 (x:((List (List (List (List UInt8))))×Int)) (z:(((List (List (List (List UInt8))))×Int)⊕(List (List (List (List UInt8)))))) (H:Dv n f g x.1 x.2=some z):WP (cxk 109 0) (AR Try.f26) [1,1,1,0,1,0,0] (AO 0 (GQ f g) (KM) z) (GQ f g x):=by
 obtain⟨b,c⟩:=x;refine sq<|sr<|ck 2<|en<|cn H (λ H=>?_)<|λ H=>?_
 ·exact sk<|qz<|sq<|bk 3<|sq<|bx H λ l U H=>rg (tr (so1 (encN:=(nL 1<|eL eS)) 0 1 U)<|sno (encN:=(nL 1<|eL eS)) (enc:=(eL eS)) U [.own 1<|l.map<|eL eS] l 1 0 0 1)<|ck 2<|bx H λ bn az H=>sp (Pv 0 1 0 5 (j:=0) az)<|sp (TC (encN:=(nL 1<|eL eS)) (row:=[.osl 1 1 0<|l.length]) (k:=0) (sz:=1) (off:=0) (t:=ty 125) (v:=.osl 1 1 0<|l.length) U)<|ck 1<|en<|sr<|ck 3<|en<|bk 4<|bx H λ bb a0 H=>lX J4 a0 (gP [0,1,5,7,8,38,39] [0,1]<|Pl.n _ (nrH (n:=Int.toNat<|Bl c 5) (row:=[.osl 1 1 0<|l.length]) (row':=[.osl 1 1 0<|l.length]) (nrM (encN:=(nL 1<|eL eS)) (xss:=b) λ _=>rfl) rfl)<|po1<|Pl.z) rfl λ s a2=>qH<|qN<|qs (a2)<|rz<|ck 3<|ae (by cases H;exact og<|gP [0,1,5,7] [0]<|pn1 (nL 1<|eL eS) bb<|Pl.z)
 ·exact ex 2<|qx (by cases H;exact xo rfl<|gP [5] [0]<|pn1 (nL 1<|eL eS) b<|Pl.z)
theorem MA {z} (H:E5 n f g=some z):AQ Try.prog 26 [.dptr (AA f) 0,.d (.sl (g.map eU8))] (.d (.sl (z.map eS))):=by
 exact fO 109 (Jhm f g) Try.func26<|sr<|ck 1<|en<|sr<|ck 1<|en<|sq<|sq<|rg (tr (tr (JdO 0 [.nil,.nil,.nil,.nil,.nil] (by kernel_rfl))<|Jaw (sz:=1) (es:=[[.nil],[.nil],[.nil],[.nil],[.nil]]) 0 (List.map (nL 1<|eL eS) ([[],[],[],[],[]]:List (List<|List<|List UInt8))) (by kernel_rfl) (by kernel_rfl))<|Jjk 5 0 1 (by kernel_rfl))<|ck 1<|en<|bk 0<|bx H λ bc a3 H=>lX J1 a3 (gP [0,1,5,15] [0]<|pn1 (nL 1<|eL eS) ([[],[],[],[],[]]:List (List<|List<|List UInt8))<|Pl.z) rfl λ s a4=>qH<|qs (a4)<|sq<|sr<|ck 1<|sp (AS eU8 g)<|ck 1<|en<|bk 2<|bx H λ a5 a6 H=>lX J5 a6 (gP [0,1,5,7] [0]<|pn1 (nL 1<|eL eS) bc<|Pl.z) rfl λ s a7=>qH<|qs (a7)<|sq<|bx H λ K V H=>rg (tr (so1 (encN:=(nL 1<|eL eS)) 0 1 V)<|sno (encN:=(nL 1<|eL eS)) (enc:=(eL eS)) V [.own 1<|K.map<|eL eS] K 1 0 0 1)<|bx H λ bp a8 H=>sp (Pv 0 1 0 5 (j:=0) a8)<|sp (TC (encN:=(nL 1<|eL eS)) (row:=[.osl 1 1 0<|K.length]) (k:=0) (sz:=1) (off:=0) (t:=ty 125) (v:=.osl 1 1 0<|K.length) V)<|bx H λ bq aa H=>sp (Bs 1 1 aa)<|sp (De (eL eS) 1 0 (ty 59) aa)<|ck 1<|ae<|qs (tr (sni (encN:=(nL 1<|eL eS)) (xs:=a5) (n:=0) (enc:=(eL eS)) [.osl 1 1 0<|K.length] K 1 0 0 1 1)<|scl (encN:=(nL 1<|eL eS)) (xss:=a5) 0 [.own 1<|K.map<|eL eS] 1 0 K)<|re (by cases H;exact pr rd)
end
end Go.AI
end
section
namespace Go.AI
open Go.Proofs
set_option maxRecDepth 10000
variable {n:Nat}
section
variable (b:Ab) (q:As) (a:(List Ae)) (e:(List Bool)) (j:(List (Ae×Int))) (C:Int) (r:(List (Ae×Int))) (h:(List (Ae×Int))) (A:As) (c:Int) (I:As) (B:Ae) (i:As) (u:Int) (J:As) (E:As)
def Jbi:St:=⟨(0,.agg [.d<|.int .i64 b.Modes,.d<|.int .u8 b.Accept,.d<|.sl<|b.Rules.map Ax])::[],[]⟩
def Jbj:St:=⟨(2,.ptr 0 0)::[],[some<|.box<|DC q (.osl 1 1 0<|q.Arcs.length)<|.osl 2 1 0<|q.Accepts.length,some<|.narr 1<|q.Arcs.map<|nL 3 Bm,some<|.arr 1<|q.Accepts.map eB]⟩
def Jbk:St:=⟨(1,.ptr 0 0)::(3,.d<|.sl<|a.map A2)::(4,.d<|.sl<|e.map eB)::(5,.mp 1)::(22,.d<|.sl<|a.map A2)::(23,.d<|.int .i64 ((a.length:Nat):Int))::(24,.d<|.int .i64 C)::[],[some<|.box<|Ba b,some<|.map true false<|AH A2 AX j]⟩
def Jbl:St:=⟨(1,.ptr 0 0)::(3,.d<|.sl<|a.map A2)::(4,.d<|.sl<|e.map eB)::(5,.mp 1)::[],[some<|.box<|Ba b,some<|.map true false<|AH A2 AX r]⟩
def Nm:(List<|Ae×Int)->Ex->St->Prop:=xX 0 0<|λ (y:(List<|Ae×Int))=>Jbl b a e y
def H7:((List<|Ae×Int)×Int)->St:=(λ (x:((List<|Ae×Int)×Int))=>Jbk b a e x.1 x.2)
def Jbm:St:=⟨(1,.ptr 0 0)::(4,.d<|.sl<|e.map eB)::(5,.mp 1)::(8,.ptr 2 0)::(44,.d<|.sl<|a.map A2)::(45,.d<|.int .i64 ((a.length:Nat):Int))::(46,.d<|.int .i64 c)::[],[some<|.box<|Ba b,some<|.map true false<|AH A2 AX h,some<|.box<|DC A (.osl 3 1 0<|A.Arcs.length)<|.osl 4 1 0<|A.Accepts.length,some<|.narr 1<|A.Arcs.map<|nL 3 Bm,some<|.arr 1<|A.Accepts.map eB]⟩
def Jbn:St:=⟨(8,.ptr 0 0)::[],[some<|.box<|DC I (.osl 1 1 0<|I.Arcs.length)<|.osl 2 1 0<|I.Accepts.length,some<|.narr 1<|I.Arcs.map<|nL 3 Bm,some<|.arr 1<|I.Accepts.map eB]⟩
def Jbo:St:=⟨(1,.ptr 0 0)::(4,.d<|.sl<|e.map eB)::(5,.mp 1)::(8,.ptr 2 0)::(9,.d<|.int .i64 c)::(10,.ptr 3 0)::(44,.d<|.sl<|a.map A2)::(45,.d<|.int .i64 ((a.length:Nat):Int))::(46,.d<|.int .i64 c)::(61,.d<|.sl<|b.Rules.map Ax)::(62,.d<|.int .i64 ((b.Rules.length:Nat):Int))::(63,.d<|.int .i64 u)::[],[some<|.box<|Ba b,some<|.map true false<|AH A2 AX h,some<|.box<|DC i (.osl 4 1 0<|i.Arcs.length)<|.osl 5 1 0<|i.Accepts.length,some<|.box<|NZ B,some<|.narr 1<|i.Arcs.map<|nL 3 Bm,some<|.arr 1<|i.Accepts.map eB]⟩
def Jbp:St:=⟨(1,.ptr 0 0)::(4,.d<|.sl<|e.map eB)::(5,.mp 1)::(8,.ptr 2 0)::(44,.d<|.sl<|a.map A2)::(45,.d<|.int .i64 ((a.length:Nat):Int))::(46,.d<|.int .i64 c)::[],[some<|.box<|Ba b,some<|.map true false<|AH A2 AX h,some<|.box<|DC J (.osl 3 1 0<|J.Arcs.length)<|.osl 4 1 0<|J.Accepts.length,some<|.narr 1<|J.Arcs.map<|nL 3 Bm,some<|.arr 1<|J.Accepts.map eB]⟩
def Jbq:St:=⟨(1,.ptr 0 0)::(4,.d<|.sl<|e.map eB)::(5,.mp 1)::(8,.ptr 2 0)::(9,.d<|.int .i64 c)::(10,.ptr 3 0)::(44,.d<|.sl<|a.map A2)::(45,.d<|.int .i64 ((a.length:Nat):Int))::(46,.d<|.int .i64 c)::(61,.d<|.sl<|b.Rules.map Ax)::(62,.d<|.int .i64 ((b.Rules.length:Nat):Int))::(63,.d<|.int .i64 u)::[],[some<|.box<|Ba b,some<|.map true false<|AH A2 AX h,some<|.box<|DC E (.osl 4 1 0<|E.Arcs.length)<|.osl 5 1 0<|E.Accepts.length,some<|.box<|NZ B,some<|.narr 1<|E.Arcs.map<|nL 3 Bm,some<|.arr 1<|E.Accepts.map eB]⟩
def Nn:As->Ex->St->Prop:=xX 0 4<|λ (y:As)=>Jbp b a e h c y
def H8:(As×Int)->St:=(λ (x:(As×Int))=>Jbo b a e h c B x.1 x.2)
def No:As->Ex->St->Prop:=xX 0 2<|λ (y:As)=>Jbn y
def H9:(As×Int)->St:=(λ (x:(As×Int))=>Jbm b a e h x.1 x.2)
variable {b q a e j C r h A c I B i u J E}
theorem MB (x:((List (Ae×Int))×Int)) (z:(((List (Ae×Int))×Int)⊕(List (Ae×Int)))) (H:DM n b a e x.1 x.2=some z):WP (cxk 110 0) (AR Try.f23) [1,1,1,0,1,0,0] (AO 0 (H7 b a e) (Nm b a e) z) (H7 b a e x):=by
 obtain⟨j,C⟩:=x;refine sr<|ck 1<|en<|sq<|cn H (λ H=>?_)<|λ H=>?_
 ·exact sk<|qz<|sq<|bk 1<|sr<|ck 1<|bx H λ M P H=>sp (AC A2 P)<|ck 4<|en<|rz<|ck 3<|sp (Lm (enc:=AX) (encK:=A2) (k:=1) (e1:=λ x=>.int .i64 x) (m:=j) (l:=[.d<|.int .i64 M.Mode,.d<|.int .i64 M.Last,.d<|.int .u8 M.Need]) (key:=M) (y:=C) (v:=.d<|.int .i64 C) (vz:=[.int .i64 0]) SG)<|ae<|qN<|qz<|rz<|ck 2<|ae (by cases H;exact og<|sg [1,3,4,5,22,23,24])
 ·exact ex 0<|qx (by cases H;exact xo rfl<|sg [1,3,4,5])
theorem MC (x:(As×Int)) (z:((As×Int)⊕As)) (H:CV n b a e h c B x.1 x.2=some z):WP (cxk 110 0) (AR Try.f23) [1,1,1,1,1,0,1,0,0,1,1,0,0,1,1,1,0,0] (AO 0 (H8 b a e h c B) (Nn b a e h c) z) (H8 b a e h c B x):=by
 obtain⟨i,u⟩:=x;refine sr<|ck 1<|en<|sq<|cn H (λ H=>?_)<|λ H=>?_
 ·refine sk<|qz<|sj (λ (x:As)=>Jbq b a e h c B u x) (λ (x:As)=>E6 n u x) z ?_ (λ f=>?_)
  ·intro E H;exact rz<|ck 2<|ae (by cases H;exact og<|gP [1,4,5,8,9,10,44,45,46,61,62,63] [0,1,2,3,4,5]<|po1<|po1<|po1<|po1<|pn1 (nL 3 Bm) E.Arcs<|po1<|Pl.z)
  refine bk 5<|sr<|ck 1<|bx H λ ak Q H=>sp (AC Ax Q)<|ck 4<|en<|sr<|ck 3<|bx H λ p R H=>ca false (OS R)<|ck 6<|en<|sr<|ck 5<|sE (g:=p.2) (λ hg=>Kt (enc:=AX) (encK:=A2) (k:=1) (e1:=λ x=>.int .i64 x) (m:=h) (l:=[.d<|.int .i64 p.1.Mode,.d<|.int .i64 p.1.Last,.d<|.int .u8 p.1.Need]) (key:=p.1) (z:=0) (vz:=[.int .i64 0]) SG false)<|bx H λ al S H=>sE (λ hg=>AC eB<|CC S hg)<|gc 1 p.2<|pA<|en<|cn H (λ H=>?_)<|λ H=>?_
  ·exact bx H λ K w H=>rg (tr (so1 (encN:=(nL 3 Bm)) 4 1 w)<|sno (encN:=(nL 3 Bm)) (enc:=Bm) w [.own 3<|K.map Bm] K 1 4 0 3)<|ck 10<|sp (Bs 4 1 w)<|sp (TC (encN:=(nL 3 Bm)) (row:=[.osl 8 3 0<|K.length]) (k:=4) (sz:=1) (off:=0) (t:=ty 98) (v:=.osl 8 3 0<|K.length) w)<|ck 6<|sp (Kt (enc:=AX) (encK:=A2) (k:=1) (e1:=λ x=>.int .i64 x) (m:=h) (l:=[.d<|.int .i64 p.1.Mode,.d<|.int .i64 p.1.Last,.d<|.int .u8 p.1.Need]) (key:=p.1) (z:=0) (vz:=[.int .i64 0]) SG false)<|ck 2<|bx H λ o T H=>sp (Bh Bm 8 3 T)<|sp (Bs 4 1 w)<|sp (WL (encN:=(nL 3 Bm)) (row:=[.osl 8 3 0<|K.length]) (row':=[.osl 10 3 0<|o.length]) (k:=4) (sz:=1) (off:=0) (t:=ty 98) (v:=.osl 10 3 0<|o.length) w)<|ae<|qN<|qs (tr (tr (tr (tr (tr (sni (encN:=(nL 3 Bm)) (xs:=i.Arcs) (n:=c) (enc:=Bm) [.osl 10 3 0<|o.length] o 1 4 0 10 3)<|scl (encN:=(nL 3 Bm)) (xss:=i.Arcs) c [.own 3<|o.map Bm] 1 4 o)<|sn 87 4 1<|lsS i.Arcs c.toNat o)<|sn 92 4 1<|lsS i.Arcs c.toNat o)<|snc 2 0 4 1<|lsS i.Arcs c.toNat o)<|gP [1,4,5,8,9,10,44,45,46,61,62,63] [0,1,2,3,4,5]<|po1<|po1<|po1<|po1<|pn1 (nL 3 Bm) (List.set i.Arcs c.toNat o)<|po1<|Pl.z)<|f ({ Arcs:=List.set i.Arcs c.toNat o,Accepts:=i.Accepts,Alive:=i.Alive }:As) H
  ·exact sk<|qN<|qs (gP [1,4,5,8,9,10,44,45,46,61,62,63] [0,1,2,3,4,5]<|po1<|po1<|po1<|po1<|pn1 (nL 3 Bm) i.Arcs<|po1<|Pl.z)<|f i H
 ·exact ex 4<|qx (by cases H;exact xo rfl<|gP [1,4,5,8,44,45,46] [0,1,2,4,5]<|po1<|po1<|po1<|pn1 (nL 3 Bm) i.Arcs<|po1<|Pl.z)
theorem MD (x:(As×Int)) (z:((As×Int)⊕As)) (H:DN n b a e h x.1 x.2=some z):WP (cxk 110 0) (AR Try.f23) [1,1,1,1,1,0,1,0,0] (AO 0 (H9 b a e h) (No) z) (H9 b a e h x):=by
 obtain⟨A,c⟩:=x;refine sr<|ck 1<|en<|sq<|cn H (λ H=>?_)<|λ H=>?_
 ·exact sk<|qz<|sq<|bk 3<|sr<|ck 1<|bx H λ B U H=>sp (AC A2 U)<|ck 4<|en<|sr<|ck 7<|bx H λ am V H=>ca false (KC V)<|bx H λ ap O H=>sp (Bs 4 1 O)<|bx H λ ar L H=>stA eB 4 0 (ty 4) O L<|en<|sq<|rg (tr (sn 54 4 1<|B3 L)<|snc 2 1 4 1<|B3 L)<|ck 2<|sp (AS Ax b.Rules)<|ck 1<|en<|bk 4<|bx H λ ai W H=>lX MC W (gP [1,4,5,8,9,10,44,45,46,61,62,63] [0,1,2,5,3,4]<|po1<|po1<|po1<|po1<|pn1 (nL 3 Bm) A.Arcs<|po1<|Pl.z) rfl λ s X=>qH<|qN<|qs (X)<|rz<|ck 2<|ae (by cases H;exact og<|gP [1,4,5,8,44,45,46] [0,1,2,3,4]<|po1<|po1<|po1<|pn1 (nL 3 Bm) ai.Arcs<|po1<|Pl.z)
 ·exact ex 2<|qx (by cases H;exact xo rfl<|gP [8] [2,3,4]<|po1<|pn1 (nL 3 Bm) A.Arcs<|po1<|Pl.z)
theorem JN {z} (H:FJ n b=some z):BV Try.prog 23 [.agg (Ba b)] [] 0 (.ptr 0 0) [some (.box (DC z (.osl 1 1 0 (z.Arcs.length)) (.osl 2 1 0 (z.Accepts.length)))),some (.narr 1 (z.Arcs.map (nL 3 Bm))),some (.arr 1 (z.Accepts.map eB))]:=by
 exact fL 110 0 (Jbi b) Try.func23<|sr<|ck 2<|en<|sr<|ck 1<|bx H λ a Y H=>ca false (RH Y)<|ck 1<|bx H λ e Z H=>ca false (TR Z)<|ck 2<|en<|sr<|ck 1<|sp (AS A2 a)<|ck 2<|en<|sq<|sr<|ck 1<|sp (AS A2 a)<|ck 1<|en<|bk 0<|bx H λ h aa H=>lX MB aa (sg [1,3,4,5,22,23,24]) rfl λ s ab=>qH<|qs (ab)<|sr<|ck 1<|sp (AS A2 a)<|bx H λ aj G H=>sp (JaD 1 (ez:=[.nil]) G)<|ck 1<|sp (AS A2 a)<|bx H λ au ac H=>sp (JeQ eB 1 ac)<|ck 1<|bx H λ av af H=>sp (AC eB af)<|ck 4<|en<|sq<|sq<|rg (tr (tr (JfR (encN:=(nL 3 Bm)) (sz:=1) (z:=[.nil]) (n:=((a.length:Nat):Int)) 2 (TD G) (by kernel_rfl) (by kernel_rfl))<|sn 35 2 1<|Pu G)<|snc 4 0 2 1<|Pu G)<|ck 1<|sp (AS A2 a)<|ck 1<|en<|bk 2<|bx H λ aw ag H=>lX MD ag (gP [1,4,5,8,44,45,46] [0,1,4,2,3]<|po1<|po1<|po1<|pn1 (nL 3 Bm) aj<|po1<|Pl.z) rfl λ s ah=>qH<|qs (ah)<|sr<|ck 2<|en<|re (by cases H;exact pL<|rl (s':=Jbj z)<|gP [2] [0,1,2]<|po1<|pn1 (nL 3 Bm) z.Arcs<|po1<|Pl.z)
end
section
variable (a:As)
def Jbr:St:=⟨(0,.dptr (AA a) 0)::[],[]⟩
def Jbs:St:=⟨(2,.ptr 0 0)::[],[some<|.box [.dptr (AA a) 0,.osl 1 2 0<|List.length ([]:List Ad),.mp 2,.osl 3 1 0<|List.length ([]:List (Option<|List Ai)),.mp 4],some<|.arr 2<|List.map An ([]:List Ad),some<|.map true false<|AH An AX [],some<|.arr 1<|List.map (eOp AB) ([]:List (Option<|List Ai)),some<|.map true true<|AH AZ A4 []]⟩
variable {a}
theorem N5 {z} (H:LX n a=some z):BV Try.prog 24 [.dptr (AA a) 0] [] 0 (.ptr 0 0) [some (.box [.dptr (AA a) 0,.osl 1 2 0 (List.length ([]:List Ad)),.mp 2,.osl 3 1 0 (List.length ([]:List (Option (List Ai)))),.mp 4]),some (.arr 2 (List.map An ([]:List Ad))),some (.map true false (AH An AX [])),some (.arr 1 (List.map (eOp AB) ([]:List (Option (List Ai))))),some (.map true true (AH AZ A4 []))]:=by
 exact fL 8 0 (Jbr a) Try.func24<|sr<|ck 1<|en<|sr<|ck 6<|en<|re (by cases H;exact pL<|rl (s':=Jbs a)<|tr (tr (Cu 2 1 2 (by kernel_rfl))<|Cu 2 3 1 (by kernel_rfl))<|sg [2])
end
section
variable (c:Ad) (b:As) (e:(List Ad)) (f:(List (Ad×Int))) (g:(List (Option (List Ai)))) (h:(List (Ao×Ap))) (s:(List (Ad×Int))) (p:(List Ad)) (q:(List (Option (List Ai)))) (t:Int) (o:(List (Ad×Int))) (i:(List Ad)) (j:(List (Option (List Ai)))) (r:Int)
def Jbt:St:=⟨(0,.ptr 0 0)::(1,.agg [.d<|.int .i64 c.State,.d<|.str c.Rest])::[],[some<|.box [.dptr (AA b) 0,.osl 1 2 0<|e.length,.mp 2,.osl 3 1 0<|g.length,.mp 4],some<|.arr 2<|e.map An,some<|.map true false<|AH An AX f,some<|.arr 1<|g.map<|eOp AB,some<|.map true true<|AH AZ A4 h]⟩
def Jbu:St:=⟨(4,.d<|.int .i64 t)::[],[some<|.box [.dptr (AA b) 0,.osl 5 2 0<|p.length,.mp 2,.osl 6 1 0<|q.length,.mp 4],none,some<|.map true false<|AH An AX s,none,some<|.map true true<|AH AZ A4 h,some<|.arr 2<|p.map An,some<|.arr 1<|q.map<|eOp AB]⟩
def Jbv:St:=⟨(5,.d<|.int .i64 r)::[],[some<|.box [.dptr (AA b) 0,.osl 5 2 0<|i.length,.mp 2,.osl 6 1 0<|j.length,.mp 4],none,some<|.map true false<|AH An AX o,none,some<|.map true true<|AH AZ A4 h,some<|.arr 2<|i.map An,some<|.arr 1<|j.map<|eOp AB]⟩
variable {c b e f g h s p q t o i j r}
theorem D8 {z} (H:Cn n c b e f g h=some z):BV Try.prog 42 [.ptr 0 0,.agg [.d (.int .i64 c.State),.d (.str c.Rest)]] [some (.box [.dptr (AA b) 0,.osl 1 2 0 (e.length),.mp 2,.osl 3 1 0 (g.length),.mp 4]),some (.arr 2 (e.map An)),some (.map true false (AH An AX f)),some (.arr 1 (g.map (eOp AB))),some (.map true true (AH AZ A4 h))] 5 (.d (.int .i64 z.2.2.2)) [some (.box [.dptr (AA b) 0,.osl 5 2 0 (z.2.1.length),.mp 2,.osl 6 1 0 (z.2.2.1.length),.mp 4]),none,some (.map true false (AH An AX z.1)),none,some (.map true true (AH AZ A4 h)),some (.arr 2 (z.2.1.map An)),some (.arr 1 (z.2.2.1.map (eOp AB)))]:=by
 refine fL 49 5 (Jbt c b e f g h) Try.func42<|sr<|ck 2<|en<|sr<|ck 5<|sp (Kt (enc:=AX) (encK:=An) (k:=2) (e1:=λ x=>.int .i64 x) (m:=f) (l:=[.d<|.int .i64 c.State,.d<|.str c.Rest]) (key:=c) (z:=0) (vz:=[.int .i64 0]) Jbc true)<|ck 5<|en<|sj (λ (x:((List<|Ad×Int)×(List Ad)×(List<|Option<|List Ai)×Int))=>Jbv b h x.1 x.2.1 x.2.2.1 x.2.2.2) (λ (x:((List<|Ad×Int)×(List Ad)×(List<|Option<|List Ai)×Int))=>D6 n x.1 x.2.1 x.2.2.1 x.2.2.2) z ?_ (λ a=>?_)
 ·rintro⟨o,i,j,r⟩ H;exact sr<|ck 2<|en<|re (by cases H;exact pL<|rl (s':=Jbu b h o i j r)<|sg [4])
 refine sr<|ck 2<|en<|cn H (λ H=>?_)<|λ H=>?_
 ·exact sr<|ck 6<|en<|sr<|ck 6<|sp (Lm (enc:=AX) (encK:=An) (k:=2) (e1:=λ x=>.int .i64 x) (m:=f) (l:=[.d<|.int .i64 c.State,.d<|.str c.Rest]) (key:=c) (y:=((e.length:Nat):Int)) (v:=.d<|.int .i64 ((e.length:Nat):Int)) (vz:=[.int .i64 0]) Jbc)<|en<|rz<|ck 8<|bx H λ A u H=>sp (Bh An 1 2 u)<|ck 5<|bx H λ B w H=>sp (Bh (eOp AB) 3 1 w)<|ck 6<|ae<|qs (sg [5])<|a ((Eh c ((e.length:Nat):Int) f),A,B,((e.length:Nat):Int)) H
 ·exact sk<|qs (tr (tr (EB (k:=1) (sz:=2) 0 1 (e.map An) (e.length) (by kernel_rfl) B1 leM rfl)<|EB (k:=3) (sz:=1) 0 3 (g.map<|eOp AB) (g.length) (by kernel_rfl) B1 leM rfl)<|sg [5])<|a (f,e,g,(Option.getD (BR c f) 0)) H
end
section
variable (c:Aj) (b:As) (e:(List Ad)) (g:(List (Ad×Int))) (f:(List (Option (List Ai)))) (h:(List (Ao×Ap))) (o:(List (Ao×Ap))) (p:Bool) (i:Ap) (l:Int)
def Jbw:St:=⟨(0,.ptr 0 0)::(1,.agg [.d<|.int .i64 c.Pair.A,.d<|.int .i64 c.Pair.B,.d<|.int .i64 c.Lead.Side,.d<|.str c.Lead.Text])::[],[some<|.box [.dptr (AA b) 0,.osl 1 2 0<|e.length,.mp 2,.osl 3 1 0<|f.length,.mp 4],some<|.arr 2<|e.map An,some<|.map true false<|AH An AX g,some<|.arr 1<|f.map<|eOp AB,some<|.map true true<|AH AZ A4 h]⟩
def QK:St:=⟨(4,.d<|.bool p)::[],[some<|.box [.dptr (AA b) 0,.osl 1 2 0<|e.length,.mp 2,.osl 3 1 0<|f.length,.mp 4],some<|.arr 2<|e.map An,some<|.map true false<|AH An AX g,some<|.arr 1<|f.map<|eOp AB,some<|.map true true<|AH AZ A4 o]⟩
def Jbx:St:=⟨(0,.ptr 0 0)::(3,.ptr 5 0)::(5,.ptr 6 0)::(18,.bsl 6 1 2 i.N.toNat)::(19,.d<|.int .i64 ((Int.toNat i.N:Nat):Int))::(20,.d<|.int .i64 l)::[],[some<|.box [.dptr (AA b) 0,.osl 1 2 0<|e.length,.mp 2,.osl 3 1 0<|f.length,.mp 4],some<|.arr 2<|e.map An,some<|.map true false<|AH An AX g,some<|.arr 1<|f.map<|eOp AB,some<|.map true true<|AH AZ A4 h,some<|.box<|JG c,some<|.box<|Jfc i]⟩
def Jby:St:=⟨(0,.ptr 0 0)::(3,.ptr 5 0)::(5,.ptr 6 0)::[],[some<|.box [.dptr (AA b) 0,.osl 1 2 0<|e.length,.mp 2,.osl 3 1 0<|f.length,.mp 4],some<|.arr 2<|e.map An,some<|.map true false<|AH An AX g,some<|.arr 1<|f.map<|eOp AB,some<|.map true true<|AH AZ A4 h,some<|.box<|JG c,some<|.box<|Jfc i]⟩
def Jl:(Unit⊕((List<|Ao×Ap)×Bool))->Ex->St->Prop:=xS (xX 5 0<|λ (_:Unit)=>Jby c b e g f h i)<|xL 5 ty Try.f43 (λ (y:((List<|Ao×Ap)×Bool))=>.d<|.bool y.2)<|λ (y:((List<|Ao×Ap)×Bool))=>[some<|.box [.dptr (AA b) 0,.osl 1 2 0<|e.length,.mp 2,.osl 3 1 0<|f.length,.mp 4],some<|.arr 2<|e.map An,some<|.map true false<|AH An AX g,some<|.arr 1<|f.map<|eOp AB,some<|.map true true<|AH AZ A4 y.1]
def FO:Int->St:=(λ (x:Int)=>Jbx c b e g f h i x)
variable {c b e g f h o p i l}
theorem Ft (x:Int) (z:(Int⊕(Unit⊕((List (Ao×Ap))×Bool)))) (H:Co n c b e g f h i x=some z):WP (cxk 54 5) (AR Try.f43) [1,1,0,1,0,0] (AO 5 (FO c b e g f h i) (Jl c b e g f h i) z) (FO c b e g f h i x):=by
 revert H;generalize x=l;intro H;refine sr<|ck 1<|en<|sq<|cn H (λ H=>?_)<|λ H=>?_
 ·refine sk<|qz<|sq<|bk 1<|sr<|bx H λ t q H=>sp (Jd8 6 1 2 q)<|sp (Jd6 (enc:=Jba) 6 1 2 2 (ty 113) (λ _=>rfl)<|JaO q)<|ck 2<|en<|sr<|ck 6<|gc 2 (!((t.Side==c.Lead.Side)&&((t.Text==c.Lead.Text)&&true)))<|pO<|en<|cn H (λ H=>?_)<|λ H=>?_
  ·exact sr<|ck 1<|en<|re<|qR<|qr (by cases H;exact lo rfl<|rl (s':=QK b e g f h false)<|sg [4])
  ·exact sk<|qN<|qz<|rz<|ck 2<|ae (by cases H;exact og<|sg [0,3,5,18,19,20])
 ·exact ex 0<|qx (by cases H;exact xo rfl<|sg [0,3,5])
theorem GS {z} (H:C1 n c b e g f h=some z):BV Try.prog 43 [.ptr 0 0,.agg (JG c)] [some (.box [.dptr (AA b) 0,.osl 1 2 0 (e.length),.mp 2,.osl 3 1 0 (f.length),.mp 4]),some (.arr 2 (e.map An)),some (.map true false (AH An AX g)),some (.arr 1 (f.map (eOp AB))),some (.map true true (AH AZ A4 h))] 5 (.d (.bool z.2)) [some (.box [.dptr (AA b) 0,.osl 1 2 0 (e.length),.mp 2,.osl 3 1 0 (f.length),.mp 4]),some (.arr 2 (e.map An)),some (.map true false (AH An AX g)),some (.arr 1 (f.map (eOp AB))),some (.map true true (AH AZ A4 z.1))]:=by
 refine fL 54 5 (Jbw c b e g f h) Try.func43<|sr<|ck 2<|en<|sr<|ck 6<|bx H λ i u H=>sp (Y4 (enc:=A4) (encK:=AZ) (ka:=true) (va:=true) (k:=4) (m:=h) (a:=.agg [.d<|.int .i64 c.Pair.A,.d<|.int .i64 c.Pair.B]) (key:=c.Pair) (z:=(⟨0,⟨⟨0,[]⟩,⟨0,[]⟩⟩⟩:Ap)) (vz:=[.int .i64 0,.int .i64 0,.str [],.int .i64 0,.str []]) Jbd u)<|ck 2<|en<|sq<|sr<|ck 3<|bx H λ K w H=>sp (Jf5 6 1 2 2 w)<|ck 2<|en<|bk 0<|bx H λ J r H=>?_;rcases J with L|M
 ·refine lX Ft r (sg [0,3,5,18,19,20]) rfl λ s C=>qH<|qs (C)<|sq<|sr<|ck 3<|en<|cn H (λ H=>?_)<|λ H=>?_
  ·exact sr<|ck 1<|en<|re<|qr (by cases H;exact pL<|rl (s':=QK b e g f h false)<|sg [4])
  ·exact sk<|qz<|sr<|ck 5<|bx H λ O E H=>sp (JaL 6 1 2 2 E)<|bx H λ j G H=>sp (Jd7 (enc:=Jba) (v:=.agg [.d<|.int .i64 c.Lead.Side,.d<|.str c.Lead.Text]) 6 1 2 2 (ty 113) ⟨0,[]⟩ (λ _=>rfl) G)<|en<|sr<|ck 5<|en<|sr<|ck 7<|sp (Jd4 (enc:=A4) (encK:=AZ) (ka:=true) (va:=true) (k:=4) (m:=h) (a:=.agg [.d<|.int .i64 c.Pair.A,.d<|.int .i64 c.Pair.B]) (key:=c.Pair) (y:=({ N:=Be .i64 i.N 1,Leads:=({ a0:=(List.getD j 0 (⟨0,[]⟩:BY)),a1:=(List.getD j 1 (⟨0,[]⟩:BY)) }:(EC BY)) }:Ap)) (v:=.agg [.d<|.int .i64<|Be .i64 i.N 1,.d<|.int .i64<|(List.getD j 0 (⟨0,[]⟩:BY)).Side,.d<|.str<|(List.getD j 0 (⟨0,[]⟩:BY)).Text,.d<|.int .i64<|(List.getD j 1 (⟨0,[]⟩:BY)).Side,.d<|.str<|(List.getD j 1 (⟨0,[]⟩:BY)).Text]) (vz:=[.int .i64 0,.int .i64 0,.str [],.int .i64 0,.str []]) Jbd)<|en<|sr<|ck 1<|en<|re (by cases H;exact pL<|rl (s':=QK b e g f (Eh c.Pair ({ N:=Be .i64 i.N 1,Leads:=({ a0:=(List.getD j 0 (⟨0,[]⟩:BY)),a1:=(List.getD j 1 (⟨0,[]⟩:BY)) }:(EC BY)) }:Ap) h) true)<|sg [4])
 ·exact lL Ft r (sg [0,3,5,18,19,20]) rfl λ s I=>qR<|qr (by cases H;exact pL I)
end
section
variable (e:Int) (a:As) (u:(List Ad)) (G:(List (Ad×Int))) (v:(List (Option (List Ai)))) (c:(List (Ao×Ap))) (U:(List (Ad×Int))) (J:(List Ad)) (K:(List (Option (List Ai)))) (V:(List Ai)) (R:(List (Ad×Int))) (l:(List Ai)) (L:(List Ad)) (S:(List (Option (List Ai)))) (i:(List Fv)) (w:(List (Ad×Int))) (b:(List Ai)) (m:(List Ad)) (o:(List (Option (List Ai)))) (j:Int) (ac:(List (Ad×Int))) (A:(List Ai)) (aa:(List Ad)) (M:(List (Option (List Ai)))) (O:(List (Ad×Int))) (p:(List Ai)) (C:(List Ad)) (E:(List (Option (List Ai)))) (t:Fv) (q:(List Int)) (P:Int) (B:(List Int))
def Jbz:St:=⟨(0,.ptr 0 0)::(1,.d<|.int .i64 e)::[],[some<|.box [.dptr (AA a) 0,.osl 1 2 0<|u.length,.mp 2,.osl 3 1 0<|v.length,.mp 4],some<|.arr 2<|u.map An,some<|.map true false<|AH An AX G,some<|.arr 1<|v.map<|eOp AB,some<|.map true true<|AH AZ A4 c]⟩
def Vv:St:=⟨(4,.d<|.sl<|V.map AB)::[],[some<|.box [.dptr (AA a) 0,.osl 5 2 0<|J.length,.mp 2,.osl 6 1 0<|K.length,.mp 4],none,some<|.map true false<|AH An AX U,none,some<|.map true true<|AH AZ A4 c,some<|.arr 2<|J.map An,some<|.arr 1<|K.map<|eOp AB]⟩
def JbA:St:=⟨(0,.ptr 0 0)::(1,.d<|.int .i64 e)::(5,.osl 5 3 0<|l.length)::[],[some<|.box [.dptr (AA a) 0,.osl 6 2 0<|L.length,.mp 2,.osl 7 1 0<|S.length,.mp 4],none,some<|.map true false<|AH An AX R,none,some<|.map true true<|AH AZ A4 c,some<|.arr 3<|l.map AB,some<|.arr 2<|L.map An,some<|.arr 1<|S.map<|eOp AB]⟩
def JbB:St:=⟨(0,.ptr 0 0)::(1,.d<|.int .i64 e)::(5,.osl 5 3 0<|b.length)::(64,.d<|.sl<|i.map Bm)::(65,.d<|.int .i64 ((i.length:Nat):Int))::(66,.d<|.int .i64 j)::[],[some<|.box [.dptr (AA a) 0,.osl 6 2 0<|m.length,.mp 2,.osl 7 1 0<|o.length,.mp 4],none,some<|.map true false<|AH An AX w,none,some<|.map true true<|AH AZ A4 c,some<|.arr 3<|b.map AB,some<|.arr 2<|m.map An,some<|.arr 1<|o.map<|eOp AB]⟩
def JbC:St:=⟨(0,.ptr 0 0)::(1,.d<|.int .i64 e)::(5,.osl 5 3 0<|A.length)::[],[some<|.box [.dptr (AA a) 0,.osl 6 2 0<|aa.length,.mp 2,.osl 7 1 0<|M.length,.mp 4],none,some<|.map true false<|AH An AX ac,none,some<|.map true true<|AH AZ A4 c,some<|.arr 3<|A.map AB,some<|.arr 2<|aa.map An,some<|.arr 1<|M.map<|eOp AB]⟩
def JbD:St:=⟨(0,.ptr 0 0)::(1,.d<|.int .i64 e)::(5,.osl 5 3 0<|p.length)::(64,.d<|.sl<|i.map Bm)::(65,.d<|.int .i64 ((i.length:Nat):Int))::(66,.d<|.int .i64 j)::[],[some<|.box [.dptr (AA a) 0,.osl 6 2 0<|C.length,.mp 2,.osl 7 1 0<|E.length,.mp 4],none,some<|.map true false<|AH An AX O,none,some<|.map true true<|AH AZ A4 c,some<|.arr 3<|p.map AB,some<|.arr 2<|C.map An,some<|.arr 1<|E.map<|eOp AB]⟩
def JbE:St:=⟨(0,.ptr 0 0)::(1,.d<|.int .i64 e)::(5,.osl 5 3 0<|b.length)::(8,.ptr 6 0)::(9,.osl 7 1 0<|q.length)::(64,.d<|.sl<|i.map Bm)::(65,.d<|.int .i64 ((i.length:Nat):Int))::(66,.d<|.int .i64 j)::(71,.d<|.sl<|t.Cells.map eU8)::(72,.d<|.int .i64 ((t.Cells.length:Nat):Int))::(73,.d<|.int .i64 P)::[],[some<|.box [.dptr (AA a) 0,.osl 8 2 0<|m.length,.mp 2,.osl 9 1 0<|o.length,.mp 4],none,some<|.map true false<|AH An AX w,none,some<|.map true true<|AH AZ A4 c,some<|.arr 3<|b.map AB,some<|.box<|Jgj t,some<|.arr 1<|q.map eU8,some<|.arr 2<|m.map An,some<|.arr 1<|o.map<|eOp AB]⟩
def JbF:St:=⟨(0,.ptr 0 0)::(1,.d<|.int .i64 e)::(5,.osl 5 3 0<|b.length)::(8,.ptr 6 0)::(9,.osl 7 1 0<|B.length)::(64,.d<|.sl<|i.map Bm)::(65,.d<|.int .i64 ((i.length:Nat):Int))::(66,.d<|.int .i64 j)::[],[some<|.box [.dptr (AA a) 0,.osl 8 2 0<|m.length,.mp 2,.osl 9 1 0<|o.length,.mp 4],none,some<|.map true false<|AH An AX w,none,some<|.map true true<|AH AZ A4 c,some<|.arr 3<|b.map AB,some<|.box<|Jgj t,some<|.arr 1<|B.map eU8,some<|.arr 2<|m.map An,some<|.arr 1<|o.map<|eOp AB]⟩
def KN:(List Int)->Ex->St->Prop:=xX 5 2<|λ (y:(List Int))=>JbF e a c i w b m o j t y
def GT:((List Int)×Int)->St:=(λ (x:((List Int)×Int))=>JbE e a c i w b m o j t x.1 x.2)
def KO:((List<|Ad×Int)×(List Ai)×(List Ad)×(List<|Option<|List Ai))->Ex->St->Prop:=xX 5 0<|λ (y:((List<|Ad×Int)×(List Ai)×(List Ad)×(List<|Option<|List Ai)))=>JbC e a c y.1 y.2.1 y.2.2.1 y.2.2.2
def GU:((List<|Ad×Int)×(List Ai)×(List Ad)×(List<|Option<|List Ai)×Int)->St:=(λ (x:((List<|Ad×Int)×(List Ai)×(List Ad)×(List<|Option<|List Ai)×Int))=>JbB e a c i x.1 x.2.1 x.2.2.1 x.2.2.2.1 x.2.2.2.2)
variable {e a u G v c U J K V R l L S i w b m o j ac A aa M O p C E t q P B}
theorem J6 (x:((List Int)×Int)) (z:(((List Int)×Int)⊕(List Int))) (H:Ce n e a c i w b m o j t x.1 x.2=some z):WP (cxk 113 5) (AR Try.f62) [1,1,1,1,0,1,1,1,0,0,1,1,0,0,1,1,0,1,0,0] (AO 5 (GT e a c i w b m o j t) (KN e a c i w b m o j t) z) (GT e a c i w b m o j t x):=by
 obtain⟨q,P⟩:=x;refine sr<|ck 1<|en<|sq<|cn H (λ H=>?_)<|λ H=>?_
 ·exact sk<|qz<|sq<|bk 3<|sr<|bx H λ bb af H=>sp (AC eU8 af)<|ck 2<|en<|rz<|ck 3<|bx H λ bc ag H=>sp (Bh eU8 7 1 ag)<|ck 1<|ae<|qN<|qz<|rz<|ck 2<|ae (by cases H;exact og<|sg [0,1,5,8,9,64,65,66,71,72,73])
 ·exact ex 2<|qx (by cases H;exact xo rfl<|sg [0,1,5,8,9,64,65,66])
theorem J7 (x:((List (Ad×Int))×(List Ai)×(List Ad)×(List (Option (List Ai)))×Int)) (z:(((List (Ad×Int))×(List Ai)×(List Ad)×(List (Option (List Ai)))×Int)⊕((List (Ad×Int))×(List Ai)×(List Ad)×(List (Option (List Ai)))))) (H:Bt n e a c i x.1 x.2.1 x.2.2.1 x.2.2.2.1 x.2.2.2.2=some z):WP (cxk 113 5) (AR Try.f62) [1,1,1,1,0,1,1,1,0,0] (AO 5 (GU e a c i) (KO e a c) z) (GU e a c i x):=by
 obtain⟨w,b,m,o,j⟩:=x;refine sr<|ck 1<|en<|sq<|cn H (λ H=>?_)<|λ H=>?_
 ·refine sk<|qz<|sj (λ (x:((List<|Ad×Int)×(List Ai)×(List Ad)×(List<|Option<|List Ai)))=>JbD e a c i j x.1 x.2.1 x.2.2.1 x.2.2.2) (λ (x:((List<|Ad×Int)×(List Ai)×(List Ad)×(List<|Option<|List Ai)))=>Dw n j x.1 x.2.1 x.2.2.1 x.2.2.2) z ?_ (λ f=>?_)
  ·rintro⟨O,p,C,E⟩ H;exact rz<|ck 2<|ae (by cases H;exact og<|sg [0,1,5,64,65,66])
  refine bk 1<|sr<|bx H λ t ah H=>sp (AC Bm ah)<|ck 3<|en<|sr<|ck 1<|en<|sq<|sr<|ck 2<|sp (AS eU8 t.Cells)<|ck 1<|en<|bk 2<|bx H λ a6 ai H=>lX J6 ai (tr (Ay.nilo 9 1 (by kernel_rfl))<|sg [0,1,5,8,9,64,65,66,71,72,73]) rfl λ s aj=>qH<|qs (aj)<|sq<|rx 12 15 (fz (enc:=eU8) (xs:=a6) 9 7 1)<|ck 1<|bx H λ bd ak H=>sp (AC eU8 ak)<|ck 7<|bx H λ be al H=>sp (TE eU8 1 al)<|bx H λ s7 am H=>sp (JdV am)<|ck 1<|bx H λ I ap H=>xs (xok _ _) (g:=true) rfl (EA) [0,8,2,9,4] (D8 ap) rfl<|ck 2<|mx<|ck 1<|nz<|qz<|sr<|ck 2<|bx H λ bf ar H=>cb (ks:=[5]) (obl:=[(0+List.length b,List.length<|b.map AB)]) false (leK leM<|leZ) (D4 M9<|D4 rfl rfl) (TT ar) (Or.inr trivial) rfl<|ck 1<|en<|cn H (λ H=>?_)<|λ H=>?_
  ·exact rz<|ck 3<|bx H λ a7 au H=>sp (Bh AB 5 3 au)<|ck 1<|ae<|qN<|qs (sg [0,1,5,64,65,66])<|f (I.1,a7,I.2.1,I.2.2.1) H
  ·exact sk<|qN<|qs (sg [0,1,5,64,65,66])<|f (I.1,b,I.2.1,I.2.2.1) H
 ·exact ex 0<|qx (by cases H;exact xo rfl<|sg [0,1,5])
theorem HL {z} (H:DO n e a u G v c=some z):BV Try.prog 62 [.ptr 0 0,.d (.int .i64 e)] [some (.box [.dptr (AA a) 0,.osl 1 2 0 (u.length),.mp 2,.osl 3 1 0 (v.length),.mp 4]),some (.arr 2 (u.map An)),some (.map true false (AH An AX G)),some (.arr 1 (v.map (eOp AB))),some (.map true true (AH AZ A4 c))] 5 (.d (.sl (z.2.2.2.map AB))) [some (.box [.dptr (AA a) 0,.osl 5 2 0 (z.2.1.length),.mp 2,.osl 6 1 0 (z.2.2.1.length),.mp 4]),none,some (.map true false (AH An AX z.1)),none,some (.map true true (AH AZ A4 c)),some (.arr 2 (z.2.1.map An)),some (.arr 1 (z.2.2.1.map (eOp AB)))]:=by
 refine fL 113 5 (Jbz e a u G v c) Try.func62<|sr<|ck 1<|en<|sq<|sq<|rn 7 (.refl _)<|ck 5<|bx H λ a8 W H=>sp (Bs 3 1 W)<|sp (De (eOp AB) 3 0 (ty 150) W) ?_;have hD:=JfV H;refine nd0<|nlo (yok _ _) (xok _ _) (r:=a8) (enc:=AB)<|λ b7 av=>?_;have H:=hD b7 av;refine en<|cn H (λ H=>?_)<|λ H=>?_
 ·exact sr<|ck 5<|bx H λ aw X H=>sp (Bs 3 1 X)<|sp (De (eOp AB) 3 0 (ty 150) X)<|ck 1<|en<|re<|qr (by cases H;exact pL<|rl (s':=Vv a c G u v<|Option.getD aw [])<|tr (tr (tr (Jjw (enc:=AB) (r:=aw) 4)<|EB (k:=1) (sz:=2) 0 1 (u.map An) (u.length) (by kernel_rfl) B1 leM rfl)<|EB (k:=3) (sz:=1) 0 3 (v.map<|eOp AB) (v.length) (by kernel_rfl) B1 leM rfl)<|sg [4])
 ·refine sk<|qz<|sr<|ck 2<|en<|sr<|ck 5<|bx H λ bh Y H=>sp (Bs 1 2 Y)<|sp (De An 1 0 (ty 109) Y)<|ck 2<|en<|sj (λ (x:((List<|Ad×Int)×(List Ai)×(List Ad)×(List<|Option<|List Ai)))=>JbA e a c x.1 x.2.1 x.2.2.1 x.2.2.2) (λ (x:((List<|Ad×Int)×(List Ai)×(List Ad)×(List<|Option<|List Ai)))=>Bx n e x.1 x.2.1 x.2.2.1 x.2.2.2) z ?_ (λ h=>?_)
  ·rintro⟨R,l,L,S⟩ H;exact sq<|rg (fz (enc:=AB) (xs:=l) 5 5 3)<|ck 6<|bx H λ bi Z H=>sp (Bs 7 1 Z)<|bx H λ a9 Q H=>stA (eOp AB) 7 0 (ty 150) Z Q<|en<|sq<|rg (tr (sn 108 7 1<|B3 Q)<|snc 0 3 7 1<|B3 Q)<|ck 2<|en<|re (by cases H;exact pL<|rl (s':=Vv a c R L a9 l)<|sg [4])
  refine sr<|ck 3<|en<|cn H (λ H=>?_)<|λ H=>?_
  ·exact rlz 11 13 (.refl _)<|ck 2<|bx H λ b8 ay H=>sp (FC ay)<|ck 5<|bx H λ s6 az H=>sp (Ll az)<|ck 1<|bx H λ ab a0 H=>xs (xok _ _) (g:=true) rfl (EA) [0,1,2,3,4] (D8 a0) rfl<|ck 1<|mx<|ck 1<|nx 16 14<|mx<|bx H λ ba a2 H=>sp (Bh AB 5 3 a2)<|nx 16 15<|mx<|ck 1<|nz<|qs (sg [0,1,5])<|h (ab.1,ba,ab.2.1,ab.2.2.1) H
  ·exact sr<|ck 9<|bx H λ i a3 H=>sp (AC (eL Bm) a3)<|ck 1<|sp (AS Bm i)<|ck 1<|en<|bk 0<|bx H λ T a4 H=>lX J7 a4 (tr (tr (EB (k:=1) (sz:=2) 0 1 (u.map An) (u.length) (by kernel_rfl) B1 leM rfl)<|EB (k:=3) (sz:=1) 0 3 (v.map<|eOp AB) (v.length) (by kernel_rfl) B1 leM rfl)<|sg [0,1,5,64,65,66]) rfl λ s a5=>qH<|qs (tr (a5)<|sg [0,1,5])<|h (T.1,T.2.1,T.2.2.1,T.2.2.2) H
end
section
variable (h:Aj) (b:As) (C:(List (Int×(List Aj)))) (t:(List Ad)) (E:(List (Ad×Int))) (u:(List (Option (List Ai)))) (g:(List (Ao×Ap))) (P:(List (Int×(List Aj)))) (Q:(List (Ad×Int))) (G:(List Ad)) (I:(List (Option (List Ai)))) (i:((List (Ad×Int))×(List Ad)×(List (Option (List Ai)))×(List Ai))) (j:(List (Int×(List Aj)))) (J:(List (Ad×Int))) (v:(List Ad)) (w:(List (Option (List Ai)))) (l:Int) (R:(List (Int×(List Aj)))) (S:(List (Ad×Int))) (K:(List Ad)) (L:(List (Option (List Ai)))) (o:Ai) (e:((List (Ad×Int))×(List Ad)×(List (Option (List Ai)))×(List Ai))) (c:(List (Int×(List Aj)))) (q:Int) (r:(List (Int×(List Aj)))) (p:(List (Int×(List Aj))))
def JbG:St:=⟨(0,.ptr 0 0)::(1,.agg [.d<|.int .i64 h.Pair.A,.d<|.int .i64 h.Pair.B,.d<|.int .i64 h.Lead.Side,.d<|.str h.Lead.Text])::(2,.mp 1)::[],[some<|.box [.dptr (AA b) 0,.osl 2 2 0<|t.length,.mp 3,.osl 4 1 0<|u.length,.mp 5],some<|.nmp false (.d<|.sl [])<|Ek eU8 4 Au C,some<|.arr 2<|t.map An,some<|.map true false<|AH An AX E,some<|.arr 1<|u.map<|eOp AB,some<|.map true true<|AH AZ A4 g]⟩
def JbH:St:=⟨[],[some<|.box [.dptr (AA b) 0,.osl 6 2 0<|G.length,.mp 3,.osl 7 1 0<|I.length,.mp 5],some<|.nmp false (.d<|.sl [])<|Ek eU8 4 Au P,none,some<|.map true false<|AH An AX Q,none,some<|.map true true<|AH AZ A4 g,some<|.arr 2<|G.map An,some<|.arr 1<|I.map<|eOp AB]⟩
def JbI:St:=⟨(0,.ptr 0 0)::(2,.mp 1)::(4,.ptr 6 0)::(15,.d<|.sl<|i.2.2.2.map AB)::(16,.d<|.int .i64 ((i.2.2.2.length:Nat):Int))::(17,.d<|.int .i64 l)::[],[some<|.box [.dptr (AA b) 0,.osl 7 2 0<|v.length,.mp 3,.osl 8 1 0<|w.length,.mp 5],some<|.nmp false (.d<|.sl [])<|Ek eU8 4 Au j,none,some<|.map true false<|AH An AX J,none,some<|.map true true<|AH AZ A4 g,some<|.box<|JG h,some<|.arr 2<|v.map An,some<|.arr 1<|w.map<|eOp AB]⟩
def JbJ:St:=⟨[],[some<|.box [.dptr (AA b) 0,.osl 6 2 0<|K.length,.mp 3,.osl 7 1 0<|L.length,.mp 5],some<|.nmp false (.d<|.sl [])<|Ek eU8 4 Au R,none,some<|.map true false<|AH An AX S,none,some<|.map true true<|AH AZ A4 g,some<|.arr 2<|K.map An,some<|.arr 1<|L.map<|eOp AB]⟩
def JbK:St:=⟨(0,.ptr 0 0)::(2,.mp 1)::(4,.ptr 6 0)::(7,.ptr 7 0)::(15,.d<|.sl<|i.2.2.2.map AB)::(16,.d<|.int .i64 ((i.2.2.2.length:Nat):Int))::(17,.d<|.int .i64 l)::(25,.d<|.sl<|e.2.2.2.map AB)::(26,.d<|.int .i64 ((e.2.2.2.length:Nat):Int))::(27,.d<|.int .i64 q)::[],[some<|.box [.dptr (AA b) 0,.osl 8 2 0<|e.2.1.length,.mp 3,.osl 9 1 0<|e.2.2.1.length,.mp 5],some<|.nmp false (.d<|.sl [])<|Ek eU8 4 Au c,none,some<|.map true false<|AH An AX e.1,none,some<|.map true true<|AH AZ A4 g,some<|.box<|JG h,some<|.box<|Vs o,some<|.arr 2<|e.2.1.map An,some<|.arr 1<|e.2.2.1.map<|eOp AB]⟩
def JbL:St:=⟨(0,.ptr 0 0)::(2,.mp 1)::(4,.ptr 6 0)::(15,.d<|.sl<|i.2.2.2.map AB)::(16,.d<|.int .i64 ((i.2.2.2.length:Nat):Int))::(17,.d<|.int .i64 l)::[],[some<|.box [.dptr (AA b) 0,.osl 7 2 0<|e.2.1.length,.mp 3,.osl 8 1 0<|e.2.2.1.length,.mp 5],some<|.nmp false (.d<|.sl [])<|Ek eU8 4 Au r,none,some<|.map true false<|AH An AX e.1,none,some<|.map true true<|AH AZ A4 g,some<|.box<|JG h,some<|.arr 2<|e.2.1.map An,some<|.arr 1<|e.2.2.1.map<|eOp AB]⟩
def JbM:St:=⟨(0,.ptr 0 0)::(2,.mp 1)::(4,.ptr 6 0)::(7,.ptr 7 0)::(15,.d<|.sl<|i.2.2.2.map AB)::(16,.d<|.int .i64 ((i.2.2.2.length:Nat):Int))::(17,.d<|.int .i64 l)::(25,.d<|.sl<|e.2.2.2.map AB)::(26,.d<|.int .i64 ((e.2.2.2.length:Nat):Int))::(27,.d<|.int .i64 q)::[],[some<|.box [.dptr (AA b) 0,.osl 8 2 0<|e.2.1.length,.mp 3,.osl 9 1 0<|e.2.2.1.length,.mp 5],some<|.nmp false (.d<|.sl [])<|Ek eU8 4 Au p,none,some<|.map true false<|AH An AX e.1,none,some<|.map true true<|AH AZ A4 g,some<|.box<|JG h,some<|.box<|Vs o,some<|.arr 2<|e.2.1.map An,some<|.arr 1<|e.2.2.1.map<|eOp AB]⟩
def Jm:(List<|Int×(List Aj))->Ex->St->Prop:=xX 6 2<|λ (y:(List<|Int×(List Aj)))=>JbL h b g i l e y
def FP:((List<|Int×(List Aj))×Int)->St:=(λ (x:((List<|Int×(List Aj))×Int))=>JbK h b g i l o e x.1 x.2)
def Jn:((List<|Int×(List Aj))×(List<|Ad×Int)×(List Ad)×(List<|Option<|List Ai))->Ex->St->Prop:=xX 6 0<|λ (y:((List<|Int×(List Aj))×(List<|Ad×Int)×(List Ad)×(List<|Option<|List Ai)))=>JbJ b g y.1 y.2.1 y.2.2.1 y.2.2.2
def FQ:((List<|Int×(List Aj))×(List<|Ad×Int)×(List Ad)×(List<|Option<|List Ai)×Int)->St:=(λ (x:((List<|Int×(List Aj))×(List<|Ad×Int)×(List Ad)×(List<|Option<|List Ai)×Int))=>JbI h b g i x.1 x.2.1 x.2.2.1 x.2.2.2.1 x.2.2.2.2)
variable {h b C t E u g P Q G I i j J v w l R S K L o e c q r p}
theorem IH (x:((List (Int×(List Aj)))×Int)) (z:(((List (Int×(List Aj)))×Int)⊕(List (Int×(List Aj))))) (H:BS n h b g i l o e x.1 x.2=some z):WP (cxk 62 6) (AR Try.f44) [1,1,0,0,1,1,0,0,1,1,0,0] (AO 6 (FP h b g i l o e) (Jm h b g i l e) z) (FP h b g i l o e x):=by
 obtain⟨c,q⟩:=x;refine sr<|ck 1<|en<|sq<|cn H (λ H=>?_)<|λ H=>?_
 ·refine sk<|qz<|sj (λ (x:(List<|Int×(List Aj)))=>JbM h b g i l o e q x) (λ (x:(List<|Int×(List Aj)))=>Cp n q x) z ?_ (λ f=>?_)
  ·intro p H;exact rz<|ck 2<|ae (by cases H;exact og<|gP [0,2,4,7,15,16,17,25,26,27] [0,1,2,3,4,5,6,7,8,9]<|po1<|Pl.m false (.d<|.sl []) (nmM (encK:=eU8) (isz:=4) (enc:=Au) (m:=p) λ _ _=>rfl)<|po1<|po1<|po1<|po1<|po1<|po1<|po1<|po1<|Pl.z)
  refine bk 3<|sr<|bx H λ ah T H=>sp (AC AB T)<|ck 3<|en<|sq<|sr<|ck 5<|en<|cn H (λ H=>?_)<|λ H=>?_
  ·exact ex 3<|qx<|qH<|qs (gP [0,2,4,7,15,16,17,25,26,27] [0,1,2,3,4,5,6,7,8,9]<|po1<|Pl.m false (.d<|.sl []) (nmM (encK:=eU8) (isz:=4) (enc:=Au) (m:=c) λ _ _=>rfl)<|po1<|po1<|po1<|po1<|po1<|po1<|po1<|po1<|Pl.z)<|f c H
  ·exact sk<|qz<|sr<|ck 11<|bx H λ ai U H=>ca false (Nl U)<|ck 3<|en<|rg (Jjt (ka:=false) (dv:=.d<|.sl []) (encK:=eU8) (isz:=4) (enc:=Au) 1 12 o.Cell c)<|ck 6<|sp (JaJ (isz:=4) (n:=12) (encK:=eU8) (enc:=Au) (k:=1) (m:=c) (key:=o.Cell) (x:=.int .u8 o.Cell) Jgk)<|ck 1<|bx H λ aj V H=>ca false (LL V)<|ck 1<|bx H λ O W H=>sp (Bh Au 12 4 W)<|sp (Jd3 (isz:=4) (n:=12) (n':=14) (l':=(O.length)) (a:=.osl 12 4 0<|List.length<|Cl o.Cell c) (encK:=eU8) (enc:=Au) (k:=1) (m:=c) (key:=o.Cell) (x:=.int .u8 o.Cell) Jgk)<|ae<|qN<|qs (tr (Jju (ka:=false) (encK:=eU8) (isz:=4) (enc:=Au) (dv:=.osl 12 4 0 0) 1 14 o.Cell O c)<|gP [0,2,4,7,15,16,17,25,26,27] [0,1,2,3,4,5,6,7,8,9]<|po1<|Pl.m false (.d<|.sl []) (nmM (encK:=eU8) (isz:=4) (enc:=Au) (m:=(Eh o.Cell O c)) λ _ _=>rfl)<|po1<|po1<|po1<|po1<|po1<|po1<|po1<|po1<|Pl.z)<|f (Eh o.Cell O c) H
 ·exact ex 2<|qx (by cases H;exact xo rfl<|gP [0,2,4,15,16,17] [0,1,2,3,4,5,6,8,9]<|po1<|Pl.m false (.d<|.sl []) (nmM (encK:=eU8) (isz:=4) (enc:=Au) (m:=c) λ _ _=>rfl)<|po1<|po1<|po1<|po1<|po1<|po1<|po1<|Pl.z)
theorem II (x:((List (Int×(List Aj)))×(List (Ad×Int))×(List Ad)×(List (Option (List Ai)))×Int)) (z:(((List (Int×(List Aj)))×(List (Ad×Int))×(List Ad)×(List (Option (List Ai)))×Int)⊕((List (Int×(List Aj)))×(List (Ad×Int))×(List Ad)×(List (Option (List Ai)))))) (H:Cq n h b g i x.1 x.2.1 x.2.2.1 x.2.2.2.1 x.2.2.2.2=some z):WP (cxk 62 6) (AR Try.f44) [1,1,0,0] (AO 6 (FQ h b g i) (Jn b g) z) (FQ h b g i x):=by
 obtain⟨j,J,v,w,l⟩:=x;refine sr<|ck 1<|en<|sq<|cn H (λ H=>?_)<|λ H=>?_
 ·exact sk<|qz<|sq<|bk 1<|sr<|bx H λ o X H=>sp (AC AB X)<|ck 3<|en<|sr<|ck 4<|bx H λ e Y H=>lt [0,7,3,8,5] (HL Y)<|sp (AS AB e.2.2.2)<|ck 1<|en<|bk 2<|bx H λ ag Z H=>lX IH Z (gP [0,2,4,7,15,16,17,25,26,27] [0,1,2,3,4,5,6,9,10,11]<|po1<|Pl.m false (.d<|.sl []) (nmM (encK:=eU8) (isz:=4) (enc:=Au) (m:=j) λ _ _=>rfl)<|po1<|po1<|po1<|po1<|po1<|po1<|po1<|po1<|Pl.z) rfl λ s aa=>qH<|qN<|qs (aa)<|rz<|ck 2<|ae (by cases H;exact og<|gP [0,2,4,15,16,17] [0,1,2,3,4,5,6,7,8]<|po1<|Pl.m false (.d<|.sl []) (nmM (encK:=eU8) (isz:=4) (enc:=Au) (m:=ag) λ _ _=>rfl)<|po1<|po1<|po1<|po1<|po1<|po1<|po1<|Pl.z)
 ·exact ex 0<|qx (by cases H;exact xo rfl<|gP [] [0,1,2,3,4,5,7,8]<|po1<|Pl.m false (.d<|.sl []) (nmM (encK:=eU8) (isz:=4) (enc:=Au) (m:=j) λ _ _=>rfl)<|po1<|po1<|po1<|po1<|po1<|po1<|Pl.z)
theorem KP {z} (H:D7 n h b C t E u g=some z):BV Try.prog 44 [.ptr 0 0,.agg (JG h),.mp 1] [some (.box [.dptr (AA b) 0,.osl 2 2 0 (t.length),.mp 3,.osl 4 1 0 (u.length),.mp 5]),some (.nmp false (.d (.sl [])) (Ek eU8 4 Au C)),some (.arr 2 (t.map An)),some (.map true false (AH An AX E)),some (.arr 1 (u.map (eOp AB))),some (.map true true (AH AZ A4 g))] 6 (.tup []) [some (.box [.dptr (AA b) 0,.osl 6 2 0 (z.2.2.1.length),.mp 3,.osl 7 1 0 (z.2.2.2.length),.mp 5]),some (.nmp false (.d (.sl [])) (Ek eU8 4 Au z.1)),none,some (.map true false (AH An AX z.2.1)),none,some (.map true true (AH AZ A4 g)),some (.arr 2 (z.2.2.1.map An)),some (.arr 1 (z.2.2.2.map (eOp AB)))]:=by
 exact fL 62 6 (JbG h b C t E u g) Try.func44<|sr<|ck 1<|en<|sr<|ck 4<|bx H λ i ab H=>lt [0,2,3,4,5] (HL ab)<|sp (AS AB i.2.2.2)<|ck 1<|en<|bk 0<|bx H λ M ac H=>lX II ac (gP [0,2,4,15,16,17] [0,1,2,3,4,5,6,7,8]<|po1<|Pl.m false (.d<|.sl []) (nmM (encK:=eU8) (isz:=4) (enc:=Au) (m:=C) λ _ _=>rfl)<|po1<|po1<|po1<|po1<|po1<|po1<|po1<|Pl.z) rfl λ s af=>qH (by cases H;exact pL'<|rl (s':=JbH b g M.1 M.2.1 M.2.2.1 M.2.2.2)<|tr (af)<|gP [] [0,1,2,3,4,5,6,7]<|po1<|Pl.m false (.d<|.sl []) (nmM (encK:=eU8) (isz:=4) (enc:=Au) (m:=M.1) λ _ _=>rfl)<|po1<|po1<|po1<|po1<|po1<|po1<|Pl.z)
end
section
variable (a:Aj) (b:As) (c:(List Ad)) (f:(List (Ad×Int))) (e:(List (Option (List Ai)))) (g:(List (Ao×Ap))) (k:Bool)
def JbN:St:=⟨(0,.ptr 0 0)::(1,.agg [.d<|.int .i64 a.Pair.A,.d<|.int .i64 a.Pair.B,.d<|.int .i64 a.Lead.Side,.d<|.str a.Lead.Text])::[],[some<|.box [.dptr (AA b) 0,.osl 1 2 0<|c.length,.mp 2,.osl 3 1 0<|e.length,.mp 4],some<|.arr 2<|c.map An,some<|.map true false<|AH An AX f,some<|.arr 1<|e.map<|eOp AB,some<|.map true true<|AH AZ A4 g]⟩
def JbO:St:=⟨(4,.d<|.bool k)::[],[some<|.box [.dptr (AA b) 0,.osl 1 2 0<|c.length,.mp 2,.osl 3 1 0<|e.length,.mp 4],some<|.arr 2<|c.map An,some<|.map true false<|AH An AX f,some<|.arr 1<|e.map<|eOp AB,some<|.map true true<|AH AZ A4 g]⟩
variable {a b c f e g k}
theorem J8 {z} (H:Dx n a b c f e g=some z):BV Try.prog 45 [.ptr 0 0,.agg (JG a)] [some (.box [.dptr (AA b) 0,.osl 1 2 0 (c.length),.mp 2,.osl 3 1 0 (e.length),.mp 4]),some (.arr 2 (c.map An)),some (.map true false (AH An AX f)),some (.arr 1 (e.map (eOp AB))),some (.map true true (AH AZ A4 g))] 5 (.d (.bool z)) [some (.box [.dptr (AA b) 0,.osl 1 2 0 (c.length),.mp 2,.osl 3 1 0 (e.length),.mp 4]),some (.arr 2 (c.map An)),some (.map true false (AH An AX f)),some (.arr 1 (e.map (eOp AB))),some (.map true true (AH AZ A4 g))]:=by
 exact fL 65 5 (JbN a b c f e g) Try.func45<|sr<|ck 2<|en<|sr<|ck 7<|bx H λ h l H=>sp (Bs 1 2 l)<|sp (De An 1 0 (ty 109) l)<|ck 7<|bx H λ i m H=>sp (Bs 1 2 m)<|sp (De An 1 0 (ty 109) m)<|ck 4<|en<|sr<|ck 6<|gc 2 (a.Lead.Side != 0)<|pA<|ck 2<|gc 2 ((a.Lead.Side != 0)&&(h.Rest==[]))<|pA<|ck 2<|gc 6 (((a.Lead.Side != 0)&&(h.Rest==[]))&&(i.Rest==[]))<|ck 1<|gc 1 (((a.Lead.Side != 0)&&(h.Rest==[]))&&(i.Rest==[]))<|bx H λ j o H=>sE (λ hg=>AC eB<|CC o hg)<|gc 1 (((a.Lead.Side != 0)&&(h.Rest==[]))&&(i.Rest==[]))<|pA<|ck 2<|gc 6 ((((a.Lead.Side != 0)&&(h.Rest==[]))&&(i.Rest==[]))&&j)<|ck 1<|gc 1 ((((a.Lead.Side != 0)&&(h.Rest==[]))&&(i.Rest==[]))&&j)<|bx H λ q p H=>sE (λ hg=>AC eB<|CC p hg)<|gc 1 ((((a.Lead.Side != 0)&&(h.Rest==[]))&&(i.Rest==[]))&&j)<|pA<|ck 1<|en<|re (by cases H;exact pL<|rl (s':=JbO b c f e g<|((((a.Lead.Side != 0)&&(h.Rest==[]))&&(i.Rest==[]))&&j)&&q)<|sg [4])
end
section
variable (b:As) (B:(List Ad)) (U:(List (Ad×Int))) (C:(List (Option (List Ai)))) (V:(List (Ao×Ap))) (aw:(List (Ad×Int))) (ay:(List (Ao×Ap))) (W:(List Int)) (X:(List Ad)) (Y:(List (Option (List Ai)))) (az:Bool) (Z:(List (Ad×Int))) (aa:(List (Ao×Ap))) (a:(List (List ((List Aj)×Int)))) (r:(List (Int×(List Aj)))) (O:(List Ad)) (P:(List (Option (List Ai)))) (a0:(List (Ad×Int))) (a2:(List (Ao×Ap))) (ab:(List Ad)) (ac:(List (Option (List Ai)))) (af:(List (Ad×Int))) (v:(List (Ao×Ap))) (w:(List (Int×(List Aj)))) (i:(List (List ((List Aj)×Int)))) (Q:(List Ad)) (R:(List (Option (List Ai)))) (g:Int) (a3:(List (Ad×Int))) (a4:(List (Ao×Ap))) (E:(List (Int×(List Aj)))) (J:(List (List ((List Aj)×Int)))) (ag:(List Ad)) (ah:(List (Option (List Ai)))) (g2:Bq) (ai:(List (Ad×Int))) (t:(List (Int×(List Aj)))) (S:(List Ad)) (T:(List (Option (List Ai)))) (aj:Int) (a5:(List (Ad×Int))) (G:(List (Int×(List Aj)))) (ak:(List Ad)) (al:(List (Option (List Ai)))) (c:((List (Ad×Int))×(List (Int×(List Aj)))×(List Ad)×(List (Option (List Ai))))) (am:(List (Ao×Ap))) (h:(List (List ((List Aj)×Int)))) (l:Int) (a6:(List (Ao×Ap))) (K:(List (List ((List Aj)×Int)))) (ap:(List (Ao×Ap))) (A:(List (List ((List Aj)×Int)))) (j:Bq) (ar:(List (Ao×Ap))) (I:Int) (u:Bq) (a7:(List (Ao×Ap))) (q:Bq) (au:(List (Ao×Ap)))
def JbP:St:=⟨(0,.ptr 0 0)::[],[some<|.box [.dptr (AA b) 0,.osl 1 2 0<|B.length,.mp 2,.osl 3 1 0<|C.length,.mp 4],some<|.arr 2<|B.map An,some<|.map true false<|AH An AX U,some<|.arr 1<|C.map<|eOp AB,some<|.map true true<|AH AZ A4 V]⟩
def QL:St:=⟨(2,.osl 5 1 0<|W.length)::(3,.d<|.bool az)::[],[some<|.box [.dptr (AA b) 0,.osl 6 2 0<|X.length,.mp 2,.osl 7 1 0<|Y.length,.mp 4],none,some<|.map true false<|AH An AX aw,none,some<|.map true true<|AH AZ A4 ay,some<|.arr 1<|W.map eU8,some<|.arr 2<|X.map An,some<|.arr 1<|Y.map<|eOp AB]⟩
def JbQ:St:=⟨(0,.ptr 0 0)::(5,.osl 5 1 0<|a.length)::(6,.mp 6)::[],[some<|.box [.dptr (AA b) 0,.osl 7 2 0<|O.length,.mp 2,.osl 8 1 0<|P.length,.mp 4],none,some<|.map true false<|AH An AX Z,none,some<|.map true true<|AH AZ A4 aa,some<|.arr 1<|a.map<|ePG Au,some<|.nmp false (.d<|.sl [])<|EJ eU8 Au r,some<|.arr 2<|O.map An,some<|.arr 1<|P.map<|eOp AB]⟩
def JbR:St:=⟨[],[some<|.box [.dptr (AA b) 0,.osl 5 2 0<|ab.length,.mp 2,.osl 6 1 0<|ac.length,.mp 4],none,some<|.map true false<|AH An AX a0,none,some<|.map true true<|AH AZ A4 a2,some<|.arr 2<|ab.map An,some<|.arr 1<|ac.map<|eOp AB]⟩
def JbS:St:=⟨(0,.ptr 0 0)::(6,.mp 5)::(7,.osl 6 1 0<|i.length)::(44,.osl 7 1 0<|a.length)::(45,.d<|.int .i64 ((a.length:Nat):Int))::(46,.d<|.int .i64 g)::[],[some<|.box [.dptr (AA b) 0,.osl 8 2 0<|Q.length,.mp 2,.osl 9 1 0<|R.length,.mp 4],none,some<|.map true false<|AH An AX af,none,some<|.map true true<|AH AZ A4 v,some<|.nmp false (.d<|.sl [])<|EJ eU8 Au w,some<|.arr 1<|i.map<|ePG Au,some<|.arr 1<|a.map<|ePG Au,some<|.arr 2<|Q.map An,some<|.arr 1<|R.map<|eOp AB]⟩
def JbT:St:=⟨(0,.ptr 0 0)::(6,.mp 5)::(7,.osl 6 1 0<|J.length)::[],[some<|.box [.dptr (AA b) 0,.osl 7 2 0<|ag.length,.mp 2,.osl 8 1 0<|ah.length,.mp 4],none,some<|.map true false<|AH An AX a3,none,some<|.map true true<|AH AZ A4 a4,some<|.nmp false (.d<|.sl [])<|EJ eU8 Au E,some<|.arr 1<|J.map<|ePG Au,some<|.arr 2<|ag.map An,some<|.arr 1<|ah.map<|eOp AB]⟩
def JbU:St:=⟨(0,.ptr 0 0)::(6,.mp 5)::(7,.osl 6 1 0<|i.length)::(9,.d<|dPG Au ((g2.Nodes,g2.Cell)::g2.From))::(44,.osl 7 1 0<|a.length)::(45,.d<|.int .i64 ((a.length:Nat):Int))::(46,.d<|.int .i64 g)::(54,.d<|.sl<|g2.Nodes.map Au)::(55,.d<|.int .i64 ((g2.Nodes.length:Nat):Int))::(56,.d<|.int .i64 aj)::[],[some<|.box [.dptr (AA b) 0,.osl 8 2 0<|S.length,.mp 2,.osl 9 1 0<|T.length,.mp 4],none,some<|.map true false<|AH An AX ai,none,some<|.map true true<|AH AZ A4 v,some<|.nmp false (.d<|.sl [])<|Ek eU8 4 Au t,some<|.arr 1<|i.map<|ePG Au,some<|.arr 1<|a.map<|ePG Au,some<|.arr 2<|S.map An,some<|.arr 1<|T.map<|eOp AB]⟩
def JbV:St:=⟨(0,.ptr 0 0)::(6,.mp 5)::(7,.osl 6 1 0<|i.length)::(9,.d<|dPG Au ((g2.Nodes,g2.Cell)::g2.From))::(44,.osl 7 1 0<|a.length)::(45,.d<|.int .i64 ((a.length:Nat):Int))::(46,.d<|.int .i64 g)::[],[some<|.box [.dptr (AA b) 0,.osl 8 2 0<|ak.length,.mp 2,.osl 9 1 0<|al.length,.mp 4],none,some<|.map true false<|AH An AX a5,none,some<|.map true true<|AH AZ A4 v,some<|.nmp false (.d<|.sl [])<|Ek eU8 4 Au G,some<|.arr 1<|i.map<|ePG Au,some<|.arr 1<|a.map<|ePG Au,some<|.arr 2<|ak.map An,some<|.arr 1<|al.map<|eOp AB]⟩
def Ie:((List<|Ad×Int)×(List<|Int×(List Aj))×(List Ad)×(List<|Option<|List Ai))->Ex->St->Prop:=xX 5 4<|λ (y:((List<|Ad×Int)×(List<|Int×(List Aj))×(List Ad)×(List<|Option<|List Ai)))=>JbV b a v i g g2 y.1 y.2.1 y.2.2.1 y.2.2.2
def EW:((List<|Ad×Int)×(List<|Int×(List Aj))×(List Ad)×(List<|Option<|List Ai)×Int)->St:=(λ (x:((List<|Ad×Int)×(List<|Int×(List Aj))×(List Ad)×(List<|Option<|List Ai)×Int))=>JbU b a v i g g2 x.1 x.2.1 x.2.2.1 x.2.2.2.1 x.2.2.2.2)
def JbW:St:=⟨(0,.ptr 0 0)::(6,.mp 5)::(7,.osl 6 1 0<|h.length)::(9,.d<|dPG Au ((g2.Nodes,g2.Cell)::g2.From))::(44,.osl 7 1 0<|a.length)::(45,.d<|.int .i64 ((a.length:Nat):Int))::(46,.d<|.int .i64 g)::(65,.d<|.int .u8 l)::[],[some<|.box [.dptr (AA b) 0,.osl 8 2 0<|c.2.2.1.length,.mp 2,.osl 9 1 0<|c.2.2.2.length,.mp 4],none,some<|.map true false<|AH An AX c.1,none,some<|.map true true<|AH AZ A4 am,some<|.nmp false (.d<|.sl [])<|EJ eU8 Au c.2.1,some<|.arr 1<|h.map<|ePG Au,some<|.arr 1<|a.map<|ePG Au,some<|.arr 2<|c.2.2.1.map An,some<|.arr 1<|c.2.2.2.map<|eOp AB]⟩
def Y8:St:=⟨(0,.ptr 0 0)::(6,.mp 5)::(7,.osl 6 1 0<|K.length)::(44,.osl 7 1 0<|a.length)::(45,.d<|.int .i64 ((a.length:Nat):Int))::(46,.d<|.int .i64 g)::[],[some<|.box [.dptr (AA b) 0,.osl 8 2 0<|c.2.2.1.length,.mp 2,.osl 9 1 0<|c.2.2.2.length,.mp 4],none,some<|.map true false<|AH An AX c.1,none,some<|.map true true<|AH AZ A4 a6,some<|.nmp false (.d<|.sl [])<|EJ eU8 Au c.2.1,some<|.arr 1<|K.map<|ePG Au,some<|.arr 1<|a.map<|ePG Au,some<|.arr 2<|c.2.2.1.map An,some<|.arr 1<|c.2.2.2.map<|eOp AB]⟩
def Y9:St:=⟨(0,.ptr 0 0)::(6,.mp 5)::(7,.osl 6 1 0<|A.length)::(9,.d<|dPG Au ((g2.Nodes,g2.Cell)::g2.From))::(44,.osl 7 1 0<|a.length)::(45,.d<|.int .i64 ((a.length:Nat):Int))::(46,.d<|.int .i64 g)::(65,.d<|.int .u8 l)::[],[some<|.box [.dptr (AA b) 0,.osl 8 2 0<|c.2.2.1.length,.mp 2,.osl 9 1 0<|c.2.2.2.length,.mp 4],none,some<|.map true false<|AH An AX c.1,none,some<|.map true true<|AH AZ A4 ap,some<|.nmp false (.d<|.sl [])<|EJ eU8 Au c.2.1,some<|.arr 1<|A.map<|ePG Au,some<|.arr 1<|a.map<|ePG Au,some<|.arr 2<|c.2.2.1.map An,some<|.arr 1<|c.2.2.2.map<|eOp AB]⟩
def Za:St:=⟨(0,.ptr 0 0)::(6,.mp 5)::(7,.osl 6 1 0<|h.length)::(9,.d<|dPG Au ((g2.Nodes,g2.Cell)::g2.From))::(13,.ptr 7 0)::(44,.osl 8 1 0<|a.length)::(45,.d<|.int .i64 ((a.length:Nat):Int))::(46,.d<|.int .i64 g)::(65,.d<|.int .u8 l)::(74,.d<|.sl<|List.map Au<|Cl l c.2.1)::(75,.d<|.int .i64 ((List.length (Cl l c.2.1):Nat):Int))::(76,.d<|.int .i64 I)::[],[some<|.box [.dptr (AA b) 0,.osl 9 2 0<|c.2.2.1.length,.mp 2,.osl 10 1 0<|c.2.2.2.length,.mp 4],none,some<|.map true false<|AH An AX c.1,none,some<|.map true true<|AH AZ A4 ar,some<|.nmp false (.d<|.sl [])<|EJ eU8 Au c.2.1,some<|.arr 1<|h.map<|ePG Au,some<|.box<|Mx j (.osl 11 4 0<|j.Nodes.length)<|.d<|dPG Au j.From,some<|.arr 1<|a.map<|ePG Au,some<|.arr 2<|c.2.2.1.map An,some<|.arr 1<|c.2.2.2.map<|eOp AB,some<|.arr 4<|j.Nodes.map Au]⟩
def Zb:St:=⟨(0,.ptr 0 0)::(6,.mp 5)::(7,.osl 6 1 0<|h.length)::(9,.d<|dPG Au ((g2.Nodes,g2.Cell)::g2.From))::(13,.ptr 7 0)::(44,.osl 8 1 0<|a.length)::(45,.d<|.int .i64 ((a.length:Nat):Int))::(46,.d<|.int .i64 g)::(65,.d<|.int .u8 l)::[],[some<|.box [.dptr (AA b) 0,.osl 9 2 0<|c.2.2.1.length,.mp 2,.osl 10 1 0<|c.2.2.2.length,.mp 4],none,some<|.map true false<|AH An AX c.1,none,some<|.map true true<|AH AZ A4 a7,some<|.nmp false (.d<|.sl [])<|EJ eU8 Au c.2.1,some<|.arr 1<|h.map<|ePG Au,some<|.box<|Mx u (.osl 11 4 0<|u.Nodes.length)<|.d<|dPG Au u.From,some<|.arr 1<|a.map<|ePG Au,some<|.arr 2<|c.2.2.1.map An,some<|.arr 1<|c.2.2.2.map<|eOp AB,some<|.arr 4<|u.Nodes.map Au]⟩
def Zc:St:=⟨(0,.ptr 0 0)::(6,.mp 5)::(7,.osl 6 1 0<|h.length)::(9,.d<|dPG Au ((g2.Nodes,g2.Cell)::g2.From))::(13,.ptr 7 0)::(44,.osl 8 1 0<|a.length)::(45,.d<|.int .i64 ((a.length:Nat):Int))::(46,.d<|.int .i64 g)::(65,.d<|.int .u8 l)::(74,.d<|.sl<|List.map Au<|Cl l c.2.1)::(75,.d<|.int .i64 ((List.length (Cl l c.2.1):Nat):Int))::(76,.d<|.int .i64 I)::[],[some<|.box [.dptr (AA b) 0,.osl 9 2 0<|c.2.2.1.length,.mp 2,.osl 10 1 0<|c.2.2.2.length,.mp 4],none,some<|.map true false<|AH An AX c.1,none,some<|.map true true<|AH AZ A4 au,some<|.nmp false (.d<|.sl [])<|EJ eU8 Au c.2.1,some<|.arr 1<|h.map<|ePG Au,some<|.box<|Mx q (.osl 11 4 0<|q.Nodes.length)<|.d<|dPG Au q.From,some<|.arr 1<|a.map<|ePG Au,some<|.arr 2<|c.2.2.1.map An,some<|.arr 1<|c.2.2.2.map<|eOp AB,some<|.arr 4<|q.Nodes.map Au]⟩
def If:((Bq×(List<|Ao×Ap))⊕((List<|Ad×Int)×(List<|Ao×Ap)×(List Int)×(List Ad)×(List<|Option<|List Ai)×Bool))->Ex->St->Prop:=xS (xX 5 8<|λ (y:(Bq×(List<|Ao×Ap)))=>Zb b a g g2 c h l y.1 y.2)<|xL 5 ty Try.f25 (λ (y:((List<|Ad×Int)×(List<|Ao×Ap)×(List Int)×(List Ad)×(List<|Option<|List Ai)×Bool))=>.tup [.osl 5 1 0<|y.2.2.1.length,.d<|.bool y.2.2.2.2.2])<|λ (y:((List<|Ad×Int)×(List<|Ao×Ap)×(List Int)×(List Ad)×(List<|Option<|List Ai)×Bool))=>[some<|.box [.dptr (AA b) 0,.osl 6 2 0<|y.2.2.2.1.length,.mp 2,.osl 7 1 0<|y.2.2.2.2.1.length,.mp 4],none,some<|.map true false<|AH An AX y.1,none,some<|.map true true<|AH AZ A4 y.2.1,some<|.arr 1<|y.2.2.1.map eU8,some<|.arr 2<|y.2.2.2.1.map An,some<|.arr 1<|y.2.2.2.2.1.map<|eOp AB]
def EX:(Bq×(List<|Ao×Ap)×Int)->St:=(λ (x:(Bq×(List<|Ao×Ap)×Int))=>Za b a g g2 c h l x.1 x.2.1 x.2.2)
def Ig:(((List<|Ao×Ap)×(List<|List<|(List Aj)×Int))⊕((List<|Ad×Int)×(List<|Ao×Ap)×(List Int)×(List Ad)×(List<|Option<|List Ai)×Bool))->Ex->St->Prop:=xS (xX 5 6<|λ (y:((List<|Ao×Ap)×(List<|List<|(List Aj)×Int)))=>Y8 b a g c y.1 y.2)<|xL 5 ty Try.f25 (λ (y:((List<|Ad×Int)×(List<|Ao×Ap)×(List Int)×(List Ad)×(List<|Option<|List Ai)×Bool))=>.tup [.osl 5 1 0<|y.2.2.1.length,.d<|.bool y.2.2.2.2.2])<|λ (y:((List<|Ad×Int)×(List<|Ao×Ap)×(List Int)×(List Ad)×(List<|Option<|List Ai)×Bool))=>[some<|.box [.dptr (AA b) 0,.osl 6 2 0<|y.2.2.2.1.length,.mp 2,.osl 7 1 0<|y.2.2.2.2.1.length,.mp 4],none,some<|.map true false<|AH An AX y.1,none,some<|.map true true<|AH AZ A4 y.2.1,some<|.arr 1<|y.2.2.1.map eU8,some<|.arr 2<|y.2.2.2.1.map An,some<|.arr 1<|y.2.2.2.2.1.map<|eOp AB]
def EY:((List<|Ao×Ap)×(List<|List<|(List Aj)×Int)×Int)->St:=(λ (x:((List<|Ao×Ap)×(List<|List<|(List Aj)×Int)×Int))=>JbW b a g g2 c x.1 x.2.1 x.2.2)
def Ih:(((List<|Ad×Int)×(List<|Ao×Ap)×(List<|Int×(List Aj))×(List<|List<|(List Aj)×Int)×(List Ad)×(List<|Option<|List Ai))⊕((List<|Ad×Int)×(List<|Ao×Ap)×(List Int)×(List Ad)×(List<|Option<|List Ai)×Bool))->Ex->St->Prop:=xS (xX 5 2<|λ (y:((List<|Ad×Int)×(List<|Ao×Ap)×(List<|Int×(List Aj))×(List<|List<|(List Aj)×Int)×(List Ad)×(List<|Option<|List Ai)))=>JbT b y.1 y.2.1 y.2.2.1 y.2.2.2.1 y.2.2.2.2.1 y.2.2.2.2.2)<|xL 5 ty Try.f25 (λ (y:((List<|Ad×Int)×(List<|Ao×Ap)×(List Int)×(List Ad)×(List<|Option<|List Ai)×Bool))=>.tup [.osl 5 1 0<|y.2.2.1.length,.d<|.bool y.2.2.2.2.2])<|λ (y:((List<|Ad×Int)×(List<|Ao×Ap)×(List Int)×(List Ad)×(List<|Option<|List Ai)×Bool))=>[some<|.box [.dptr (AA b) 0,.osl 6 2 0<|y.2.2.2.1.length,.mp 2,.osl 7 1 0<|y.2.2.2.2.1.length,.mp 4],none,some<|.map true false<|AH An AX y.1,none,some<|.map true true<|AH AZ A4 y.2.1,some<|.arr 1<|y.2.2.1.map eU8,some<|.arr 2<|y.2.2.2.1.map An,some<|.arr 1<|y.2.2.2.2.1.map<|eOp AB]
def EZ:((List<|Ad×Int)×(List<|Ao×Ap)×(List<|Int×(List Aj))×(List<|List<|(List Aj)×Int)×(List Ad)×(List<|Option<|List Ai)×Int)->St:=(λ (x:((List<|Ad×Int)×(List<|Ao×Ap)×(List<|Int×(List Aj))×(List<|List<|(List Aj)×Int)×(List Ad)×(List<|Option<|List Ai)×Int))=>JbS b a x.1 x.2.1 x.2.2.1 x.2.2.2.1 x.2.2.2.2.1 x.2.2.2.2.2.1 x.2.2.2.2.2.2)
def Ii:(((List<|Ad×Int)×(List<|Ao×Ap)×(List Ad)×(List<|Option<|List Ai))⊕((List<|Ad×Int)×(List<|Ao×Ap)×(List Int)×(List Ad)×(List<|Option<|List Ai)×Bool))->Ex->St->Prop:=xS (xX 5 0<|λ (y:((List<|Ad×Int)×(List<|Ao×Ap)×(List Ad)×(List<|Option<|List Ai)))=>JbR b y.1 y.2.1 y.2.2.1 y.2.2.2)<|xL 5 ty Try.f25 (λ (y:((List<|Ad×Int)×(List<|Ao×Ap)×(List Int)×(List Ad)×(List<|Option<|List Ai)×Bool))=>.tup [.osl 5 1 0<|y.2.2.1.length,.d<|.bool y.2.2.2.2.2])<|λ (y:((List<|Ad×Int)×(List<|Ao×Ap)×(List Int)×(List Ad)×(List<|Option<|List Ai)×Bool))=>[some<|.box [.dptr (AA b) 0,.osl 6 2 0<|y.2.2.2.1.length,.mp 2,.osl 7 1 0<|y.2.2.2.2.1.length,.mp 4],none,some<|.map true false<|AH An AX y.1,none,some<|.map true true<|AH AZ A4 y.2.1,some<|.arr 1<|y.2.2.1.map eU8,some<|.arr 2<|y.2.2.2.1.map An,some<|.arr 1<|y.2.2.2.2.1.map<|eOp AB]
def E0:((List<|Ad×Int)×(List<|Ao×Ap)×(List<|List<|(List Aj)×Int)×(List<|Int×(List Aj))×(List Ad)×(List<|Option<|List Ai))->St:=(λ (x:((List<|Ad×Int)×(List<|Ao×Ap)×(List<|List<|(List Aj)×Int)×(List<|Int×(List Aj))×(List Ad)×(List<|Option<|List Ai)))=>JbQ b x.1 x.2.1 x.2.2.1 x.2.2.2.1 x.2.2.2.2.1 x.2.2.2.2.2)
variable {b B U C V aw ay W X Y az Z aa a r O P a0 a2 ab ac af v w i Q R g a3 a4 E J ag ah g2 ai t S T aj a5 G ak al c am h l a6 K ap A j ar I u a7 q au}
theorem HU (x:((List (Ad×Int))×(List (Int×(List Aj)))×(List Ad)×(List (Option (List Ai)))×Int)) (z:(((List (Ad×Int))×(List (Int×(List Aj)))×(List Ad)×(List (Option (List Ai)))×Int)⊕((List (Ad×Int))×(List (Int×(List Aj)))×(List Ad)×(List (Option (List Ai)))))) (H:BA n b a v i g g2 x.1 x.2.1 x.2.2.1 x.2.2.2.1 x.2.2.2.2=some z):WP (cxk 113 5) (AR Try.f25) [1,1,1,1,1,1,0,0,0,1,0,1,0,1,0,0,1,1,0,0,1,1,0,1,0,0] (AO 5 (EW b a v i g g2) (Ie b a v i g g2) z) (EW b a v i g g2 x):=by
 obtain⟨ai,t,S,T,aj⟩:=x;refine sr<|ck 1<|en<|sq<|cn H (λ H=>?_)<|λ H=>?_
 ·exact sk<|qz<|sq<|bk 5<|sr<|bx H λ b6 be H=>sp (AC Au be)<|ck 3<|en<|rz<|ck 3<|bx H λ L bf H=>ltP [0,5,8,2,9,4] (KP bf) (po1<|Pl.m false (.d<|.sl []) (nmM (encK:=eU8) (isz:=4) (enc:=Au) (m:=t) λ _ _=>rfl)<|po1<|po1<|po1<|po1<|Pl.z)<|tb (f:=Ha<|D1 [0,5,8,2,9,4] 11 6) [some<|.box [.dptr (AA b) 0,.osl 11 2 0<|L.2.2.1.length,.mp 2,.osl 12 1 0<|L.2.2.2.length,.mp 4],none,some<|.map true false<|AH An AX L.2.1,none,some<|.map true true<|AH AZ A4 v,some<|.nmp false (.d<|.sl [])<|Ek eU8 4 Au L.1,some<|.arr 1<|i.map<|ePG Au,some<|.arr 1<|a.map<|ePG Au,none,none,some<|.box<|JG b6,some<|.arr 2<|L.2.2.1.map An,some<|.arr 1<|L.2.2.2.map<|eOp AB] (po1<|po1<|po1<|po1<|po1<|Pl.m false (.d<|.sl []) (nmM (encK:=eU8) (isz:=4) (enc:=Au) (m:=L.1) λ _ _=>rfl)<|po1<|po1<|po1<|po1<|po1<|po1<|po1<|Pl.z)<|ae<|qN<|qz<|rz<|ck 2<|ae (by cases H;exact og<|gP [0,6,7,9,44,45,46,54,55,56] [0,1,2,3,4,5,6,7,11,12]<|po1<|po1<|po1<|po1<|po1<|Pl.m false (.d<|.sl []) (nmM (encK:=eU8) (isz:=4) (enc:=Au) (m:=L.1) λ _ _=>rfl)<|po1<|po1<|po1<|po1<|Pl.z)
 ·exact ex 4<|qx (by cases H;exact xo rfl<|gP [0,6,7,9,44,45,46] [0,1,2,3,4,5,6,7,8,9]<|po1<|po1<|po1<|po1<|po1<|Pl.m false (.d<|.sl []) (nmM (encK:=eU8) (isz:=4) (enc:=Au) (m:=t) λ _ _=>rfl)<|po1<|po1<|po1<|po1<|Pl.z)
theorem EK (x:(Bq×(List (Ao×Ap))×Int)) (z:((Bq×(List (Ao×Ap))×Int)⊕((Bq×(List (Ao×Ap)))⊕((List (Ad×Int))×(List (Ao×Ap))×(List Int)×(List Ad)×(List (Option (List Ai)))×Bool)))) (H:BB n b a g g2 c h l x.1 x.2.1 x.2.2=some z):WP (cxk 113 5) (AR Try.f25) [1,1,1,1,1,1,0,0,0,1,0,1,0,1,0,0,1,1,0,0,1,1,1,1,0,0,1,1,0,0,1,1,0,1,0,0] (AO 5 (EX b a g g2 c h l) (If b a g g2 c h l) z) (EX b a g g2 c h l x):=by
 obtain⟨j,ar,I⟩:=x;refine sr<|ck 1<|en<|sq<|cn H (λ H=>?_)<|λ H=>?_
 ·refine sk<|qz<|sj (λ (x:(Bq×(List<|Ao×Ap)))=>Zc b a g g2 c h l I x.1 x.2) (λ (x:(Bq×(List<|Ao×Ap)))=>CD n I x.1 x.2) z ?_ (λ o=>?_)
  ·rintro⟨q,au⟩ H;exact rz<|ck 2<|ae (by cases H;exact og<|gP [0,6,7,9,13,44,45,46,65,74,75,76] [0,1,2,3,4,5,6,7,8,9,10,11]<|po1<|po1<|po1<|po1<|po1<|Pl.m false (.d<|.sl []) (Je (encK:=eU8) (enc:=Au) (m:=c.2.1) λ _=>rfl)<|po1<|po1<|po1<|po1<|po1<|po1<|Pl.z)
  refine bk 9<|sr<|bx H λ cg bg H=>sp (AC Au bg)<|ck 3<|en<|sq<|sr<|ck 2<|bx H λ bd bh H=>lt [0,9,2,10,4] (GS bh)<|ck 1<|en<|cn H (λ H=>?_)<|λ H=>?_
  ·exact ex 9<|qx<|qH<|qs (gP [0,6,7,9,13,44,45,46,65,74,75,76] [0,1,2,3,4,5,6,7,8,9,10,11]<|po1<|po1<|po1<|po1<|po1<|Pl.m false (.d<|.sl []) (Je (encK:=eU8) (enc:=Au) (m:=c.2.1) λ _=>rfl)<|po1<|po1<|po1<|po1<|po1<|po1<|Pl.z)<|o (j,bd.1) H
  ·refine sk<|qz<|sq<|sr<|ck 2<|bx H λ ch bi H=>lt [0,9,2,10,4] (J8 bi)<|en<|cn H (λ H=>?_)<|λ H=>?_
   ·exact sq<|rg (tr (fzc (enc:=Au) (xs:=j.Nodes) 7 0 11 4)<|Pw [13] 7 (by kernel_rfl))<|ck 1<|bx H λ bj bl H=>cl [List.length bj] (Mz bl)<|ck 2<|en<|re<|qr<|qR<|qr (by cases H;exact lo rfl<|rl (s':=QL b c.1 bd.1 bj c.2.2.1 c.2.2.2 true)<|sg [2,3])
   ·exact sk<|qz<|rz<|ck 7<|bx H λ b7 bm H=>sp (Bh Au 11 4 bm)<|ck 3<|ae<|qN<|qs (gP [0,6,7,9,13,44,45,46,65,74,75,76] [0,1,2,3,4,5,6,7,8,9,10,14]<|po1<|po1<|po1<|po1<|po1<|Pl.m false (.d<|.sl []) (Je (encK:=eU8) (enc:=Au) (m:=c.2.1) λ _=>rfl)<|po1<|po1<|po1<|po1<|po1<|po1<|Pl.z)<|o (({ Nodes:=b7,From:=j.From,Cell:=j.Cell }:Bq),bd.1) H
 ·exact ex 8<|qx (by cases H;exact xo rfl<|gP [0,6,7,9,13,44,45,46,65] [0,1,2,3,4,5,6,7,8,9,10,11]<|po1<|po1<|po1<|po1<|po1<|Pl.m false (.d<|.sl []) (Je (encK:=eU8) (enc:=Au) (m:=c.2.1) λ _=>rfl)<|po1<|po1<|po1<|po1<|po1<|po1<|Pl.z)
theorem EL (x:((List (Ao×Ap))×(List (List ((List Aj)×Int)))×Int)) (z:(((List (Ao×Ap))×(List (List ((List Aj)×Int)))×Int)⊕(((List (Ao×Ap))×(List (List ((List Aj)×Int))))⊕((List (Ad×Int))×(List (Ao×Ap))×(List Int)×(List Ad)×(List (Option (List Ai)))×Bool)))) (H:BC n b a g g2 c x.1 x.2.1 x.2.2=some z):WP (cxk 113 5) (AR Try.f25) [1,1,1,1,1,1,0,0,0,1,0,1,0,1,0,0,1,1,0,0,1,1,1,1,0,0] (AO 5 (EY b a g g2 c) (Ig b a g c) z) (EY b a g g2 c x):=by
 obtain⟨am,h,l⟩:=x;refine sr<|ck 1<|en<|sq<|cn H (λ H=>?_)<|λ H=>?_
 ·refine sk<|qz<|sj (λ (x:((List<|Ao×Ap)×(List<|List<|(List Aj)×Int)))=>Y9 b a g g2 c l x.1 x.2) (λ (x:((List<|Ao×Ap)×(List<|List<|(List Aj)×Int)))=>Dy n l x.1 x.2) z ?_ (λ p=>?_)
  ·rintro⟨ap,A⟩ H;exact rz<|ck 2<|ae (by cases H;exact og<|gP [0,6,7,9,44,45,46,65] [0,1,2,3,4,5,6,7,8,9]<|po1<|po1<|po1<|po1<|po1<|Pl.m false (.d<|.sl []) (Je (encK:=eU8) (enc:=Au) (m:=c.2.1) λ _=>rfl)<|po1<|po1<|po1<|po1<|Pl.z)
  refine bk 7<|sr<|ck 2<|en<|sr<|ck 5<|en<|sq<|sr<|ck 2<|sp (Y3 (encK:=eU8) (enc:=Au) (k:=5) (m:=c.2.1) (key:=l) (x:=.int .u8 l) Jgk)<|sp (AS Au<|Cl l c.2.1)<|ck 1<|en<|bk 8<|bx H λ b8 a8 H=>?_;rcases b8 with M|ci
  ·refine lX EK a8 (tr (Cu 10 0 4 (by kernel_rfl))<|gP [0,6,7,9,13,44,45,46,65,74,75,76] [0,1,2,3,4,5,6,10,7,8,9,11]<|po1<|po1<|po1<|po1<|po1<|Pl.m false (.d<|.sl []) (Je (encK:=eU8) (enc:=Au) (m:=c.2.1) λ _=>rfl)<|po1<|po1<|po1<|po1<|po1<|po1<|Pl.z) rfl λ s bn=>qH<|qs (bn)<|sr<|ck 6<|en<|cn H (λ H=>?_)<|λ H=>?_
   ·exact rg (tr (tr (tr (tr (tr (fzc (enc:=Au) (xs:=M.1.Nodes) 7 0 11 4)<|Pw [13,100,101,102] 7 (by kernel_rfl))<|SD (e:=H5 M.1) 13 (by kernel_rfl))<|SD (e:=H5 M.1) 100 (by kernel_rfl))<|SD (e:=H5 M.1) 101 (by kernel_rfl))<|SD (e:=H5 M.1) 102 (by kernel_rfl))<|ck 3<|bx H λ b9 bp H=>sp (Bh (ePG Au) 6 1 bp)<|ck 1<|ae<|qN<|qs (gP [0,6,7,9,44,45,46,65] [0,1,2,3,4,5,13,8,9,10]<|po1<|po1<|po1<|po1<|po1<|Pl.m false (.d<|.sl []) (Je (encK:=eU8) (enc:=Au) (m:=c.2.1) λ _=>rfl)<|po1<|po1<|po1<|po1<|Pl.z)<|p (M.2,b9) H
   ·exact sk<|qN<|qs (gP [0,6,7,9,44,45,46,65] [0,1,2,3,4,5,6,8,9,10]<|po1<|po1<|po1<|po1<|po1<|Pl.m false (.d<|.sl []) (Je (encK:=eU8) (enc:=Au) (m:=c.2.1) λ _=>rfl)<|po1<|po1<|po1<|po1<|Pl.z)<|p (M.2,h) H
  ·exact lL EK a8 (tr (Cu 10 0 4 (by kernel_rfl))<|gP [0,6,7,9,13,44,45,46,65,74,75,76] [0,1,2,3,4,5,6,10,7,8,9,11]<|po1<|po1<|po1<|po1<|po1<|Pl.m false (.d<|.sl []) (Je (encK:=eU8) (enc:=Au) (m:=c.2.1) λ _=>rfl)<|po1<|po1<|po1<|po1<|po1<|po1<|Pl.z) rfl λ s bq=>qR<|qr<|qR<|qr (by cases H;exact lo rfl bq)
 ·exact ex 6<|qx (by cases H;exact xo rfl<|gP [0,6,7,44,45,46] [0,1,2,3,4,5,6,7,8,9]<|po1<|po1<|po1<|po1<|po1<|Pl.m false (.d<|.sl []) (Je (encK:=eU8) (enc:=Au) (m:=c.2.1) λ _=>rfl)<|po1<|po1<|po1<|po1<|Pl.z)
theorem EM (x:((List (Ad×Int))×(List (Ao×Ap))×(List (Int×(List Aj)))×(List (List ((List Aj)×Int)))×(List Ad)×(List (Option (List Ai)))×Int)) (z:(((List (Ad×Int))×(List (Ao×Ap))×(List (Int×(List Aj)))×(List (List ((List Aj)×Int)))×(List Ad)×(List (Option (List Ai)))×Int)⊕(((List (Ad×Int))×(List (Ao×Ap))×(List (Int×(List Aj)))×(List (List ((List Aj)×Int)))×(List Ad)×(List (Option (List Ai))))⊕((List (Ad×Int))×(List (Ao×Ap))×(List Int)×(List Ad)×(List (Option (List Ai)))×Bool)))) (H:BD n b a x.1 x.2.1 x.2.2.1 x.2.2.2.1 x.2.2.2.2.1 x.2.2.2.2.2.1 x.2.2.2.2.2.2=some z):WP (cxk 113 5) (AR Try.f25) [1,1,1,1,1,1,0,0,0,1,0,1,0,1,0,0] (AO 5 (EZ b a) (Ih b) z) (EZ b a x):=by
 obtain⟨af,v,w,i,Q,R,g⟩:=x;refine sr<|ck 1<|en<|sq<|cn H (λ H=>?_)<|λ H=>?_
 ·refine sk<|qz<|sq<|bk 3<|sr<|bx H λ cj a9 H=>sp (Bs 7 1 a9)<|sp (De (ePG Au) 7 0 (ty 117) a9)<|ck 1<|en<|sr<|ck 1<|xzm (xok _ _) 5<|en<|sq<|sq<|bx H λ g2 br H=>rg (JeU (e:=Au) 9 (QA br) (by kernel_rfl))<|ck 4<|sp (AS Au g2.Nodes)<|ck 1<|en<|bk 4<|bx H λ c bt H=>lX HU bt (tr (SD (e:=H5 g2) 9 (by kernel_rfl))<|gP [0,6,7,9,44,45,46,54,55,56] [0,1,2,3,4,5,6,7,8,9]<|po1<|po1<|po1<|po1<|po1<|Pl.m false (.d<|.sl []) (nmM (encK:=eU8) (isz:=4) (enc:=Au) (m:=([]:(List<|Int×(List Aj)))) λ _ _=>rfl)<|po1<|po1<|po1<|po1<|Pl.z) rfl λ s bu=>qH<|qs (bu)<|sr<|ck 1<|en<|bk 6<|bx H λ cc ba H=>?_;rcases cc with cm|co
  ·exact lX EL ba (tr (XP (ka:=false) (dv:=.d<|.sl []) (encK:=eU8) (isz:=4) (enc:=Au) 5 c.2.1)<|gP [0,6,7,9,44,45,46,65] [0,1,2,3,4,5,6,7,8,9]<|po1<|po1<|po1<|po1<|po1<|Pl.m false (.d<|.sl []) (Je (encK:=eU8) (enc:=Au) (m:=c.2.1) λ _=>rfl)<|po1<|po1<|po1<|po1<|Pl.z) rfl λ s bv=>qH<|qN<|qs (bv)<|rz<|ck 2<|ae (by cases H;exact og<|gP [0,6,7,44,45,46] [0,1,2,3,4,5,6,7,8,9]<|po1<|po1<|po1<|po1<|po1<|Pl.m false (.d<|.sl []) (Je (encK:=eU8) (enc:=Au) (m:=c.2.1) λ _=>rfl)<|po1<|po1<|po1<|po1<|Pl.z)
  ·exact lL EL ba (tr (XP (ka:=false) (dv:=.d<|.sl []) (encK:=eU8) (isz:=4) (enc:=Au) 5 c.2.1)<|gP [0,6,7,9,44,45,46,65] [0,1,2,3,4,5,6,7,8,9]<|po1<|po1<|po1<|po1<|po1<|Pl.m false (.d<|.sl []) (Je (encK:=eU8) (enc:=Au) (m:=c.2.1) λ _=>rfl)<|po1<|po1<|po1<|po1<|Pl.z) rfl λ s bw=>qR<|qR<|qr (by cases H;exact lo rfl bw)
 ·exact ex 2<|qx (by cases H;exact xo rfl<|gP [0,6,7] [0,1,2,3,4,5,6,8,9]<|po1<|po1<|po1<|po1<|po1<|Pl.m false (.d<|.sl []) (Je (encK:=eU8) (enc:=Au) (m:=w) λ _=>rfl)<|po1<|po1<|po1<|Pl.z)
theorem EN (x:((List (Ad×Int))×(List (Ao×Ap))×(List (List ((List Aj)×Int)))×(List (Int×(List Aj)))×(List Ad)×(List (Option (List Ai))))) (z:(((List (Ad×Int))×(List (Ao×Ap))×(List (List ((List Aj)×Int)))×(List (Int×(List Aj)))×(List Ad)×(List (Option (List Ai))))⊕(((List (Ad×Int))×(List (Ao×Ap))×(List Ad)×(List (Option (List Ai))))⊕((List (Ad×Int))×(List (Ao×Ap))×(List Int)×(List Ad)×(List (Option (List Ai)))×Bool)))) (H:B5 n b x.1 x.2.1 x.2.2.1 x.2.2.2.1 x.2.2.2.2.1 x.2.2.2.2.2=some z):WP (cxk 113 5) (AR Try.f25) [1,1,1,1,1,1,0,0,0] (AO 5 (E0 b) (Ii b) z) (E0 b x):=by
 obtain⟨Z,aa,a,r,O,P⟩:=x;refine sq<|sr<|ck 3<|en<|cn H (λ H=>?_)<|λ H=>?_
 ·refine sk<|qz<|bk 1<|sr<|ck 1<|en<|sq<|sr<|ck 3<|en<|bk 2<|bx H λ cd bb H=>?_;rcases cd with ce|cp
  ·exact lX EM bb (tr (Ay.nilo 7 1 (by kernel_rfl))<|gP [0,6,7,44,45,46] [0,1,2,3,4,6,9,5,7,8]<|po1<|po1<|po1<|po1<|po1<|Pl.m false (.d<|.sl []) (Je (encK:=eU8) (enc:=Au) (m:=r) λ _=>rfl)<|po1<|po1<|po1<|po1<|Pl.z) rfl λ s bz=>qH<|qs (bz)<|rz<|ck 2<|ae<|qN (by cases H;exact og<|gP [0,5,6] [0,1,2,3,4,6,5,7,8]<|po1<|po1<|po1<|po1<|po1<|po1<|Pl.m false (.d<|.sl []) (Je (encK:=eU8) (enc:=Au) (m:=ce.2.2.1) λ _=>rfl)<|po1<|po1<|Pl.z)
  ·exact lL EM bb (tr (Ay.nilo 7 1 (by kernel_rfl))<|gP [0,6,7,44,45,46] [0,1,2,3,4,6,9,5,7,8]<|po1<|po1<|po1<|po1<|po1<|Pl.m false (.d<|.sl []) (Je (encK:=eU8) (enc:=Au) (m:=r) λ _=>rfl)<|po1<|po1<|po1<|po1<|Pl.z) rfl λ s b0=>qR<|qr<|qR (by cases H;exact lo rfl b0)
 ·exact ex 0<|qx (by cases H;exact xo rfl<|sg [])
theorem Jo {z} (H:Db n b B U C V=some z):BV Try.prog 25 [.ptr 0 0] [some (.box [.dptr (AA b) 0,.osl 1 2 0 (B.length),.mp 2,.osl 3 1 0 (C.length),.mp 4]),some (.arr 2 (B.map An)),some (.map true false (AH An AX U)),some (.arr 1 (C.map (eOp AB))),some (.map true true (AH AZ A4 V))] 5 (.tup [.osl 5 1 0 (z.2.2.1.length),.d (.bool z.2.2.2.2.2)]) [some (.box [.dptr (AA b) 0,.osl 6 2 0 (z.2.2.2.1.length),.mp 2,.osl 7 1 0 (z.2.2.2.2.1.length),.mp 4]),none,some (.map true false (AH An AX z.1)),none,some (.map true true (AH AZ A4 z.2.1)),some (.arr 1 (z.2.2.1.map eU8)),some (.arr 2 (z.2.2.2.1.map An)),some (.arr 1 (z.2.2.2.2.1.map (eOp AB)))]:=by
 refine fL 113 5 (JbP b B U C V) Try.func25<|sr<|ck 2<|en<|sq<|sr<|ck 8<|en<|cn H (λ H=>?_)<|λ H=>?_
 ·exact sr<|ck 2<|en<|re<|qr (by cases H;exact pL<|rl (s':=QL b U V ([]:List Int) B C false)<|tr (tr (tr (Ay.nilo 2 1 (by kernel_rfl))<|EB (k:=1) (sz:=2) 0 1 (B.map An) (B.length) (by kernel_rfl) B1 leM rfl)<|EB (k:=3) (sz:=1) 0 3 (C.map<|eOp AB) (C.length) (by kernel_rfl) B1 leM rfl)<|sg [2,3])
 ·refine sk<|qz<|sr<|ck 2<|bx H λ cq b1 H=>lt [0,1,2,3,4] (D8 b1)<|ck 2<|bx H λ cr b2 H=>lt [0,5,2,6,4] (D8 b2)<|ck 4<|en<|sr<|ck 2<|bx H λ cs b3 H=>lt [0,7,2,8,4] (GS b3)<|en<|sr<|ck 1<|sF<|ck 1<|xbd (xok _ _)<|ck 2<|en<|sr<|ck 2<|en<|sq<|bk 0<|bx H λ cf bc H=>?_;rcases cf with av|ct
  ·exact lX EN bc (tr (tr (JeT (ka:=false) (va:=false) 11)<|XP (ka:=false) (dv:=.d<|.sl []) (encK:=eU8) (isz:=4) (enc:=Au) 11 ([]:(List<|Int×(List Aj))))<|gP [0,5,6] [0,1,2,3,4,10,11,7,8]<|po1<|po1<|po1<|po1<|po1<|po1<|Pl.m false (.d<|.sl []) (Je (encK:=eU8) (enc:=Au) (m:=([]:(List<|Int×(List Aj)))) λ _=>rfl)<|po1<|po1<|Pl.z) rfl λ s b4=>qH<|qs (b4)<|sr<|ck 2<|en<|re (by cases H;exact pL<|rl (s':=QL b av.1 av.2.1 ([]:List Int) av.2.2.1 av.2.2.2 false)<|tr (Ay.nilo 2 1 (by kernel_rfl))<|sg [2,3])
  ·exact lL EN bc (tr (tr (JeT (ka:=false) (va:=false) 11)<|XP (ka:=false) (dv:=.d<|.sl []) (encK:=eU8) (isz:=4) (enc:=Au) 11 ([]:(List<|Int×(List Aj))))<|gP [0,5,6] [0,1,2,3,4,10,11,7,8]<|po1<|po1<|po1<|po1<|po1<|po1<|Pl.m false (.d<|.sl []) (Je (encK:=eU8) (enc:=Au) (m:=([]:(List<|Int×(List Aj)))) λ _=>rfl)<|po1<|po1<|Pl.z) rfl λ s b5=>qR<|qr (by cases H;exact pL b5)
end
section
variable (a:Ab)
def Jhv:St:=⟨(0,.agg [.d<|.int .i64 a.Modes,.d<|.int .u8 a.Accept,.d<|.sl<|a.Rules.map Ax])::[],[]⟩
variable {a}
theorem C2 {z} (H:Br n a=some z):AQ Try.prog 10 [.agg (Ba a)] (.tup [.agg [.d (.sl (z.1.Cells.map eU8)),.d (.str z.1.A),.d (.str z.1.B)],.d (.int .i64 z.2)]):=by
 refine fO 38 (Jhv a) Try.func10<|sr<|ck 3<|en<|sq<|sr<|ck 1<|bx H λ o c H=>ca false (Ni c)<|ck 1<|en<|cn H (λ H=>?_)<|λ H=>?_
 ·exact sr<|ck 3<|en<|re<|qr (by cases H;exact pr<|rT (vs:=[.agg [.d<|.nil,.d<|.str [],.d<|.str []],.d<|.int .i64 20]) []<|t1 (a1<|c1 vn<|c1 vd<|c1 vd<|c0)<|t1 (ad vd)<|t0)
 ·refine sk<|qz<|sr<|ck 1<|bx H λ b e H=>lt [] (JN e)<|tb (f:=Ha<|D1 [] 2 0) [some<|.box<|Ba a,some<|.box [.d<|.nil,.d<|.str [],.d<|.str []],some<|.box<|DC b (.osl 3 1 0<|b.Arcs.length)<|.osl 4 1 0<|b.Accepts.length,some<|.narr 1<|b.Arcs.map<|nL 3 Bm,some<|.arr 1<|b.Accepts.map eB] (po1<|po1<|po1<|pn1 (nL 3 Bm) b.Arcs<|po1<|Pl.z)<|ck 1<|en<|sq<|rg (tr (tr (Vl (encN:=(nL 3 Bm)) (encD:=(eL Bm)) (xss:=b.Arcs) (sz:=1) 2 0 3 (by kernel_rfl) (by kernel_rfl) (λ _=>rfl)<|λ _=>rfl)<|fzc (enc:=eB) (xs:=b.Accepts) 2 1 4 1)<|Pw [4] 2 (by kernel_rfl))<|ck 1<|bx H λ p g H=>lt [] (N5 g)<|bx H λ l h H=>lt [5,6,7,8,9] (Jo h)<|ck 5<|en<|sq<|sr<|ck 2<|en<|cn H (λ H=>?_)<|λ H=>?_
  ·exact sr<|ck 3<|en<|re<|qr (by cases H;exact pr<|rT (vs:=[.agg [.d<|.nil,.d<|.str [],.d<|.str []],.d<|.int .i64 0]) []<|t1 (a1<|c1 vn<|c1 vd<|c1 vd<|c0)<|t1 (ad vd)<|t0)
  ·refine sk<|qz<|sq<|rg (fz (enc:=eU8) (xs:=l.2.2.1) 5 10 1)<|ck 2<|bx H λ m i H=>ca false (MA i)<|ck 1<|en<|sq<|sr<|ck 1<|sp (AS eS m)<|ck 1<|en<|cn H (λ H=>?_)<|λ H=>?_
   ·exact sr<|ck 3<|en<|re<|qr (by cases H;exact pr<|rT (vs:=[.agg [.d<|.nil,.d<|.str [],.d<|.str []],.d<|.int .i64 0]) []<|t1 (a1<|c1 vn<|c1 vd<|c1 vd<|c0)<|t1 (ad vd)<|t0)
   ·exact sk<|qz<|sr<|ck 2<|bx H λ q j H=>sp (AC eS j)<|ck 2<|bx H λ r k H=>sp (AC eS k)<|ck 4<|en<|re (by cases H;exact pr rdT)
end
section
variable (a:(List Int)) (b:(List Int)) (e:Int)
def Jhw:St:=⟨(0,.d<|.sl<|a.map eU8)::(1,.d<|.sl<|b.map eU8)::[],[]⟩
def Jhx:St:=⟨(0,.d<|.sl<|a.map eU8)::(1,.d<|.sl<|b.map eU8)::(5,.d<|.int .i64 e)::[],[]⟩
def Jhy:St:=⟨[],[]⟩
def ME:(Unit⊕Bool)->Ex->St->Prop:=xS (xX 0 0<|λ (_:Unit)=>Jhy)<|xR ty Try.f17<|λ (y:Bool)=>.d<|.bool y
def HM:Int->St:=(λ (x:Int)=>Jhx a b x)
variable {a b e}
theorem Hh (x:Int) (z:(Int⊕(Unit⊕Bool))) (H:EG n a b x=some z):WP (cxk 26 0) (AR Try.f17) [1,1,0,1,0,0] (AO 0 (HM a b) (ME) z) (HM a b x):=by
 revert H;generalize x=e;intro H;refine sq<|sr<|ck 2<|sp (AS eU8 a)<|ck 1<|en<|cn H (λ H=>?_)<|λ H=>?_
 ·refine sk<|qz<|sq<|bk 1<|sr<|ck 2<|bx H λ k f H=>sp (AC eU8 f)<|ck 3<|bx H λ l g H=>sp (AC eU8 g)<|ck 2<|en<|cn H (λ H=>?_)<|λ H=>?_
  ·exact sr<|ck 1<|en<|re<|qR<|qr (by cases H;exact ro rfl rd)
  ·exact sk<|qN<|qz<|rz<|ck 3<|ae (by cases H;exact og<|sg [0,1,5])
 ·exact ex 0<|qx (by cases H;exact xo rfl<|sg [])
theorem IJ {z} (H:EV n a b=some z):AQ Try.prog 17 [.d (.sl (a.map eU8)),.d (.sl (b.map eU8))] (.d (.bool z)):=by
 refine fO 26 (Jhw a b) Try.func17<|sr<|ck 1<|en<|sq<|sr<|ck 1<|sp (AS eU8 a)<|ck 1<|sp (AS eU8 b)<|ck 1<|en<|cn H (λ H=>?_)<|λ H=>?_
 ·exact sr<|ck 1<|en<|re<|qr (by cases H;exact pr rd)
 ·refine sk<|qz<|sq<|sr<|ck 1<|en<|bk 0<|bx H λ j c H=>?_;rcases j with m|o
  ·exact lX Hh c (sg [0,1,5]) rfl λ s h=>qH<|qs (h)<|sr<|ck 1<|en<|re (by cases H;exact pr rd)
  ·exact lR Hh c (sg [0,1,5]) rfl λ s i=>qR<|qr (by cases H;exact pr i)
end
section
variable (a:Bk) (b:Bk)
def Jhz:St:=⟨(0,.agg [.d<|.sl<|a.Cells.map eU8,.d<|.str a.A,.d<|.str a.B])::(1,.agg [.d<|.sl<|b.Cells.map eU8,.d<|.str b.A,.d<|.str b.B])::[],[]⟩
variable {a b}
theorem GV {z} (H:GG n a b=some z):AQ Try.prog 12 [.agg (TJ a),.agg (TJ b)] (.d (.bool z)):=by
 exact fO 24 (Jhz a b) Try.func12<|sr<|ck 3<|en<|sr<|ck 7<|gc 1 (a.A==b.A)<|ck 1<|gc 2 (a.A==b.A)<|pA<|ck 2<|gc 1 ((a.A==b.A)&&(a.B==b.B))<|ck 1<|gc 1 ((a.A==b.A)&&(a.B==b.B))<|bx H λ e c H=>cG false (leZ) rfl (λ hg=>IJ<|CC c hg) (Or.inl rfl) (CB (λ hh=>hh)<|CB (λ hh=>hh)<|EA) rfl<|pA<|ck 1<|en<|re (by cases H;exact pr rd)
end
section
variable (a:(List UInt8)) (b:(List UInt8))
def JhA:St:=⟨(0,.d<|.str a)::(1,.d<|.str b)::[],[]⟩
variable {a b}
theorem N6 {z} (H:LY n a b=some z):AQ Try.prog 71 [.d (.str a),.d (.str b)] (.d (.bool z)):=by
 exact fO 18 (JhA a b) Try.func71<|sr<|ck 1<|en<|sr<|ck 8<|gc 1 (decide<|((a.length:Nat):Int)>=((b.length:Nat):Int))<|bx H λ e c H=>sE (λ hg=>Ll<|CC c hg)<|ck 1<|gc 1 (decide<|((a.length:Nat):Int)>=((b.length:Nat):Int))<|pA<|ck 1<|en<|re (by cases H;exact pr rd)
end
section
variable (a:(List UInt8)) (b:(List UInt8))
def JhB:St:=⟨(0,.d<|.str a)::(1,.d<|.str b)::[],[]⟩
variable {a b}
theorem N7 {z} (H:LZ n a b=some z):AQ Try.prog 56 [.d (.str a),.d (.str b)] (.d (.bool z)):=by
 exact fO 8 (JhB a b) Try.func56<|sr<|ck 1<|en<|sr<|ck 2<|bx H λ e c H=>ca true (N6 c)<|ck 1<|en<|re (by cases H;exact pr rd)
end
end Go.AI
end
section
namespace Go.AI
open Go.Proofs
set_option maxRecDepth 10000
variable {n:Nat}
section
variable (g:As) (c:(List Int)) (f:(List UInt8)) (q:(List (AW×Bool))) (p:(List AW)) (b:AW) (o:(List Fv)) (e:(List (AW×Bool))) (h:(List AW)) (u:Int) (w:(List (AW×Bool))) (r:(List AW)) (t:(List (AW×Bool))) (j:(List AW))
def JhC:St:=⟨(0,.dptr (AA g) 0)::(1,.d<|.sl<|c.map eU8)::(2,.d<|.str f)::[],[]⟩
def JhD:St:=⟨(0,.dptr (AA g) 0)::(1,.d<|.sl<|c.map eU8)::(2,.d<|.str f)::(7,.mp 0)::(8,.osl 1 3 0<|p.length)::[],[some<|.map true false<|AH CS eB q,some<|.arr 3<|p.map CS]⟩
def JhE:St:=⟨[],[]⟩
def JhF:St:=⟨(0,.dptr (AA g) 0)::(1,.d<|.sl<|c.map eU8)::(2,.d<|.str f)::(7,.mp 0)::(8,.osl 1 3 0<|h.length)::(9,.ptr 2 0)::(61,.d<|.sl<|o.map Bm)::(62,.d<|.int .i64 ((o.length:Nat):Int))::(63,.d<|.int .i64 u)::[],[some<|.map true false<|AH CS eB e,some<|.arr 3<|h.map CS,some<|.box<|Jbb b]⟩
def JhG:St:=⟨(0,.dptr (AA g) 0)::(1,.d<|.sl<|c.map eU8)::(2,.d<|.str f)::(7,.mp 0)::(8,.osl 1 3 0<|r.length)::[],[some<|.map true false<|AH CS eB w,some<|.arr 3<|r.map CS]⟩
def JhH:St:=⟨(0,.dptr (AA g) 0)::(1,.d<|.sl<|c.map eU8)::(2,.d<|.str f)::(7,.mp 0)::(8,.osl 1 3 0<|j.length)::(9,.ptr 2 0)::(61,.d<|.sl<|o.map Bm)::(62,.d<|.int .i64 ((o.length:Nat):Int))::(63,.d<|.int .i64 u)::[],[some<|.map true false<|AH CS eB t,some<|.arr 3<|j.map CS,some<|.box<|Jbb b]⟩
def J9:((List<|AW×Bool)×(List AW))->Ex->St->Prop:=xX 0 2<|λ (y:((List<|AW×Bool)×(List AW)))=>JhG g c f y.1 y.2
def FU:((List<|AW×Bool)×(List AW)×Int)->St:=(λ (x:((List<|AW×Bool)×(List AW)×Int))=>JhF g c f b o x.1 x.2.1 x.2.2)
def Ka:(Unit⊕Bool)->Ex->St->Prop:=xS (xX 0 0<|λ (_:Unit)=>JhE)<|xR ty Try.f33<|λ (y:Bool)=>.d<|.bool y
def FV:((List<|AW×Bool)×(List AW))->St:=(λ (x:((List<|AW×Bool)×(List AW)))=>JhD g c f x.1 x.2)
variable {g c f q p b o e h u w r t j}
theorem Jp (x:((List (AW×Bool))×(List AW)×Int)) (z:(((List (AW×Bool))×(List AW)×Int)⊕((List (AW×Bool))×(List AW)))) (H:Hb n g c f b o x.1 x.2.1 x.2.2=some z):WP (cxk 111 0) (AR Try.f33) [1,1,1,0,0,0,1,0,1,1,1,1,0,0] (AO 0 (FU g c f b o) (J9 g c f) z) (FU g c f b o x):=by
 obtain⟨e,h,u⟩:=x;refine sr<|ck 1<|en<|sq<|cn H (λ H=>?_)<|λ H=>?_
 ·refine sk<|qz<|sj (λ (x:((List<|AW×Bool)×(List AW)))=>JhH g c f b o u x.1 x.2) (λ (x:((List<|AW×Bool)×(List AW)))=>Dc n u x.1 x.2) z ?_ (λ a=>?_)
  ·rintro⟨t,j⟩ H;exact rz<|ck 2<|ae (by cases H;exact og<|sg [0,1,2,7,8,9,61,62,63])
  refine bk 3<|sr<|bx H λ i G H=>sp (AC Bm G)<|ck 3<|en<|sq<|sr<|ck 3<|bx H λ X I H=>sp (TE eU8 1 I)<|ck 2<|bx H λ E J H=>ca false (L6 J)<|ck 4<|gc 1 (!(!E))<|bx H λ s9 K H=>sE (λ hg=>Ll<|CC K hg)<|ck 1<|gc 1 (!(!E))<|bx H λ Y L H=>cG false (leZ) rfl (λ hg=>N7<|CC L hg) (Or.inl rfl) (CB (λ hh=>hh)<|CB (λ hh=>hh)<|EA) rfl<|gc 1 (!(!E))<|pO<|en<|cn H (λ H=>?_)<|λ H=>?_
  ·exact ex 3<|qx<|qH<|qs (sg [0,1,2,7,8,9,61,62,63])<|a (e,h) H
  ·refine sk<|qz<|sr<|ck 4<|sp (AS eU8 i.Cells)<|ck 12<|en<|sr<|ck 2<|sp (Kt (enc:=eB) (encK:=CS) (k:=0) (e1:=λ x=>.bool x) (m:=e) (l:=[.d<|.int .i64<|Be .i64 b.Cell ((i.Cells.length:Nat):Int),.d<|.int .i64<|Be .i64 b.Byte ((i.Print.length:Nat):Int),.d<|.int .i64 i.To]) (key:=({ Cell:=Be .i64 b.Cell ((i.Cells.length:Nat):Int),Byte:=Be .i64 b.Byte ((i.Print.length:Nat):Int),State:=i.To }:AW)) (z:=false) (vz:=[.bool false]) WV false)<|ck 1<|en<|cn H (λ H=>?_)<|λ H=>?_
   ·exact sr<|ck 2<|sp (Lm (enc:=eB) (encK:=CS) (k:=0) (e1:=λ x=>.bool x) (m:=e) (l:=[.d<|.int .i64<|Be .i64 b.Cell ((i.Cells.length:Nat):Int),.d<|.int .i64<|Be .i64 b.Byte ((i.Print.length:Nat):Int),.d<|.int .i64 i.To]) (key:=({ Cell:=Be .i64 b.Cell ((i.Cells.length:Nat):Int),Byte:=Be .i64 b.Byte ((i.Print.length:Nat):Int),State:=i.To }:AW)) (y:=true) (v:=.d<|.bool true) (vz:=[.bool false]) WV)<|en<|rz<|ck 3<|bx H λ V M H=>sp (Bh CS 1 3 M)<|ck 1<|ae<|qN<|qs (sg [0,1,2,7,8,9,61,62,63])<|a ((Eh ({ Cell:=Be .i64 b.Cell ((i.Cells.length:Nat):Int),Byte:=Be .i64 b.Byte ((i.Print.length:Nat):Int),State:=i.To }:AW) true e),V) H
   ·exact sk<|qN<|qs (sg [0,1,2,7,8,9,61,62,63])<|a (e,h) H
 ·exact ex 2<|qx (by cases H;exact xo rfl<|sg [0,1,2,7,8])
theorem FR (x:((List (AW×Bool))×(List AW))) (z:(((List (AW×Bool))×(List AW))⊕(Unit⊕Bool))) (H:Hc n g c f x.1 x.2=some z):WP (cxk 111 0) (AR Try.f33) [1,1,1,0,0,0] (AO 0 (FV g c f) (Ka) z) (FV g c f x):=by
 obtain⟨q,p⟩:=x;refine sq<|sr<|ck 3<|en<|cn H (λ H=>?_)<|λ H=>?_
 ·refine sk<|qz<|bk 1<|sr<|ck 4<|bx H λ b B H=>sp (Bs 1 3 B)<|sp (De CS 1 0 (ty 138) B)<|ck 2<|en<|sr<|ck 4<|bx H λ O A H=>sp (WK 1 3 A)<|ck 1<|en<|sq<|sq<|rg (Tv (k:=1) (sz:=3) 8 (O.map CS) (O.length) (by kernel_rfl) (Tx A) (WH (enc:=CS) A)<|Tz A)<|ck 3<|sp (AS eU8 c)<|ck 3<|gc 1 (b.Cell==((c.length:Nat):Int))<|ck 1<|gc 2 (b.Cell==((c.length:Nat):Int))<|pA<|ck 2<|gc 3 ((b.Cell==((c.length:Nat):Int))&&(b.Byte==((f.length:Nat):Int)))<|ck 1<|gc 1 ((b.Cell==((c.length:Nat):Int))&&(b.Byte==((f.length:Nat):Int)))<|bx H λ Z P H=>sE (λ hg=>AC eB<|CC P hg)<|gc 1 ((b.Cell==((c.length:Nat):Int))&&(b.Byte==((f.length:Nat):Int)))<|pA<|en<|cn H (λ H=>?_)<|λ H=>?_
  ·exact sr<|ck 1<|en<|re<|qr<|qR (by cases H;exact ro rfl rd)
  ·exact sk<|qz<|sr<|ck 6<|bx H λ o Q H=>sp (AC (eL Bm) Q)<|ck 1<|sp (AS Bm o)<|ck 1<|en<|bk 2<|bx H λ aa R H=>lX Jp R (sg [0,1,2,7,8,9,61,62,63]) rfl λ s S=>qH<|qN (by cases H;exact og<|tr (S)<|sg [0,1,2,7,8])
 ·exact ex 0<|qx (by cases H;exact xo rfl<|sg [])
theorem Hi {z} (H:Gb n g c f=some z):AQ Try.prog 33 [.dptr (AA g) 0,.d (.sl (c.map eU8)),.d (.str f)] (.d (.bool z)):=by
 refine fO 111 (JhC g c f) Try.func33<|sr<|ck 1<|en<|sr<|ck 2<|sp (Lm (enc:=eB) (encK:=CS) (k:=0) (e1:=λ x=>.bool x) (m:=[]) (l:=[.d<|.int .i64 0,.d<|.int .i64 0,.d<|.int .i64 0]) (key:=({ Cell:=0,Byte:=0,State:=0 }:AW)) (y:=true) (v:=.d<|.bool true) (vz:=[.bool false]) WV)<|ck 2<|en<|sr<|ck 3<|en<|sq<|bk 0<|bx H λ W C H=>?_;rcases W with ab|ac
 ·exact lX FR C (sg [0,1,2,7,8]) rfl λ s T=>qH<|qs (T)<|sr<|ck 1<|en<|re (by cases H;exact pr rd)
 ·exact lR FR C (sg [0,1,2,7,8]) rfl λ s U=>qR<|qr (by cases H;exact pr U)
end
section
variable (a:Ab) (b:Bk)
def JhI:St:=⟨(0,.agg [.d<|.int .i64 a.Modes,.d<|.int .u8 a.Accept,.d<|.sl<|a.Rules.map Ax])::(1,.agg [.d<|.sl<|b.Cells.map eU8,.d<|.str b.A,.d<|.str b.B])::[],[]⟩
variable {a b}
theorem Ij {z} (H:Gc n a b=some z):AQ Try.prog 20 [.agg (Ba a),.agg (TJ b)] (.d (.bool z)):=by
 refine fO 32 (JhI a b) Try.func20<|sr<|ck 3<|en<|sq<|sr<|ck 1<|bx H λ e g H=>ca false (Ni g)<|ck 3<|gc 1 (!(!e))<|ck 1<|gc 2 (!(!e))<|pO<|en<|cn H (λ H=>?_)<|λ H=>?_
 ·exact sr<|ck 1<|en<|re<|qr (by cases H;exact pr rd)
 ·exact sk<|qz<|sr<|ck 1<|bx H λ c h H=>lt [] (JN h)<|tb (f:=Ha<|D1 [] 2 0) [some<|.box<|Ba a,some<|.box<|TJ b,some<|.box<|DC c (.osl 3 1 0<|c.Arcs.length)<|.osl 4 1 0<|c.Accepts.length,some<|.narr 1<|c.Arcs.map<|nL 3 Bm,some<|.arr 1<|c.Accepts.map eB] (po1<|po1<|po1<|pn1 (nL 3 Bm) c.Arcs<|po1<|Pl.z)<|ck 1<|en<|sq<|rg (tr (tr (Vl (encN:=(nL 3 Bm)) (encD:=(eL Bm)) (xss:=c.Arcs) (sz:=1) 2 0 3 (by kernel_rfl) (by kernel_rfl) (λ _=>rfl)<|λ _=>rfl)<|fzc (enc:=eB) (xs:=c.Accepts) 2 1 4 1)<|Pw [5] 2 (by kernel_rfl))<|ck 5<|bx H λ i j H=>ca false (Hi j)<|ck 3<|gc 1 i<|ck 1<|gc 1 i<|bx H λ l k H=>cG false (leZ) rfl (λ hg=>Hi<|CC k hg) (Or.inl rfl) (CB (λ hh=>hh)<|CB (λ hh=>hh)<|CB (λ hh=>hh)<|EA) rfl<|pA<|ck 1<|en<|re (by cases H;exact pr rd)
end
section
variable (b:(List UInt8)) (c:(List Int)) (a:(EC Int))
def JhJ:St:=⟨(0,.d<|.str b)::(1,.d<|.sl<|c.map eU8)::(2,.agg [.d<|.int .i64 a.a0,.d<|.int .i64 a.a1])::[],[]⟩
variable {b c a}
theorem A0 {z} (H:Bf n b c a=some z):AQ Try.prog 36 [.d (.str b),.d (.sl (c.map eU8)),.agg [.d (.int .i64 a.a0),.d (.int .i64 a.a1)]] (.agg [.d (.str z.Print),.d (.sl (z.Cells.map eU8)),.d (.int .u8 z.Left),.d (.int .u8 z.Right),.d (.int .i64 z.From),.d (.int .i64 z.To)]):=by
 exact fO 14 (JhJ b c a) Try.func36<|sr<|ck 2<|en<|sr<|ck 8<|en<|re (by cases H;exact pr rd)
end
def JhK:St:=⟨[],[]⟩
theorem QM {z} (H:OR n=some z):AQ Try.prog 34 [] (.own 6 (z.map Ax)):=by
 exact fO 16 JhK Try.func34<|sr<|ck 1<|en<|sr<|ck 3<|en<|sr<|sF<|ck 1<|bx H λ e a H=>ca false (A0 a)<|sF<|ck 1<|bx H λ f b H=>ca false (A0 b)<|sF<|ck 1<|bx H λ g c H=>ca false (A0 c)<|sF<|ck 1<|bx H λ h d H=>ca false (A0 d)<|ck 2<|en<|re (by cases H;exact pr<|rO (v:=.osl 1 6 0<|List.length [e,f,g,h]) [1]<|ao vo)
section
variable (b:Int) (c:Int) (a:(EC Int))
def JhL:St:=⟨(0,.d<|.int .u8 b)::(1,.d<|.int .i64 c)::(2,.agg [.d<|.int .i64 a.a0,.d<|.int .i64 a.a1])::[],[]⟩
variable {b c a}
theorem Gi {z} (H:Gr n b c a=some z):AQ Try.prog 35 [.d (.int .u8 b),.d (.int .i64 c),.agg [.d (.int .i64 a.a0),.d (.int .i64 a.a1)]] (.agg [.d (.str z.Print),.d (.sl (z.Cells.map eU8)),.d (.int .u8 z.Left),.d (.int .u8 z.Right),.d (.int .i64 z.From),.d (.int .i64 z.To)]):=by
 exact fO 16 (JhL b c a) Try.func35<|sr<|ck 2<|en<|sr<|ck 1<|sF<|ck 1<|bx H λ g e H=>ca false (A0 e)<|ck 2<|en<|sr<|ck 1<|bx H λ h f H=>so (Iz f)<|ck 2<|en<|sr<|ck 2<|en<|re (by cases H;exact pr rd)
end
section
variable (b:Int) (c:(List AE))
def JhM:St:=⟨(0,.d<|.int .u8 b)::[],[]⟩
def JhN:St:=⟨(2,.ptr 0 0)::(3,.osl 1 6 0<|c.length)::[],[some<|.box [.d<|.int .i64 0,.d<|.int .u8 0,.osl 2 6 0<|List.length ([]:List AE)],some<|.arr 6<|c.map Ax,some<|.arr 6<|List.map Ax ([]:List AE)]⟩
variable {b c}
theorem KQ {z} (H:GH n b=some z):AQ Try.prog 21 [.d (.int .u8 b)] (.agg [.d (.int .i64 z.Modes),.d (.int .u8 z.Accept),.own 6 (z.Rules.map Ax)]):=by
 refine fO 121 (JhM b) Try.func21<|sr<|ck 1<|en<|sr<|bx H λ e f H=>cl [List.length e] (QM f)<|ck 13<|en<|sj (λ (x:(List AE))=>JhN x) (λ (x:(List AE))=>Fj n x) z ?_ (λ a=>?_)
 ·intro c H;exact sr<|ck 3<|en<|re (by cases H;exact pr<|rO (v:=.agg [.d<|.int .i64 1,.d<|.int .u8 1,.osl 1 6 0<|c.length]) [1]<|a1<|c1 vd<|c1 vd<|c1 vo<|c0)
 refine sr<|ck 2<|en<|bk 0<|sr<|ck 2<|en<|cn H (λ H=>?_)<|λ H=>?_
 ·exact sr<|ck 2<|bx H λ W g H=>ca false (Gi g)<|sF<|ck 1<|bx H λ X h H=>ca false (A0 h)<|sF<|ck 1<|bx H λ Y i H=>ca false (A0 i)<|sF<|ck 1<|bx H λ Z j H=>ca false (A0 j)<|ck 1<|bx H λ P k H=>sp (Bh Ax 1 6 k)<|ck 1<|en<|sr<|ck 3<|en<|re<|qR<|qr (by cases H;exact pr<|rO (v:=.agg [.d<|.int .i64 2,.d<|.int .u8 3,.osl 7 6 0<|P.length]) [7]<|a1<|c1 vd<|c1 vd<|c1 vo<|c0)
 ·refine sr<|ck 2<|en<|cn H (λ H=>?_)<|λ H=>?_
  ·exact sr<|ck 2<|bx H λ aa l H=>ca false (Gi l)<|sF<|ck 1<|bx H λ ab m H=>ca false (A0 m)<|sF<|ck 1<|bx H λ ac o H=>ca false (A0 o)<|ck 1<|bx H λ Q p H=>sp (Bh Ax 1 6 p)<|ck 1<|en<|sr<|ck 3<|en<|re<|qR<|qr (by cases H;exact pr<|rO (v:=.agg [.d<|.int .i64 2,.d<|.int .u8 1,.osl 7 6 0<|Q.length]) [7]<|a1<|c1 vd<|c1 vd<|c1 vo<|c0)
  ·refine sr<|ck 2<|en<|cn H (λ H=>?_)<|λ H=>?_
   ·exact rz<|ck 1<|sF<|ck 1<|bx H λ af q H=>ca false (A0 q)<|sF<|ck 1<|bx H λ ag r H=>ca false (A0 r)<|sF<|ck 1<|bx H λ ah s H=>ca false (A0 s)<|ck 1<|bx H λ R t H=>sp (Bh Ax 1 6 t)<|ck 1<|ae<|qN<|qs (tr (Cu 0 2 6 (by kernel_rfl))<|sg [2,3])<|a R H
   ·refine sr<|ck 2<|en<|cn H (λ H=>?_)<|λ H=>?_
    ·exact rz<|ck 1<|sF<|ck 1<|bx H λ ai u H=>ca false (A0 u)<|ck 1<|bx H λ S w H=>sp (Bh Ax 1 6 w)<|ck 1<|ae<|qN<|qs (tr (Cu 0 2 6 (by kernel_rfl))<|sg [2,3])<|a S H
    ·refine sr<|ck 2<|en<|cn H (λ H=>?_)<|λ H=>?_
     ·exact sr<|sF<|ck 1<|bx H λ aj y H=>ca false (A0 y)<|sF<|ck 1<|bx H λ ak A H=>ca false (A0 A)<|ck 4<|en<|sr<|ck 4<|en<|rz<|ck 3<|sF<|ck 1<|bx H λ al B H=>ca false (A0 B)<|ck 1<|bx H λ T C H=>sp (Bh Ax 1 6 C)<|ck 1<|ae<|qN<|qs (tr (Cu 0 2 6 (by kernel_rfl))<|sg [2,3])<|a T H
     ·refine sr<|ck 2<|en<|cn H (λ H=>?_)<|λ H=>?_
      ·exact sr<|ck 2<|bx H λ am E H=>ca false (Gi E)<|sF<|ck 1<|bx H λ ap G H=>ca false (A0 G)<|sF<|ck 1<|bx H λ ar I H=>ca false (A0 I)<|ck 1<|bx H λ U J H=>sp (Bh Ax 1 6 J)<|ck 1<|en<|sr<|ck 3<|en<|re<|qR<|qr (by cases H;exact pr<|rO (v:=.agg [.d<|.int .i64 2,.d<|.int .u8 1,.osl 7 6 0<|U.length]) [7]<|a1<|c1 vd<|c1 vd<|c1 vo<|c0)
      ·refine sr<|ck 2<|en<|cn H (λ H=>?_)<|λ H=>?_
       ·exact rz<|ck 1<|sF<|ck 1<|bx H λ au K H=>ca false (A0 K)<|sF<|ck 1<|bx H λ av L H=>ca false (A0 L)<|sF<|ck 1<|bx H λ aw M H=>ca false (A0 M)<|ck 1<|bx H λ V O H=>sp (Bh Ax 1 6 O)<|ck 1<|ae<|qN<|qs (tr (Cu 0 2 6 (by kernel_rfl))<|sg [2,3])<|a V H
       ·exact sk<|qN<|qs (tr (Cu 0 2 6 (by kernel_rfl))<|sg [2,3])<|a e H
end
section
variable (a:Ab)
def JhO:St:=⟨(0,.agg [.d<|.int .i64 a.Modes,.d<|.int .u8 a.Accept,.d<|.sl<|a.Rules.map Ax])::[],[]⟩
variable {a}
theorem DQ {z} (H:Dz n a=some z):AQ Try.prog 13 [.agg (Ba a)] (.d (.bool z)):=by
 exact fO 12 (JhO a) Try.func13<|sr<|ck 2<|en<|sr<|ck 1<|bx H λ c b H=>ca false (C2 b)<|ck 6<|en<|sr<|ck 3<|en<|re (by cases H;exact pr rd)
end
def Jkd:St:=⟨[],[]⟩
theorem RN {z} (H:Jh n=some z):AQ Try.prog 8 [] (.d (.bool z)):=by
 exact fO 152 Jkd Try.func8<|sr<|ck 1<|en<|sr<|ck 4<|en<|sr<|ck 2<|en<|sq<|rg (tr (fz (enc:=eU8) (xs:=[1]) 1 0 1)<|fz (enc:=eU8) (xs:=[3]) 2 1 1)<|sF<|ck 2<|sF<|bx H λ T m H=>ca false (Fs m)<|bx H λ a o H=>ca false (C2 o)<|ck 6<|en<|sq<|rg (fz (enc:=eU8) (xs:=[1,3]) 3 2 1)<|sF<|ck 3<|sF<|bx H λ U p H=>ca false (Fs p)<|bx H λ b q H=>ca false (C2 q)<|ck 6<|en<|sr<|sF<|ck 2<|sF<|bx H λ V r H=>ca false (Fs r)<|bx H λ g s H=>ca false (C2 s)<|ck 6<|en<|sr<|sF<|ck 3<|sF<|bx H λ W t H=>ca false (Fs t)<|bx H λ c u H=>ca false (C2 u)<|ck 6<|en<|sr<|sF<|ck 2<|sF<|ck 1<|sF<|bx H λ X v H=>ca false (Fs v)<|bx H λ e w H=>ca false (C2 w)<|ck 6<|en<|sr<|ck 1<|bx H λ i x H=>ca false (C2 x)<|ck 6<|en<|sr<|ck 4<|gc 1 (a.2==0)<|pA<|ck 3<|gc 1 ((a.2==0)&&(b.2==50))<|bx H λ f y H=>cG false (leZ) rfl (λ hg=>GV<|CC y hg) (Or.inl rfl) (CB (λ hh=>hh)<|CB (λ hh=>hh)<|EA) rfl<|pA<|ck 2<|gc 1 (((a.2==0)&&(b.2==50))&&f)<|pA<|ck 3<|gc 1 ((((a.2==0)&&(b.2==50))&&f)&&(g.2==50))<|bx H λ j A H=>cG false (leZ) rfl (λ hg=>GV<|CC A hg) (Or.inl rfl) (CB (λ hh=>hh)<|CB (λ hh=>hh)<|EA) rfl<|pA<|ck 1<|en<|sr<|ck 4<|gc 1 (c.2==0)<|pA<|ck 3<|gc 1 ((c.2==0)&&(e.2==50))<|bx H λ h B H=>cG false (leZ) rfl (λ hg=>GV<|CC B hg) (Or.inl rfl) (CB (λ hh=>hh)<|CB (λ hh=>hh)<|EA) rfl<|pA<|ck 2<|gc 1 (((c.2==0)&&(e.2==50))&&h)<|pA<|ck 1<|en<|sr<|sF<|ck 2<|sF<|bx H λ Y C H=>ca false (Fs C)<|ck 2<|en<|sr<|ck 3<|pA<|ck 3<|gc 1 ((((((a.2==0)&&(b.2==50))&&f)&&(g.2==50))&&j)&&((((c.2==0)&&(e.2==50))&&h)&&(i.2==20)))<|bx H λ k E H=>cG (ks:=[10]) (obl:=[(0+List.length [1,1],List.length<|List.map eU8 [1,1])]) false (leK leM<|leZ) (D4 rfl<|D4 (Jjf<|D4 M9<|D4 rfl<|D4 rfl rfl) rfl) (λ hg=>Ij<|CC E hg) (Or.inr trivial) (CB (λ hh=>hh)<|CB (λ hh=>hh)<|EA) rfl<|pA<|ck 3<|gc 1 (((((((a.2==0)&&(b.2==50))&&f)&&(g.2==50))&&j)&&((((c.2==0)&&(e.2==50))&&h)&&(i.2==20)))&&k)<|bx H λ l G H=>cG false (leZ) rfl (λ hg=>Ij<|CC G hg) (Or.inl rfl) (CB (λ hh=>hh)<|CB (λ hh=>hh)<|EA) rfl<|gc 1 (((((((a.2==0)&&(b.2==50))&&f)&&(g.2==50))&&j)&&((((c.2==0)&&(e.2==50))&&h)&&(i.2==20)))&&k)<|pA<|ck 3<|gc 1 ((((((((a.2==0)&&(b.2==50))&&f)&&(g.2==50))&&j)&&((((c.2==0)&&(e.2==50))&&h)&&(i.2==20)))&&k)&&(!l))<|bx H λ I J H=>cG false (leZ) rfl (λ hg=>Ij<|CC J hg) (Or.inl rfl) (CB (λ hh=>hh)<|CB (λ hh=>hh)<|EA) rfl<|gc 1 ((((((((a.2==0)&&(b.2==50))&&f)&&(g.2==50))&&j)&&((((c.2==0)&&(e.2==50))&&h)&&(i.2==20)))&&k)&&(!l))<|pA<|ck 1<|bx H λ Q K H=>cG false (leZ) rfl (λ hg=>KQ<|CC K hg) (Or.inl rfl) (EA) rfl<|bx H λ L M H=>cG false (leZ) rfl (λ hg=>DQ<|CC M hg) (Or.inl rfl) (CB (λ hh=>hh)<|EA) rfl<|pA<|ck 1<|bx H λ R O H=>cG false (leZ) rfl (λ hg=>KQ<|CC O hg) (Or.inl rfl) (EA) rfl<|bx H λ S P H=>cG false (leZ) rfl (λ hg=>DQ<|CC P hg) (Or.inl rfl) (CB (λ hh=>hh)<|EA) rfl<|gc 1 ((((((((((a.2==0)&&(b.2==50))&&f)&&(g.2==50))&&j)&&((((c.2==0)&&(e.2==50))&&h)&&(i.2==20)))&&k)&&(!l))&&(!I))&&L)<|pA<|ck 1<|en<|re (by cases H;exact pr rd)
section
variable (a:C0) (g:Int) (b:AE) (h:Int) (e:AE) (c:AE) (i:Int) (f:AE)
def JhP:St:=⟨(0,.agg [.d<|.sl<|a.P.map eU8,.d<|.sl<|a.C.map eU8,.d<|.int .u8 a.L,.d<|.int .u8 a.R,.d<|.int .u8 a.W.a0,.d<|.int .u8 a.W.a1])::(1,.d<|.int .i64 g)::[],[]⟩
def JhQ:St:=⟨(2,.ptr 0 0)::(4,.ptr 1 0)::(5,.d<|.str [97,98,99,65,66,49,50,45,46])::(7,.ptr 2 0)::(8,.d<|.int .i64 h)::[],[some<|.box<|Nf a,some<|.box [.d<|.str [],.osl 3 1 0<|List.length ([]:List Int),.d<|.int .u8 0,.d<|.int .u8 0,.d<|.int .i64 0,.d<|.int .i64 0],some<|.box<|Px b<|.osl 4 1 0<|b.Cells.length,some<|.arr 1<|List.map eU8 ([]:List Int),some<|.arr 1<|b.Cells.map eU8]⟩
def JhR:St:=⟨(2,.ptr 0 0)::(4,.ptr 1 0)::(7,.ptr 2 0)::[],[some<|.box<|Nf a,some<|.box [.d<|.str [],.osl 3 1 0<|List.length ([]:List Int),.d<|.int .u8 0,.d<|.int .u8 0,.d<|.int .i64 0,.d<|.int .i64 0],some<|.box<|Px e<|.osl 4 1 0<|e.Cells.length,some<|.arr 1<|List.map eU8 ([]:List Int),some<|.arr 1<|e.Cells.map eU8]⟩
def RO:AE->Ex->St->Prop:=xX 0 0<|λ (y:AE)=>JhR a y
def L7:(AE×Int)->St:=(λ (x:(AE×Int))=>JhQ a x.1 x.2)
def JhS:St:=⟨(2,.ptr 0 0)::(4,.ptr 1 0)::(7,.ptr 2 0)::(10,.osl 3 1 0<|List.length [1,3,9,5,7,32,44,60])::(11,.d<|.int .i64 i)::[],[some<|.box<|Nf a,some<|.box [.d<|.str [],.osl 4 1 0<|List.length ([]:List Int),.d<|.int .u8 0,.d<|.int .u8 0,.d<|.int .i64 0,.d<|.int .i64 0],some<|.box<|Px c<|.osl 5 1 0<|c.Cells.length,some<|.arr 1<|List.map eU8 [1,3,9,5,7,32,44,60],some<|.arr 1<|List.map eU8 ([]:List Int),some<|.arr 1<|c.Cells.map eU8]⟩
def JhT:St:=⟨(4,.ptr 0 0)::(7,.ptr 1 0)::[],[some<|.box [.d<|.str [],.osl 2 1 0<|List.length ([]:List Int),.d<|.int .u8 0,.d<|.int .u8 0,.d<|.int .i64 0,.d<|.int .i64 0],some<|.box<|Px f<|.osl 3 1 0<|f.Cells.length,some<|.arr 1<|List.map eU8 ([]:List Int),some<|.arr 1<|f.Cells.map eU8]⟩
def RP:AE->Ex->St->Prop:=xX 0 2<|λ (y:AE)=>JhT y
def L8:(AE×Int)->St:=(λ (x:(AE×Int))=>JhS a x.1 x.2)
variable {a g b h e c i f}
theorem QN (x:(AE×Int)) (z:((AE×Int)⊕AE)) (H:Fk n a x.1 x.2=some z):WP (cxk 101 0) (AR Try.f14) [1,1,1,0,1,0,0] (AO 0 (L7 a) (RO a) z) (L7 a x):=by
 obtain⟨b,h⟩:=x;refine sq<|sr<|ck 3<|sp (AS eU8 a.P)<|ck 3<|gc 1 (decide<|h<((a.P.length:Nat):Int))<|pA<|en<|cn H (λ H=>?_)<|λ H=>?_
 ·exact sk<|qz<|sq<|bk 1<|sr<|ck 3<|bx H λ J o H=>sp (AC eU8 o)<|ck 4<|en<|rz<|ck 6<|bx H λ K p H=>sp (Ll p)<|bx H λ M q H=>sp (Qr q)<|ck 2<|ae<|qN<|qz<|rz<|ck 3<|ae (by cases H;exact og<|sg [2,4,5,7,8])
 ·exact ex 0<|qx (by cases H;exact xo rfl<|sg [2,4,7])
theorem QO (x:(AE×Int)) (z:((AE×Int)⊕AE)) (H:Dl n a x.1 x.2=some z):WP (cxk 101 0) (AR Try.f14) [1,1,1,1,1,1,0,1,0,0] (AO 0 (L8 a) (RP) z) (L8 a x):=by
 obtain⟨c,i⟩:=x;refine sq<|sr<|ck 3<|sp (AS eU8 a.C)<|ck 3<|gc 1 (decide<|i<((a.C.length:Nat):Int))<|pA<|en<|cn H (λ H=>?_)<|λ H=>?_
 ·exact sk<|qz<|sq<|bk 3<|rz<|ck 6<|bx H λ O r H=>sp (AC eU8 r)<|ck 2<|bx H λ Q j H=>sp (Bs 3 1 j)<|sp (De eU8 3 0 (ty 52) j)<|ck 1<|bx H λ S t H=>sp (Bh eU8 5 1 t)<|ck 2<|ae<|qN<|qz<|rz<|ck 3<|ae (by cases H;exact og<|sg [2,4,7,10,11])
 ·exact ex 2<|qx (by cases H;exact xo rfl<|sg [4,7])
theorem Vw {z} (H:IB n a g=some z):AQ Try.prog 14 [.agg (Nf a),.d (.int .i64 g)] (.agg [.d (.str z.Print),.own 1 (z.Cells.map eU8),.d (.int .u8 z.Left),.d (.int .u8 z.Right),.d (.int .i64 z.From),.d (.int .i64 z.To)]):=by
 exact fO 101 (JhP a g) Try.func14<|sr<|ck 2<|en<|sr<|ck 3<|en<|sr<|ck 4<|bx H λ T k H=>sp (Bs 2 1 k)<|sp (De eU8 2 0 (ty 5) k)<|ck 4<|bx H λ U l H=>sp (Bs 2 1 l)<|sp (De eU8 2 0 (ty 5) l)<|ck 5<|bx H λ V u H=>so (Vk u)<|ck 5<|bx H λ I w H=>so (Vk w)<|ck 3<|en<|sq<|sr<|ck 1<|en<|bk 0<|bx H λ X A H=>lX QN A (tr (tr (Cu 1 1 1 (by kernel_rfl))<|Cu 3 1 1 (by kernel_rfl))<|sg [2,4,5,7,8]) rfl λ s B=>qH<|qs (B)<|sr<|ck 2<|en<|sr<|ck 5<|bx H λ Y m H=>sp (Bs 5 1 m)<|sp (De eU8 5 0 (ty 52) m)<|ck 3<|en<|sq<|sr<|ck 1<|en<|bk 2<|bx H λ Z E H=>lX QO E (sg [2,4,7,10,11]) rfl λ s G=>qH<|qs (G)<|sr<|ck 2<|en<|re (by cases H;exact pr<|rO (v:=.agg [.d<|.str z.Print,.osl 3 1 0<|z.Cells.length,.d<|.int .u8 z.Left,.d<|.int .u8 z.Right,.d<|.int .i64 z.From,.d<|.int .i64 z.To]) [3]<|a1<|c1 vd<|c1 vo<|c1 vd<|c1 vd<|c1 vd<|c1 vd<|c0)
end
section
variable (a:Int)
def JhU:St:=⟨(0,.d<|.int .u8 a)::[],[]⟩
variable {a}
theorem N8 {z} (H:Id n a=some z):AQ Try.prog 81 [.d (.int .u8 a)] (.d (.bool z)):=by
 exact fO 11 (JhU a) Try.func81<|sr<|ck 1<|en<|sr<|ck 5<|gc 2 (decide<|Cs .u8 a 127>=32)<|pA<|ck 1<|en<|re (by cases H;exact pr rd)
end
section
variable (a:(List UInt8)) (c:Int)
def JhV:St:=⟨(0,.d<|.str a)::[],[]⟩
def JhW:St:=⟨(0,.d<|.str a)::(4,.d<|.int .i64 c)::[],[]⟩
def JhX:St:=⟨(0,.d<|.str a)::[],[]⟩
def RQ:(Unit⊕(Int×Int))->Ex->St->Prop:=xS (xX 0 0<|λ (_:Unit)=>JhX a)<|xR ty Try.f78<|λ (y:(Int×Int))=>.tup [.d<|.int .i64 y.1,.d<|.int .i64 y.2]
def L9:Int->St:=(λ (x:Int)=>JhW a x)
variable {a c}
theorem KR (x:Int) (z:(Int⊕(Unit⊕(Int×Int)))) (H:H4 n a x=some z):WP (cxk 19 0) (AR Try.f78) [1,0,1,0,0] (AO 0 (L9 a) (RQ a) z) (L9 a x):=by
 revert H;generalize x=c;intro H;refine sq<|sr<|ck 4<|en<|cn H (λ H=>?_)<|λ H=>?_
 ·refine sk<|qz<|sq<|bk 1<|sr<|ck 2<|bx H λ m e H=>sp (FC e)<|bx H λ j f H=>ca false (N8 f)<|ck 1<|en<|cn H (λ H=>?_)<|λ H=>?_
  ·exact sr<|ck 3<|en<|re<|qR<|qr (by cases H;exact ro rfl rdT)
  ·exact sk<|qN<|qz<|rz<|ck 3<|ae (by cases H;exact og<|sg [0,4])
 ·exact ex 0<|qx (by cases H;exact xo rfl<|sg [0])
theorem Vx {z} (H:Nd n a=some z):AQ Try.prog 78 [.d (.str a)] (.tup [.d (.int .i64 z.1),.d (.int .i64 z.2)]):=by
 refine fO 19 (JhV a) Try.func78<|sr<|ck 2<|en<|sq<|sr<|ck 1<|en<|bk 0<|bx H λ i b H=>?_;rcases i with k|l
 ·exact lX KR b (sg [0,4]) rfl λ s g=>qH<|qs (g)<|sr<|ck 4<|en<|re (by cases H;exact pr rdT)
 ·exact lR KR b (sg [0,4]) rfl λ s h=>qR<|qr (by cases H;exact pr h)
end
section
variable (a:(List UInt8))
def JhY:St:=⟨(0,.d<|.str a)::[],[]⟩
variable {a}
theorem RR {z} (H:Ji n a=some z):AQ Try.prog 69 [.d (.str a)] (.d (.bool z)):=by
 exact fO 12 (JhY a) Try.func69<|sr<|ck 1<|en<|sr<|ck 1<|bx H λ c b H=>ca false (Vx b)<|ck 5<|en<|sr<|ck 3<|en<|re (by cases H;exact pr rd)
end
section
variable (a:Int)
def JhZ:St:=⟨(0,.d<|.int .u8 a)::[],[]⟩
variable {a}
theorem TU {z} (H:NX n a=some z):AQ Try.prog 70 [.d (.int .u8 a)] (.d (.bool z)):=by
 exact fO 6 (JhZ a) Try.func70<|sr<|ck 1<|en<|sr<|ck 4<|en<|re (by cases H;exact pr rd)
end
section
variable (a:AE) (h:Int) (c:Bool) (l:Int) (i:Bool) (f:Bool) (b:Bool) (m:Int) (j:Bool)
def Jh0:St:=⟨(0,.agg [.d<|.str a.Print,.d<|.sl<|a.Cells.map eU8,.d<|.int .u8 a.Left,.d<|.int .u8 a.Right,.d<|.int .i64 a.From,.d<|.int .i64 a.To])::(1,.d<|.int .i64 h)::[],[]⟩
def Jh1:St:=⟨(2,.ptr 0 0)::(5,.d<|.bool c)::(6,.d<|.bool false)::(7,.d<|.int .i64 l)::[],[some<|.box<|Kv a]⟩
def Jh2:St:=⟨(2,.ptr 0 0)::(5,.d<|.bool i)::(6,.d<|.bool false)::[],[some<|.box<|Kv a]⟩
def QP:Bool->Ex->St->Prop:=xX 0 0<|λ (y:Bool)=>Jh2 a y
def KS:(Bool×Int)->St:=(λ (x:(Bool×Int))=>Jh1 a x.1 x.2)
def Jh3:St:=⟨(2,.ptr 0 0)::(5,.d<|.bool f)::(6,.d<|.bool b)::(8,.d<|.int .i64 m)::[],[some<|.box<|Kv a]⟩
def Jh4:St:=⟨(2,.ptr 0 0)::(5,.d<|.bool f)::(6,.d<|.bool j)::[],[some<|.box<|Kv a]⟩
def QQ:(Bool⊕Bool)->Ex->St->Prop:=xS (xX 0 2<|λ (y:Bool)=>Jh4 a f y)<|xR ty Try.f52<|λ (y:Bool)=>.d<|.bool y
def KT:(Bool×Int)->St:=(λ (x:(Bool×Int))=>Jh3 a f x.1 x.2)
variable {a h c l i f b m j}
theorem Pe (x:(Bool×Int)) (z:((Bool×Int)⊕Bool)) (H:EH n a x.1 x.2=some z):WP (cxk 125 0) (AR Try.f52) [1,1,1,1,0,1,0,0] (AO 0 (KS a) (QP a) z) (KS a x):=by
 obtain⟨c,l⟩:=x;refine sq<|sr<|ck 5<|en<|cn H (λ H=>?_)<|λ H=>?_
 ·exact sk<|qz<|sq<|bk 1<|rz<|ck 3<|gc 1 (!c)<|ck 1<|bx H λ E o H=>sE (λ hg=>FC<|CC o hg)<|bx H λ C p H=>cG false (leZ) rfl (λ hg=>TU<|CC p hg) (Or.inl rfl) (CB (λ hh=>hh)<|EA) rfl<|pO<|ck 1<|ae<|qN<|qz<|rz<|ck 3<|ae (by cases H;exact og<|sg [2,5,6,7])
 ·exact ex 0<|qx (by cases H;exact xo rfl<|sg [2,5,6])
theorem JO (x:(Bool×Int)) (z:((Bool×Int)⊕(Bool⊕Bool))) (H:DA n a f x.1 x.2=some z):WP (cxk 125 0) (AR Try.f52) [1,1,1,1,1,0,1,0,0] (AO 0 (KT a f) (QQ a f) z) (KT a f x):=by
 obtain⟨b,m⟩:=x;refine sq<|sr<|ck 3<|sp (AS eU8 a.Cells)<|ck 1<|en<|cn H (λ H=>?_)<|λ H=>?_
 ·refine sk<|qz<|sq<|bk 3<|sq<|sr<|ck 3<|bx H λ G q H=>sp (AC eU8 q)<|ck 2<|en<|cn H (λ H=>?_)<|λ H=>?_
  ·exact sr<|ck 1<|en<|re<|qr<|qR<|qr (by cases H;exact ro rfl rd)
  ·exact sk<|qz<|rz<|ck 3<|gc 1 (!b)<|ck 1<|bx H λ I r H=>sE (λ hg=>AC eU8<|CC r hg)<|gc 2 (!b)<|pO<|ck 1<|ae<|qN<|qz<|rz<|ck 3<|ae (by cases H;exact og<|sg [2,5,6,8])
 ·exact ex 2<|qx (by cases H;exact xo rfl<|sg [2,5,6])
theorem TV {z} (H:Lu n a h=some z):AQ Try.prog 52 [.agg (Kv a),.d (.int .i64 h)] (.d (.bool z)):=by
 refine fO 125 (Jh0 a h) Try.func52<|sr<|ck 2<|en<|sq<|sr<|ck 2<|bx H λ e t H=>ca false (RR t)<|ck 3<|gc 3 (!(!e))<|pO<|ck 2<|gc 1 (!((!e)||(decide<|((a.Print.length:Nat):Int)>4)))<|sE (g:=(!((!e)||(decide<|((a.Print.length:Nat):Int)>4)))) (λ hg=>AS eU8 a.Cells)<|gc 1 (!((!e)||(decide<|((a.Print.length:Nat):Int)>4)))<|pO<|ck 2<|gc 1 (!(((!e)||(decide<|((a.Print.length:Nat):Int)>4))||(decide<|((a.Cells.length:Nat):Int)<1)))<|sE (g:=(!(((!e)||(decide<|((a.Print.length:Nat):Int)>4))||(decide<|((a.Cells.length:Nat):Int)<1)))) (λ hg=>AS eU8 a.Cells)<|gc 1 (!(((!e)||(decide<|((a.Print.length:Nat):Int)>4))||(decide<|((a.Cells.length:Nat):Int)<1)))<|pO<|en<|cn H (λ H=>?_)<|λ H=>?_
 ·exact sr<|ck 1<|en<|re<|qr (by cases H;exact pr rd)
 ·refine sk<|qz<|sq<|sr<|ck 5<|gc 2 (!(decide<|a.Left<1))<|pO<|ck 2<|gc 2 (!((decide<|a.Left<1)||(decide<|a.Left>63)))<|pO<|ck 2<|gc 2 (!(((decide<|a.Left<1)||(decide<|a.Left>63))||(decide<|a.Right<1)))<|pO<|ck 2<|gc 2 (!((((decide<|a.Left<1)||(decide<|a.Left>63))||(decide<|a.Right<1))||(decide<|a.Right>63)))<|pO<|ck 2<|gc 1 (!(((((decide<|a.Left<1)||(decide<|a.Left>63))||(decide<|a.Right<1))||(decide<|a.Right>63))||(decide<|a.From<0)))<|ck 1<|gc 1 (!(((((decide<|a.Left<1)||(decide<|a.Left>63))||(decide<|a.Right<1))||(decide<|a.Right>63))||(decide<|a.From<0)))<|pO<|ck 2<|gc 2 (!((((((decide<|a.Left<1)||(decide<|a.Left>63))||(decide<|a.Right<1))||(decide<|a.Right>63))||(decide<|a.From<0))||(decide<|a.From>=h)))<|pO<|ck 2<|gc 1 (!(((((((decide<|a.Left<1)||(decide<|a.Left>63))||(decide<|a.Right<1))||(decide<|a.Right>63))||(decide<|a.From<0))||(decide<|a.From>=h))||(decide<|a.To<0)))<|ck 1<|gc 1 (!(((((((decide<|a.Left<1)||(decide<|a.Left>63))||(decide<|a.Right<1))||(decide<|a.Right>63))||(decide<|a.From<0))||(decide<|a.From>=h))||(decide<|a.To<0)))<|pO<|en<|cn H (λ H=>?_)<|λ H=>?_
  ·exact sr<|ck 1<|en<|re<|qr (by cases H;exact pr rd)
  ·refine sk<|qz<|sr<|ck 2<|en<|sq<|sr<|ck 1<|en<|bk 0<|bx H λ f u H=>lX Pe u (sg [2,5,6,7]) rfl λ s v=>qH<|qs (v)<|sq<|sr<|ck 1<|en<|bk 2<|bx H λ B k H=>?_;rcases B with J|K
   ·refine lX JO k (sg [2,5,6,8]) rfl λ s w=>qH<|qs (w)<|sq<|sr<|ck 2<|en<|cn H (λ H=>?_)<|λ H=>?_
    ·exact sr<|ck 3<|en<|re<|qr (by cases H;exact pr rd)
    ·exact sk<|qz<|sr<|ck 6<|gc 1 (((a.Print.length:Nat):Int)==1)<|sE (g:=(((a.Print.length:Nat):Int)==1)) (λ hg=>AS eU8 a.Cells)<|gc 1 (((a.Print.length:Nat):Int)==1)<|pA<|ck 2<|pA<|ck 1<|en<|re (by cases H;exact pr rd)
   ·exact lR JO k (sg [2,5,6,8]) rfl λ s A=>qR<|qr (by cases H;exact pr A)
end
section
variable (a:AE) (b:AE)
def Jh5:St:=⟨(0,.agg [.d<|.str a.Print,.d<|.sl<|a.Cells.map eU8,.d<|.int .u8 a.Left,.d<|.int .u8 a.Right,.d<|.int .i64 a.From,.d<|.int .i64 a.To])::(1,.agg [.d<|.str b.Print,.d<|.sl<|b.Cells.map eU8,.d<|.int .u8 b.Left,.d<|.int .u8 b.Right,.d<|.int .i64 b.From,.d<|.int .i64 b.To])::[],[]⟩
variable {a b}
theorem Pf {z} (H:Hr n a b=some z):AQ Try.prog 53 [.agg (Kv a),.agg (Kv b)] (.d (.bool z)):=by
 exact fO 45 (Jh5 a b) Try.func53<|sr<|ck 3<|en<|sr<|ck 7<|gc 1 (a.Print==b.Print)<|ck 1<|gc 1 (a.Print==b.Print)<|bx H λ c e H=>cG false (leZ) rfl (λ hg=>IJ<|CC e hg) (Or.inl rfl) (CB (λ hh=>hh)<|CB (λ hh=>hh)<|EA) rfl<|pA<|ck 2<|gc 1 ((a.Print==b.Print)&&c)<|ck 1<|gc 2 ((a.Print==b.Print)&&c)<|pA<|ck 2<|gc 1 (((a.Print==b.Print)&&c)&&(a.Left==b.Left))<|ck 1<|gc 2 (((a.Print==b.Print)&&c)&&(a.Left==b.Left))<|pA<|ck 2<|gc 1 ((((a.Print==b.Print)&&c)&&(a.Left==b.Left))&&(a.Right==b.Right))<|ck 1<|gc 2 ((((a.Print==b.Print)&&c)&&(a.Left==b.Left))&&(a.Right==b.Right))<|pA<|ck 2<|gc 1 (((((a.Print==b.Print)&&c)&&(a.Left==b.Left))&&(a.Right==b.Right))&&(a.From==b.From))<|ck 1<|gc 2 (((((a.Print==b.Print)&&c)&&(a.Left==b.Left))&&(a.Right==b.Right))&&(a.From==b.From))<|pA<|ck 1<|en<|re (by cases H;exact pr rd)
end
section
variable (a:Ab) (b:Int) (f:Int)
def Jh6:St:=⟨(0,.agg [.d<|.int .i64 a.Modes,.d<|.int .u8 a.Accept,.d<|.sl<|a.Rules.map Ax])::[],[]⟩
def Jh7:St:=⟨(1,.ptr 0 0)::(4,.d<|.int .i64 b)::[],[some<|.box<|Ba a]⟩
def Jh8:St:=⟨[],[]⟩
def Jh9:St:=⟨(1,.ptr 0 0)::(4,.d<|.int .i64 b)::(5,.d<|.int .i64 f)::[],[some<|.box<|Ba a]⟩
def Jia:St:=⟨(1,.ptr 0 0)::(4,.d<|.int .i64 b)::[],[some<|.box<|Ba a]⟩
def QR:(Unit⊕(Int×Int))->Ex->St->Prop:=xS (xX 0 2<|λ (_:Unit)=>Jia a b)<|xR ty Try.f29<|λ (y:(Int×Int))=>.tup [.d<|.int .i64 y.1,.d<|.int .i64 y.2]
def KU:Int->St:=(λ (x:Int)=>Jh9 a b x)
def QS:(Unit⊕(Int×Int))->Ex->St->Prop:=xS (xX 0 0<|λ (_:Unit)=>Jh8)<|xR ty Try.f29<|λ (y:(Int×Int))=>.tup [.d<|.int .i64 y.1,.d<|.int .i64 y.2]
def KW:Int->St:=(λ (x:Int)=>Jh7 a x)
variable {a b f}
theorem JP (x:Int) (z:(Int⊕(Unit⊕(Int×Int)))) (H:FK n a b x=some z):WP (cxk 74 0) (AR Try.f29) [1,1,0,1,0,0,1,0,0,1,1,0,0] (AO 0 (KU a b) (QR a b) z) (KU a b x):=by
 revert H;generalize x=f;intro H;refine sq<|sr<|ck 3<|en<|cn H (λ H=>?_)<|λ H=>?_
 ·refine sk<|qz<|sq<|bk 3<|sr<|ck 3<|bx H λ B h H=>sp (AC Ax h)<|ck 4<|bx H λ C i H=>sp (AC Ax i)<|ck 1<|bx H λ v j H=>ca false (Pf j)<|en<|cn H (λ H=>?_)<|λ H=>?_
  ·exact sr<|ck 3<|en<|re<|qR<|qr (by cases H;exact ro rfl rdT)
  ·exact sk<|qN<|qz<|rz<|ck 3<|ae (by cases H;exact og<|sg [1,4,5])
 ·exact ex 2<|qx (by cases H;exact xo rfl<|sg [1,4])
theorem JR (x:Int) (z:(Int⊕(Unit⊕(Int×Int)))) (H:FL n a x=some z):WP (cxk 74 0) (AR Try.f29) [1,1,0,1,0,0] (AO 0 (KW a) (QS) z) (KW a x):=by
 revert H;generalize x=b;intro H;refine sq<|sr<|ck 3<|sp (AS Ax a.Rules)<|ck 1<|en<|cn H (λ H=>?_)<|λ H=>?_
 ·refine sk<|qz<|sq<|bk 1<|sq<|sr<|ck 3<|bx H λ E k H=>sp (AC Ax k)<|ck 3<|bx H λ w l H=>ca false (TV l)<|ck 1<|en<|cn H (λ H=>?_)<|λ H=>?_
  ·exact sr<|ck 3<|en<|re<|qr<|qR<|qr (by cases H;exact ro rfl rdT)
  ·refine sk<|qz<|sr<|ck 1<|en<|bk 2<|bx H λ t c H=>?_;rcases t with G|I
   ·exact lX JP c (sg [1,4,5]) rfl λ s m=>qH<|qN<|qs (m)<|rz<|ck 3<|ae (by cases H;exact og<|sg [1,4])
   ·exact lR JP c (sg [1,4,5]) rfl λ s o=>qR<|qR<|qr (by cases H;exact ro rfl o)
 ·exact ex 0<|qx (by cases H;exact xo rfl<|sg [])
theorem TW {z} (H:Lv n a=some z):AQ Try.prog 29 [.agg (Ba a)] (.tup [.d (.int .i64 z.1),.d (.int .i64 z.2)]):=by
 refine fO 74 (Jh6 a) Try.func29<|sr<|ck 3<|en<|sq<|sr<|ck 5<|gc 2 (!(decide<|a.Modes<1))<|pO<|ck 2<|gc 2 (!((decide<|a.Modes<1)||(decide<|a.Modes>8)))<|pO<|ck 2<|gc 2 (!(((decide<|a.Modes<1)||(decide<|a.Modes>8))||(a.Accept==0)))<|ck 1<|gc 1 (!(((decide<|a.Modes<1)||(decide<|a.Modes>8))||(a.Accept==0)))<|bx H λ A p H=>soG (λ hg=>Iz<|CC p hg) (CB (λ hh=>hh)<|EA)<|gc 1 (!(((decide<|a.Modes<1)||(decide<|a.Modes>8))||(a.Accept==0)))<|pO<|ck 2<|gc 1 (!((((decide<|a.Modes<1)||(decide<|a.Modes>8))||(a.Accept==0))||(decide<|IntKind.i64.wrap a.Accept>=Qg .i64 1 a.Modes)))<|sE (g:=(!((((decide<|a.Modes<1)||(decide<|a.Modes>8))||(a.Accept==0))||(decide<|IntKind.i64.wrap a.Accept>=Qg .i64 1 a.Modes)))) (λ hg=>AS Ax a.Rules)<|gc 1 (!((((decide<|a.Modes<1)||(decide<|a.Modes>8))||(a.Accept==0))||(decide<|IntKind.i64.wrap a.Accept>=Qg .i64 1 a.Modes)))<|pO<|ck 2<|gc 1 (!(((((decide<|a.Modes<1)||(decide<|a.Modes>8))||(a.Accept==0))||(decide<|IntKind.i64.wrap a.Accept>=Qg .i64 1 a.Modes))||(decide<|((a.Rules.length:Nat):Int)<1)))<|sE (g:=(!(((((decide<|a.Modes<1)||(decide<|a.Modes>8))||(a.Accept==0))||(decide<|IntKind.i64.wrap a.Accept>=Qg .i64 1 a.Modes))||(decide<|((a.Rules.length:Nat):Int)<1)))) (λ hg=>AS Ax a.Rules)<|gc 1 (!(((((decide<|a.Modes<1)||(decide<|a.Modes>8))||(a.Accept==0))||(decide<|IntKind.i64.wrap a.Accept>=Qg .i64 1 a.Modes))||(decide<|((a.Rules.length:Nat):Int)<1)))<|pO<|en<|cn H (λ H=>?_)<|λ H=>?_
 ·exact sr<|ck 2<|en<|re<|qr (by cases H;exact pr rdT)
 ·refine sk<|qz<|sq<|sr<|ck 1<|en<|bk 0<|bx H λ u e H=>?_;rcases u with J|K
  ·exact lX JR e (sg [1,4]) rfl λ s q=>qH<|qs (q)<|sr<|ck 2<|en<|re (by cases H;exact pr rdT)
  ·exact lR JR e (sg [1,4]) rfl λ s r=>qR<|qr (by cases H;exact pr r)
end
section
variable (a:Ab)
def Jib:St:=⟨(0,.agg [.d<|.int .i64 a.Modes,.d<|.int .u8 a.Accept,.d<|.sl<|a.Rules.map Ax])::[],[]⟩
variable {a}
theorem TX {z} (H:NY n a=some z):AQ Try.prog 15 [.agg (Ba a)] (.d (.bool z)):=by
 exact fO 12 (Jib a) Try.func15<|sr<|ck 2<|en<|sr<|ck 1<|bx H λ c b H=>ca false (TW b)<|ck 5<|en<|sr<|ck 3<|en<|re (by cases H;exact pr rd)
end
section
variable (b:JZ) (a:Ab) (j:Ab) (h:Int) (q:Ab) (m:Ab) (i:Ab) (g:Int) (r:Ab) (o:Ab) (p:Ab)
def Jke:St:=⟨(0,.agg [.d<|.int .u8 b.Base,.d<|.int .u8 b.Drop,.d<|.sl<|b.More.map Fr])::[],[]⟩
def Jkf:St:=⟨(1,.ptr 0 0)::(2,.ptr 1 0)::(3,.ptr 2 0)::(4,.osl 3 6 0<|a.Rules.length)::(5,.d<|.int .i64 h)::[],[some<|.box<|WU b,some<|.box [.d<|.int .i64 0,.d<|.int .u8 0,.osl 4 6 0<|List.length ([]:List AE)],some<|.box<|FN j<|.osl 5 6 0<|j.Rules.length,some<|.arr 6<|a.Rules.map Ax,some<|.arr 6<|List.map Ax ([]:List AE),some<|.arr 6<|j.Rules.map Ax]⟩
def Jkg:St:=⟨(1,.ptr 0 0)::(2,.ptr 1 0)::(3,.ptr 2 0)::(4,.osl 3 6 0<|a.Rules.length)::[],[some<|.box<|WU b,some<|.box [.d<|.int .i64 0,.d<|.int .u8 0,.osl 4 6 0<|List.length ([]:List AE)],some<|.box<|FN q<|.osl 5 6 0<|q.Rules.length,some<|.arr 6<|a.Rules.map Ax,some<|.arr 6<|List.map Ax ([]:List AE),some<|.arr 6<|q.Rules.map Ax]⟩
def Jkh:St:=⟨(1,.ptr 0 0)::(2,.ptr 1 0)::(3,.ptr 2 0)::(4,.osl 3 6 0<|a.Rules.length)::(5,.d<|.int .i64 h)::[],[some<|.box<|WU b,some<|.box [.d<|.int .i64 0,.d<|.int .u8 0,.osl 4 6 0<|List.length ([]:List AE)],some<|.box<|FN m<|.osl 5 6 0<|m.Rules.length,some<|.arr 6<|a.Rules.map Ax,some<|.arr 6<|List.map Ax ([]:List AE),some<|.arr 6<|m.Rules.map Ax]⟩
def RT:Ab->Ex->St->Prop:=xX 0 0<|λ (y:Ab)=>Jkg b a y
def Ma:(Ab×Int)->St:=(λ (x:(Ab×Int))=>Jkf b a x.1 x.2)
def Jki:St:=⟨(1,.ptr 0 0)::(2,.ptr 1 0)::(3,.ptr 2 0)::(4,.osl 3 6 0<|a.Rules.length)::(6,.d<|.int .i64 g)::[],[some<|.box<|WU b,some<|.box [.d<|.int .i64 0,.d<|.int .u8 0,.osl 4 6 0<|List.length ([]:List AE)],some<|.box<|FN i<|.osl 5 6 0<|i.Rules.length,some<|.arr 6<|a.Rules.map Ax,some<|.arr 6<|List.map Ax ([]:List AE),some<|.arr 6<|i.Rules.map Ax]⟩
def Jkj:St:=⟨(2,.ptr 0 0)::(3,.ptr 1 0)::(4,.osl 2 6 0<|a.Rules.length)::[],[some<|.box [.d<|.int .i64 0,.d<|.int .u8 0,.osl 3 6 0<|List.length ([]:List AE)],some<|.box<|FN r<|.osl 4 6 0<|r.Rules.length,some<|.arr 6<|a.Rules.map Ax,some<|.arr 6<|List.map Ax ([]:List AE),some<|.arr 6<|r.Rules.map Ax]⟩
def Jkk:St:=⟨(1,.ptr 0 0)::(2,.ptr 1 0)::(3,.ptr 2 0)::(4,.osl 3 6 0<|a.Rules.length)::(6,.d<|.int .i64 g)::[],[some<|.box<|WU b,some<|.box [.d<|.int .i64 0,.d<|.int .u8 0,.osl 4 6 0<|List.length ([]:List AE)],some<|.box<|FN o<|.osl 5 6 0<|o.Rules.length,some<|.arr 6<|a.Rules.map Ax,some<|.arr 6<|List.map Ax ([]:List AE),some<|.arr 6<|o.Rules.map Ax]⟩
def RU:Ab->Ex->St->Prop:=xX 0 2<|λ (y:Ab)=>Jkj a y
def Mb:(Ab×Int)->St:=(λ (x:(Ab×Int))=>Jki b a x.1 x.2)
def Jkl:St:=⟨(2,.ptr 0 0)::(3,.ptr 1 0)::[],[some<|.box [.d<|.int .i64 0,.d<|.int .u8 0,.osl 2 6 0<|List.length ([]:List AE)],some<|.box<|FN p<|.osl 3 6 0<|p.Rules.length,some<|.arr 6<|List.map Ax ([]:List AE),some<|.arr 6<|p.Rules.map Ax]⟩
variable {b a j h q m i g r o p}
theorem QT (x:(Ab×Int)) (z:((Ab×Int)⊕Ab)) (H:Dm n b a x.1 x.2=some z):WP (cxk 77 0) (AR Try.f9) [1,1,1,1,0,1,0,0] (AO 0 (Ma b a) (RT b a) z) (Ma b a x):=by
 obtain⟨j,h⟩:=x;refine sq<|sr<|ck 4<|en<|cn H (λ H=>?_)<|λ H=>?_
 ·refine sk<|qz<|sj (λ (x:Ab)=>Jkh b a h x) (λ (x:Ab)=>Em n h x) z ?_ (λ c=>?_)
  ·intro m H;exact rz<|ck 3<|ae (by cases H;exact og<|sg [1,2,3,4,5])
  refine bk 1<|sr<|ck 3<|bx H λ R B H=>so (Iz B)<|ck 2<|en<|cn H (λ H=>?_)<|λ H=>?_
  ·exact rz<|ck 4<|bx H λ U t H=>sp (Bs 3 6 t)<|sp (De Ax 3 0 (ty 42) t)<|ck 1<|bx H λ Q C H=>sp (Bh Ax 5 6 C)<|ck 2<|ae<|qN<|qs (sg [1,2,3,4,5])<|c ({ Modes:=j.Modes,Accept:=j.Accept,Rules:=Q }:Ab) H
  ·exact sk<|qN<|qs (sg [1,2,3,4,5])<|c j H
 ·exact ex 0<|qx (by cases H;exact xo rfl<|sg [1,2,3,4])
theorem QU (x:(Ab×Int)) (z:((Ab×Int)⊕Ab)) (H:Dn n b a x.1 x.2=some z):WP (cxk 77 0) (AR Try.f9) [1,1,1,1,1,0,1,0,0] (AO 0 (Mb b a) (RU a) z) (Mb b a x):=by
 obtain⟨i,g⟩:=x;refine sq<|sr<|ck 3<|sp (AS Fr b.More)<|ck 3<|gc 1 (decide<|g<((b.More.length:Nat):Int))<|pA<|en<|cn H (λ H=>?_)<|λ H=>?_
 ·refine sk<|qz<|sj (λ (x:Ab)=>Jkk b a g x) (λ (x:Ab)=>Eo n g x) z ?_ (λ e=>?_)
  ·intro o H;exact rz<|ck 3<|ae (by cases H;exact og<|sg [1,2,3,4,6])
  refine bk 3<|sr<|ck 5<|bx H λ V E H=>sp (AC Fr E)<|ck 3<|bx H λ S G H=>ca false (Vw G)<|ck 1<|bx H λ u I H=>sp (Bh Ax 5 6 I)<|ck 2<|en<|sr<|ck 1<|bx H λ T J H=>cb (ks:=[7]) (obl:=[(0+List.length u,List.length<|u.map Ax)]) false (leK leM<|leZ) (D4 (Jjf<|D4 rfl<|D4 rfl<|D4 M9 rfl) rfl) (TX J) (Or.inr trivial) rfl<|ck 1<|en<|cn H (λ H=>?_)<|λ H=>?_
  ·exact rz<|ck 6<|bx H λ w l H=>sp (WK 7 6 l)<|ck 2<|ae<|qN<|qs (tr (EB (k:=7) (sz:=6) 2 2 (w.map Ax) (w.length) (by kernel_rfl) (Tx l) (WH (enc:=Ax) l)<|Tz l)<|sg [1,2,3,4,6])<|e ({ Modes:=i.Modes,Accept:=i.Accept,Rules:=w }:Ab) H
  ·exact sk<|qN<|qs (sg [1,2,3,4,6])<|e ({ Modes:=i.Modes,Accept:=i.Accept,Rules:=u }:Ab) H
 ·exact ex 2<|qx (by cases H;exact xo rfl<|sg [2,3,4])
theorem Vy {z} (H:GI n b=some z):AQ Try.prog 9 [.agg (WU b)] (.agg [.d (.int .i64 z.Modes),.d (.int .u8 z.Accept),.own 6 (z.Rules.map Ax)]):=by
 refine fO 77 (Jke b) Try.func9<|sr<|ck 2<|en<|sr<|ck 2<|bx H λ a K H=>cl [List.length a.Rules] (KQ K)<|ck 2<|en<|sr<|ck 3<|en<|sr<|ck 3<|en<|sq<|sr<|ck 1<|en<|bk 0<|bx H λ W L H=>lX QT L (tr (Cu 1 2 6 (by kernel_rfl))<|sg [1,2,3,4,5]) rfl λ s M=>qH<|qs (M)<|sq<|sr<|ck 1<|en<|bk 2<|bx H λ A O H=>lX QU O (sg [1,2,3,4,6]) rfl λ s P=>qH<|qs (P)<|sj (λ (x:Ab)=>Jkl x) (λ (x:Ab)=>Fl n x) z ?_ (λ f=>?_)
 ·intro p H;exact sr<|ck 2<|en<|re (by cases H;exact pr<|rO (v:=.agg [.d<|.int .i64 z.Modes,.d<|.int .u8 z.Accept,.osl 3 6 0<|z.Rules.length]) [3]<|a1<|c1 vd<|c1 vd<|c1 vo<|c0)
 refine sr<|ck 4<|en<|cn H (λ H=>?_)<|λ H=>?_
 ·exact rz<|ck 3<|ae<|qs (sg [2,3])<|f ({ Modes:=A.Modes,Accept:=A.Accept,Rules:=a.Rules }:Ab) H
 ·exact sk<|qs (sg [2,3])<|f A H
end
def Jic:St:=⟨[],[]⟩
theorem TY {z} (H:SE n=some z):AQ Try.prog 30 [] (.agg [.d (.int .i64 z.Mode),.d (.int .i64 z.Last),.d (.int .u8 z.Need)]):=by
 exact fO 2 Jic Try.func30<|sr<|ck 1<|en<|sr<|ck 2<|en<|re (by cases H;exact pr rd)
def Jid:St:=⟨[],[]⟩
theorem TZ {z} (H:SF n=some z):AQ Try.prog 28 [] (.own 6 (z.map Aq)):=by
 exact fO 4 Jid Try.func28<|sr<|ck 1<|en<|sr<|bx H λ a b H=>ca false (TY b)<|ck 3<|en<|re (by cases H;exact pr<|rO (v:=.osl 0 6 0<|List.length<|[({ S:=a,Rule:=(-1),At:=0,Text:=[] }:Ah)]) [0]<|ao vo)
section
variable (b:Int) (a:Int)
def Jie:St:=⟨(0,.d<|.int .u8 b)::(1,.d<|.int .i64 a)::[],[]⟩
variable {b a}
theorem Jq {z} (H:Hs n b a=some z):AQ Try.prog 54 [.d (.int .u8 b),.d (.int .i64 a)] (.d (.bool z)):=by
 exact fO 18 (Jie b a) Try.func54<|sr<|ck 1<|en<|sr<|ck 4<|gc 1 (decide<|a>=0)<|pA<|ck 3<|bx H λ e c H=>soG (λ hg=>Iz<|CC c hg) (CB (λ hh=>hh)<|CB (λ hh=>hh)<|EA)<|gc 2 ((decide<|a>=0)&&(decide<|a<8))<|pA<|ck 1<|en<|re (by cases H;exact pr rd)
end
section
variable (b:Ab) (a:Ae)
def Jif:St:=⟨(0,.agg [.d<|.int .i64 b.Modes,.d<|.int .u8 b.Accept,.d<|.sl<|b.Rules.map Ax])::(1,.agg [.d<|.int .i64 a.Mode,.d<|.int .i64 a.Last,.d<|.int .u8 a.Need])::[],[]⟩
variable {b a}
theorem QV {z} (H:Fm n b a=some z):AQ Try.prog 31 [.agg (Ba b),.agg (NZ a)] (.d (.bool z)):=by
 exact fO 27 (Jif b a) Try.func31<|sr<|ck 3<|en<|sr<|ck 5<|gc 1 (decide<|a.Mode>=0)<|ck 1<|gc 2 (decide<|a.Mode>=0)<|pA<|ck 2<|gc 1 ((decide<|a.Mode>=0)&&(decide<|a.Mode<b.Modes))<|ck 1<|gc 1 ((decide<|a.Mode>=0)&&(decide<|a.Mode<b.Modes))<|bx H λ c e H=>cG false (leZ) rfl (λ hg=>Jq<|CC e hg) (Or.inl rfl) (CB (λ hh=>hh)<|CB (λ hh=>hh)<|EA) rfl<|pA<|ck 2<|gc 1 (((decide<|a.Mode>=0)&&(decide<|a.Mode<b.Modes))&&c)<|bx H λ g f H=>cG false (leZ) rfl (λ hg=>Jq<|CC f hg) (Or.inl rfl) (CB (λ hh=>hh)<|EA) rfl<|pA<|ck 1<|en<|re (by cases H;exact pr rd)
end
section
variable (e:(List (List UInt8))) (f:(List UInt8)) (i:(List (List UInt8))) (g:Bool) (h:Int) (o:(List (List UInt8))) (p:Bool) (k:(List (List UInt8))) (l:Bool) (j:(List (List UInt8))) (m:(List (List UInt8)))
def Jig:St:=⟨(0,.d<|.sl<|e.map eS)::(1,.d<|.str f)::[],[]⟩
def Jih:St:=⟨(0,.d<|.sl<|e.map eS)::(1,.d<|.str f)::(5,.osl 0 1 0<|i.length)::(6,.d<|.bool g)::(7,.d<|.int .i64 h)::[],[some<|.arr 1<|i.map eS]⟩
def Jii:St:=⟨(1,.d<|.str f)::(5,.osl 0 1 0<|o.length)::(6,.d<|.bool p)::[],[some<|.arr 1<|o.map eS]⟩
def Jij:St:=⟨(0,.d<|.sl<|e.map eS)::(1,.d<|.str f)::(5,.osl 0 1 0<|k.length)::(6,.d<|.bool l)::(7,.d<|.int .i64 h)::[],[some<|.arr 1<|k.map eS]⟩
def Jik:St:=⟨(0,.d<|.sl<|e.map eS)::(1,.d<|.str f)::(5,.osl 0 1 0<|j.length)::(7,.d<|.int .i64 h)::[],[some<|.arr 1<|j.map eS]⟩
def Pg:((List<|List UInt8)×Bool)->Ex->St->Prop:=xX 0 0<|λ (y:((List<|List UInt8)×Bool))=>Jii f y.1 y.2
def JS:((List<|List UInt8)×Bool×Int)->St:=(λ (x:((List<|List UInt8)×Bool×Int))=>Jih e f x.1 x.2.1 x.2.2)
def Jil:St:=⟨(5,.osl 0 1 0<|m.length)::[],[some<|.arr 1<|m.map eS]⟩
variable {e f i g h o p k l j m}
theorem N9 (x:((List (List UInt8))×Bool×Int)) (z:(((List (List UInt8))×Bool×Int)⊕((List (List UInt8))×Bool))) (H:C9 n e f x.1 x.2.1 x.2.2=some z):WP (cxk 49 0) (AR Try.f66) [1,1,0,1,0,0] (AO 0 (JS e f) (Pg f) z) (JS e f x):=by
 obtain⟨i,g,h⟩:=x;refine sq<|sr<|ck 2<|sp (AS eS e)<|ck 1<|en<|cn H (λ H=>?_)<|λ H=>?_
 ·refine sk<|qz<|sq<|bk 1<|sj (λ (x:((List<|List UInt8)×Bool))=>Jij e f h x.1 x.2) (λ (x:((List<|List UInt8)×Bool))=>C7 n e h x.1 x.2) z ?_ (λ a=>?_)
  ·rintro⟨k,l⟩ H;exact rz<|ck 3<|bx H λ J q H=>sp (AC eS q)<|ck 2<|bx H λ K r H=>sp (Bh eS 0 1 r)<|ck 1<|ae<|qN<|qz<|rz<|ck 3<|ae (by cases H;exact og<|sg [0,1,5,6,7])
  refine sr<|ck 5<|bx H λ L t H=>sE (λ hg=>AC eS<|CC t hg)<|gc 1 (!g)<|ck 1<|gc 1 (!g)<|pA<|en<|cn H (λ H=>?_)<|λ H=>?_
  ·refine sj (λ (x:(List<|List UInt8))=>Jik e f h x) (λ (x:(List<|List UInt8))=>C8 n e h x) z ?_ (λ b=>?_)
   ·intro j H;exact rz<|ck 1<|ae<|qs (sg [0,1,5,6,7])<|a (j,true) H
   refine sr<|ck 2<|bx H λ M u H=>sp (AC eS u)<|ck 3<|en<|cn H (λ H=>?_)<|λ H=>?_
   ·exact rz<|ck 3<|bx H λ E w H=>sp (Bh eS 0 1 w)<|ck 1<|ae<|qs (sg [0,1,5,7])<|b E H
   ·exact sk<|qs (sg [0,1,5,7])<|b i H
  ·exact sk<|qs (sg [0,1,5,6,7])<|a (i,g) H
 ·exact ex 0<|qx (by cases H;exact xo rfl<|sg [1,5,6])
theorem RW {z} (H:Ge n e f=some z):AQ Try.prog 66 [.d (.sl (e.map eS)),.d (.str f)] (.own 1 (z.map eS)):=by
 refine fO 49 (Jig e f) Try.func66<|sr<|ck 1<|en<|sr<|ck 3<|en<|sq<|sr<|ck 1<|en<|bk 0<|bx H λ G A H=>lX N9 A (sg [0,1,5,6,7]) rfl λ s B=>qH<|qs (B)<|sj (λ (x:(List<|List UInt8))=>Jil x) (λ (x:(List<|List UInt8))=>DU n x) z ?_ (λ c=>?_)
 ·intro m H;exact sr<|ck 2<|en<|re (by cases H;exact pr<|rO (v:=.osl 0 1 0<|z.length) [0]<|ao vo)
 refine sr<|ck 2<|en<|cn H (λ H=>?_)<|λ H=>?_
 ·exact rz<|ck 3<|bx H λ I C H=>sp (Bh eS 0 1 C)<|ck 1<|ae<|qs (sg [5])<|c I H
 ·exact sk<|qs (sg [5])<|c G.1 H
end
section
variable (c:Ab) (e:(List Ah)) (a:(List (List UInt8))) (g:Int) (h:(List (List UInt8))) (f:(List (List UInt8)))
def Jim:St:=⟨(0,.agg [.d<|.int .i64 c.Modes,.d<|.int .u8 c.Accept,.d<|.sl<|c.Rules.map Ax])::(1,.d<|.sl<|e.map Aq)::[],[]⟩
def Jin:St:=⟨(1,.d<|.sl<|e.map Aq)::(2,.ptr 0 0)::(5,.osl 1 1 0<|a.length)::(6,.d<|.int .i64 g)::[],[some<|.box<|Ba c,some<|.arr 1<|a.map eS]⟩
def Jio:St:=⟨(5,.osl 0 1 0<|h.length)::[],[some<|.arr 1<|h.map eS]⟩
def Jip:St:=⟨(1,.d<|.sl<|e.map Aq)::(2,.ptr 0 0)::(5,.osl 1 1 0<|f.length)::(6,.d<|.int .i64 g)::[],[some<|.box<|Ba c,some<|.arr 1<|f.map eS]⟩
def QX:(List<|List UInt8)->Ex->St->Prop:=xX 0 0<|λ (y:(List<|List UInt8))=>Jio y
def KX:((List<|List UInt8)×Int)->St:=(λ (x:((List<|List UInt8)×Int))=>Jin c e x.1 x.2)
variable {c e a g h f}
theorem Ph (x:((List (List UInt8))×Int)) (z:(((List (List UInt8))×Int)⊕(List (List UInt8)))) (H:DB n c e x.1 x.2=some z):WP (cxk 37 0) (AR Try.f49) [1,1,0,1,0,0] (AO 0 (KX c e) (QX) z) (KX c e x):=by
 obtain⟨a,g⟩:=x;refine sq<|sr<|ck 2<|sp (AS Aq e)<|ck 1<|en<|cn H (λ H=>?_)<|λ H=>?_
 ·refine sk<|qz<|sj (λ (x:(List<|List UInt8))=>Jip c e g x) (λ (x:(List<|List UInt8))=>EI n g x) z ?_ (λ b=>?_)
  ·intro f H;exact rz<|ck 3<|ae (by cases H;exact og<|sg [1,2,5,6])
  refine bk 1<|sr<|ck 2<|bx H λ r j H=>sp (AC Aq j)<|ck 7<|bx H λ u k H=>sE (λ hg=>AC Aq<|CC k hg)<|gc 2 (decide<|r.Rule<0)<|bx H λ t l H=>cG false (leZ) rfl (λ hg=>QV<|CC l hg) (Or.inl rfl) (CB (λ hh=>hh)<|CB (λ hh=>hh)<|EA) rfl<|pA<|en<|cn H (λ H=>?_)<|λ H=>?_
  ·exact rz<|ck 3<|bx H λ w m H=>sp (AC Aq m)<|ck 2<|bx H λ i o H=>cb (ks:=[1]) (obl:=[(0+List.length a,List.length<|a.map eS)]) (ls:=[List.length i]) true (leK leM<|leZ) (D4 M9<|D4 rfl rfl) (RW o) (Or.inr<|YU λ _=>rfl) (JdT rfl)<|ck 1<|ae<|qN<|qs (sg [1,2,5,6])<|b i H
  ·exact sk<|qN<|qs (sg [1,2,5,6])<|b a H
 ·exact ex 0<|qx (by cases H;exact xo rfl<|sg [5])
theorem Np {z} (H:Gf n c e=some z):AQ Try.prog 49 [.agg (Ba c),.d (.sl (e.map Aq))] (.own 1 (z.map eS)):=by
 exact fO 37 (Jim c e) Try.func49<|sr<|ck 2<|en<|sr<|ck 2<|en<|sq<|sr<|ck 1<|en<|bk 0<|bx H λ A p H=>lX Ph p (sg [1,2,5,6]) rfl λ s q=>qH<|qs (q)<|sr<|ck 2<|en<|re (by cases H;exact pr<|rO (v:=.osl 0 1 0<|z.length) [0]<|ao vo)
end
section
variable (a:Ab) (b:Int) (c:Int) (g:Int)
def Jiq:St:=⟨(0,.agg [.d<|.int .i64 a.Modes,.d<|.int .u8 a.Accept,.d<|.sl<|a.Rules.map Ax])::(1,.d<|.int .u8 b)::[],[]⟩
def Jir:St:=⟨(1,.d<|.int .u8 b)::(2,.ptr 0 0)::(5,.d<|.int .i64 c)::[],[some<|.box<|Ba a]⟩
def Jis:St:=⟨[],[]⟩
def Jit:St:=⟨(1,.d<|.int .u8 b)::(2,.ptr 0 0)::(5,.d<|.int .i64 c)::(6,.d<|.int .i64 g)::[],[some<|.box<|Ba a]⟩
def Jiu:St:=⟨(1,.d<|.int .u8 b)::(2,.ptr 0 0)::(5,.d<|.int .i64 c)::[],[some<|.box<|Ba a]⟩
def RX:(Unit⊕Bool)->Ex->St->Prop:=xS (xX 0 2<|λ (_:Unit)=>Jiu a b c)<|xR ty Try.f50<|λ (y:Bool)=>.d<|.bool y
def Mc:Int->St:=(λ (x:Int)=>Jit a b c x)
def RY:(Unit⊕Bool)->Ex->St->Prop:=xS (xX 0 0<|λ (_:Unit)=>Jis)<|xR ty Try.f50<|λ (y:Bool)=>.d<|.bool y
def Md:Int->St:=(λ (x:Int)=>Jir a b x)
variable {a b c g}
theorem KY (x:Int) (z:(Int⊕(Unit⊕Bool))) (H:Ep n a b c x=some z):WP (cxk 36 0) (AR Try.f50) [1,0,1,0,0,1,0,0,1,0,0] (AO 0 (Mc a b c) (RX a b c) z) (Mc a b c x):=by
 revert H;generalize x=g;intro H;refine sq<|sr<|ck 4<|bx H λ p h H=>sp (AC Ax h)<|ck 2<|sp (AS eU8 p.Cells)<|ck 1<|en<|cn H (λ H=>?_)<|λ H=>?_
 ·refine sk<|qz<|sq<|bk 3<|sr<|ck 3<|bx H λ t i H=>sp (AC Ax i)<|ck 3<|bx H λ u j H=>sp (AC eU8 j)<|ck 3<|en<|cn H (λ H=>?_)<|λ H=>?_
  ·exact sr<|ck 1<|en<|re<|qR<|qr (by cases H;exact ro rfl rd)
  ·exact sk<|qN<|qz<|rz<|ck 3<|ae (by cases H;exact og<|sg [1,2,5,6])
 ·exact ex 2<|qx (by cases H;exact xo rfl<|sg [1,2,5])
theorem KZ (x:Int) (z:(Int⊕(Unit⊕Bool))) (H:Er n a b x=some z):WP (cxk 36 0) (AR Try.f50) [1,0,1,0,0] (AO 0 (Md a b) (RY) z) (Md a b x):=by
 revert H;generalize x=c;intro H;refine sq<|sr<|ck 3<|sp (AS Ax a.Rules)<|ck 1<|en<|cn H (λ H=>?_)<|λ H=>?_
 ·refine sk<|qz<|sq<|bk 1<|sr<|ck 1<|en<|bk 2<|bx H λ q e H=>?_;rcases q with v|w
  ·exact lX KY e (sg [1,2,5,6]) rfl λ s k=>qH<|qN<|qs (k)<|rz<|ck 3<|ae (by cases H;exact og<|sg [1,2,5])
  ·exact lR KY e (sg [1,2,5,6]) rfl λ s l=>qR<|qR<|qr (by cases H;exact ro rfl l)
 ·exact ex 0<|qx (by cases H;exact xo rfl<|sg [])
theorem OU {z} (H:HH n a b=some z):AQ Try.prog 50 [.agg (Ba a),.d (.int .u8 b)] (.d (.bool z)):=by
 refine fO 36 (Jiq a b) Try.func50<|sr<|ck 2<|en<|sq<|sr<|ck 1<|en<|bk 0<|bx H λ r f H=>?_;rcases r with A|B
 ·exact lX KZ f (sg [1,2,5]) rfl λ s m=>qH<|qs (m)<|sr<|ck 1<|en<|re (by cases H;exact pr rd)
 ·exact lR KZ f (sg [1,2,5]) rfl λ s o=>qR<|qr (by cases H;exact pr o)
end
section
variable (c:Ab) (b:Ah) (e:Ah)
def Jiv:St:=⟨(0,.agg [.d<|.int .i64 c.Modes,.d<|.int .u8 c.Accept,.d<|.sl<|c.Rules.map Ax])::(1,.agg [.d<|.int .i64 b.S.Mode,.d<|.int .i64 b.S.Last,.d<|.int .u8 b.S.Need,.d<|.int .i64 b.Rule,.d<|.int .i64 b.At,.d<|.str b.Text])::[],[]⟩
def Jiw:St:=⟨(3,.ptr 0 0)::(4,.ptr 1 0)::[],[some<|.box<|Ng e,some<|.box [.d<|.int .i64 0,.d<|.int .i64 0,.d<|.int .u8 0,.d<|.int .i64 0,.d<|.int .i64 0,.d<|.str []]]⟩
variable {c b e}
theorem OW {z} (H:HI n c b=some z):AQ Try.prog 67 [.agg (Ba c),.agg (Ng b)] (.agg [.d (.int .i64 z.S.Mode),.d (.int .i64 z.S.Last),.d (.int .u8 z.S.Need),.d (.int .i64 z.Rule),.d (.int .i64 z.At),.d (.str z.Text)]):=by
 refine fO 19 (Jiv c b) Try.func67<|sr<|ck 3<|en<|sj (λ (x:Ah)=>Jiw x) (λ (x:Ah)=>Fn n x) z ?_ (λ a=>?_)
 ·intro e H;exact sr<|ck 2<|en<|re (by cases H;exact pr rd)
 refine sr<|ck 6<|bx H λ g f H=>sp (AC Ax f)<|ck 2<|sp (AS eU8 g.Cells)<|ck 1<|en<|cn H (λ H=>?_)<|λ H=>?_
 ·exact rz<|ck 4<|ae<|qs (sg [3,4])<|a ({ S:=b.S,Rule:=(-1),At:=0,Text:=b.Text }:Ah) H
 ·exact sk<|qs (sg [3,4])<|a b H
end
section
variable (a:Int)
def Jix:St:=⟨(0,.d<|.int .u8 a)::[],[]⟩
variable {a}
theorem Nq {z} (H:Gg n a=some z):AQ Try.prog 55 [.d (.int .u8 a)] (.d (.int .i64 z)):=by
 refine fO 26 (Jix a) Try.func55<|sr<|ck 1<|en<|sr<|ck 3<|en<|sq<|sr<|ck 4<|gc 1 (decide<|Cs .u8 a 127>=97)<|pA<|en<|cn H (λ H=>?_)<|λ H=>?_
 ·exact sr<|ck 1<|en<|re<|qr (by cases H;exact pr rd)
 ·refine sk<|qz<|sq<|sr<|ck 4<|gc 1 (decide<|Cs .u8 a 127>=65)<|pA<|en<|cn H (λ H=>?_)<|λ H=>?_
  ·exact sr<|ck 1<|en<|re<|qr (by cases H;exact pr rd)
  ·refine sk<|qz<|sq<|sr<|ck 4<|gc 1 (decide<|Cs .u8 a 127>=48)<|pA<|en<|cn H (λ H=>?_)<|λ H=>?_
   ·exact sr<|ck 1<|en<|re<|qr (by cases H;exact pr rd)
   ·refine sk<|qz<|sq<|sr<|ck 2<|en<|cn H (λ H=>?_)<|λ H=>?_
    ·exact sr<|ck 1<|en<|re<|qr (by cases H;exact pr rd)
    ·exact sk<|qz<|sr<|ck 1<|en<|re (by cases H;exact pr rd)
end
section
variable (b:Ab) (a:Ae) (c:Int)
def Jiy:St:=⟨(0,.agg [.d<|.int .i64 b.Modes,.d<|.int .u8 b.Accept,.d<|.sl<|b.Rules.map Ax])::(1,.agg [.d<|.int .i64 a.Mode,.d<|.int .i64 a.Last,.d<|.int .u8 a.Need])::(2,.d<|.int .i64 c)::[],[]⟩
variable {b a c}
theorem Vz {z} (H:IC n b a c=some z):AQ Try.prog 32 [.agg (Ba b),.agg (NZ a),.d (.int .i64 c)] (.tup [.agg [.d (.int .i64 z.1.Mode),.d (.int .i64 z.1.Last),.d (.int .u8 z.1.Need)],.d (.bool z.2)]):=by
 refine fO 87 (Jiy b a c) Try.func32<|sr<|ck 4<|en<|sq<|sr<|ck 5<|gc 1 (!(decide<|c<0))<|sE (g:=(!(decide<|c<0))) (λ hg=>AS Ax b.Rules)<|gc 1 (!(decide<|c<0))<|pO<|en<|cn H (λ H=>?_)<|λ H=>?_
 ·exact sr<|ck 3<|en<|re<|qr (by cases H;exact pr rdT)
 ·refine sk<|qz<|sr<|ck 3<|bx H λ e f H=>sp (AC Ax f)<|ck 3<|en<|sq<|sr<|ck 7<|gc 1 (!(e.From != a.Mode))<|ck 1<|gc 1 (!(e.From != a.Mode))<|bx H λ o h H=>cG false (leZ) rfl (λ hg=>Jq<|CC h hg) (Or.inl rfl) (CB (λ hh=>hh)<|CB (λ hh=>hh)<|EA) rfl<|gc 1 (!(e.From != a.Mode))<|pO<|en<|cn H (λ H=>?_)<|λ H=>?_
  ·exact sr<|ck 3<|en<|re<|qr (by cases H;exact pr rdT)
  ·refine sk<|qz<|sq<|sr<|ck 6<|gc 1 (((e.Print.length:Nat):Int)==0)<|ck 1<|gc 3 (((e.Print.length:Nat):Int)==0)<|pA<|en<|cn H (λ H=>?_)<|λ H=>?_
   ·exact sr<|ck 3<|en<|re<|qr (by cases H;exact pr rdT)
   ·refine sk<|qz<|sq<|sr<|ck 4<|en<|cn H (λ H=>?_)<|λ H=>?_
    ·exact sr<|ck 12<|en<|re<|qr (by cases H;exact pr rdT)
    ·refine sk<|qz<|sq<|sr<|ck 4<|bx H λ s i H=>sp (FC i)<|bx H λ p j H=>ca false (Nq j)<|bx H λ q k H=>ca false (Jq k)<|ck 1<|en<|cn H (λ H=>?_)<|λ H=>?_
     ·exact sr<|ck 3<|en<|re<|qr (by cases H;exact pr rdT)
     ·exact sk<|qz<|sr<|ck 8<|bx H λ t l H=>sp (FC l)<|bx H λ r m H=>ca false (Nq m)<|ck 5<|en<|re (by cases H;exact pr rdT)
end
section
variable (c:(List Ah)) (a:(List Ah)) (b:Int) (i:(List Ah)) (h:(List Ah)) (e:Bool) (l:Int) (j:Bool)
def Jiz:St:=⟨(0,.d<|.sl<|c.map Aq)::[],[]⟩
def JiA:St:=⟨(0,.d<|.sl<|c.map Aq)::(3,.osl 0 6 0<|a.length)::(4,.d<|.int .i64 b)::[],[some<|.arr 6<|a.map Aq]⟩
def JiB:St:=⟨(3,.osl 0 6 0<|i.length)::[],[some<|.arr 6<|i.map Aq]⟩
def JiC:St:=⟨(0,.d<|.sl<|c.map Aq)::(3,.osl 0 6 0<|h.length)::(4,.d<|.int .i64 b)::[],[some<|.arr 6<|h.map Aq]⟩
def JiD:St:=⟨(0,.d<|.sl<|c.map Aq)::(3,.osl 0 6 0<|a.length)::(4,.d<|.int .i64 b)::(5,.d<|.bool e)::(6,.d<|.int .i64 l)::[],[some<|.arr 6<|a.map Aq]⟩
def JiE:St:=⟨(0,.d<|.sl<|c.map Aq)::(3,.osl 0 6 0<|a.length)::(4,.d<|.int .i64 b)::(5,.d<|.bool j)::[],[some<|.arr 6<|a.map Aq]⟩
def RZ:Bool->Ex->St->Prop:=xX 0 2<|λ (y:Bool)=>JiE c a b y
def Me:(Bool×Int)->St:=(λ (x:(Bool×Int))=>JiD c a b x.1 x.2)
def R1:(List Ah)->Ex->St->Prop:=xX 0 0<|λ (y:(List Ah))=>JiB y
def Mf:((List Ah)×Int)->St:=(λ (x:((List Ah)×Int))=>JiA c x.1 x.2)
variable {c a b i h e l j}
theorem QY (x:(Bool×Int)) (z:((Bool×Int)⊕Bool)) (H:Es n c a b x.1 x.2=some z):WP (cxk 42 0) (AR Try.f68) [1,1,0,1,0,0,1,0,0,1,0,1,0,0] (AO 0 (Me c a b) (RZ c a b) z) (Me c a b x):=by
 obtain⟨e,l⟩:=x;refine sq<|sr<|ck 4<|en<|cn H (λ H=>?_)<|λ H=>?_
 ·exact sk<|qz<|sq<|bk 3<|rz<|ck 4<|bx H λ A k H=>sE (λ hg=>Bs 0 6<|CC k hg)<|sE (g:=(!e)) (λ hg=>De Aq 0 0 (ty 132)<|CC k hg)<|ck 2<|bx H λ B m H=>sE (λ hg=>AC Aq<|CC m hg)<|gc 2 (!e)<|pO<|ck 1<|ae<|qN<|qz<|rz<|ck 3<|ae (by cases H;exact og<|sg [0,3,4,5,6])
 ·exact ex 2<|qx (by cases H;exact xo rfl<|sg [0,3,4,5])
theorem QZ (x:((List Ah)×Int)) (z:(((List Ah)×Int)⊕(List Ah))) (H:Et n c x.1 x.2=some z):WP (cxk 42 0) (AR Try.f68) [1,1,0,1,0,0] (AO 0 (Mf c) (R1) z) (Mf c x):=by
 obtain⟨a,b⟩:=x;refine sq<|sr<|ck 2<|sp (AS Aq c)<|ck 1<|en<|cn H (λ H=>?_)<|λ H=>?_
 ·refine sk<|qz<|sj (λ (x:(List Ah))=>JiC c b x) (λ (x:(List Ah))=>Fp n b x) z ?_ (λ f=>?_)
  ·intro h H;exact rz<|ck 3<|ae (by cases H;exact og<|sg [0,3,4])
  refine bk 1<|sr<|ck 1<|en<|sq<|sr<|ck 1<|en<|bk 2<|bx H λ E o H=>lX QY o (sg [0,3,4,5,6]) rfl λ s p=>qH<|qs (p)<|sr<|ck 2<|en<|cn H (λ H=>?_)<|λ H=>?_
  ·exact rz<|ck 3<|bx H λ C q H=>sp (AC Aq q)<|ck 2<|bx H λ w r H=>sp (Bh Aq 0 6 r)<|ck 1<|ae<|qN<|qs (sg [0,3,4])<|f w H
  ·exact sk<|qN<|qs (sg [0,3,4])<|f a H
 ·exact ex 0<|qx (by cases H;exact xo rfl<|sg [3])
theorem VA {z} (H:ID n c=some z):AQ Try.prog 68 [.d (.sl (c.map Aq))] (.own 6 (z.map Aq)):=by
 exact fO 42 (Jiz c) Try.func68<|sr<|ck 1<|en<|sr<|ck 2<|en<|sq<|sr<|ck 1<|en<|bk 0<|bx H λ G t H=>lX QZ t (sg [0,3,4]) rfl λ s u=>qH<|qs (u)<|sr<|ck 2<|en<|re (by cases H;exact pr<|rO (v:=.osl 0 6 0<|z.length) [0]<|ao vo)
end
section
variable (a:Ab) (c:(List Ah)) (e:Int) (h:(List Ah)) (b:Int) (m:(List Ah)) (k:(List Ah)) (i:Ah) (j:(List Ah)) (q:Int) (o:(List Ah)) (l:(List Ah))
def JiF:St:=⟨(0,.agg [.d<|.int .i64 a.Modes,.d<|.int .u8 a.Accept,.d<|.sl<|a.Rules.map Ax])::(1,.d<|.sl<|c.map Aq)::(2,.d<|.int .u8 e)::[],[]⟩
def JiG:St:=⟨(1,.d<|.sl<|c.map Aq)::(2,.d<|.int .u8 e)::(3,.ptr 0 0)::(7,.osl 1 6 0<|h.length)::(8,.d<|.int .i64 b)::[],[some<|.box<|Ba a,some<|.arr 6<|h.map Aq]⟩
def JiH:St:=⟨(7,.osl 0 6 0<|m.length)::[],[some<|.arr 6<|m.map Aq]⟩
def JiI:St:=⟨(1,.d<|.sl<|c.map Aq)::(2,.d<|.int .u8 e)::(3,.ptr 0 0)::(7,.osl 1 6 0<|k.length)::(8,.d<|.int .i64 b)::[],[some<|.box<|Ba a,some<|.arr 6<|k.map Aq]⟩
def JiJ:St:=⟨(1,.d<|.sl<|c.map Aq)::(2,.d<|.int .u8 e)::(3,.ptr 0 0)::(7,.osl 1 6 0<|j.length)::(8,.d<|.int .i64 b)::(9,.ptr 2 0)::(11,.d<|.int .i64 q)::[],[some<|.box<|Ba a,some<|.arr 6<|j.map Aq,some<|.box<|Ng i]⟩
def JiK:St:=⟨(1,.d<|.sl<|c.map Aq)::(2,.d<|.int .u8 e)::(3,.ptr 0 0)::(7,.osl 1 6 0<|o.length)::(8,.d<|.int .i64 b)::[],[some<|.box<|Ba a,some<|.arr 6<|o.map Aq]⟩
def JiL:St:=⟨(1,.d<|.sl<|c.map Aq)::(2,.d<|.int .u8 e)::(3,.ptr 0 0)::(7,.osl 1 6 0<|l.length)::(8,.d<|.int .i64 b)::(9,.ptr 2 0)::(11,.d<|.int .i64 q)::[],[some<|.box<|Ba a,some<|.arr 6<|l.map Aq,some<|.box<|Ng i]⟩
def R2:(List Ah)->Ex->St->Prop:=xX 0 2<|λ (y:(List Ah))=>JiK a c e b y
def Mg:((List Ah)×Int)->St:=(λ (x:((List Ah)×Int))=>JiJ a c e b i x.1 x.2)
def R3:(List Ah)->Ex->St->Prop:=xX 0 0<|λ (y:(List Ah))=>JiH y
def Mh:((List Ah)×Int)->St:=(λ (x:((List Ah)×Int))=>JiG a c e x.1 x.2)
variable {a c e h b m k i j q o l}
theorem Q0 (x:((List Ah)×Int)) (z:(((List Ah)×Int)⊕(List Ah))) (H:Do n a c e b i x.1 x.2=some z):WP (cxk 104 0) (AR Try.f51) [1,1,0,1,0,0,1,0,0,1,1,1,0,0] (AO 0 (Mg a c e b i) (R2 a c e b) z) (Mg a c e b i x):=by
 obtain⟨j,q⟩:=x;refine sq<|sr<|ck 3<|sp (AS Ax a.Rules)<|ck 1<|en<|cn H (λ H=>?_)<|λ H=>?_
 ·refine sk<|qz<|sj (λ (x:(List Ah))=>JiL a c e b i q x) (λ (x:(List Ah))=>Fq n q x) z ?_ (λ g=>?_)
  ·intro l H;exact rz<|ck 3<|ae (by cases H;exact og<|sg [1,2,3,7,8,9,11])
  refine bk 3<|sr<|ck 4<|bx H λ p r H=>ca false (Vz r)<|ck 6<|en<|sr<|ck 3<|gc 1 p.2<|ck 1<|bx H λ W t H=>sE (λ hg=>AC Ax<|CC t hg)<|gc 2 p.2<|bx H λ X u H=>sE (λ hg=>AC eU8<|CC u hg)<|gc 1 p.2<|ck 1<|gc 1 p.2<|pA<|en<|cn H (λ H=>?_)<|λ H=>?_
  ·exact rz<|ck 9<|bx H λ Y w H=>sp (AC Ax w)<|ck 2<|bx H λ af A H=>sp (Qr A)<|ck 1<|bx H λ Z B H=>ca false (OW B)<|ck 1<|bx H λ T C H=>sp (Bh Aq 1 6 C)<|ck 1<|ae<|qN<|qs (sg [1,2,3,7,8,9,11])<|g T H
  ·exact sk<|qN<|qs (sg [1,2,3,7,8,9,11])<|g j H
 ·exact ex 2<|qx (by cases H;exact xo rfl<|sg [1,2,3,7,8])
theorem Q2 (x:((List Ah)×Int)) (z:(((List Ah)×Int)⊕(List Ah))) (H:Ew n a c e x.1 x.2=some z):WP (cxk 104 0) (AR Try.f51) [1,1,0,1,0,0] (AO 0 (Mh a c e) (R3) z) (Mh a c e x):=by
 obtain⟨h,b⟩:=x;refine sq<|sr<|ck 2<|sp (AS Aq c)<|ck 1<|en<|cn H (λ H=>?_)<|λ H=>?_
 ·refine sk<|qz<|sj (λ (x:(List Ah))=>JiI a c e b x) (λ (x:(List Ah))=>Eu n b x) z ?_ (λ f=>?_)
  ·intro k H;exact rz<|ck 3<|ae (by cases H;exact og<|sg [1,2,3,7,8])
  refine bk 1<|sr<|ck 2<|bx H λ i E H=>sp (AC Aq E)<|ck 3<|en<|sq<|sr<|ck 3<|en<|cn H (λ H=>?_)<|λ H=>?_
  ·refine sr<|ck 4<|bx H λ aa G H=>sp (AC Ax G)<|ck 3<|en<|sq<|sr<|ck 3<|bx H λ ab I H=>sp (AC eU8 I)<|ck 3<|en<|cn H (λ H=>?_)<|λ H=>?_
   ·exact rz<|ck 12<|bx H λ ac J H=>ca false (OW J)<|ck 1<|bx H λ U K H=>sp (Bh Aq 1 6 K)<|ck 1<|en<|ex 1<|qx<|qH<|qs (sg [1,2,3,7,8])<|f U H
   ·exact sk<|qz<|ex 1<|qx<|qH<|qs (sg [1,2,3,7,8])<|f h H
  ·exact sk<|qz<|sr<|ck 1<|en<|bk 2<|bx H λ V L H=>lX Q0 L (sg [1,2,3,7,8,9,11]) rfl λ s M=>qH<|qN<|qs (tr (M)<|sg [1,2,3,7,8])<|f V H
 ·exact ex 0<|qx (by cases H;exact xo rfl<|sg [7])
theorem OX {z} (H:HJ n a c e=some z):AQ Try.prog 51 [.agg (Ba a),.d (.sl (c.map Aq)),.d (.int .u8 e)] (.own 6 (z.map Aq)):=by
 exact fO 104 (JiF a c e) Try.func51<|sr<|ck 2<|en<|sr<|ck 2<|en<|sq<|sr<|ck 1<|en<|bk 0<|bx H λ O P H=>lX Q2 P (sg [1,2,3,7,8]) rfl λ s Q=>qH<|qs (Q)<|sr<|ck 1<|bx H λ R S H=>cb (ks:=[0]) (obl:=[(0+List.length O,List.length<|O.map Aq)]) (ls:=[List.length R]) true (leK leM<|leZ) (D4 M9 rfl) (VA S) (Or.inr<|YU λ _=>rfl) (JdT rfl)<|ck 1<|en<|re (by cases H;exact pr<|rO (v:=.osl 1 6 0<|z.length) [1]<|ao vo)
end
section
variable (g:Int) (a:Aa) (e:(List Int)) (c:(List Ah)) (l:Aa) (i:Aa) (o:Int) (m:Aa) (j:Aa) (f:(Int->Aa->(List Int)->(List Ah)->Option Aa))
def JbX:St:=⟨(0,.ptr 0 0)::(1,.osl 1 1 0<|e.length)::(2,.osl 2 6 0<|c.length)::(3,.d<|.int .i64 g)::[],[some<|.box<|Aw a<|.osl 3 1 0<|a.C.Cells.length,some<|.arr 1<|e.map eU8,some<|.arr 6<|c.map Aq,some<|.arr 1<|a.C.Cells.map eU8]⟩
def Nr:St:=⟨[],[some<|.box<|Aw l<|.osl 4 1 0<|l.C.Cells.length,none,none,none,some<|.arr 1<|l.C.Cells.map eU8]⟩
def JbY:St:=⟨(0,.ptr 0 0)::(1,.osl 4 1 0<|e.length)::(2,.osl 5 6 0<|c.length)::(3,.d<|.int .i64 g)::(9,.d<|.int .u8 o)::[],[some<|.box<|Aw i<|.osl 6 1 0<|i.C.Cells.length,none,none,none,some<|.arr 1<|e.map eU8,some<|.arr 6<|c.map Aq,some<|.arr 1<|i.C.Cells.map eU8]⟩
def JbZ:St:=⟨[],[some<|.box<|Aw m<|.osl 4 1 0<|m.C.Cells.length,none,none,none,some<|.arr 1<|m.C.Cells.map eU8]⟩
def Jb0:St:=⟨(0,.ptr 0 0)::(1,.osl 4 1 0<|e.length)::(2,.osl 5 6 0<|c.length)::(3,.d<|.int .i64 g)::(9,.d<|.int .u8 o)::[],[some<|.box<|Aw j<|.osl 6 1 0<|j.C.Cells.length,none,none,none,some<|.arr 1<|e.map eU8,some<|.arr 6<|c.map Aq,some<|.arr 1<|j.C.Cells.map eU8]⟩
def K0:Aa->Ex->St->Prop:=xX 4 0<|λ (y:Aa)=>JbZ y
def GX:(Aa×Int)->St:=(λ (x:(Aa×Int))=>JbY g e c x.1 x.2)
variable {g a e c l i o m j f}
theorem Kb (h:∀ {g:Int} {a:Aa} {e:(List Int)} {c:(List Ah)} {z:Aa},f g a e c=some z->BV Try.prog 27 [.ptr 0 0,.osl 1 1 0 (e.length),.osl 2 6 0 (c.length),.d (.int .i64 g)] [some (.box (Aw a (.osl 3 1 0 (a.C.Cells.length)))),some (.arr 1 (e.map eU8)),some (.arr 6 (c.map Aq)),some (.arr 1 (a.C.Cells.map eU8))] 4 (.tup []) [some (.box (Aw z (.osl 4 1 0 (z.C.Cells.length)))),none,none,none,some (.arr 1 (z.C.Cells.map eU8))]) (x:(Aa×Int)) (z:((Aa×Int)⊕Aa)) (H:BO n f g e c x.1 x.2=some z):WP (cxk 90 4) (AR Try.f27) [1,1,1,1,0,0] (AO 4 (GX g e c) (K0) z) (GX g e c x):=by
 obtain⟨i,o⟩:=x;refine sq<|sr<|ck 2<|en<|cn H (λ H=>?_)<|λ H=>?_
 ·refine sk<|qz<|sj (λ (x:Aa)=>Jb0 g e c o x) (λ (x:Aa)=>BN n o x) z ?_ (λ b=>?_)
  ·intro j H;exact rz<|ck 3<|ae (by cases H;exact og<|sg [0,1,2,3,9])
  refine bk 1<|sq<|sr<|ck 5<|bx H λ P p H=>ca false (OU p)<|ck 1<|en<|cn H (λ H=>?_)<|λ H=>?_
  ·exact ex 1<|qx<|qH<|qs (sg [0,1,2,3,9])<|b i H
  ·refine sk<|qz<|sr<|ck 6<|bx H λ q r H=>cb (ks:=[5]) (obl:=[(0+List.length c,List.length<|c.map Aq)]) (ls:=[List.length q]) true (leK leM<|leZ) (D4 rfl<|D4 M9<|D4 rfl rfl) (OX r) (Or.inr<|YU λ _=>rfl) (JdT rfl)<|ck 1<|en<|sr<|ck 3<|en<|cn H (λ H=>?_)<|λ H=>?_
   ·exact sr<|ck 2<|bx H λ R t H=>sp (Bh eU8 8 1 t)<|ck 1<|en<|rz<|ck 4<|bx H λ S u H=>sp (Bh eU8 9 1 u)<|ck 3<|bx H λ v w H=>lt [0,11,7,6] (h w)<|ae<|qN<|qs (sg [0,1,2,3,9])<|b v H
   ·exact sk<|qN<|qs (sg [0,1,2,3,9])<|b i H
 ·exact ex 0<|qx (by cases H;exact xo rfl<|sg [])
theorem K1 {z} (h:∀ {g:Int} {a:Aa} {e:(List Int)} {c:(List Ah)} {z:Aa},f g a e c=some z->BV Try.prog 27 [.ptr 0 0,.osl 1 1 0 (e.length),.osl 2 6 0 (c.length),.d (.int .i64 g)] [some (.box (Aw a (.osl 3 1 0 (a.C.Cells.length)))),some (.arr 1 (e.map eU8)),some (.arr 6 (c.map Aq)),some (.arr 1 (a.C.Cells.map eU8))] 4 (.tup []) [some (.box (Aw z (.osl 4 1 0 (z.C.Cells.length)))),none,none,none,some (.arr 1 (z.C.Cells.map eU8))]) (H:Bb n f g a e c=some z):BV Try.prog 27 [.ptr 0 0,.osl 1 1 0 (e.length),.osl 2 6 0 (c.length),.d (.int .i64 g)] [some (.box (Aw a (.osl 3 1 0 (a.C.Cells.length)))),some (.arr 1 (e.map eU8)),some (.arr 6 (c.map Aq)),some (.arr 1 (a.C.Cells.map eU8))] 4 (.tup []) [some (.box (Aw z (.osl 4 1 0 (z.C.Cells.length)))),none,none,none,some (.arr 1 (z.C.Cells.map eU8))]:=by
 refine fL 90 4 (JbX g a e c) Try.func27<|sr<|ck 10<|en<|sq<|sr<|ck 7<|gc 3 (!(decide<|C4 .i64 a.Left ((c.length:Nat):Int)<0))<|pO<|en<|cn H (λ H=>?_)<|λ H=>?_
 ·exact re<|qr (by cases H;exact pL<|rl (s':=Nr ({ T:=a.T,Left:=C4 .i64 a.Left ((c.length:Nat):Int),C:=a.C,Ok:=a.Ok }:Aa))<|tr (tr (tr (EB (k:=3) (sz:=1) 0 4 (a.C.Cells.map eU8) (a.C.Cells.length) (by kernel_rfl) B1 leM rfl)<|Jd 1 rfl)<|Jd 2 rfl)<|sg [])
 ·refine sk<|qz<|sq<|sr<|ck 2<|en<|cn H (λ H=>?_)<|λ H=>?_
  ·refine sr<|ck 5<|bx H λ E G H=>cb (ks:=[2]) (obl:=[(0+List.length c,List.length<|c.map Aq)]) false (leK leM<|leZ) (D4 rfl<|D4 M9 rfl) (Np G) (Or.inr<|YU λ _=>rfl) rfl<|ck 1<|en<|sq<|sr<|ck 1<|sp (AS eS E)<|ck 1<|en<|cn H (λ H=>?_)<|λ H=>?_
   ·exact rz<|ck 4<|bx H λ I J H=>sp (AC eS J)<|ck 2<|bx H λ K L H=>sp (AC eS L)<|ck 8<|en<|re<|qr (by cases H;exact pL<|rl (s':=Nr ({ T:=a.T,Left:=C4 .i64 a.Left ((c.length:Nat):Int),C:=({ Cells:=e,A:=I,B:=K }:Bk),Ok:=true }:Aa))<|tr (tr (tr (EB (k:=1) (sz:=1) 0 4 (e.map eU8) (e.length) (by kernel_rfl) B1 leM rfl)<|Jd 3 rfl)<|Jd 2 rfl)<|sg [])
   ·exact sk<|qz<|re<|qr (by cases H;exact pL<|rl (s':=Nr ({ T:=a.T,Left:=C4 .i64 a.Left ((c.length:Nat):Int),C:=a.C,Ok:=a.Ok }:Aa))<|tr (tr (tr (EB (k:=3) (sz:=1) 0 4 (a.C.Cells.map eU8) (a.C.Cells.length) (by kernel_rfl) B1 leM rfl)<|Jd 1 rfl)<|Jd 2 rfl)<|sg [])
  ·exact sk<|qz<|sr<|ck 1<|en<|bk 0<|bx H λ Q M H=>lX (Kb h) M (tr (tr (tr (Tv (k:=1) (sz:=1) 1 (e.map eU8) (e.length) (by kernel_rfl) B1 leM rfl)<|Tv (k:=2) (sz:=6) 2 (c.map Aq) (c.length) (by kernel_rfl) B1 leM rfl)<|EB (k:=3) (sz:=1) 0 4 (a.C.Cells.map eU8) (a.C.Cells.length) (by kernel_rfl) B1 leM rfl)<|sg [0,1,2,3,9]) rfl λ s O=>qH (by cases H;exact pL'<|rl (s':=Nr z)<|tr (O)<|sg [])
end
section
variable (e:Int) (a:Aa) (b:(List Int)) (c:(List Ah))
variable {e a b c}
theorem MF {z} (H:DP n e a b c=some z):BV Try.prog 27 [.ptr 0 0,.osl 1 1 0 (b.length),.osl 2 6 0 (c.length),.d (.int .i64 e)] [some (.box (Aw a (.osl 3 1 0 (a.C.Cells.length)))),some (.arr 1 (b.map eU8)),some (.arr 6 (c.map Aq)),some (.arr 1 (a.C.Cells.map eU8))] 4 (.tup []) [some (.box (Aw z (.osl 4 1 0 (z.C.Cells.length)))),none,none,none,some (.arr 1 (z.C.Cells.map eU8))]:=by
  have key:∀ (d:Nat) {e:Int} {a:Aa} {b:(List Int)} {c:(List Ah)} {z:Aa},Qh (λ _ _ _ _=>none) (Bb n) d e a b c=some z->BV Try.prog 27 [.ptr 0 0,.osl 1 1 0 (b.length),.osl 2 6 0 (c.length),.d (.int .i64 e)] [some (.box (Aw a (.osl 3 1 0 (a.C.Cells.length)))),some (.arr 1 (b.map eU8)),some (.arr 6 (c.map Aq)),some (.arr 1 (a.C.Cells.map eU8))] 4 (.tup []) [some (.box (Aw z (.osl 4 1 0 (z.C.Cells.length)))),none,none,none,some (.arr 1 (z.C.Cells.map eU8))]:=by
    intro d;induction d with
    | zero=>intro _ _ _ _ _ H;cases H
    | succ d ih=>intro _ _ _ _ _ H;exact K1 (λ h=>ih h) H
  exact key n H
end
section
variable (k:Int) (e:Int) (f:Int) (g:(List AE)) (c:Int) (h:(List UInt8)) (i:(List UInt8)) (j:Bool) (a:(List Ah)) (p:Aa) (m:Aa) (r:Int) (q:Aa) (o:Aa) (l:(Int->Int->Int->(List AE)->Int->(List UInt8)->(List UInt8)->Bool->(List Ah)->Option Aa))
def Jb1:St:=⟨(0,.ptr 0 0)::(1,.d<|.nil)::(2,.osl 1 6 0<|a.length)::(3,.d<|.int .i64 k)::[],[some<|.box [.d<|.int .i64 e,.d<|.int .u8 f,.d<|.sl<|g.map Ax,.d<|.int .i64 c,.d<|.nil,.d<|.str h,.d<|.str i,.d<|.bool j],some<|.arr 6<|a.map Aq]⟩
def Ns:St:=⟨[],[some<|.box<|Aw p<|.osl 2 1 0<|p.C.Cells.length,some<|.arr 6<|a.map Aq,some<|.arr 1<|p.C.Cells.map eU8]⟩
def Jb2:St:=⟨(0,.ptr 0 0)::(1,.osl 2 1 0<|List.length ([]:List Int))::(2,.osl 1 6 0<|a.length)::(3,.d<|.int .i64 k)::(9,.d<|.int .u8 r)::[],[some<|.box<|Aw m<|.osl 3 1 0<|m.C.Cells.length,some<|.arr 6<|a.map Aq,some<|.arr 1<|List.map eU8 ([]:List Int),some<|.arr 1<|m.C.Cells.map eU8]⟩
def Jb3:St:=⟨[],[some<|.box<|Aw q<|.osl 2 1 0<|q.C.Cells.length,some<|.arr 6<|a.map Aq,some<|.arr 1<|q.C.Cells.map eU8]⟩
def Jb4:St:=⟨(0,.ptr 0 0)::(1,.osl 2 1 0<|List.length ([]:List Int))::(2,.osl 1 6 0<|a.length)::(3,.d<|.int .i64 k)::(9,.d<|.int .u8 r)::[],[some<|.box<|Aw o<|.osl 3 1 0<|o.C.Cells.length,some<|.arr 6<|a.map Aq,some<|.arr 1<|List.map eU8 ([]:List Int),some<|.arr 1<|o.C.Cells.map eU8]⟩
def Kc:Aa->Ex->St->Prop:=xX 2 0<|λ (y:Aa)=>Jb3 a y
def FW:(Aa×Int)->St:=(λ (x:(Aa×Int))=>Jb2 k a x.1 x.2)
variable {k e f g c h i j a p m r q o l}
theorem Jr (x:(Aa×Int)) (z:((Aa×Int)⊕Aa)) (H:He n k a x.1 x.2=some z):WP (cxk 90 2) (AR Try.f27) [1,1,1,1,0,0] (AO 2 (FW k a) (Kc a) z) (FW k a x):=by
 obtain⟨m,r⟩:=x;refine sq<|sr<|ck 2<|en<|cn H (λ H=>?_)<|λ H=>?_
 ·refine sk<|qz<|sj (λ (x:Aa)=>Jb4 k a r x) (λ (x:Aa)=>Dd n r x) z ?_ (λ b=>?_)
  ·intro o H;exact rz<|ck 3<|ae (by cases H;exact og<|sg [0,1,2,3,9])
  refine bk 1<|sq<|sr<|ck 5<|bx H λ U u H=>ca false (OU u)<|ck 1<|en<|cn H (λ H=>?_)<|λ H=>?_
  ·exact ex 1<|qx<|qH<|qs (sg [0,1,2,3,9])<|b m H
  ·refine sk<|qz<|sr<|ck 6<|bx H λ v w H=>cb (ks:=[1]) (obl:=[(0+List.length a,List.length<|a.map Aq)]) (ls:=[List.length v]) true (leK leM<|leZ) (D4 rfl<|D4 M9<|D4 rfl rfl) (OX w) (Or.inr<|YU λ _=>rfl) (JdT rfl)<|ck 1<|en<|sr<|ck 3<|en<|cn H (λ H=>?_)<|λ H=>?_
   ·exact sr<|ck 2<|bx H λ W E H=>sp (Bh eU8 5 1 E)<|ck 1<|en<|rz<|ck 4<|bx H λ X G H=>sp (Bh eU8 6 1 G)<|ck 3<|bx H λ I J H=>lt [0,8,4,3] (MF J)<|ae<|qN<|qs (sg [0,1,2,3,9])<|b I H
   ·exact sk<|qN<|qs (sg [0,1,2,3,9])<|b m H
 ·exact ex 0<|qx (by cases H;exact xo rfl<|sg [])
theorem Kd {z} (t:∀ {k:Int} {e:Int} {f:Int} {g:(List AE)} {c:Int} {h:(List UInt8)} {i:(List UInt8)} {j:Bool} {a:(List Ah)} {z:Aa},l k e f g c h i j a=some z->BV Try.prog 27 [.ptr 0 0,.d (.nil),.osl 1 6 0 (a.length),.d (.int .i64 k)] [some (.box [.d (.int .i64 e),.d (.int .u8 f),.d (.sl (g.map Ax)),.d (.int .i64 c),.d (.nil),.d (.str h),.d (.str i),.d (.bool j)]),some (.arr 6 (a.map Aq))] 2 (.tup []) [some (.box (Aw z (.osl 2 1 0 (z.C.Cells.length)))),some (.arr 6 (a.map Aq)),some (.arr 1 (z.C.Cells.map eU8))]) (H:CQ n l k e f g c h i j a=some z):BV Try.prog 27 [.ptr 0 0,.d (.nil),.osl 1 6 0 (a.length),.d (.int .i64 k)] [some (.box [.d (.int .i64 e),.d (.int .u8 f),.d (.sl (g.map Ax)),.d (.int .i64 c),.d (.nil),.d (.str h),.d (.str i),.d (.bool j)]),some (.arr 6 (a.map Aq))] 2 (.tup []) [some (.box (Aw z (.osl 2 1 0 (z.C.Cells.length)))),some (.arr 6 (a.map Aq)),some (.arr 1 (z.C.Cells.map eU8))]:=by
 refine fL 90 2 (Jb1 k e f g c h i j a) Try.func27<|sr<|ck 10<|en<|sq<|sr<|ck 7<|gc 3 (!(decide<|C4 .i64 c ((a.length:Nat):Int)<0))<|pO<|en<|cn H (λ H=>?_)<|λ H=>?_
 ·exact re<|qr (by cases H;exact pL<|rl (s':=Ns a ({ T:=({ Modes:=e,Accept:=f,Rules:=g }:Ab),Left:=C4 .i64 c ((a.length:Nat):Int),C:=({ Cells:=([]:List Int),A:=h,B:=i }:Bk),Ok:=j }:Aa))<|tr (Cu 0 4 1 (by kernel_rfl))<|sg [])
 ·refine sk<|qz<|sq<|sr<|ck 2<|en<|cn H (λ H=>?_)<|λ H=>?_
  ·refine sr<|ck 5<|bx H λ K L H=>cb (ks:=[1]) (obl:=[(0+List.length a,List.length<|a.map Aq)]) false (leK leM<|leZ) (D4 rfl<|D4 M9 rfl) (Np L) (Or.inr<|YU λ _=>rfl) rfl<|ck 1<|en<|sq<|sr<|ck 1<|sp (AS eS K)<|ck 1<|en<|cn H (λ H=>?_)<|λ H=>?_
   ·exact rz<|ck 4<|bx H λ M O H=>sp (AC eS O)<|ck 2<|bx H λ P Q H=>sp (AC eS Q)<|ck 8<|en<|re<|qr (by cases H;exact pL<|rl (s':=Ns a ({ T:=({ Modes:=e,Accept:=f,Rules:=g }:Ab),Left:=C4 .i64 c ((a.length:Nat):Int),C:=({ Cells:=([]:List Int),A:=M,B:=P }:Bk),Ok:=true }:Aa))<|tr (Cu 0 4 1 (by kernel_rfl))<|sg [])
   ·exact sk<|qz<|re<|qr (by cases H;exact pL<|rl (s':=Ns a ({ T:=({ Modes:=e,Accept:=f,Rules:=g }:Ab),Left:=C4 .i64 c ((a.length:Nat):Int),C:=({ Cells:=([]:List Int),A:=h,B:=i }:Bk),Ok:=j }:Aa))<|tr (Cu 0 4 1 (by kernel_rfl))<|sg [])
  ·exact sk<|qz<|sr<|ck 1<|en<|bk 0<|bx H λ V R H=>lX Jr R (tr (tr (Ay.nilo 1 1 (by kernel_rfl))<|Cu 0 4 1 (by kernel_rfl))<|sg [0,1,2,3,9]) rfl λ s S=>qH (by cases H;exact pL'<|rl (s':=Ns a z)<|tr (S)<|sg [])
end
section
variable (k:Int) (a:Int) (b:Int) (c:(List AE)) (e:Int) (f:(List UInt8)) (g:(List UInt8)) (i:Bool) (j:(List Ah))
variable {k a b c e f g i j}
theorem LM {z} (H:Gh n k a b c e f g i j=some z):BV Try.prog 27 [.ptr 0 0,.d (.nil),.osl 1 6 0 (j.length),.d (.int .i64 k)] [some (.box [.d (.int .i64 a),.d (.int .u8 b),.d (.sl (c.map Ax)),.d (.int .i64 e),.d (.nil),.d (.str f),.d (.str g),.d (.bool i)]),some (.arr 6 (j.map Aq))] 2 (.tup []) [some (.box (Aw z (.osl 2 1 0 (z.C.Cells.length)))),some (.arr 6 (j.map Aq)),some (.arr 1 (z.C.Cells.map eU8))]:=by
  have key:∀ (d:Nat) {k:Int} {a:Int} {b:Int} {c:(List AE)} {e:Int} {f:(List UInt8)} {g:(List UInt8)} {i:Bool} {j:(List Ah)} {z:Aa},Qh (λ _ _ _ _ _ _ _ _ _=>none) (CQ n) d k a b c e f g i j=some z->BV Try.prog 27 [.ptr 0 0,.d (.nil),.osl 1 6 0 (j.length),.d (.int .i64 k)] [some (.box [.d (.int .i64 a),.d (.int .u8 b),.d (.sl (c.map Ax)),.d (.int .i64 e),.d (.nil),.d (.str f),.d (.str g),.d (.bool i)]),some (.arr 6 (j.map Aq))] 2 (.tup []) [some (.box (Aw z (.osl 2 1 0 (z.C.Cells.length)))),some (.arr 6 (j.map Aq)),some (.arr 1 (z.C.Cells.map eU8))]:=by
    intro d;induction d with
    | zero=>intro _ _ _ _ _ _ _ _ _ _ H;cases H
    | succ d ih=>intro _ _ _ _ _ _ _ _ _ _ H;exact Kd (λ h=>ih h) H
  exact key n H
end
end Go.AI
end
section
namespace Go.AI
open Go.Proofs
set_option maxRecDepth 10000
variable {n:Nat}
section
variable (b:Ab) (a:Int) (c:Int) (e:Int)
def JiM:St:=⟨(0,.agg [.d<|.int .i64 b.Modes,.d<|.int .u8 b.Accept,.d<|.sl<|b.Rules.map Ax])::(1,.d<|.int .i64 a)::(2,.d<|.int .i64 c)::[],[]⟩
def JiN:St:=⟨(1,.d<|.int .i64 a)::(2,.d<|.int .i64 c)::(3,.ptr 0 0)::(6,.ptr 1 0)::(8,.d<|.int .i64 e)::[],[some<|.box<|Ba b,some<|.box [.osl 2 1 0<|List.length ([]:List Int),.d<|.str [],.d<|.str []],some<|.arr 1<|List.map eU8 ([]:List Int)]⟩
def JiO:St:=⟨(1,.d<|.int .i64 a)::(6,.ptr 0 0)::[],[some<|.box [.osl 1 1 0<|List.length ([]:List Int),.d<|.str [],.d<|.str []],some<|.arr 1<|List.map eU8 ([]:List Int)]⟩
def Q3:(Unit⊕(Bk×Int))->Ex->St->Prop:=xS (xX 0 0<|λ (_:Unit)=>JiO a)<|xR ty Try.f11<|λ (y:(Bk×Int))=>.tup [.agg [.own 1<|y.1.Cells.map eU8,.d<|.str y.1.A,.d<|.str y.1.B],.d<|.int .i64 y.2]
def K2:Int->St:=(λ (x:Int)=>JiN b a c x)
variable {b a c e}
theorem JT (x:Int) (z:(Int⊕(Unit⊕(Bk×Int)))) (H:FM n b a c x=some z):WP (cxk 42 0) (AR Try.f11) [1,0,1,0,0] (AO 0 (K2 b a c) (Q3 a) z) (K2 b a c x):=by
 revert H;generalize x=e;intro H;refine sq<|sr<|ck 3<|en<|cn H (λ H=>?_)<|λ H=>?_
 ·refine sk<|qz<|sq<|bk 1<|sr<|ck 5<|en<|sr<|ck 1<|bx H λ h i H=>cl [List.length h] (TZ i)<|ck 1<|bx H λ f j H=>lt [3,4] (LM j)<|en<|sq<|sr<|ck 5<|en<|cn H (λ H=>?_)<|λ H=>?_
  ·exact sr<|ck 5<|en<|re<|qr<|qR<|qr (by cases H;exact ro rfl<|rT (vs:=[.agg [.d<|.nil,.d<|.str [],.d<|.str []],.d<|.int .i64<|C4 .i64 e 1]) []<|t1 (a1<|c1 vz<|c1 vd<|c1 vd<|c0)<|t1 (ad vd)<|t0)
  ·refine sk<|qz<|sr<|ck 4<|en<|cn H (λ H=>?_)<|λ H=>?_
   ·exact sr<|ck 7<|en<|re<|qR<|qr (by cases H;exact ro rfl<|rT (vs:=[.agg [.osl 5 1 0<|f.C.Cells.length,.d<|.str f.C.A,.d<|.str f.C.B],.d<|.int .i64 e]) [5]<|t1 (a1<|c1 vo<|c1 vd<|c1 vd<|c0)<|t1 (ad vd)<|t0)
   ·exact sk<|qN<|qz<|rz<|ck 3<|ae (by cases H;exact og<|sg [1,2,3,6,8])
 ·exact ex 0<|qx (by cases H;exact xo rfl<|sg [1,6])
theorem T3 {z} (H:Lw n b a c=some z):AQ Try.prog 11 [.agg (Ba b),.d (.int .i64 a),.d (.int .i64 c)] (.tup [.agg [.own 1 (z.1.Cells.map eU8),.d (.str z.1.A),.d (.str z.1.B)],.d (.int .i64 z.2)]):=by
 refine fO 42 (JiM b a c) Try.func11<|sr<|ck 3<|en<|sq<|sr<|ck 1<|en<|bk 0<|bx H λ k g H=>?_;rcases k with o|p
 ·exact lX JT g (tr (Cu 1 0 1 (by kernel_rfl))<|sg [1,2,3,6,8]) rfl λ s l=>qH<|qs (l)<|sr<|ck 4<|en<|re (by cases H;exact pr<|rT (vs:=[.agg [.d<|.nil,.d<|.str [],.d<|.str []],.d<|.int .i64 a]) []<|t1 (a1<|c1 vz<|c1 vd<|c1 vd<|c0)<|t1 (ad vd)<|t0)
 ·exact lR JT g (tr (Cu 1 0 1 (by kernel_rfl))<|sg [1,2,3,6,8]) rfl λ s m=>qR<|qr (by cases H;exact pr m)
end
section
variable (b:JZ)
def Jkm:St:=⟨(0,.agg [.d<|.int .u8 b.Base,.d<|.int .u8 b.Drop,.d<|.sl<|b.More.map Fr])::[],[]⟩
variable {b}
theorem G4 {z} (H:B8 n b=some z):AQ Try.prog 3 [.agg (WU b)] (.d (.bool z)):=by
 refine fO 71 (Jkm b) Try.func3<|sr<|ck 2<|en<|sr<|bx H λ q c H=>ca false (RN c)<|ck 1<|en<|sr<|ck 1<|bx H λ r e H=>ca false (Vy e)<|ck 2<|en<|sr<|ck 1<|bx H λ a f H=>ca false (C2 f)<|ck 6<|en<|sr<|ck 1<|bx H λ h i H=>ca false (T3 i)<|ck 6<|en<|sq<|sr<|ck 5<|en<|cn H (λ H=>?_)<|λ H=>?_
 ·exact sr<|ck 5<|bx H λ j k H=>cG false (leZ) rfl (λ hg=>GV<|CC k hg) (Or.inl rfl) (CB (λ hh=>hh)<|CB (λ hh=>hh)<|EA) rfl<|pA<|ck 2<|bx H λ s l H=>cG false (leZ) rfl (λ hg=>DQ<|CC l hg) (Or.inl rfl) (CB (λ hh=>hh)<|EA) rfl<|gc 1 ((a.2==50)&&j)<|pA<|ck 2<|pA<|ck 1<|en<|re<|qr (by cases H;exact pr rd)
 ·refine sk<|qz<|sq<|sr<|ck 2<|en<|cn H (λ H=>?_)<|λ H=>?_
  ·exact sr<|ck 2<|bx H λ t m H=>ca false (GV m)<|ck 2<|bx H λ u o H=>cG false (leZ) rfl (λ hg=>DQ<|CC o hg) (Or.inl rfl) (CB (λ hh=>hh)<|EA) rfl<|pA<|ck 2<|pA<|ck 1<|en<|re<|qr (by cases H;exact pr rd)
  ·exact sk<|qz<|sr<|ck 4<|gc 1 (a.2==50)<|sE (g:=(a.2==50)) (λ hg=>AS eU8 a.1.Cells)<|ck 1<|gc 1 (a.2==50)<|pA<|ck 2<|bx H λ v p H=>cG false (leZ) rfl (λ hg=>DQ<|CC p hg) (Or.inl rfl) (CB (λ hh=>hh)<|EA) rfl<|gc 1 ((a.2==50)&&(decide<|((a.1.Cells.length:Nat):Int)>h.2))<|pA<|ck 2<|pA<|ck 1<|en<|re (by cases H;exact pr rd)
end
end Go.AI
end
section
namespace Go.AI
def CRd (F:Nat->Option Obj) (l:List D) (cs:List Value):Prop:=l.length=cs.length/\∀ (i:Nat) (y:D) (v:Value),l[i]?=some y->cs[i]?=some v->Bo F y v
def Ia {α:Type} (P:Program) (t:TypeId) (enc:α->List D) (ok:α->Prop):Prop:=
 ∀ (H:Type) (e:TypeId×Value->H) (w:World) (base:Nat) (spare:Nat->Bool) (held:Bool) (fuel:Nat) (cs:List Value) (x:DataW H×List MemPlace),DataW.trod e P w base spare held fuel t cs=some x->∃ a:α,ok a/\CRd (λ b=>w.heap[b]?) (enc a) cs
theorem T4 {F:Nat->Option Obj} {y:D} {v:Value} (h:Bo F y v):CRd F [y] [v]:=by
 refine⟨rfl,λ i a b ha hb=>?_⟩;cases i with
 | zero=>simp at ha hb;subst ha;subst hb;exact h
 | succ i=>simp at ha
theorem Zd {P:Program} {t:TypeId} {k:IntKind} (ht:P.underlying t=some (.int k)):Ia P t (λ n=>[.int k n]) (λ n=>(Lit.int k n).wf=true):=by
 intro H e w base spare held fuel cs x h;obtain⟨n,rfl,_,hw⟩:=DataW.trod_int ht h;exact⟨n,hw,T4 (.int k n)⟩
theorem VB {α:Type} {Q:Nat->α->Prop}:∀ n,(∀ i,i<n->∃ a,Q i a)->∃ l:List α,l.length=n/\∀ i a,l[i]?=some a->Q i a:=by
 intro n;induction n with
 | zero=>intro _;exact⟨[],rfl,λ i a h=>by simp at h⟩
 | succ n ih=>
  intro h;obtain⟨l,hl,hq⟩:=ih λ i hi=>h i (by omega);obtain⟨a,ha⟩:=h n (by omega);refine⟨l++[a],by simp[hl],λ i b hb=>?_⟩;rcases JlP i l.length with hlt|hge
  ·rw[Jl7 hlt]at hb;exact hq i b hb
  ·rw[Jmh hge]at hb;have:i-l.length=0:=by have:=Af hb;simp at this;omega
   rw[this]at hb;simp at hb;subst hb;have:i=n:=by omega
   subst this;exact ha
theorem VC {α β:Type} {f:α->Option β}:∀ {l:List α} {r:List β},l.mapM f=some r->r.length=l.length/\∀ (i:Nat) (a:α),l[i]?=some a->r[i]?=f a:=by
 intro l;induction l with
 | nil=>intro r h;simp at h;subst h;exact⟨rfl,λ i a h=>by simp at h⟩
 | cons a l ih=>
  intro r h;rw[List.mapM_cons]at h;simp only[Option.bind_eq_bind,Option.bind_eq_some_iff,Option.pure_def,Jl9]at h;obtain⟨b,hb,r',hr',rfl⟩:=h;obtain⟨h1,h2⟩:=ih hr';refine⟨by simp[h1],λ i x hx=>?_⟩;cases i with
  | zero=>simp at hx;subst hx;simp[hb]
  | succ i=>simpa using h2 i x (by simpa using hx)
theorem T5 {α:Type} {P:Program} {t e:TypeId} {enc:α->List D} {ok:α->Prop} {sz:Nat} (ht:P.underlying t=some (.slice e)) (hsz:P.cellsOf e=sz) (h1:Nat.ble 1 sz=true) (hl:∀ a,(enc a).length=sz) (he:Ia P e enc ok):Ia P t (eL enc) (λ l=>l.length<=9223372036854775807/\∀ a∈l,ok a):=by
 intro H en w base spare held fuel cs x h;have h1:=Jme h1;rcases DataW.trod_slice ht h with⟨rfl,_⟩|⟨a,len,cap,elems,rest,n,_,rfl,_,_,hcap,hmx,hel,hget,_,_⟩
 ·exact⟨[],⟨by simp,λ a h=>by simp at h⟩,T4 (.sl0 _ _)⟩
 ·rw[hsz]at hget;have hex:∀ i,i<len->∃ y:α,ok y/\∃ ci,w.cells? base (a.add (i*sz)) sz=some ci/\CRd (λ b=>w.heap[b]?) (enc y) ci:=λ i hi=>by
   have hg:=hget i hi;rw[JlZ (show i<elems.length by omega)]at hg;simp only[Option.bind_eq_some_iff]at hg;obtain⟨ci,hc,htr⟩:=hg;obtain⟨y,hy,hcr⟩:=he H en w base spare held n ci _ htr;exact⟨y,hy,ci,hc,hcr⟩
  obtain⟨l,hll,hq⟩:=VB len hex;refine⟨l,⟨by unfold maxLen at hmx;omega,λ y hy=>?_⟩,T4 ?_⟩
  ·obtain⟨i,hi⟩:=List.mem_iff_getElem?.1 hy;exact(hq i y hi).1
  ·rcases Nat.eq_zero_or_pos len with h0|hpos
   ·have:l=[]:=List.length_eq_zero_iff.1 (by omega);subst this;subst h0;exact .sl0 _ _
   ·
    have hcell:∀ i y,l[i]?=some y->∀ j,j<sz->∃ v,w.cell? ((a.add (i*sz)).add j)=some v/\∀ d,(enc y)[j]?=some d->Bo (λ b=>w.heap[b]?) d v:=λ i y hy j hj=>by
     obtain⟨_,ci,hc,hcr⟩:=hq i y hy;unfold World.cells? at hc;split at hc
     ·obtain⟨g1,g2⟩:=VC hc;have:=g2 j j (by simp[hj]);have hjc:j<ci.length:=by rw[g1];simpa using hj
      rw[JlZ hjc]at this;exact⟨ci[j],this.symm,λ d hd=>hcr.2 j d _ hd (JlZ hjc)⟩
     ·cases hc
    have h0:l[0]?=some l[0]:=JlZ (by omega);obtain⟨v0,hv0,_⟩:=hcell 0 _ h0 0 (by omega);have ha0:(a.add (0*sz)).add 0=a:=by simp[Addr.add]
    rw[ha0]at hv0;obtain⟨b,off,spot⟩:=a;unfold World.cell? at hv0;simp only at hv0;split at hv0
    ·rename_i c ty fr hblk;cases spot with
     | some s=>simp at hv0
     | none=>
      have hcell':∀ i y,l[i]?=some y->∀ j d,(enc y)[j]?=some d->∃ v,c[off+i*sz+j]?=some v/\Bo (λ b=>w.heap[b]?) d v:=λ i y hy j d hd=>by
       have hj:j<sz:=by rw[← hl y];exact Af hd
       obtain⟨v,hv,hr⟩:=hcell i y hy j hj;rw[BP,BP,Kg hblk]at hv;exact⟨v,hv,hr d hd⟩
      have hlen:(l.map enc).length=len:=by simp[hll]
      have:=Bo.sl (F:=λ b=>w.heap[b]?) (l.map enc) b off cap sz c ty fr (λ i j=>(c[off+i*sz+j]?).getD undef) hblk (λ e he=>by
        simp only[JlR]at he;obtain⟨y,_,rfl⟩:=he;exact hl y) (by omega) (λ i e hi j d hd=>by
        simp only[Jl3,Jl2]at hi;obtain⟨y,hy,rfl⟩:=hi;obtain⟨v,hv,_⟩:=hcell' i y hy j d hd;simp only[hv,JlK]) (λ i e hi j d hd=>by
        simp only[Jl3,Jl2]at hi;obtain⟨y,hy,rfl⟩:=hi;obtain⟨v,hv,hr⟩:=hcell' i y hy j d hd;simp only[hv,JlK];exact hr)
      rw[hlen]at this;exact this
    ·cases hv0
theorem OY {α:Type} {P:Program} {t e:TypeId} {enc:α->List D} {ok:α->Prop} {sz:Nat} (ht:P.underlying t=some (.slice e)) (hsz:P.cellsOf e=sz) (h1:Nat.ble 1 sz=true) (hl:∀ a,(enc a).length=sz) (he:Ia P e enc ok):Ia P t (eL enc) (λ l=>∀ a∈l,ok a):=by
 intro H en w base spare held fuel cs x h;obtain⟨l,h1,h2⟩:=T5 ht hsz h1 hl he H en w base spare held fuel cs x h;exact⟨l,h1.2,h2⟩
theorem E1 {F:Nat->Option Obj} {l m:List D} {cs:List Value} {o n:Nat} (h:CRd F l ((cs.drop o).take n)) (hn:Nat.beq l.length n=true) (h':CRd F m (cs.drop (o+n))):CRd F (l++m) (cs.drop o):=by
 have hn:=Jl6 hn;have e:cs.drop o=(cs.drop o).take n++cs.drop (o+n):=by rw[← List.drop_drop,List.take_append_drop]
 rw[e];refine⟨by simp only[List.length_append,h.1,h'.1],λ i y v hy hv=>?_⟩;rcases JlP i l.length with hlt|hge
 ·rw[Jl7 hlt]at hy;rw[Jl7 (by rw[← h.1];exact hlt)]at hv;exact h.2 i y v hy hv
 ·rw[Jmh hge]at hy;rw[Jmh (by rw[← h.1];exact hge),← h.1]at hv;exact h'.2 _ y v hy hv
theorem T6 {F:Nat->Option Obj} {cs:List Value} {o:Nat} (h:cs.length<=o):CRd F [] (cs.drop o):=by
 rw[List.drop_eq_nil_of_le h];exact⟨rfl,λ i y v hy=>by simp at hy⟩
theorem WW {H:Type} {enc:TypeId×Value->H} {P:Program} {w:World} {base:Nat} {spare:Nat->Bool} {held:Bool} {fuel:Nat} {t e:TypeId} {n:Nat} {cs:List Value} {x:DataW H×List MemPlace} (ht:P.underlying t=some (.array n e)) (h:DataW.trod enc P w base spare held fuel t cs=some x) :
  ∃ m,cs.length=P.cellsOf t/\∀ i,i<n->∃ y,DataW.trod enc P w base spare held m e ((cs.drop (i*P.cellsOf e)).take (P.cellsOf e))=some y:=by
 cases fuel with
 | zero=>simp[DataW.trod]at h
 | succ m=>
  unfold DataW.trod at h;rw[ht]at h;split at h<;>simp_all;obtain⟨xs,hp,_⟩:=h.2;refine⟨m,λ i hi=>?_⟩;obtain⟨g1,g2⟩:=VC hp;have:=g2 i i (by simp[hi]);have hlt:i<xs.length:=by rw[g1];simpa using hi
  rw[JlZ hlt]at this;exact⟨_,_,this.symm⟩
end Go.AI
end
section
namespace Go.AI
open Go.ChangeShapes Go.WideShapes Go.ChangeAt Go.RowKit
variable {P:Program} {H:Type} {en:TypeId×Value->H} {W W':World} {base:Nat} {spare:Nat->Bool} {held:Bool} {t e:TypeId} {v:Value} {d:DataW H} {ps:List MemPlace} {α:Type} {enc:α->List D} {ok:α->Prop}
theorem Jej {cs:Array Value} (hv:v=.agg cs) (hd:DataW.Trod en P W base spare held t v d ps) (hr:Ia P t enc ok):∃ a,ok a/\Ak (λ b=>W.heap[b]?) noR (.agg ((enc a).map .d)) v:=by
 subst hv;obtain⟨fuel,hf⟩:=hd;obtain⟨a,h1,h2,h3⟩:=hr H en W base spare held fuel _ _ hf;refine⟨a,h1,.agg _ _ (by simpa [Value.cells]using h2) λ i x u hx hu=>?_⟩;simp only[Jl3,Jl2]at hx;obtain⟨y,hy,rfl⟩:=hx;exact .d _ _ (h3 i y u hy (by simpa [Value.cells]using hu))
theorem JiP {F:Nat->Option Obj} {ρ:Nat->Option Loc}:CR F ρ [] []:=⟨rfl,λ i a v h=>by simp at h⟩
theorem Jek {F:Nat->Option Obj} {ρ:Nat->Option Loc} {a:AV} {v:Value} {l:List AV} {vs:List Value} (h:Ak F ρ a v) (h':CR F ρ l vs):CR F ρ (a::l) (v::vs):=by
 refine⟨by simp[h'.1],λ i x u hx hu=>?_⟩;cases i with
 | zero=>simp at hx hu;subst hx;subst hu;exact h
 | succ i=>exact h'.2 i x u (by simpa using hx) (by simpa using hu)
theorem fld {w:World} {fuel:Nat} {cs:List Value} {fs:Array Field} {xs:List (DataW H×List MemPlace)} (hg:∀ (i:Nat) (f:Field),fs[i]?=some f->DataW.trod en P w base spare held fuel f.type ((cs.drop f.offset).take (P.cellsOf f.type))=xs[i]?) (hxl:xs.length=fs.size) (i:Nat) {f:Field} (hf:fs[i]?=some f) (u o n:Nat) (hu:f.type=u) (ho:f.offset=o) (hn:P.cellsOf u=n) (hr:Ia P u enc ok) :
  ∃ a,ok a/\CRd (λ b=>w.heap[b]?) (enc a) ((cs.drop o).take n):=by
 have:=hg i f hf;have hi:i<xs.length:=by rw[hxl];exact Av hf
 rw[JlZ hi,hu,ho,hn]at this;exact hr H en w base spare held fuel _ _ this
theorem Jkn {w:World} {fuel:Nat} {cs:List Value} {m:Nat} (hg:∀ i,i<m->∃ y,DataW.trod en P w base spare held fuel e ((cs.drop (i*P.cellsOf e)).take (P.cellsOf e))=some y) (i:Nat) (hi:Nat.ble (i+1) m=true) (o n:Nat) (hn:P.cellsOf e=n) (ho:i*n=o) (hr:Ia P e enc ok) :
  ∃ a,ok a/\CRd (λ b=>w.heap[b]?) (enc a) ((cs.drop o).take n):=by
 obtain⟨y,hy⟩:=hg i (Jme hi);rw[hn,ho]at hy;exact hr H en w base spare held fuel _ _ hy
theorem Jb5 {f:FuncId} {args:List AV} {vs:Array Value} (hc:AQ P f args (.d (.bool true))) (hcr:CR (λ b=>W.heap[b]?) noR args vs.toList):Calls P f vs W λ e W'=>e=.returned (.bool true)/\(∀ before:List MemPlace,W.keptBut W' (·∈before))/\∀ b,b<W.heap.size->W'.heap[b]?=W.heap[b]? := by
 refine(hc.2 (λ b=>W.heap[b]?) W vs hcr λ b o h=>h).mono λ e W' h=>?_;obtain⟨v,F',ρ,rfl,hS,hr,hmu⟩:=h;have hv:v=.bool true:=by
  have:(BZ true 0 (.d (.bool true))).1=.d (.bool true):=rfl;rw[this]at hr;exact hr.bool
 subst hv;have hold:∀ b,b<W.heap.size->W'.heap[b]?=W.heap[b]? := λ b hb=>hS.old b (by omega);refine⟨rfl,λ before=>World.keptBut_mono (λ p hp=>hp.elim) (?_:W.keptBut W' λ _=>False),hold⟩;refine⟨hmu.os,hmu.out,λ i hi=>?_⟩;rw[hold i hi];cases hh:W.heap[i]? with
 | none=>rfl
 | some o=>cases o<;>first|exact⟨rfl,rfl,rfl,λ _ _=>rfl⟩|exact .inr ⟨rfl,rfl⟩|rfl
theorem Ze {f:Func} {s:ChangeSpec} {apart fresh handsOn again:Bool} {args:Array Value} {ds gs:List (DataW H)} {before pa pv:List MemPlace}
  (hW:DataW.Whole en P f.params.toList s.vars apart W args.toList ds gs before)
  (hres:∀ (b:Nat) (sp:Nat->Bool) (hd:Bool),DataW.TrodAll en P W' b sp hd f.resultTypes.toList (v.resultList f.resultTypes.size) (s.fn H (ds++gs)).results [])
  (hargs:∀ sp:Nat->Bool,(∀ p∈before,sp p.block=true)->DataW.TrodAll en P W' 0 sp true f.params.toList args.toList (s.fn H (ds++gs)).args pa)
  (hvars:∀ sp:Nat->Bool,(∀ p∈before,sp p.block=true)->DataW.TrodVars en P W' sp s.vars (s.fn H (ds++gs)).vars pv)
  (hps:before=pa++pv) (hk:W.keptBut W' (·∈before)) (hold:∀ b,b<W.heap.size->W'.heap[b]?=W.heap[b]?)
  (hok:∀ (j:Nat) (t:TypeId) (r:Value),f.resultTypes[j]?=some t->(v.resultList f.resultTypes.size)[j]?=some r->Value.okWide P W' .any 0 t r) :
  s.post en P f apart fresh handsOn again W args v W':=by
 have hin:∀ p∈before,(λ b=>decide (b<W.heap.size)) p.block=true:=λ p hp=>by simpa using hW.lt p hp
 have hlt:=hW.lt;refine⟨ds,gs,before,[],pa,pv,hW,hres _ _ _,hargs _ hin,hvars _ hin,World.keptBut_mono (λ p hp=>⟨hp,?_⟩) hk,λ _=>?_⟩
 ·rw[hps,List.mem_append]at hp;exact Or.inr hp
 ·obtain⟨_,_,_,_,_,hz,hn⟩:=hW;refine⟨hok,_,_,([]++pa)++pv,⟨[]++pa,pv,trodAll_append (hargs _ (λ _ _=>rfl)) (hres _ _ _),hvars _ (λ _ _=>rfl),rfl,?_,?_⟩,?_⟩
  ·intro b off hp;have hp:MemPlace.cell b off∈before:=by rw[hps];simpa using hp
   have:=hz b off hp;simp only[World.frozen?,hold b (hlt _ hp)]at this⊢;exact this
  ·intro ha;have:=hn ha;rw[hps]at this;simpa using this
  ·intro p hp _;rw[hps];simpa using hp
theorem Jko (hl:laidOutB P=true) (hr:P.readableRec t=true) (hrow:t<P.types.size) (h:DataW.Trod en P W 0 (λ _=>true) true t v d ps) (hb:∀ p∈ps,p.block<W.heap.size) {sp:Nat->Bool} (hs:∀ p∈ps,sp p.block=true) (hold:∀ b,b<W.heap.size->W'.heap[b]?=W.heap[b]?):DataW.Trod en P W' 0 sp true t v d ps:=by
 refine WideElems.Trod_stays hl hr hrow h (λ p hp=>?_) hs;have:=hb p hp;cases p with
 | cell b o=>exact World.cell?_of_block (w:=W) (hold b this)
 | map b=>exact hold b this
end Go.AI
end
section
namespace Go.AI
open Go.Proofs Go.ChangeShapes Go.WideShapes Go.ChangeAt Go.RowKit
def okI (k:IntKind) (n:Int):Prop:=(Lit.int k n).wf=true
theorem rd5:Ia Try.prog 5 eU8 (okI .u8):=Zd Try.underlying5
theorem Jkp:Ia Try.prog 44 (eL eU8) (λ l=>∀ a∈l,okI .u8 a):=OY (sz:=1) Try.underlying44 (by kernel_rfl) rfl (λ _=>rfl) rd5
theorem Jlk:Ia Try.prog 45 (Jkb eU8) (λ x=>okI .u8 x.a0/\okI .u8 x.a1):=by
 intro H e w base spare held fuel cs x h;obtain⟨m,hcl,hg⟩:=WW Try.underlying45 h;have hcl:cs.length=2:=hcl.trans (by kernel_rfl);obtain⟨a0,k0,c0⟩:=Jkn hg 0 rfl 0 1 (by kernel_rfl) rfl rd5;obtain⟨a1,k1,c1⟩:=Jkn hg 1 rfl 1 1 (by kernel_rfl) rfl rd5;refine⟨⟨a0,a1⟩,⟨k0,k1⟩,?_⟩;have:=E1 c0 rfl (E1 c1 rfl (T6 (Nat.le_of_eq hcl)));exact this
def Js (x:C0):Prop:=(∀ a∈x.P,okI .u8 a)/\(∀ a∈x.C,okI .u8 a)/\okI .u8 x.L/\okI .u8 x.R/\(okI .u8 x.W.a0/\okI .u8 x.W.a1)
theorem Jll:Ia Try.prog 47 Fr Js:=by
 intro H e w base spare held fuel cs x h;obtain⟨xs,n,_,_,hcl,hxl,hg⟩:=DataW.trod_struct Try.underlying47 h;have hcl:cs.length=6:=hcl.trans (by kernel_rfl);obtain⟨a0,k0,c0⟩:=fld hg hxl 0 rfl 44 0 1 rfl rfl (by kernel_rfl) Jkp;obtain⟨a1,k1,c1⟩:=fld hg hxl 1 rfl 44 1 1 rfl rfl (by kernel_rfl) Jkp;obtain⟨a2,k2,c2⟩:=fld hg hxl 2 rfl 5 2 1 rfl rfl (by kernel_rfl) rd5;obtain⟨a3,k3,c3⟩:=fld hg hxl 3 rfl 5 3 1 rfl rfl (by kernel_rfl) rd5;obtain⟨a4,k4,c4⟩:=fld hg hxl 4 rfl 45 4 2 rfl rfl (by kernel_rfl) Jlk;refine⟨⟨a0,a1,a2,a3,a4⟩,⟨k0,k1,k2,k3,k4⟩,?_⟩;have:=E1 c0 rfl (E1 c1 rfl (E1 c2 rfl (E1 c3 rfl (E1 c4 rfl (T6 (Nat.le_of_eq hcl))))));exact this
theorem Jlm:Ia Try.prog 22 (eL Fr) (λ l=>∀ a∈l,Js a):=OY (sz:=6) Try.underlying22 (by kernel_rfl) rfl (λ _=>rfl) Jll
def WX (x:JZ):Prop:=okI .u8 x.Base/\okI .u8 x.Drop/\(∀ a∈x.More,Js a)
theorem Jln:Ia Try.prog 24 Jkc WX:=by
 intro H e w base spare held fuel cs x h;obtain⟨xs,n,_,_,hcl,hxl,hg⟩:=DataW.trod_struct Try.underlying24 h;have hcl:cs.length=3:=hcl.trans (by kernel_rfl);obtain⟨a0,k0,c0⟩:=fld hg hxl 0 rfl 5 0 1 rfl rfl (by kernel_rfl) rd5;obtain⟨a1,k1,c1⟩:=fld hg hxl 1 rfl 5 1 1 rfl rfl (by kernel_rfl) rd5;obtain⟨a2,k2,c2⟩:=fld hg hxl 2 rfl 22 2 1 rfl rfl (by kernel_rfl) Jlm;refine⟨⟨a0,a1,a2⟩,⟨k0,k1,k2⟩,?_⟩;have:=E1 c0 rfl (E1 c1 rfl (E1 c2 rfl (T6 (Nat.le_of_eq hcl))));exact this
end Go.AI
end
section
namespace Go.AI
def Le {α:Type} (a b:Option α):Prop:=∀ z,a=some z->b=some z
theorem Le.refl {α:Type} (a:Option α):Le a a:=λ _ h=>h
theorem Le.bind {α β:Type} {a a':Option α} {f f':α->Option β} (h:Le a a') (hf:∀ x,Le (f x) (f' x)):Le (a.bind f) (a'.bind f'):=by
 intro z hz;obtain⟨x,h1,h2⟩:=bind_some hz;rw[h x h1];exact hf x z h2
theorem Le.ite {α:Type} {c:Prop} [Decidable c] {a a' b b':Option α} (h:Le a a') (h':Le b b'):Le (if c then a else b) (if c then a' else b'):=by
 split
 ·exact h
 ·exact h'
theorem Le.whl {σ ρ:Type} {body body':σ->Option (σ⊕ρ)} (hb:∀ x,Le (body x) (body' x)):∀ {n m:Nat},n<=m->∀ x,Le (whl body n x) (whl body' m x):=by
 intro n;induction n with
 | zero=>intro m _ x z hz;cases hz
 | succ n ih=>
  intro m hm x z hz;cases m with
  | zero=>omega
  | succ m=>
   simp only[Go.AI.whl]at hz⊢;cases hx:body x with
   | none=>rw[hx]at hz;cases hz
   | some y=>
    rw[hb x y hx];rw[hx]at hz;cases y with
    | inl y=>exact ih (by omega) y z hz
    | inr r=>exact hz
def Ev {α:Type} (f:Nat->Option α) (z:α):Prop:=∃ n,∀ m,n<=m->f m=some z
theorem Ev.const {α:Type} {z:α}:Ev (λ _=>some z) z:=⟨0,λ _ _=>rfl⟩
theorem Ev.all {α:Type} {f:Nat->Option α} {z:α} (h:∀ n,f n=some z):Ev f z:=⟨0,λ m _=>h m⟩
theorem Ev.bind {α β:Type} {f:Nat->Option α} {g:Nat->α->Option β} {x:α} {z:β} (h:Ev f x) (hg:Ev (λ n=>g n x) z):Ev (λ n=>(f n).bind (g n)) z:=by
 obtain⟨n,hn⟩:=h;obtain⟨m,hm⟩:=hg;refine⟨max n m,λ k hk=>?_⟩;show(f k).bind (g k)=_;rw[hn k (by omega)];exact hm k (by omega)
theorem Ev.out {α:Type} {f:Nat->Option α} {z:α} (h:Ev f z):∃ n,f n=some z:=by
 obtain⟨n,hn⟩:=h;exact⟨n,hn n (JlO n)⟩
theorem Ev.congr {α:Type} {f g:Nat->Option α} {z:α} (h:Ev f z) (e:∀ n,g n=f n):Ev g z:=by
 obtain⟨n,hn⟩:=h;exact⟨n,λ m hm=>by rw[e m];exact hn m hm⟩
theorem Ev.whl {σ ρ:Type} {body:Nat->σ->Option (σ⊕ρ)} {r:ρ} (I:Nat->σ->Prop) (h:∀ k x,I k x->(∃ y j,j<k/\I j y/\Ev (λ n=>body n x) (.inl y))\/Ev (λ n=>body n x) (.inr r)):∀ (k:Nat) (x:σ),I k x->Ev (λ n=>Go.AI.whl (body n) n x) r:=by
 have key:∀ (k:Nat) (x:σ),I k x->∃ N c,∀ n fuel,N<=n->c<=fuel->Go.AI.whl (body n) fuel x=some r:=by
  intro k;induction k using Nat.strongRecOn with
  | _ k ih=>
   intro x hx;rcases h k x hx with⟨y,j,hj,hy,N1,h1⟩|⟨N1,h1⟩
   ·obtain⟨N2,c,h2⟩:=ih j hj y hy;refine⟨max N1 N2,c+1,λ n fuel hn hf=>?_⟩;cases fuel with
    | zero=>omega
    | succ fuel=>
     have e:=h1 n (by omega);simp only at e;simp only[Go.AI.whl,e];exact h2 n fuel (by omega) (by omega)
   ·refine⟨N1,1,λ n fuel hn hf=>?_⟩;cases fuel with
    | zero=>omega
    | succ fuel=>
     have e:=h1 n hn;simp only at e;simp only[Go.AI.whl,e]
 intro k x hx;obtain⟨N,c,hh⟩:=key k x hx;exact⟨max N c,λ m hm=>hh m m (by omega) (by omega)⟩
end Go.AI
end
section
namespace Go.AI
theorem lr {α:Type} {x:Option α}:Le x x:=Le.refl x
theorem Jt {n m} (_:n<=m) (a b):Le (Hs n a b) (Hs m a b):=.bind (Le.ite (lr) (lr)) λ _=>lr
theorem Q4 {n m} (h:n<=m) (a b):Le (Fm n a b) (Fm m a b):=.bind (Le.ite (Jt h _ _) (lr)) λ _=>.bind (Le.ite (Jt h _ _) (lr)) λ _=>lr
theorem IK {n m} (_:n<=m) (a b c d):Le (C7 n a b c d) (C7 m a b c d):=.bind lr λ _=>.bind lr λ _=>lr
theorem IL {n m} (h:n<=m) (a b c):Le (C8 n a b c) (C8 m a b c):=IK h _ _ _ _
theorem Oa {n m} (h:n<=m) (a b c d e):Le (C9 n a b c d e) (C9 m a b c d e):=.ite (.bind (Le.ite (lr) (lr)) λ _=>.ite (.bind lr λ _=>.ite (.bind lr λ _=>IL h _ _ _) (IL h _ _ _)) (IK h _ _ _ _)) lr
theorem IM {n m} (_:n<=m) (a):Le (DU n a) (DU m a):=lr
theorem R4 {n m} (h:n<=m) (a b):Le (Ge n a b) (Ge m a b):=.bind (Le.whl (λ _=>Oa h _ _ _ _ _) h _) λ _=>.ite (.bind lr λ _=>IM h _) (IM h _)
theorem JU {n m} (_:n<=m) (a b):Le (EI n a b) (EI m a b):=lr
theorem Pi {n m} (h:n<=m) (a b c d):Le (DB n a b c d) (DB m a b c d):=.ite (.bind lr λ _=>.bind (Le.ite (lr) (lr)) λ _=>.bind (Le.ite (Q4 h _ _) (lr)) λ _=>.ite (.bind lr λ _=>.bind (R4 h _ _) λ _=>JU h _ _) (JU h _ _)) lr
theorem T7 {n m} (h:n<=m) (a b):Le (Gf n a b) (Gf m a b):=.bind (Le.whl (λ _=>Pi h _ _ _ _) h _) λ _=>lr
theorem Q5 {n m} (_:n<=m) (a b c d):Le (Ep n a b c d) (Ep m a b c d):=.bind lr λ _=>.ite (.bind lr λ _=>.bind lr λ _=>.ite lr lr) lr
theorem Q6 {n m} (h:n<=m) (a b c):Le (Er n a b c) (Er m a b c):=.ite (.bind (Le.whl (λ _=>Q5 h _ _ _ _) h _) λ d=>by rcases d with _|_;exact lr;exact lr) lr
theorem VD {n m} (h:n<=m) (a b):Le (HH n a b) (HH m a b):=.bind (Le.whl (λ _=>Q6 h _ _ _) h _) λ c=>by rcases c with _|_;exact lr;exact lr
theorem K3 {n m} (_:n<=m) (a):Le (Fn n a) (Fn m a):=lr
theorem OZ {n m} (h:n<=m) (a b):Le (HI n a b) (HI m a b):=.bind lr λ _=>.ite (K3 h _) (K3 h _)
theorem Nt {n m} (_:n<=m) (a):Le (Gg n a) (Gg m a):=.ite lr (.ite lr (.ite lr (.ite lr lr)))
theorem VE {n m} (h:n<=m) (a b c):Le (IC n a b c) (IC m a b c):=.ite lr (.bind lr λ _=>.bind (Le.ite (Jt h _ _) (lr)) λ _=>.ite lr (.ite lr (.ite lr (.bind lr λ _=>.bind (Nt h _) λ _=>.bind (Jt h _ _) λ _=>.ite lr (.bind lr λ _=>.bind (Nt h _) λ _=>lr)))))
theorem K4 {n m} (_:n<=m) (a b):Le (Fp n a b) (Fp m a b):=lr
theorem Q7 {n m} (_:n<=m) (a b c d e):Le (Es n a b c d e) (Es m a b c d e):=.ite (.bind (Le.ite (lr) (lr)) λ _=>.bind (Le.ite (lr) (lr)) λ _=>lr) lr
theorem Q8 {n m} (h:n<=m) (a b c):Le (Et n a b c) (Et m a b c):=.ite (.bind (Le.whl (λ _=>Q7 h _ _ _ _ _) h _) λ _=>.ite (.bind lr λ _=>.bind lr λ _=>K4 h _ _) (K4 h _ _)) lr
theorem VF {n m} (h:n<=m) (a):Le (ID n a) (ID m a):=.bind (Le.whl (λ _=>Q8 h _ _ _) h _) λ _=>lr
theorem HN {n m} (_:n<=m) (a b):Le (Eu n a b) (Eu m a b):=lr
theorem K5 {n m} (_:n<=m) (a b):Le (Fq n a b) (Fq m a b):=lr
theorem Q9 {n m} (h:n<=m) (a b c d e f g):Le (Do n a b c d e f g) (Do m a b c d e f g):=.ite (.bind (VE h _ _ _) λ _=>.bind (Le.ite (lr) (lr)) λ _=>.bind (Le.ite (lr) (lr)) λ _=>.ite (.bind lr λ _=>.bind lr λ _=>.bind (OZ h _ _) λ _=>.bind lr λ _=>K5 h _ _) (K5 h _ _)) lr
theorem Ra {n m} (h:n<=m) (a b c d e):Le (Ew n a b c d e) (Ew m a b c d e):=.ite (.bind lr λ _=>.ite (.bind lr λ _=>.bind lr λ _=>.ite (.bind (OZ h _ _) λ _=>.bind lr λ _=>HN h _ _) (HN h _ _)) (.bind (Le.whl (λ _=>Q9 h _ _ _ _ _ _ _) h _) λ _=>HN h _ _)) lr
theorem VG {n m} (h:n<=m) (a b c):Le (HJ n a b c) (HJ m a b c):=.bind (Le.whl (λ _=>Ra h _ _ _ _ _) h _) λ _=>.bind (VF h _) λ _=>lr
theorem DY {n m} (_:n<=m) (a b):Le (BN n a b) (BN m a b):=lr
theorem Ke {n m} (h:n<=m) {r r':(Int->Aa->(List Int)->(List Ah)->Option Aa)} (f:∀ a0 a1 a2 a3,Le (r a0 a1 a2 a3) (r' a0 a1 a2 a3)) (a b c d e):Le (BO n r a b c d e) (BO m r' a b c d e):=.ite (.bind (VD h _ _) λ _=>.ite (DY h _ _) (.bind (VG h _ _ _) λ _=>.ite (.bind lr λ _=>.bind lr λ _=>.bind (f _ _ _ _) λ _=>DY h _ _) (DY h _ _))) lr
theorem K6 {n m} (h:n<=m) {r r':(Int->Aa->(List Int)->(List Ah)->Option Aa)} (e:∀ a0 a1 a2 a3,Le (r a0 a1 a2 a3) (r' a0 a1 a2 a3)) (a b c d):Le (Bb n r a b c d) (Bb m r' a b c d):=.ite lr (.ite (.bind (T7 h _ _) λ _=>.ite (.bind lr λ _=>.bind lr λ _=>lr) lr) (.bind (Le.whl (λ _=>Ke h e _ _ _ _ _) h _) λ _=>lr))
end Go.AI
end
section
namespace Go.AI
theorem WY (a:Int):IntKind.i64.wrap a=if decide (a % 18446744073709551616>=9223372036854775808)=true then a % 18446744073709551616-18446744073709551616 else a % 18446744073709551616:=rfl
theorem SH (a:Int):IntKind.u8.wrap a=a % 256:=rfl
theorem Rb {a:Int} (h:-9223372036854775808<=a) (h':a<9223372036854775808):IntKind.i64.wrap a=a:=by
 rw[WY];split
 ·rename_i hc;simp at hc;omega
 ·rename_i hc;simp at hc;omega
theorem Rc {a b:Int} (h:-9223372036854775808<=a+b) (h':a+b<9223372036854775808):Be .i64 a b=a+b:=Rb h h'
theorem WZ {a b:Int} (h:-9223372036854775808<=a-b) (h':a-b<9223372036854775808):C4 .i64 a b=a-b:=Rb h h'
theorem Jkq {a:Int} (h:0<=a) (h':a<256):IntKind.u8.wrap a=a:=by
 rw[SH];omega
theorem VH (a:Int):0<=IntKind.u8.wrap a/\IntKind.u8.wrap a<256:=by
 rw[SH];omega
def LO (m k:Int):Bool:=decide (0<=k)&&decide (k<8)&&(Cs .u8 (Jdq .u8 m k) 1==1)
theorem Jb6 (n:Nat) (m k:Int):Jf n m k=some (LO m k):=by
 unfold Jf LO;by_cases h:0<=k
 ·by_cases h':k<8<;>simp[h,h',B7]
 ·simp[h]
theorem Jb7 (n:Nat) (m k:Int):Hs n m k=some (LO m k):=by
 unfold Hs LO;by_cases h:0<=k
 ·by_cases h':k<8<;>simp[h,h',B7]
 ·simp[h]
def Gj (b:Int):Int:=
 if(decide (97<=Cs .u8 b 127)&&decide (Cs .u8 b 127<=122))=true then 1
 else if(decide (65<=Cs .u8 b 127)&&decide (Cs .u8 b 127<=90))=true then 2
 else if(decide (48<=Cs .u8 b 127)&&decide (Cs .u8 b 127<=57))=true then 3
 else if(Cs .u8 b 127==32)=true then 4 else 5
theorem VI (n:Nat) (b:Int):Hu n b=some (Gj b):=by
 unfold Hu Gj;split
 ·rfl
 ·split
  ·rfl
  ·split
   ·rfl
   ·split<;>rfl
theorem Zf (n:Nat) (b:Int):Gg n b=some (Gj b):=by
 unfold Gg Gj;simp only[ge_iff_le];split
 ·rfl
 ·split
  ·rfl
  ·split
   ·rfl
   ·split<;>rfl
theorem VJ (b:Int):1<=Gj b/\Gj b<=5:=by
 unfold Gj;split
 ·omega
 ·split
  ·omega
  ·split
   ·omega
   ·split<;>omega
def SI (s:List UInt8) (i:Nat):Int:=(s[i]?.getD 0).toNat
theorem Nu {s:List UInt8} {i:Nat} (h:i<s.length):Iu s (i:Int)=some (SI s i):=by
 unfold Iu SI;rw[if_pos (by omega)];simp
def XT:Ae:=⟨0,0,0⟩
def XU (r:AE) (s:Ae):Ae×Bool:=
 if((r.From != s.Mode)||!LO r.Left s.Last)=true then(XT,false)
 else if(r.Print==[])=true then
  (if(Cs .u8 s.Need r.Right==0)=true then(XT,false)else(⟨r.To,s.Last,Cs .u8 s.Need r.Right⟩,true))
 else if(!LO s.Need (Gj (SI r.Print 0)))=true then(XT,false)
 else(⟨r.To,Gj (SI r.Print (r.Print.length-1)),r.Right⟩,true)
def By (t:Ab) (s:Ae) (k:Int):Ae×Bool:=
 if(decide (k<0)||decide (k>=(t.Rules.length:Int)))=true then(XT,false)else XU (t.Rules[k.toNat]?.getD default) s
def Jb8 (t:Ab):Prop:=∀ r∈t.Rules,r.Print.length<9223372036854775808
theorem Re {α:Type} [Inhabited α] {l:List α} {k:Int} (h:0<=k) (h':k<l.length):idx l k=some (l[k.toNat]?.getD default):=by
 unfold idx;rw[if_pos h];have:k.toNat<l.length:=by omega
 simp[this]
theorem Py {t:Ab} (ht:Jb8 t) (n:Nat) (s:Ae) (k:Int):Ku n t s k=some (By t s k):=by
 unfold Ku By;by_cases hk:(decide (k<0)||decide (k>=(t.Rules.length:Int)))=true
 ·rw[if_pos hk,if_pos hk];rfl
 ·rw[if_neg hk,if_neg hk];simp only[Jmi,decide_eq_true_eq,not_or,Int.not_lt,ge_iff_le,Int.not_le]at hk;rw[Re hk.1 hk.2];have hmem:(t.Rules[k.toNat]?.getD default)∈t.Rules:=by
   have:k.toNat<t.Rules.length:=by omega
   simp[this]
  have hlen:=ht _ hmem;generalize t.Rules[k.toNat]?.getD default=r at hlen⊢;simp only[JlF,Jb6,VI];unfold XU;by_cases h1:r.From=s.Mode
  ·simp only[h1,bne_self_eq_false,Bool.not_false,if_true,JlF,Bool.false_or];by_cases h2:LO r.Left s.Last=true
   ·simp only[h2,JlM,Jmb,if_false];by_cases h3:r.Print=[]
    ·simp only[h3,beq_self_eq_true,if_true];split<;>rfl
    ·have h3':(r.Print==[])=false:=by simpa using h3
     have hpos:0<r.Print.length:=List.length_pos_iff.2 h3;simp only[h3',Jmb,if_false];have e0:=Nu (s:=r.Print) (i:=0) hpos;simp only[Int.natCast_zero]at e0;rw[e0];have e1:C4 .i64 ((r.Print.length:Nat):Int) 1=((r.Print.length-1:Nat):Int):=by rw[WZ (by omega) (by omega)];omega
     rw[e1,Nu (by omega)];simp only[JlF];split<;>rfl
   ·have h2:LO r.Left s.Last=false:=by simpa using h2
    simp only[h2,Bool.not_false,if_true];rfl
  ·have h1':(r.From != s.Mode)=true:=by simpa using h1
   simp only[h1',JlM,Jmb,if_false,JlF,Bool.true_or,if_true];rfl
end Go.AI
end
section
namespace Go.AI
theorem Am {α:Type} {l:List α} {i:Nat} {x:α} (h:l[i]?=some x):i<l.length:=(List.getElem?_eq_some_iff.1 h).1
theorem Jb9 {t:Ab} (ht:Jb8 t) (n:Nat) (s:Ae) (k:Int):IC n t s k=some (By t s k):=by
 unfold IC By;by_cases hk:(decide (k<0)||decide (k>=(t.Rules.length:Int)))=true
 ·rw[if_pos hk,if_pos hk];rfl
 ·rw[if_neg hk,if_neg hk];simp only[Jmi,decide_eq_true_eq,not_or,Int.not_lt,ge_iff_le,Int.not_le]at hk;rw[Re hk.1 hk.2];have hmem:(t.Rules[k.toNat]?.getD default)∈t.Rules:=by
   have:k.toNat<t.Rules.length:=by omega
   simp[this]
  have hlen:=ht _ hmem;generalize t.Rules[k.toNat]?.getD default=r at hlen⊢;simp only[JlF,Jb7,Zf];unfold XU;by_cases h1:r.From=s.Mode
  ·simp only[h1,bne_self_eq_false,Bool.not_false,if_true,JlF,Bool.false_or];by_cases h2:LO r.Left s.Last=true
   ·simp only[h2,JlM,Jmb,if_false];by_cases h3:r.Print=[]
    ·simp only[h3,List.length_nil,Int.natCast_zero,beq_self_eq_true,Bool.true_and,if_true];split<;>rfl
    ·have h3':(r.Print==[])=false:=by simpa using h3
     have hpos:0<r.Print.length:=List.length_pos_iff.2 h3;have h4:(((r.Print.length:Nat):Int)==0)=false:=by simp;omega
     simp only[h3',h4,Bool.false_and,Jmb,if_false];have e0:=Nu (s:=r.Print) (i:=0) hpos;simp only[Int.natCast_zero]at e0;rw[e0];have e1:C4 .i64 ((r.Print.length:Nat):Int) 1=((r.Print.length-1:Nat):Int):=by rw[WZ (by omega) (by omega)];omega
     rw[e1,Nu (by omega)];simp only[JlF];split<;>rfl
   ·have h2:LO r.Left s.Last=false:=by simpa using h2
    simp only[h2,Bool.not_false,if_true];rfl
  ·have h1':(r.From != s.Mode)=true:=by simpa using h1
   simp only[h1',JlM,Jmb,if_false,JlF,Bool.true_or,if_true];rfl
def Bu (t:Ab) (s:Ae):Bool:=decide (s.Mode<t.Modes)&&LO t.Accept s.Mode&&LO s.Need 0
theorem Rf (n:Nat) (t:Ab) (s:Ae):GD n t s=some (Bu t s):=by
 unfold GD Bu;simp only[Jb6];by_cases h1:s.Mode<t.Modes
 ·cases h2:LO t.Accept s.Mode<;>simp[h1]
 ·simp[h1]
theorem VK (n:Nat) (t:Ab) (s:Ae):Fm n t s=some (Bu t s):=by
 unfold Fm Bu;simp only[Jb7];have h0:¬ (0<=s.Mode)->LO t.Accept s.Mode=false:=λ h=>by simp[LO,h]
 by_cases h:0<=s.Mode
 ·by_cases h1:s.Mode<t.Modes
  ·cases h2:LO t.Accept s.Mode<;>simp[h,h1]
  ·simp[h1]
 ·simp[h,h0 h]
end Go.AI
end
section
namespace Go.AI
theorem W2 (a b:Int) (h:0<=b) (h':b<256):0<=Cs .u8 a b/\Cs .u8 a b<=b:=by
 unfold Cs;have hb:(BitVec.ofInt 8 b).toNat=b.toNat:=by
  rw[BitVec.toNat_ofInt];omega
 have hle:(BitVec.ofInt 8 a &&& BitVec.ofInt 8 b).toNat<=b.toNat:=by
  rw[BitVec.toNat_and,hb];exact Nat.and_le_right
 have e:(BitVec.ofInt IntKind.u8.bits a &&& BitVec.ofInt IntKind.u8.bits b).toNat=(BitVec.ofInt 8 a &&& BitVec.ofInt 8 b).toNat:=rfl;rw[e,Jkq (by omega) (by omega)];omega
def MG (r:AE):Prop:=0<=r.To/\r.To<2/\0<=r.Right/\r.Right<=63/\r.Print.length<=3
def Hj (t:Ab):Prop:=t.Rules.length<=11/\∀ r∈t.Rules,MG r
theorem Hj.short {t:Ab} (h:Hj t):Jb8 t:=λ r hr=>by have:=(h.2 r hr).2.2.2.2;omega
def InU (s:Ae):Prop:=0<=s.Mode/\s.Mode<2/\0<=s.Last/\s.Last<=5/\0<=s.Need/\s.Need<=63
def JiQ:List Ae:=(List.range 768).map λ i=>⟨(i / 384:Nat),(i / 64 % 6:Nat),(i % 64:Nat)⟩
theorem Jca {s:Ae} (h:InU s):s∈JiQ:=by
 obtain⟨h1,h2,h3,h4,h5,h6⟩:=h;obtain⟨m,l,d⟩:=s;simp only at h1 h2 h3 h4 h5 h6;simp only[JiQ,JlR,List.mem_range];refine⟨m.toNat*384+l.toNat*64+d.toNat,by omega,?_⟩;have e1:(m.toNat*384+l.toNat*64+d.toNat) / 384=m.toNat:=by omega
 have e2:(m.toNat*384+l.toNat*64+d.toNat) / 64 % 6=l.toNat:=by omega
 have e3:(m.toNat*384+l.toNat*64+d.toNat) % 64=d.toNat:=by omega
 rw[e1,e2,e3];congr 1<;>omega
theorem Jcb {l m:List Ae} (h:l.Nodup) (hs:∀ x∈l,x∈m):l.length<=m.length:=by
 induction l generalizing m with
 | nil=>simp
 | cons a l ih=>
  rw[List.nodup_cons]at h;have ha:=hs a (by simp);have hlen:(m.erase a).length=m.length-1:=List.length_erase_of_mem ha;have hpos:0<m.length:=List.length_pos_of_mem ha;have:=ih (m:=m.erase a) h.2 λ x hx=>by
   have hne:x≠a:=λ e=>h.1 (e▸hx);exact(List.mem_erase_of_ne hne).2 (hs x (by simp[hx]))
  simp;omega
theorem Jcc {l:List Ae} (h:l.Nodup) (hs:∀ x∈l,InU x):l.length<=768:=by
 have:=Jcb h λ x hx=>Jca (hs x hx);simpa [JiQ]using this
theorem Jcd {t:Ab} (ht:Hj t) {s:Ae} (hs:InU s) {k:Int} (h:(By t s k).2=true):InU (By t s k).1:=by
 unfold By at h⊢;split at h
 ·cases h
 ·rename_i hk;rw[if_neg hk];simp only[Jmi,decide_eq_true_eq,not_or,Int.not_lt,ge_iff_le,Int.not_le]at hk;have hmem:(t.Rules[k.toNat]?.getD default)∈t.Rules:=by
   have:k.toNat<t.Rules.length:=by omega
   simp[this]
  have hr:=ht.2 _ hmem;generalize t.Rules[k.toNat]?.getD default=r at hr h⊢;obtain⟨a1,a2,a3,a4,a5⟩:=hr;obtain⟨b1,b2,b3,b4,b5,b6⟩:=hs;unfold XU at h⊢;split at h
  ·cases h
  ·rename_i h1;rw[if_neg h1];split at h
   ·rename_i h2;rw[if_pos h2];split at h
    ·cases h
    ·rename_i h3;rw[if_neg h3];have:=W2 s.Need r.Right a3 (by omega);exact⟨a1,a2,b3,b4,this.1,by show Cs .u8 s.Need r.Right<=63;omega⟩
   ·rename_i h2;rw[if_neg h2];split at h
    ·cases h
    ·rename_i h3;rw[if_neg h3];have:=VJ (SI r.Print (r.Print.length-1));exact⟨a1,a2,by show 0<=Gj _;omega,by show Gj _<=5;omega,a3,a4⟩
def G5:Ae:=⟨0,0,63⟩
def LQ (t:Ab) (s:Ae) (st:List Ae) (k:Nat):List Ae:=if(By t s k).2=true/\(By t s k).1 ∉ st then st++[(By t s k).1]else st
def Pj (t:Ab) (s:Ae) (m:Nat) (st:List Ae):List Ae:=(List.range m).foldl (LQ t s) st
theorem Lx (t:Ab) (s:Ae) (m:Nat) (st:List Ae):Pj t s (m+1) st=LQ t s (Pj t s m st) m:=by
 simp[Pj,List.range_succ]
def VL (t:Ab):Nat->Nat->List Ae->List Ae
 | 0,_,st=>st
 | f+1,i,st=>match st[i]? with
  | some s=>VL t f (i+1) (Pj t s t.Rules.length st)
  | none=>st
def AN (t:Ab):List Ae:=VL t 800 0 [G5]
structure FX (t:Ab) (st:List Ae):Prop where
 nodup:st.Nodup
 inU:∀ s∈st,InU s
 first:st[0]?=some G5
 origin:∀ (j:Nat) (s:Ae),st[j]?=some s->0<j->∃ (i:Nat) (s':Ae) (k:Nat),i<j/\st[i]?=some s'/\k<t.Rules.length/\By t s' k=(s,true)
theorem FX.len {t:Ab} {st:List Ae} (h:FX t st):st.length<=768:=Jcc h.nodup h.inU
theorem FX.add {t:Ab} (ht:Hj t) {st:List Ae} (h:FX t st) {i:Nat} {s:Ae} (hi:st[i]?=some s) {k:Nat} (hk:k<t.Rules.length):FX t (LQ t s st k):=by
 unfold LQ;split
 ·rename_i hc;have hil:=Am hi;refine⟨?_,λ x hx=>?_,?_,λ j x hj h0=>?_⟩
  ·rw[List.nodup_append];refine⟨h.nodup,by simp,λ a ha b hb=>?_⟩;simp at hb;subst hb;exact λ e=>hc.2 (e▸ha)
  ·simp only[List.mem_append,List.mem_singleton]at hx;rcases hx with hx|rfl
   ·exact h.inU x hx
   ·exact Jcd ht (h.inU s (Jl1 hi)) hc.1
  ·rw[Jl7 (by omega)];exact h.first
  ·rcases JlP j st.length with hlt|hge
   ·rw[Jl7 hlt]at hj;obtain⟨i',s',k',a1,a2,a3,a4⟩:=h.origin j x hj h0;exact⟨i',s',k',a1,by rw[Jl7 (by omega)];exact a2,a3,a4⟩
   ·rw[Jmh hge]at hj;have:j-st.length=0:=by have:=Am hj;simp at this;omega
    rw[this]at hj;simp at hj;subst hj;refine⟨i,s,k,by omega,by rw[Jl7 hil];exact hi,hk,?_⟩;exact Prod.ext rfl hc.1
 ·exact h
theorem VM (t:Ab) (s:Ae) (st:List Ae) (k:Nat):st <+: LQ t s st k:=by
 unfold LQ;split
 ·exact List.prefix_append _ _
 ·exact List.prefix_refl _
theorem IN (t:Ab) (s:Ae) (st:List Ae):∀ m,st <+: Pj t s m st:=by
 intro m;induction m with
 | zero=>exact List.prefix_refl _
 | succ m ih=>rw[Lx];exact ih.trans (VM _ _ _ _)
theorem CT {α:Type} {l m:List α} (h:l <+: m) {i:Nat} {x:α} (hi:l[i]?=some x):m[i]?=some x:=by
 obtain⟨r,rfl⟩:=h;rw[Jl7 (Am hi)];exact hi
theorem FX.exp {t:Ab} (ht:Hj t) {st:List Ae} (h:FX t st) {i:Nat} {s:Ae} (hi:st[i]?=some s):∀ m,m<=t.Rules.length->FX t (Pj t s m st):=by
 intro m;induction m with
 | zero=>intro _;exact h
 | succ m ih=>
  intro hm;rw[Lx];exact(ih (by omega)).add ht (CT (IN t s st m) hi) (by omega)
theorem Jce (t:Ab) (s:Ae) (st:List Ae):∀ m k:Nat,k<m->(By t s k).2=true->(By t s k).1∈Pj t s m st:=by
 intro m;induction m with
 | zero=>intro k hk;omega
 | succ m ih=>
  intro k hk h;rw[Lx];by_cases e:k=m
  ·subst e;unfold LQ;by_cases hc:(By t s k).1∈Pj t s k st
   ·rw[if_neg (λ hh=>hh.2 hc)];exact hc
   ·rw[if_pos ⟨h,hc⟩];simp
  ·exact(VM t s _ m).subset (ih k (by omega) h)
def Jcf (t:Ab) (i:Nat) (st:List Ae):Prop:=∀ (j:Nat) (s:Ae),j<i->st[j]?=some s->∀ k:Nat,k<t.Rules.length->(By t s k).2=true->(By t s k).1∈st
theorem JiR {t:Ab} (ht:Hj t):∀ (f i:Nat) (st:List Ae),FX t st->Jcf t i st->768<f+i->FX t (VL t f i st)/\∀ i',Jcf t i' (VL t f i st):=by
 intro f;induction f with
 | zero=>
  intro i st h hd hf;have:=h.len;refine⟨h,λ i' j s hj hs=>?_⟩;have hs:st[j]?=some s:=hs;exact hd j s (by have:=Am hs;omega) hs
 | succ f ih=>
  intro i st h hd hf;simp only[VL];cases hi:st[i]? with
  | none=>
   refine⟨h,λ i' j s hj hs=>?_⟩;have hs:st[j]?=some s:=hs;exact hd j s (by have:=Am hs;rw[List.getElem?_eq_none_iff]at hi;omega) hs
  | some s=>
   refine ih (i+1) _ (h.exp ht hi _ (JlO _)) (λ j x hj hx k hk hk2=>?_) (by omega);by_cases e:j=i
   ·subst e;have:=CT (IN t s st t.Rules.length) hi;rw[this]at hx;cases hx;exact Jce t s st _ k hk hk2
   ·have hjl:j<st.length:=by have:=Am hi;omega
    have hxx:st[j]?=some st[j]:=JlZ hjl;have:=CT (IN t s st t.Rules.length) hxx;rw[this]at hx;cases hx;exact(IN t s st t.Rules.length).subset (hd j _ (by omega) hxx k hk hk2)
theorem CW {t:Ab} (ht:Hj t):FX t (AN t)/\∀ i,Jcf t i (AN t):=by
 refine JiR ht 800 0 [G5] ⟨by simp,λ s hs=>?_,rfl,λ j s hj h0=>?_⟩ (λ j s hj=>by omega) (by omega)
 ·simp at hs;subst hs;exact⟨by decide,by decide,by decide,by decide,by decide,by decide⟩
 ·cases j with
  | zero=>omega
  | succ j=>simp at hj
end Go.AI
end
