/- Part 6 of 7 of the proof: lemmas about the model and the program's functions, with no condition beyond those that each states. -/
import Derived.Test.YtjaogfjfamffnaaGreatLE
import Derived.ChangeArms
import Derived.WalkKit
import Derived.ProofKit
import Derived.OpenShut
import Derived.Carry
import Derived.WideKeyArgs
import Derived.ChangeSame
import Derived.KernelRfl
section
namespace Go.AI
def CRd (F:Nat->Option Obj) (l:List D) (cs:List Value):Prop:=l.length=cs.length/\∀ (i:Nat) (y:D) (v:Value),l[i]? = some y->cs[i]? = some v->BU F y v
def I1 {α:Type} (P:Program) (t:TypeId) (enc:α->List D) (ok:α->Prop):Prop:=
 ∀ (H:Type) (e:TypeId×Value->H) (w:World) (base:Nat) (spare:Nat->Bool) (held:Bool) (fuel:Nat) (cs:List Value) (x:DataW H×List MemPlace),DataW.trod e P w base spare held fuel t cs=some x->∃ a:α,ok a/\CRd (λ b=>w.heap[b]?) (enc a) cs
theorem WC {F:Nat->Option Obj} {y:D} {v:Value} (h:BU F y v):CRd F [y] [v]:=by
 refine ⟨rfl,λ i a b ha hb=>?_⟩;cases i with
 | zero=>simp at ha hb;subst ha;subst hb;exact h
 | succ i=>simp at ha
theorem Jbk {P:Program} {t:TypeId} {k:IntKind} (ht:P.underlying t=some (.int k)):I1 P t (λ n=>[.int k n]) (λ n=>(Lit.int k n).wf=true):=by
 intro H e w base spare held fuel cs x h;obtain ⟨n,rfl,_,hw⟩:=DataW.trod_int ht h;exact ⟨n,hw,WC (.int k n)⟩
theorem Yh {α:Type} {Q:Nat->α->Prop}:∀ n,(∀ i,i<n->∃ a,Q i a)->∃ l:List α,l.length=n/\∀ i a,l[i]? = some a->Q i a:=by
 intro n;induction n with
 | zero=>intro _;exact ⟨[],rfl,λ i a h=>by simp at h⟩
 | succ n ih=>
  intro h;obtain ⟨l,hl,hq⟩:=ih λ i hi=>h i (by omega);obtain ⟨a,ha⟩:=h n (by omega);refine ⟨l++[a],by simp [hl],λ i b hb=>?_⟩;rcases Jnk i l.length with hlt|hge
  ·rw [JnF hlt] at hb;exact hq i b hb
  ·rw [JnQ hge] at hb;have:i-l.length=0:=by have:=Ag hb;simp at this;omega
   rw [this] at hb;simp at hb;subst hb;have:i=n:=by omega
   subst this;exact ha
theorem Yi {α β:Type} {f:α->Option β}:∀ {l:List α} {r:List β},l.mapM f=some r->r.length=l.length/\∀ (i:Nat) (a:α),l[i]? = some a->r[i]? = f a:=by
 intro l;induction l with
 | nil=>intro r h;simp at h;subst h;exact ⟨rfl,λ i a h=>by simp at h⟩
 | cons a l ih=>
  intro r h;rw [List.mapM_cons] at h;simp only [Option.bind_eq_bind,Option.bind_eq_some_iff,Option.pure_def,JnI] at h;obtain ⟨b,hb,r',hr',rfl⟩:=h;obtain ⟨h1,h2⟩:=ih hr';refine ⟨by simp [h1],λ i x hx=>?_⟩;cases i with
  | zero=>simp at hx;subst hx;simp [hb]
  | succ i=>simpa using h2 i x (by simpa using hx)
theorem Nu {α:Type} {P:Program} {t e:TypeId} {enc:α->List D} {ok:α->Prop} {sz:Nat} (ht:P.underlying t=some (.slice e)) (hsz:P.cellsOf e=sz) (h1:Nat.ble 1 sz=true) (hl:∀ a,(enc a).length=sz) (he:I1 P e enc ok):I1 P t (eL enc) (λ l=>∀ a∈l,ok a):=by
 intro H en w base spare held fuel cs x h;have h1:=JnN h1;rcases DataW.trod_slice ht h with ⟨rfl,_⟩|⟨a,len,cap,elems,rest,n,_,rfl,_,_,hcap,_,hel,hget,_,_⟩
 ·exact ⟨[],λ a h=>by simp at h,WC (.sl0 _ _)⟩
 ·rw [hsz] at hget;have hex:∀ i,i<len->∃ y:α,ok y/\∃ ci,w.cells? base (a.add (i*sz)) sz=some ci/\CRd (λ b=>w.heap[b]?) (enc y) ci:=λ i hi=>by
   have hg:=hget i hi;rw [Jnx (show i<elems.length by omega)] at hg;simp only [Option.bind_eq_some_iff] at hg;obtain ⟨ci,hc,htr⟩:=hg;obtain ⟨y,hy,hcr⟩:=he H en w base spare held n ci _ htr;exact ⟨y,hy,ci,hc,hcr⟩
  obtain ⟨l,hll,hq⟩:=Yh len hex;refine ⟨l,λ y hy=>?_,WC ?_⟩
  ·obtain ⟨i,hi⟩:=List.mem_iff_getElem?.1 hy;exact (hq i y hi).1
  ·rcases Nat.eq_zero_or_pos len with h0|hpos
   ·have:l=[]:=Jnl.1 (by omega);subst this;subst h0;exact .sl0 _ _
   ·
    have hcell:∀ i y,l[i]? = some y->∀ j,j<sz->∃ v,w.cell? ((a.add (i*sz)).add j)=some v/\∀ d,(enc y)[j]? = some d->BU (λ b=>w.heap[b]?) d v:=λ i y hy j hj=>by
     obtain ⟨_,ci,hc,hcr⟩:=hq i y hy;unfold World.cells? at hc;split at hc
     ·obtain ⟨g1,g2⟩:=Yi hc;have:=g2 j j (by simp [hj]);have hjc:j<ci.length:=by rw [g1];simpa using hj
      rw [Jnx hjc] at this;exact ⟨ci[j],this.symm,λ d hd=>hcr.2 j d _ hd (Jnx hjc)⟩
     ·cases hc
    have h0:l[0]? = some l[0]:=Jnx (by omega);obtain ⟨v0,hv0,_⟩:=hcell 0 _ h0 0 (by omega);have ha0:(a.add (0*sz)).add 0=a:=by simp [Addr.add]
    rw [ha0] at hv0;obtain ⟨b,off,spot⟩:=a;unfold World.cell? at hv0;simp only at hv0;split at hv0
    ·rename_i c ty fr hblk;cases spot with
     | some s=>simp at hv0
     | none=>
      have hcell':∀ i y,l[i]? = some y->∀ j d,(enc y)[j]? = some d->∃ v,c[off+i*sz+j]? = some v/\BU (λ b=>w.heap[b]?) d v:=λ i y hy j d hd=>by
       have hj:j<sz:=by rw [← hl y];exact Ag hd
       obtain ⟨v,hv,hr⟩:=hcell i y hy j hj;rw [CX,CX,MM hblk] at hv;exact ⟨v,hv,hr d hd⟩
      have hlen:(l.map enc).length=len:=by simp [hll]
      have:=BU.sl (F:=λ b=>w.heap[b]?) (l.map enc) b off cap sz c ty fr (λ i j=>(c[off+i*sz+j]?).getD undef) hblk (λ e he=>by
        simp only [Jno] at he;obtain ⟨y,_,rfl⟩:=he;exact hl y) (by omega) (λ i e hi j d hd=>by
        simp only [JnB,JnA] at hi;obtain ⟨y,hy,rfl⟩:=hi;obtain ⟨v,hv,_⟩:=hcell' i y hy j d hd;simp only [hv,Jne]) (λ i e hi j d hd=>by
        simp only [JnB,JnA] at hi;obtain ⟨y,hy,rfl⟩:=hi;obtain ⟨v,hv,hr⟩:=hcell' i y hy j d hd;simp only [hv,Jne];exact hr)
      rw [hlen] at this;exact this
    ·cases hv0
theorem D4 {F:Nat->Option Obj} {l m:List D} {cs:List Value} {o n:Nat} (h:CRd F l ((cs.drop o).take n)) (hn:Nat.beq l.length n=true) (h':CRd F m (cs.drop (o+n))):CRd F (l++m) (cs.drop o):=by
 have hn:=JnE hn;have e:cs.drop o=(cs.drop o).take n++cs.drop (o+n):=by rw [← List.drop_drop,List.take_append_drop]
 rw [e];refine ⟨by simp only [List.length_append,h.1,h'.1],λ i y v hy hv=>?_⟩;rcases Jnk i l.length with hlt|hge
 ·rw [JnF hlt] at hy;rw [JnF (by rw [← h.1];exact hlt)] at hv;exact h.2 i y v hy hv
 ·rw [JnQ hge] at hy;rw [JnQ (by rw [← h.1];exact hge),← h.1] at hv;exact h'.2 _ y v hy hv
theorem SH {F:Nat->Option Obj} {cs:List Value} {o:Nat} (h:cs.length<=o):CRd F [] (cs.drop o):=by
 rw [List.drop_eq_nil_of_le h];exact ⟨rfl,λ i y v hy=>by simp at hy⟩
theorem Zo {H:Type} {enc:TypeId×Value->H} {P:Program} {w:World} {base:Nat} {spare:Nat->Bool} {held:Bool} {fuel:Nat} {t e:TypeId} {n:Nat} {cs:List Value} {x:DataW H×List MemPlace} (ht:P.underlying t=some (.array n e)) (h:DataW.trod enc P w base spare held fuel t cs=some x) :
  ∃ m,cs.length=P.cellsOf t/\∀ i,i<n->∃ y,DataW.trod enc P w base spare held m e ((cs.drop (i*P.cellsOf e)).take (P.cellsOf e))=some y:=by
 cases fuel with
 | zero=>simp [DataW.trod] at h
 | succ m=>
  unfold DataW.trod at h;rw [ht] at h;split at h<;>simp_all;obtain ⟨xs,hp,_⟩:=h.2;refine ⟨m,λ i hi=>?_⟩;obtain ⟨g1,g2⟩:=Yi hp;have:=g2 i i (by simp [hi]);have hlt:i<xs.length:=by rw [g1];simpa using hi
  rw [Jnx hlt] at this;exact ⟨_,_,this.symm⟩
end Go.AI
end
section
namespace Go.AI
open Go.ChangeShapes Go.WideShapes Go.ChangeAt Go.RowKit
variable {P:Program} {H:Type} {en:TypeId×Value->H} {W W':World} {base:Nat} {spare:Nat->Bool} {held:Bool} {t e:TypeId} {v:Value} {d:DataW H} {ps:List MemPlace} {α:Type} {enc:α->List D} {ok:α->Prop}
theorem Jgv {cs:Array Value} (hv:v=.agg cs) (hd:DataW.Trod en P W base spare held t v d ps) (hr:I1 P t enc ok):∃ a,ok a/\Ai (λ b=>W.heap[b]?) noR (.agg ((enc a).map .d)) v:=by
 subst hv;obtain ⟨fuel,hf⟩:=hd;obtain ⟨a,h1,h2,h3⟩:=hr H en W base spare held fuel _ _ hf;refine ⟨a,h1,.agg _ _ (by simpa [Value.cells] using h2) λ i x u hx hu=>?_⟩;simp only [JnB,JnA] at hx;obtain ⟨y,hy,rfl⟩:=hx;exact .d _ _ (h3 i y u hy (by simpa [Value.cells] using hu))
theorem Z7 {y:α->D} (hc:v.cells=#[v]) (hd:DataW.Trod en P W base spare held t v d ps) (hr:I1 P t enc ok) (he:∀ a,enc a=[y a]):∃ a,ok a/\Ai (λ b=>W.heap[b]?) noR (.d (y a)) v:=by
 obtain ⟨fuel,hf⟩:=hd;obtain ⟨a,h1,h2,h3⟩:=hr H en W base spare held fuel _ _ hf;refine ⟨a,h1,.d _ _ (h3 0 (y a) v (by rw [he];rfl) (by rw [hc];rfl))⟩
theorem JkC {F:Nat->Option Obj} {ρ:Nat->Option Loc}:CR F ρ [] []:=⟨rfl,λ i a v h=>by simp at h⟩
theorem WD {F:Nat->Option Obj} {ρ:Nat->Option Loc} {a:AV} {v:Value} {l:List AV} {vs:List Value} (h:Ai F ρ a v) (h':CR F ρ l vs):CR F ρ (a::l) (v::vs):=by
 refine ⟨by simp [h'.1],λ i x u hx hu=>?_⟩;cases i with
 | zero=>simp at hx hu;subst hx;subst hu;exact h
 | succ i=>exact h'.2 i x u (by simpa using hx) (by simpa using hu)
theorem fld {w:World} {fuel:Nat} {cs:List Value} {fs:Array Field} {xs:List (DataW H×List MemPlace)} (hg:∀ (i:Nat) (f:Field),fs[i]? = some f->DataW.trod en P w base spare held fuel f.type ((cs.drop f.offset).take (P.cellsOf f.type))=xs[i]?) (hxl:xs.length=fs.size) (i:Nat) {f:Field} (hf:fs[i]? = some f) (u o n:Nat) (hu:f.type=u) (ho:f.offset=o) (hn:P.cellsOf u=n) (hr:I1 P u enc ok) :
  ∃ a,ok a/\CRd (λ b=>w.heap[b]?) (enc a) ((cs.drop o).take n):=by
 have:=hg i f hf;have hi:i<xs.length:=by rw [hxl];exact As hf
 rw [Jnx hi,hu,ho,hn] at this;exact hr H en w base spare held fuel _ _ this
theorem Jmf {w:World} {fuel:Nat} {cs:List Value} {m:Nat} (hg:∀ i,i<m->∃ y,DataW.trod en P w base spare held fuel e ((cs.drop (i*P.cellsOf e)).take (P.cellsOf e))=some y) (i:Nat) (hi:Nat.ble (i+1) m=true) (o n:Nat) (hn:P.cellsOf e=n) (ho:i*n=o) (hr:I1 P e enc ok) :
  ∃ a,ok a/\CRd (λ b=>w.heap[b]?) (enc a) ((cs.drop o).take n):=by
 obtain ⟨y,hy⟩:=hg i (JnN hi);rw [hn,ho] at hy;exact hr H en w base spare held fuel _ _ hy
theorem Jex {f:FuncId} {args:List AV} {vs:Array Value} (hc:AL P f args (.d (.bool true))) (hcr:CR (λ b=>W.heap[b]?) noR args vs.toList):Calls P f vs W λ e W'=>e=.returned (.bool true)/\(∀ before:List MemPlace,W.keptBut W' (·∈before))/\∀ b,b<W.heap.size->W'.heap[b]? = W.heap[b]? := by
 refine (hc.2 (λ b=>W.heap[b]?) W vs hcr λ b o h=>h).mono λ e W' h=>?_;obtain ⟨v,F',ρ,rfl,hS,hr,hmu⟩:=h;have hv:v=.bool true:=by
  have:(Cs true 0 (.d (.bool true))).1=.d (.bool true):=rfl;rw [this] at hr;exact hr.bool
 subst hv;have hold:∀ b,b<W.heap.size->W'.heap[b]? = W.heap[b]? := λ b hb=>hS.old b (by omega);refine ⟨rfl,λ before=>World.keptBut_mono (λ p hp=>hp.elim) (?_:W.keptBut W' λ _=>False),hold⟩;refine ⟨hmu.1,hmu.2.1,λ i hi=>?_⟩;rw [hold i hi];cases hh:W.heap[i]? with
 | none=>rfl
 | some o=>cases o<;>first|exact ⟨rfl,rfl,rfl,λ _ _=>rfl⟩|exact .inr ⟨rfl,rfl⟩|rfl
theorem Jbl {f:Func} {s:ChangeSpec} {apart fresh handsOn again:Bool} {args:Array Value} {ds gs:List (DataW H)} {before pa pv:List MemPlace}
  (hW:DataW.Whole en P f.params.toList s.vars apart W args.toList ds gs before)
  (hres:∀ (b:Nat) (sp:Nat->Bool) (hd:Bool),DataW.TrodAll en P W' b sp hd f.resultTypes.toList (v.resultList f.resultTypes.size) (s.fn H (ds++gs)).results [])
  (hargs:∀ sp:Nat->Bool,(∀ p∈before,sp p.block=true)->DataW.TrodAll en P W' 0 sp true f.params.toList args.toList (s.fn H (ds++gs)).args pa)
  (hvars:∀ sp:Nat->Bool,(∀ p∈before,sp p.block=true)->DataW.TrodVars en P W' sp s.vars (s.fn H (ds++gs)).vars pv)
  (hps:before=pa++pv) (hk:W.keptBut W' (·∈before)) (hold:∀ b,b<W.heap.size->W'.heap[b]? = W.heap[b]?)
  (hok:∀ (j:Nat) (t:TypeId) (r:Value),f.resultTypes[j]? = some t->(v.resultList f.resultTypes.size)[j]? = some r->Value.okWide P W' .any 0 t r) :
  s.post en P f apart fresh handsOn again W args v W':=by
 have hin:∀ p∈before,(λ b=>decide (b<W.heap.size)) p.block=true:=λ p hp=>by simpa using hW.lt p hp
 have hlt:=hW.lt;refine ⟨ds,gs,before,[],pa,pv,hW,hres _ _ _,hargs _ hin,hvars _ hin,World.keptBut_mono (λ p hp=>⟨hp,?_⟩) hk,λ _=>?_⟩
 ·rw [hps,List.mem_append] at hp;exact Or.inr hp
 ·obtain ⟨_,_,_,_,_,hz,hn⟩:=hW;refine ⟨hok,_,_,([]++pa)++pv,⟨[]++pa,pv,trodAll_append (hargs _ (λ _ _=>rfl)) (hres _ _ _),hvars _ (λ _ _=>rfl),rfl,?_,?_⟩,?_⟩
  ·intro b off hp;have hp:MemPlace.cell b off∈before:=by rw [hps];simpa using hp
   have:=hz b off hp;simp only [World.frozen?,hold b (hlt _ hp)] at this ⊢;exact this
  ·intro ha;have:=hn ha;rw [hps] at this;simpa using this
  ·intro p hp _;rw [hps];simpa using hp
theorem Jey (hl:laidOutB P=true) (hr:P.readableRec t=true) (hrow:t<P.types.size) (h:DataW.Trod en P W 0 (λ _=>true) true t v d ps) (hb:∀ p∈ps,p.block<W.heap.size) {sp:Nat->Bool} (hs:∀ p∈ps,sp p.block=true) (hold:∀ b,b<W.heap.size->W'.heap[b]? = W.heap[b]?):DataW.Trod en P W' 0 sp true t v d ps:=by
 refine WideElems.Trod_stays hl hr hrow h (λ p hp=>?_) hs;have:=hb p hp;cases p with
 | cell b o=>exact World.cell?_of_block (w:=W) (hold b this)
 | map b=>exact hold b this
end Go.AI
end
section
namespace Go.AI
open Go.Proofs Go.ChangeShapes Go.WideShapes Go.ChangeAt Go.RowKit
def okI (k:IntKind) (n:Int):Prop:=(Lit.int k n).wf=true
theorem rd5:I1 Tryz.prog 5 eU8 (okI .u8):=Jbk Tryz.underlying5
theorem Jgw:I1 Tryz.prog 25 (eL eU8) (λ l=>∀ a∈l,okI .u8 a):=Nu (sz:=1) Tryz.underlying25 (by kernel_rfl) rfl (λ _=>rfl) rd5
theorem JmP:I1 Tryz.prog 69 (JlO eU8) (λ x=>okI .u8 x.a0/\okI .u8 x.a1):=by
 intro H e w base spare held fuel cs x h;obtain ⟨m,hcl,hg⟩:=Zo Tryz.underlying69 h;have hcl:cs.length=2:=hcl.trans (by kernel_rfl);obtain ⟨a0,k0,c0⟩:=Jmf hg 0 rfl 0 1 (by kernel_rfl) rfl rd5;obtain ⟨a1,k1,c1⟩:=Jmf hg 1 rfl 1 1 (by kernel_rfl) rfl rd5;refine ⟨⟨a0,a1⟩,⟨k0,k1⟩,?_⟩;have:=D4 c0 rfl (D4 c1 rfl (SH (Nat.le_of_eq hcl)));exact this
def LI (x:DY):Prop:=(∀ a∈x.P,okI .u8 a)/\(∀ a∈x.C,okI .u8 a)/\okI .u8 x.L/\okI .u8 x.R/\(okI .u8 x.W.a0/\okI .u8 x.W.a1)
theorem JmQ:I1 Tryz.prog 71 Gy LI:=by
 intro H e w base spare held fuel cs x h;obtain ⟨xs,n,_,_,hcl,hxl,hg⟩:=DataW.trod_struct Tryz.underlying71 h;have hcl:cs.length=6:=hcl.trans (by kernel_rfl);obtain ⟨a0,k0,c0⟩:=fld hg hxl 0 rfl 25 0 1 rfl rfl (by kernel_rfl) Jgw;obtain ⟨a1,k1,c1⟩:=fld hg hxl 1 rfl 25 1 1 rfl rfl (by kernel_rfl) Jgw;obtain ⟨a2,k2,c2⟩:=fld hg hxl 2 rfl 5 2 1 rfl rfl (by kernel_rfl) rd5;obtain ⟨a3,k3,c3⟩:=fld hg hxl 3 rfl 5 3 1 rfl rfl (by kernel_rfl) rd5;obtain ⟨a4,k4,c4⟩:=fld hg hxl 4 rfl 69 4 2 rfl rfl (by kernel_rfl) JmP;refine ⟨⟨a0,a1,a2,a3,a4⟩,⟨k0,k1,k2,k3,k4⟩,?_⟩;have:=D4 c0 rfl (D4 c1 rfl (D4 c2 rfl (D4 c3 rfl (D4 c4 rfl (SH (Nat.le_of_eq hcl))))));exact this
theorem JmR:I1 Tryz.prog 22 (eL Gy) (λ l=>∀ a∈l,LI a):=Nu (sz:=6) Tryz.underlying22 (by kernel_rfl) rfl (λ _=>rfl) JmQ
def Zp (x:NY):Prop:=okI .u8 x.Base/\okI .u8 x.Drop/\(∀ a∈x.More,LI a)
theorem JmS:I1 Tryz.prog 24 JlP Zp:=by
 intro H e w base spare held fuel cs x h;obtain ⟨xs,n,_,_,hcl,hxl,hg⟩:=DataW.trod_struct Tryz.underlying24 h;have hcl:cs.length=3:=hcl.trans (by kernel_rfl);obtain ⟨a0,k0,c0⟩:=fld hg hxl 0 rfl 5 0 1 rfl rfl (by kernel_rfl) rd5;obtain ⟨a1,k1,c1⟩:=fld hg hxl 1 rfl 5 1 1 rfl rfl (by kernel_rfl) rd5;obtain ⟨a2,k2,c2⟩:=fld hg hxl 2 rfl 22 2 1 rfl rfl (by kernel_rfl) JmR;refine ⟨⟨a0,a1,a2⟩,⟨k0,k1,k2⟩,?_⟩;have:=D4 c0 rfl (D4 c1 rfl (D4 c2 rfl (SH (Nat.le_of_eq hcl))));exact this
def EP (x:BB):Prop:=okI .u8 x.At/\okI .u8 x.Cut/\(∀ a∈x.L,okI .u8 a)
theorem JmT:I1 Tryz.prog 27 Cp EP:=by
 intro H e w base spare held fuel cs x h;obtain ⟨xs,n,_,_,hcl,hxl,hg⟩:=DataW.trod_struct Tryz.underlying27 h;have hcl:cs.length=3:=hcl.trans (by kernel_rfl);obtain ⟨a0,k0,c0⟩:=fld hg hxl 0 rfl 5 0 1 rfl rfl (by kernel_rfl) rd5;obtain ⟨a1,k1,c1⟩:=fld hg hxl 1 rfl 5 1 1 rfl rfl (by kernel_rfl) rd5;obtain ⟨a2,k2,c2⟩:=fld hg hxl 2 rfl 25 2 1 rfl rfl (by kernel_rfl) Jgw;refine ⟨⟨a0,a1,a2⟩,⟨k0,k1,k2⟩,?_⟩;have:=D4 c0 rfl (D4 c1 rfl (D4 c2 rfl (SH (Nat.le_of_eq hcl))));exact this
theorem JmU:I1 Tryz.prog 47 (eL Cp) (λ l=>∀ a∈l,EP a):=Nu (sz:=3) Tryz.underlying47 (by kernel_rfl) rfl (λ _=>rfl) JmT
end Go.AI
end
section
namespace Go.AI
def Le {α:Type} (a b:Option α):Prop:=∀ z,a=some z->b=some z
theorem Le.refl {α:Type} (a:Option α):Le a a:=λ _ h=>h
theorem Le.bind {α β:Type} {a a':Option α} {f f':α->Option β} (h:Le a a') (hf:∀ x,Le (f x) (f' x)):Le (a.bind f) (a'.bind f'):=by
 intro z hz;obtain ⟨x,h1,h2⟩:=bind_some hz;rw [h x h1];exact hf x z h2
theorem Le.ite {α:Type} {c:Prop} [Decidable c] {a a' b b':Option α} (h:Le a a') (h':Le b b'):Le (if c then a else b) (if c then a' else b'):=by
 split
 ·exact h
 ·exact h'
theorem Le.whl {σ ρ:Type} {body body':σ->Option (σ⊕ρ)} (hb:∀ x,Le (body x) (body' x)):∀ {n m:Nat},n<=m->∀ x,Le (whl body n x) (whl body' m x):=by
 intro n;induction n with
 | zero=>intro m _ x z hz;cases hz
 | succ n ih=>
  intro m hm x z hz;cases m with
  | zero=>omega
  | succ m=>
   simp only [Go.AI.whl] at hz ⊢;cases hx:body x with
   | none=>rw [hx] at hz;cases hz
   | some y=>
    rw [hb x y hx];rw [hx] at hz;cases y with
    | inl y=>exact ih (by omega) y z hz
    | inr r=>exact hz
def Ev {α:Type} (f:Nat->Option α) (z:α):Prop:=∃ n,∀ m,n<=m->f m=some z
theorem Ev.const {α:Type} {z:α}:Ev (λ _=>some z) z:=⟨0,λ _ _=>rfl⟩
theorem Ev.of {α:Type} {f:Nat->Option α} {z:α} (hm:∀ n m,n<=m->Le (f n) (f m)) {n:Nat} (h:f n=some z):Ev f z:=⟨n,λ m hnm=>hm n m hnm z h⟩
theorem Ev.all {α:Type} {f:Nat->Option α} {z:α} (h:∀ n,f n=some z):Ev f z:=⟨0,λ m _=>h m⟩
theorem Ev.bind {α β:Type} {f:Nat->Option α} {g:Nat->α->Option β} {x:α} {z:β} (h:Ev f x) (hg:Ev (λ n=>g n x) z):Ev (λ n=>(f n).bind (g n)) z:=by
 obtain ⟨n,hn⟩:=h;obtain ⟨m,hm⟩:=hg;refine ⟨max n m,λ k hk=>?_⟩;show (f k).bind (g k)=_;rw [hn k (by omega)];exact hm k (by omega)
theorem Ev.out {α:Type} {f:Nat->Option α} {z:α} (h:Ev f z):∃ n,f n=some z:=by
 obtain ⟨n,hn⟩:=h;exact ⟨n,hn n (Jni n)⟩
theorem Ev.congr {α:Type} {f g:Nat->Option α} {z:α} (h:Ev f z) (e:∀ n,g n=f n):Ev g z:=by
 obtain ⟨n,hn⟩:=h;exact ⟨n,λ m hm=>by rw [e m];exact hn m hm⟩
theorem Ev.whl {σ ρ:Type} {body:Nat->σ->Option (σ⊕ρ)} {r:ρ} (I:Nat->σ->Prop) (h:∀ k x,I k x->(∃ y j,j<k/\I j y/\Ev (λ n=>body n x) (.inl y))\/Ev (λ n=>body n x) (.inr r)):∀ (k:Nat) (x:σ),I k x->Ev (λ n=>Go.AI.whl (body n) n x) r:=by
 have key:∀ (k:Nat) (x:σ),I k x->∃ N c,∀ n fuel,N<=n->c<=fuel->Go.AI.whl (body n) fuel x=some r:=by
  intro k;induction k using Nat.strongRecOn with
  | _ k ih=>
   intro x hx;rcases h k x hx with ⟨y,j,hj,hy,N1,h1⟩|⟨N1,h1⟩
   ·obtain ⟨N2,c,h2⟩:=ih j hj y hy;refine ⟨max N1 N2,c+1,λ n fuel hn hf=>?_⟩;cases fuel with
    | zero=>omega
    | succ fuel=>
     have e:=h1 n (by omega);simp only at e;simp only [Go.AI.whl,e];exact h2 n fuel (by omega) (by omega)
   ·refine ⟨N1,1,λ n fuel hn hf=>?_⟩;cases fuel with
    | zero=>omega
    | succ fuel=>
     have e:=h1 n hn;simp only at e;simp only [Go.AI.whl,e]
 intro k x hx;obtain ⟨N,c,hh⟩:=key k x hx;exact ⟨max N c,λ m hm=>hh m m (by omega) (by omega)⟩
end Go.AI
end
section
namespace Go.AI
theorem lr {α:Type} {x:Option α}:Le x x:=Le.refl x
theorem Re {n m} (_:n<=m) (a b):Le (HE n a b) (HE m a b):=.ite (.bind lr λ _=>.bind lr λ _=>.bind lr λ _=>lr) lr
theorem UX {n m} (h:n<=m):Le (Ls n) (Ls m):=.bind (Le.whl (λ _=>Re h _ _) h _) λ _=>lr
theorem O5 {n m} (_:n<=m) (a):Le (Ep n a) (Ep m a):=lr
theorem Uj {n m} (h:n<=m) (a b):Le (Gl n a b) (Gl m a b):=.ite (.bind lr λ _=>.bind (O5 h _) λ _=>.ite lr lr) lr
theorem JR {n m} (h:n<=m) (a):Le (GL n a) (GL m a):=.bind (Le.whl (λ _=>Uj h _ _) h _) λ b=>by rcases b with _|_;exact lr;exact lr
theorem WE {n m} (_:n<=m):Le (Ky n) (Ky m):=lr
theorem LJ {n m} (_:n<=m) (a b):Le (Im n a b) (Im m a b):=.bind (Le.ite (lr) (lr)) λ _=>lr
theorem Iv {n m} (_:n<=m) (a):Le (Ff n a) (Ff m a):=.ite lr (.ite lr (.ite lr (.ite lr lr)))
theorem Nv {n m} (h:n<=m) (a b c):Le (HN n a b c) (HN m a b c):=.ite lr (.bind lr λ _=>.bind (Le.ite (LJ h _ _) (lr)) λ _=>.ite lr (.ite (.ite lr lr) (.bind lr λ _=>.bind (Iv h _) λ _=>.bind (LJ h _ _) λ _=>.ite lr (.bind lr λ _=>.bind (Iv h _) λ _=>lr))))
theorem JS {n m} (_:n<=m) (a b c d):Le (C1 n a b c d) (C1 m a b c d):=lr
theorem JT {n m} (h:n<=m) (a b c d e f):Le (Dr n a b c d e f) (Dr m a b c d e f):=.bind lr λ _=>.bind lr λ _=>JS h _ _ _ _
theorem Qb {n m} (h:n<=m) (a b c d e f):Le (BR n a b c d e f) (BR m a b c d e f):=.ite (.bind lr λ _=>.bind (Nv h _ _ _) λ _=>.ite (JS h _ _ _ _) (.ite (.bind lr λ _=>.bind lr λ _=>JT h _ _ _ _ _ _) (JT h _ _ _ _ _ _))) lr
theorem Qc {n m} (h:n<=m) (a b c d e):Le (C2 n a b c d e) (C2 m a b c d e):=.ite (.bind (Le.whl (λ _=>Qb h _ _ _ _ _ _) h _) λ _=>lr) lr
theorem Uk {n m} (h:n<=m) (a):Le (Gm n a) (Gm m a):=.bind (WE h) λ _=>.bind (Le.whl (λ _=>Qc h _ _ _ _ _) h _) λ _=>lr
theorem OD {n m} (h:n<=m) (a):Le (Hr n a) (Hr m a):=.bind (Uk h _) λ _=>lr
theorem Nw {n m} (h:n<=m) (a b):Le (EW n a b) (EW m a b):=.bind (Le.ite (LJ h _ _) (lr)) λ _=>.bind (Le.ite (LJ h _ _) (lr)) λ _=>lr
theorem Rf {n m} (_:n<=m) (a b):Le (Ey n a b) (Ey m a b):=.bind (Le.ite (lr) (lr)) λ _=>lr
theorem KQ {n m} (h:n<=m) (a b):Le (DN n a b) (DN m a b):=.bind (Rf h _ _) λ _=>lr
theorem O6 {n m} (_:n<=m) (a b c d):Le (CE n a b c d) (CE m a b c d):=.ite (.bind lr λ _=>lr) lr
theorem I2 {n m} (_:n<=m) (a b):Le (C7 n a b) (C7 m a b):=lr
theorem O7 {n m} (h:n<=m) (a b c d e f g):Le (CF n a b c d e f g) (CF m a b c d e f g):=.ite (.bind lr λ _=>.bind (Nv h _ _ _) λ _=>.ite (.bind lr λ _=>.bind lr λ _=>I2 h _ _) (I2 h _ _)) lr
theorem O8 {n m} (h:n<=m) (a b c d e):Le (C8 n a b c d e) (C8 m a b c d e):=.ite (.bind lr λ _=>.bind (Nw h _ _) λ _=>.bind lr λ _=>.bind lr λ _=>.bind (Le.whl (λ _=>O7 h _ _ _ _ _ _ _) h _) λ _=>lr) lr
theorem Mt {n m} (h:n<=m) (a):Le (Eg n a) (Eg m a):=.bind (OD h _) λ _=>.bind (Le.whl (λ _=>O6 h _ _ _ _) h _) λ _=>.bind lr λ _=>.bind lr λ _=>.bind (Le.whl (λ _=>O8 h _ _ _ _ _) h _) λ _=>lr
theorem LK {n m} (_:n<=m) (a b c d e f):Le (B2 n a b c d e f) (B2 m a b c d e f):=.ite (.bind lr λ _=>.bind lr λ _=>.bind lr λ _=>lr) lr
theorem Ii {n m} (h:n<=m) (a b):Le (CO n a b) (CO m a b):=.bind lr λ _=>.bind lr λ _=>.bind lr λ _=>.bind (Le.whl (λ _=>LK h _ _ _ _ _ _) h _) λ _=>lr
theorem H1 {n m} (_:n<=m) (a b c d e):Le (DG n a b c d e) (DG m a b c d e):=lr
theorem Ul {n m} (_:n<=m) (a b c d e f):Le (Gn n a b c d e f) (Gn m a b c d e f):=.bind lr λ _=>.bind lr λ _=>.ite lr (.bind lr λ _=>.bind lr λ _=>.bind lr λ _=>lr)
theorem FT {n m} (_:n<=m) (a b c d e):Le (BJ n a b c d e) (BJ m a b c d e):=.bind (Le.ite (lr) (lr)) λ _=>.bind (Le.ite (lr) (lr)) λ _=>.ite lr (.bind lr λ _=>.bind lr λ _=>lr)
theorem KR {n m} (_:n<=m) (a b):Le (DO n a b) (DO m a b):=lr
theorem Rg {n m} (h:n<=m) (a b c d):Le (Di n a b c d) (Di m a b c d):=.ite (.bind lr λ _=>.ite (KR h _ _) (KR h _ _)) lr
theorem KS {n m} (_:n<=m) (a b):Le (DP n a b) (DP m a b):=lr
theorem Rh {n m} (h:n<=m) (a b c d):Le (Dj n a b c d) (Dj m a b c d):=.ite (.bind lr λ _=>.ite (.bind lr λ _=>.bind lr λ _=>KS h _ _) (KS h _ _)) lr
theorem UY {n m} (h:n<=m) (a b):Le (IP n a b) (IP m a b):=.bind (Le.whl (λ _=>Rg h _ _ _ _) h _) λ _=>.bind (Le.whl (λ _=>Rh h _ _ _ _) h _) λ _=>lr
theorem Fv {n m} (_:n<=m) (a b):Le (Bv n a b) (Bv m a b):=lr
theorem Jg {n m} (h:n<=m) (a b c d e f g i):Le (Bf n a b c d e f g i) (Bf m a b c d e f g i):=.ite (.bind lr λ _=>.bind lr λ _=>.bind (Le.ite (lr) (lr)) λ _=>.ite (.bind lr λ _=>.bind lr λ _=>Fv h _ _) (Fv h _ _)) lr
theorem Fw {n m} (_:n<=m) (a b):Le (Bw n a b) (Bw m a b):=lr
theorem Jh {n m} (h:n<=m) (a b c d e f g i j k):Le (Bg n a b c d e f g i j k) (Bg m a b c d e f g i j k):=.ite (.bind lr λ _=>.bind (Le.ite (lr) (lr)) λ _=>.bind (Le.ite (KQ h _ _) (lr)) λ _=>.ite (.bind (Ul h _ _ _ _ _ _) λ _=>.bind (FT h _ _ _ _ _) λ _=>Fw h _ _) (Fw h _ _)) lr
theorem Ji {n m} (h:n<=m) (a b c d e f g i):Le (Bh n a b c d e f g i) (Bh m a b c d e f g i):=.ite (.bind lr λ _=>.bind (Le.whl (λ _=>Jh h _ _ _ _ _ _ _ _ _ _) h _) λ _=>lr) lr
theorem CM {n m} (_:n<=m) (a b c):Le (A9 n a b c) (A9 m a b c):=lr
theorem Jj {n m} (h:n<=m) (a b c d e f g i j k):Le (Bi n a b c d e f g i j k) (Bi m a b c d e f g i j k):=.ite (.bind lr λ _=>.bind (Le.ite (lr) (lr)) λ _=>.ite (.bind (FT h _ _ _ _ _) λ _=>.ite (CM h _ _ _) (CM h _ _ _)) (.ite (CM h _ _ _) (CM h _ _ _))) lr
theorem Jk {n m} (h:n<=m) (a b c d e f g i):Le (Bj n a b c d e f g i) (Bj m a b c d e f g i):=.ite (.bind lr λ _=>.bind (Le.whl (λ _=>Jj h _ _ _ _ _ _ _ _ _ _) h _) λ _=>lr) lr
theorem Jl {n m} (h:n<=m) (a b c d e f g):Le (Bx n a b c d e f g) (Bx m a b c d e f g):=.ite (.bind (Le.whl (λ _=>Jk h _ _ _ _ _ _ _ _) h _) λ _=>lr) lr
theorem GT {n m} (h:n<=m) (a b c d e f):Le (B3 n a b c d e f) (B3 m a b c d e f):=.bind lr λ _=>.bind (Le.whl (λ _=>Jg h _ _ _ _ _ _ _ _) h _) λ _=>.bind (Le.whl (λ _=>Ji h _ _ _ _ _ _ _ _) h _) λ _=>.bind (Le.whl (λ _=>Jl h _ _ _ _ _ _ _) h _) λ _=>.bind (UY h _ _) λ _=>lr
theorem Sr {n m} (h:n<=m) (a b c d e f):Le (Fg n a b c d e f) (Fg m a b c d e f):=.ite (.bind (GT h _ _ _ _ _ _) λ _=>.bind lr λ _=>.bind lr λ _=>lr) lr
theorem LL {n m} (h:n<=m) (a b):Le (Fh n a b) (Fh m a b):=.bind (JR h _) λ _=>.ite lr (.bind (Mt h _) λ _=>.bind (Ii h _ _) λ _=>.bind (H1 h _ _ _ _ _) λ _=>.bind (Le.whl (λ _=>Sr h _ _ _ _ _ _) h _) λ _=>.bind lr λ _=>lr)
theorem Nx {n m} (_:n<=m) (a b c):Le (Cw n a b c) (Cw m a b c):=.ite (.bind lr λ _=>.ite lr lr) lr
theorem Qd {n m} (h:n<=m) (a b):Le (DZ n a b) (DZ m a b):=.ite lr (.bind (Le.whl (λ _=>Nx h _ _ _) h _) λ c=>by rcases c with _|_;exact lr;exact lr)
theorem Kg {n m} (_:n<=m) (a b c d):Le (BK n a b c d) (BK m a b c d):=.ite (.bind lr λ _=>.bind lr λ _=>.ite lr lr) lr
theorem MI {n m} (h:n<=m) (a b c):Le (CP n a b c) (CP m a b c):=.ite lr (.bind (Le.whl (λ _=>Kg h _ _ _ _) h _) λ d=>by rcases d with _|_;exact lr;exact lr)
theorem I3 {n m} (_:n<=m) (a b c):Le (C9 n a b c) (C9 m a b c):=lr
theorem O9 {n m} (h:n<=m) (a b c d e f g i j):Le (Da n a b c d e f g i j) (Da m a b c d e f g i j):=.ite (.bind lr λ _=>.bind lr λ _=>.bind (MI h _ _ _) λ _=>.ite lr (.bind lr λ _=>.bind (Le.ite (lr) (lr)) λ _=>.ite (I3 h _ _ _) (.bind lr λ _=>.bind lr λ _=>.ite lr (I3 h _ _ _)))) lr
theorem Ss {n m} (h:n<=m) (a b c d e f):Le (Fi n a b c d e f) (Fi m a b c d e f):=.bind (Le.whl (λ _=>O9 h _ _ _ _ _ _ _ _ _) h _) λ g=>by rcases g with _|_;exact lr;exact lr
theorem Ri {n m} (_:n<=m) (a b c d e f g i):Le (Dk n a b c d e f g i) (Dk m a b c d e f g i):=.ite (.bind lr λ _=>.bind lr λ _=>.bind lr λ _=>.bind lr λ _=>.bind lr λ _=>.bind lr λ _=>lr) lr
theorem KT {n m} (_:n<=m) (a b c d):Le (DQ n a b c d) (DQ m a b c d):=lr
theorem Rj {n m} (h:n<=m) (a b c d e f g i j):Le (DR n a b c d e f g i j) (DR m a b c d e f g i j):=.ite (.bind (GT h _ _ _ _ _ _) λ _=>.bind lr λ _=>.bind lr λ _=>.ite (KT h _ _ _ _) (.bind (Ss h _ _ _ _ _ _) λ _=>.ite lr (KT h _ _ _ _))) lr
theorem KU {n m} (_:n<=m) (a b c):Le (DS n a b c) (DS m a b c):=lr
theorem Rk {n m} (h:n<=m) (a b c d e f g):Le (Dl n a b c d e f g) (Dl m a b c d e f g):=.ite (.bind lr λ _=>.bind lr λ _=>.bind lr λ _=>.bind lr λ _=>.bind lr λ _=>.bind lr λ _=>.bind lr λ _=>.ite (.bind lr λ _=>.bind lr λ _=>.bind lr λ _=>KU h _ _ _) (KU h _ _ _)) lr
theorem Kh {n m} (h:n<=m) (a b c):Le (Eh n a b c) (Eh m a b c):=.ite lr (.bind lr λ _=>.bind lr λ _=>.bind lr λ _=>.bind lr λ _=>.bind (JR h _) λ _=>.ite lr (.bind (Mt h _) λ _=>.bind (Qd h _ _) λ _=>.ite lr (.bind (Ii h _ _) λ _=>.bind (Le.whl (λ _=>Ri h _ _ _ _ _ _ _ _) h _) λ _=>.bind (H1 h _ _ _ _ _) λ _=>.bind (Le.whl (λ _=>Rj h _ _ _ _ _ _ _ _ _) h _) λ _=>.bind (Le.whl (λ _=>Rk h _ _ _ _ _ _ _) h _) λ _=>.bind lr λ _=>lr)))
theorem Pa {n m} (h:n<=m) (a b):Le (Dy n a b) (Dy m a b):=.ite (.bind lr λ _=>.bind (Iv h _) λ _=>.ite lr lr) lr
theorem Su {n m} (h:n<=m) (a):Le (Fj n a) (Fj m a):=.bind (Le.whl (λ _=>Pa h _ _) h _) λ b=>by rcases b with _|_;exact lr;exact lr
theorem WF {n m} (_:n<=m) (a):Le (Kz n a) (Kz m a):=lr
theorem Sv {n m} (h:n<=m) (a b):Le (Fk n a b) (Fk m a b):=.ite (.bind lr λ _=>.bind (WF h _) λ _=>.ite lr lr) lr
theorem WG {n m} (h:n<=m) (a b):Le (Iz n a b) (Iz m a b):=.ite lr (.bind (JR h _) λ _=>.ite lr (.ite lr (.ite lr (.bind (Su h _) λ _=>.ite (.bind (Le.ite (lr) (lr)) λ _=>lr) (.bind (Le.whl (λ _=>Sv h _ _) h _) λ c=>by rcases c with _|_;exact lr;exact lr)))))
theorem Sw {n m} (_:n<=m) (a b c):Le (Fl n a b c) (Fl m a b c):=.ite (.bind lr λ _=>.bind lr λ _=>.ite lr lr) lr
theorem WH {n m} (h:n<=m) (a b):Le (IA n a b) (IA m a b):=.ite lr (.bind (Le.whl (λ _=>Sw h _ _ _) h _) λ c=>by rcases c with _|_;exact lr;exact lr)
theorem WI {n m} (h:n<=m) (a b):Le (IB n a b) (IB m a b):=.bind (Le.ite (WH h _ _) (lr)) λ _=>lr
theorem Sx {n m} (h:n<=m) (a b c d e):Le (Ei n a b c d e) (Ei m a b c d e):=.ite (.bind lr λ _=>.bind (WI h _ _) λ _=>.ite lr lr) lr
theorem Sy {n m} (h:n<=m) (a b):Le (Ej n a b) (Ej m a b):=.ite (.bind lr λ _=>.bind (WG h _ _) λ _=>.ite lr (.bind lr λ _=>.bind (Le.whl (λ _=>Sx h _ _ _ _ _) h _) λ c=>by rcases c with _|_;exact lr;exact lr)) lr
theorem WJ {n m} (h:n<=m) (a):Le (IC n a) (IC m a):=.ite lr (.bind (Le.ite (lr) (lr)) λ _=>.ite lr (.ite lr (.bind (Le.whl (λ _=>Sy h _ _) h _) λ b=>by rcases b with _|_;exact lr;exact lr)))
theorem WK {n m} (h:n<=m) (a):Le (Hs n a) (Hs m a):=.bind (WJ h _) λ _=>lr
theorem JU {n m} (_:n<=m) (a):Le (D0 n a) (D0 m a):=lr
theorem Rl {n m} (h:n<=m) (a b):Le (Ez n a b) (Ez m a b):=.bind (JU h _) λ _=>.bind (Le.ite (JU h _) (lr)) λ _=>lr
theorem KW {n m} (_:n<=m) (a):Le (FF n a) (FF m a):=lr
theorem Hx {n m} (h:n<=m) (a b c d):Le (Bl n a b c d) (Bl m a b c d):=.ite (.bind lr λ _=>.bind (Rl h _ _) λ _=>.ite lr lr) lr
theorem Iw {n m} (h:n<=m) (a b):Le (BC n a b) (BC m a b):=.bind (Le.whl (λ _=>Hx h _ _ _ _) h _) λ _=>.bind (Le.ite (lr) (lr)) λ _=>.bind (Le.ite (lr) (lr)) λ _=>.bind (Le.ite (KW h _) (lr)) λ _=>.bind (Le.ite (KW h _) (lr)) λ _=>lr
theorem Gb {n m} (h:n<=m) (a b):Le (BT n a b) (BT m a b):=.bind (Iw h _ _) λ _=>.ite lr (.bind lr λ _=>lr)
theorem N7 {n m} (_:n<=m) (a b c d e f):Le (Cn n a b c d e f) (Cn m a b c d e f):=.ite (.bind lr λ _=>lr) lr
theorem Ij {n m} (_:n<=m) (a b):Le (CQ n a b) (CQ m a b):=lr
theorem N8 {n m} (h:n<=m) (a b c d e f g):Le (Co n a b c d e f g) (Co m a b c d e f g):=.ite (.bind (Nv h _ _ _) λ _=>.ite (.bind lr λ _=>.bind lr λ _=>Ij h _ _) (Ij h _ _)) lr
theorem N9 {n m} (h:n<=m) (a b c d e):Le (CS n a b c d e) (CS m a b c d e):=.ite (.bind lr λ _=>.bind (Le.whl (λ _=>N8 h _ _ _ _ _ _ _) h _) λ _=>lr) lr
theorem Rm {n m} (h:n<=m) (a b):Le (EA n a b) (EA m a b):=.bind (OD h _) λ _=>.bind lr λ _=>.bind (Le.whl (λ _=>N7 h _ _ _ _ _ _) h _) λ _=>.bind lr λ _=>.bind (Le.whl (λ _=>N9 h _ _ _ _ _) h _) λ _=>lr
theorem Hd {n m} (_:n<=m) (a b c d):Le (Ck n a b c d) (Ck m a b c d):=.bind lr λ _=>.bind lr λ _=>.bind lr λ _=>.ite (.bind lr λ _=>.bind lr λ _=>.bind lr λ _=>.bind lr λ _=>lr) lr
theorem EJ {n m} (h:n<=m) (a b c):Le (BS n a b c) (BS m a b c):=.bind lr λ _=>.bind lr λ _=>.bind (KQ h _ _) λ _=>lr
theorem Jez {n m} (_:n<=m) (a):Le (Vz n a) (Vz m a):=lr
theorem LM {n m} (_:n<=m) (a b c):Le (B4 n a b c) (B4 m a b c):=.ite (.bind lr λ _=>.bind lr λ _=>.bind lr λ _=>lr) lr
theorem GU {n m} (_:n<=m) (a b c):Le (B5 n a b c) (B5 m a b c):=lr
theorem LO {n m} (h:n<=m) (a b c d e f g i):Le (BD n a b c d e f g i) (BD m a b c d e f g i):=.ite (.bind lr λ _=>.bind (EJ h _ _ _) λ _=>.ite (.bind (Hd h _ _ _ _) λ _=>GU h _ _ _) (GU h _ _ _)) lr
theorem GV {n m} (h:n<=m) (a b c d e f g):Le (B6 n a b c d e f g) (B6 m a b c d e f g):=.bind lr λ _=>.bind (Le.whl (λ _=>LO h _ _ _ _ _ _ _ _) h _) λ _=>lr
theorem LP {n m} (h:n<=m) (a b c d e f):Le (B7 n a b c d e f) (B7 m a b c d e f):=.bind lr λ _=>.ite (.bind lr λ _=>.bind lr λ _=>.bind lr λ _=>.bind lr λ _=>.ite (GV h _ _ _ _ _ _ _) (GV h _ _ _ _ _ _ _)) lr
theorem GW {n m} (h:n<=m) (a b c d e):Le (BE n a b c d e) (BE m a b c d e):=.bind (Le.whl (λ _=>LP h _ _ _ _ _ _) h _) λ _=>.bind lr λ _=>.bind (Jez h _) λ _=>.bind lr λ _=>.bind lr λ _=>.bind lr λ _=>lr
theorem LQ {n m} (h:n<=m) (a b c d):Le (B8 n a b c d) (B8 m a b c d):=.ite (.ite (.bind lr λ _=>.bind (Iv h _) λ _=>GW h _ _ _ _ _) (GW h _ _ _ _ _)) lr
theorem Oa {n m} (h:n<=m) (a):Le (Dn n a) (Dn m a):=.bind (Le.whl (λ _=>LM h _ _ _) h _) λ _=>.bind (Hd h _ _ _ _) λ _=>.bind (Le.whl (λ _=>LQ h _ _ _ _) h _) λ _=>lr
theorem DU {n m} (_:n<=m) (a b c):Le (Bp n a b c) (Bp m a b c):=lr
theorem Ki {n m} (h:n<=m) (a b c d e f g i):Le (Bq n a b c d e f g i) (Bq m a b c d e f g i):=.ite (.bind lr λ _=>.bind (EJ h _ _ _) λ _=>.ite (DU h _ _ _) (.bind lr λ _=>.bind (Gb h _ _) λ _=>.bind lr λ _=>.bind lr λ _=>.bind (Le.ite (lr) (lr)) λ _=>.bind (Le.ite (lr) (lr)) λ _=>.ite (.bind lr λ _=>.bind lr λ _=>.bind lr λ _=>DU h _ _ _) (DU h _ _ _))) lr
theorem He {n m} (h:n<=m) (a b c d e):Le (Cl n a b c d e) (Cl m a b c d e):=.bind lr λ _=>.bind lr λ _=>.bind lr λ _=>.bind (Le.whl (λ _=>Ki h _ _ _ _ _ _ _ _) h _) λ _=>lr
theorem GX {n m} (_:n<=m) (a b):Le (B9 n a b) (B9 m a b):=lr
theorem LR {n m} (h:n<=m) (a b c d e f g):Le (BF n a b c d e f g) (BF m a b c d e f g):=.ite (.bind lr λ _=>.bind lr λ _=>.bind lr λ _=>.bind lr λ _=>.bind (Le.ite (lr) (lr)) λ _=>.bind (Le.ite (Nw h _ _) (lr)) λ _=>.ite (.bind lr λ _=>.bind lr λ _=>GX h _ _) (GX h _ _)) lr
theorem LS {n m} (h:n<=m) (a b c d):Le (BG n a b c d) (BG m a b c d):=.ite (.bind (He h _ _ _ _ _) λ _=>lr) lr
theorem LT {n m} (h:n<=m) (a b c d e):Le (BH n a b c d e) (BH m a b c d e):=.ite (.bind (He h _ _ _ _ _) λ _=>lr) lr
theorem LU {n m} (h:n<=m) (a b):Le (Ca n a b) (Ca m a b):=.bind lr λ _=>.bind (Le.whl (λ _=>LT h _ _ _ _ _) h _) λ _=>.ite lr lr
theorem LV {n m} (h:n<=m) (a b):Le (CA n a b) (CA m a b):=.ite (.bind lr λ _=>.bind lr λ _=>.bind lr λ _=>.bind lr λ _=>.bind (Le.whl (λ _=>LR h _ _ _ _ _ _ _) h _) λ _=>.bind lr λ _=>.bind (Le.whl (λ _=>LS h _ _ _ _) h _) λ _=>.bind (Le.whl (λ _=>LU h _ _) h _) λ _=>lr) lr
theorem Oc {n m} (h:n<=m) (a):Le (Do n a) (Do m a):=.bind (Le.whl (λ _=>LV h _ _) h _) λ _=>lr
theorem Fx {n m} (_:n<=m) (a):Le (By n a) (By m a):=lr
theorem Jm {n m} (h:n<=m) (a b c d e f):Le (Bz n a b c d e f) (Bz m a b c d e f):=.ite (.bind lr λ _=>.bind (EJ h _ _ _) λ _=>.ite (Fx h _) (.bind lr λ _=>.bind lr λ _=>.bind (Gb h _ _) λ _=>.ite (Fx h _) (.bind lr λ _=>.bind lr λ _=>lr))) lr
theorem Jn {n m} (h:n<=m) (a b c d e):Le (BX n a b c d e) (BX m a b c d e):=.ite (.bind lr λ _=>.bind (Le.whl (λ _=>Jm h _ _ _ _ _ _) h _) λ f=>by rcases f with _|_;exact lr;exact lr) lr
theorem LW {n m} (h:n<=m) (a):Le (CB n a) (CB m a):=.bind lr λ _=>.bind (Gb h _ _) λ _=>.bind (Le.whl (λ _=>Jn h _ _ _ _ _) h _) λ _=>lr
theorem WL {n m} (h:n<=m) (a b):Le (ID n a b) (ID m a b):=.bind (JR h _) λ _=>.ite lr (.bind (WK h _) λ _=>.ite lr (.bind (Rm h _ _) λ _=>.bind (Oa h _) λ _=>.bind (Oc h _) λ _=>.bind lr λ _=>.bind lr λ _=>.ite lr (.bind (LW h _) λ _=>lr)))
theorem OE {n m} (h:n<=m) (a b):Le (EX n a b) (EX m a b):=.bind (WL h _ _) λ _=>.ite lr lr
theorem Um {n m} (_:n<=m) (a b c):Le (Gp n a b c) (Gp m a b c):=.ite (.bind lr λ _=>.bind lr λ _=>.ite lr lr) lr
theorem JV {n m} (h:n<=m) (a b):Le (EY n a b) (EY m a b):=.ite lr (.bind (Le.whl (λ _=>Um h _ _ _) h _) λ c=>by rcases c with _|_;exact lr;exact lr)
theorem Od {n m} (_:n<=m) (a b c):Le (Dp n a b c) (Dp m a b c):=.ite (.bind lr λ _=>.bind lr λ _=>.ite lr lr) lr
theorem Rn {n m} (h:n<=m) (a b):Le (DT n a b) (DT m a b):=.ite lr (.bind (Le.whl (λ _=>Od h _ _ _) h _) λ c=>by rcases c with _|_;exact lr;exact lr)
theorem Yj {n m} (h:n<=m) (a b):Le (IQ n a b) (IQ m a b):=.bind (Rn h _ _) λ _=>.bind (Le.ite (JV h _ _) (lr)) λ _=>lr
theorem UZ {n m} (h:n<=m):Le (IR n) (IR m):=.bind (UX h) λ _=>.bind (LL h _ _) λ _=>.bind (LL h _ _) λ _=>.bind (Kh h _ _ _) λ _=>.bind (Kh h _ _ _) λ _=>.bind (Kh h _ _ _) λ _=>.bind (OE h _ _) λ _=>.bind (LL h _ _) λ _=>.bind (OE h _ _) λ _=>.bind (Le.ite (JV h _ _) (lr)) λ _=>.bind (Le.ite (JV h _ _) (lr)) λ _=>.bind (Le.ite (Yj h _ _) (lr)) λ _=>.bind (Le.ite (JV h _ _) (lr)) λ _=>lr
end Go.AI
end
section
namespace Go.AI
theorem Zq (a:Int):IntKind.i64.wrap a=if decide (a % 18446744073709551616>=9223372036854775808)=true then a % 18446744073709551616-18446744073709551616 else a % 18446744073709551616:=rfl
theorem VA (a:Int):IntKind.u8.wrap a=a % 256:=rfl
theorem Un {a:Int} (h:-9223372036854775808<=a) (h':a<9223372036854775808):IntKind.i64.wrap a=a:=by
 rw [Zq];split
 ·rename_i hc;simp at hc;omega
 ·rename_i hc;simp at hc;omega
theorem Ro {a b:Int} (h:-9223372036854775808<=a+b) (h':a+b<9223372036854775808):An .i64 a b=a+b:=Un h h'
theorem JeA {a b:Int} (h:-9223372036854775808<=a-b) (h':a-b<9223372036854775808):DL .i64 a b=a-b:=Un h h'
theorem Jmg {a:Int} (h:0<=a) (h':a<256):IntKind.u8.wrap a=a:=by
 rw [VA];omega
theorem Yk (a:Int):0<=IntKind.u8.wrap a/\IntKind.u8.wrap a<256:=by
 rw [VA];omega
def Hy (m k:Int):Bool:=decide (0<=k)&&decide (k<8)&&(CW .u8 (Tt .u8 m k) 1==1)
theorem JeB (n:Nat) (m k:Int):Im n m k=some (Hy m k):=by
 unfold Im Hy;by_cases h:0<=k
 ·by_cases h':k<8<;>simp [h,h',Bu]
 ·simp [h]
theorem Zr (n:Nat) (m k:Int):Jy n m k=some (Hy m k):=by
 unfold Jy Hy;by_cases h:0<=k
 ·by_cases h':k<8<;>simp [h,h',Bu]
 ·simp [h]
def GY (b:Int):Int:=
 if (decide (97<=CW .u8 b 127)&&decide (CW .u8 b 127<=122))=true then 1
 else if (decide (65<=CW .u8 b 127)&&decide (CW .u8 b 127<=90))=true then 2
 else if (decide (48<=CW .u8 b 127)&&decide (CW .u8 b 127<=57))=true then 3
 else if (CW .u8 b 127==32)=true then 4 else 5
theorem Uo (n:Nat) (b:Int):Ff n b=some (GY b):=by
 unfold Ff GY;split
 ·rfl
 ·split
  ·rfl
  ·split
   ·rfl
   ·split<;>rfl
theorem VB (n:Nat) (b:Int):IE n b=some (GY b):=by
 unfold IE GY;simp only [ge_iff_le];split
 ·rfl
 ·split
  ·rfl
  ·split
   ·rfl
   ·split<;>rfl
theorem RY (b:Int):1<=GY b/\GY b<=5:=by
 unfold GY;split
 ·omega
 ·split
  ·omega
  ·split
   ·omega
   ·split<;>omega
def RZ (s:List UInt8) (i:Nat):Int:=(s[i]?.getD 0).toNat
theorem LX {s:List UInt8} {i:Nat} (h:i<s.length):NW s (i:Int)=some (RZ s i):=by
 unfold NW RZ;rw [if_pos (by omega)];simp
def Z8:Ab:=⟨0,0,0⟩
def Z9 (r:AC) (s:Ab):Ab×Bool:=
 if ((r.From != s.Mode)||!Hy r.Left s.Last)=true then (Z8,false)
 else if (r.Print==[])=true then
  (if (CW .u8 s.Need r.Right==0)=true then (Z8,false) else (⟨r.To,s.Last,CW .u8 s.Need r.Right⟩,true))
 else if (!Hy s.Need (GY (RZ r.Print 0)))=true then (Z8,false)
 else (⟨r.To,GY (RZ r.Print (r.Print.length-1)),r.Right⟩,true)
def Au (t:Ad) (s:Ab) (k:Int):Ab×Bool:=
 if (decide (k<0)||decide (k>=(t.Rules.length:Int)))=true then (Z8,false) else Z9 (t.Rules[k.toNat]?.getD default) s
def JeC (t:Ad):Prop:=∀ r∈t.Rules,r.Print.length<9223372036854775808
theorem Up {α:Type} [Inhabited α] {l:List α} {k:Int} (h:0<=k) (h':k<l.length):idx l k=some (l[k.toNat]?.getD default):=by
 unfold idx;rw [if_pos h];have:k.toNat<l.length:=by omega
 simp [this]
theorem Qe {t:Ad} (ht:JeC t) (n:Nat) (s:Ab) (k:Int):HN n t s k=some (Au t s k):=by
 unfold HN Au;by_cases hk:(decide (k<0)||decide (k>=(t.Rules.length:Int)))=true
 ·rw [if_pos hk,if_pos hk];rfl
 ·rw [if_neg hk,if_neg hk];simp only [JnR,decide_eq_true_eq,not_or,Int.not_lt,ge_iff_le,Int.not_le] at hk;rw [Up hk.1 hk.2];have hmem:(t.Rules[k.toNat]?.getD default)∈t.Rules:=by
   have:k.toNat<t.Rules.length:=by omega
   simp [this]
  have hlen:=ht _ hmem;generalize t.Rules[k.toNat]?.getD default=r at hlen ⊢;simp only [Jm9,JeB,Uo];unfold Z9;by_cases h1:r.From=s.Mode
  ·simp only [h1,bne_self_eq_false,Bool.not_false,if_true,Jm9,Bool.false_or];by_cases h2:Hy r.Left s.Last=true
   ·simp only [h2,Jng,JnK,if_false];by_cases h3:r.Print=[]
    ·simp only [h3,beq_self_eq_true,if_true];split<;>rfl
    ·have h3':(r.Print==[])=false:=by simpa using h3
     have hpos:0<r.Print.length:=List.length_pos_iff.2 h3;simp only [h3',JnK,if_false];have e0:=LX (s:=r.Print) (i:=0) hpos;simp only [Int.natCast_zero] at e0;rw [e0];have e1:DL .i64 ((r.Print.length:Nat):Int) 1=((r.Print.length-1:Nat):Int):=by rw [JeA (by omega) (by omega)];omega
     rw [e1,LX (by omega)];simp only [Jm9];split<;>rfl
   ·have h2:Hy r.Left s.Last=false:=by simpa using h2
    simp only [h2,Bool.not_false,if_true];rfl
  ·have h1':(r.From != s.Mode)=true:=by simpa using h1
   simp only [h1',Jng,JnK,if_false,Jm9,Bool.true_or,if_true];rfl
end Go.AI
end
section
namespace Go.AI
theorem Aj {α:Type} {l:List α} {i:Nat} {x:α} (h:l[i]? = some x):i<l.length:=(List.getElem?_eq_some_iff.1 h).1
theorem Qf {t:Ad} (ht:JeC t) (n:Nat) (s:Ab) (k:Int):IS n t s k=some (Au t s k):=by
 unfold IS Au;by_cases hk:(decide (k<0)||decide (k>=(t.Rules.length:Int)))=true
 ·rw [if_pos hk,if_pos hk];rfl
 ·rw [if_neg hk,if_neg hk];simp only [JnR,decide_eq_true_eq,not_or,Int.not_lt,ge_iff_le,Int.not_le] at hk;rw [Up hk.1 hk.2];have hmem:(t.Rules[k.toNat]?.getD default)∈t.Rules:=by
   have:k.toNat<t.Rules.length:=by omega
   simp [this]
  have hlen:=ht _ hmem;generalize t.Rules[k.toNat]?.getD default=r at hlen ⊢;simp only [Jm9,Zr,VB];unfold Z9;by_cases h1:r.From=s.Mode
  ·simp only [h1,bne_self_eq_false,Bool.not_false,if_true,Jm9,Bool.false_or];by_cases h2:Hy r.Left s.Last=true
   ·simp only [h2,Jng,JnK,if_false];by_cases h3:r.Print=[]
    ·simp only [h3,List.length_nil,Int.natCast_zero,beq_self_eq_true,Bool.true_and,if_true];split<;>rfl
    ·have h3':(r.Print==[])=false:=by simpa using h3
     have hpos:0<r.Print.length:=List.length_pos_iff.2 h3;have h4:(((r.Print.length:Nat):Int)==0)=false:=by simp;omega
     simp only [h3',h4,Bool.false_and,JnK,if_false];have e0:=LX (s:=r.Print) (i:=0) hpos;simp only [Int.natCast_zero] at e0;rw [e0];have e1:DL .i64 ((r.Print.length:Nat):Int) 1=((r.Print.length-1:Nat):Int):=by rw [JeA (by omega) (by omega)];omega
     rw [e1,LX (by omega)];simp only [Jm9];split<;>rfl
   ·have h2:Hy r.Left s.Last=false:=by simpa using h2
    simp only [h2,Bool.not_false,if_true];rfl
  ·have h1':(r.From != s.Mode)=true:=by simpa using h1
   simp only [h1',Jng,JnK,if_false,Jm9,Bool.true_or,if_true];rfl
def Cy (t:Ad) (s:Ab):Bool:=decide (s.Mode<t.Modes)&&Hy t.Accept s.Mode&&Hy s.Need 0
theorem Uq (n:Nat) (t:Ad) (s:Ab):EW n t s=some (Cy t s):=by
 unfold EW Cy;simp only [JeB];by_cases h1:s.Mode<t.Modes
 ·cases h2:Hy t.Accept s.Mode<;>simp [h1]
 ·simp [h1]
theorem Yl (n:Nat) (t:Ad) (s:Ab):Jz n t s=some (Cy t s):=by
 unfold Jz Cy;simp only [Zr];have h0:¬ (0<=s.Mode)->Hy t.Accept s.Mode=false:=λ h=>by simp [Hy,h]
 by_cases h:0<=s.Mode
 ·by_cases h1:s.Mode<t.Modes
  ·cases h2:Hy t.Accept s.Mode<;>simp [h,h1]
  ·simp [h1]
 ·simp [h,h0 h]
theorem eqS (a b:Ab):((a.Mode==b.Mode)&&((a.Last==b.Last)&&((a.Need==b.Need)&&true)))=decide (a=b):=by
 cases a;cases b;simp [Bool.decide_and];rfl
def BY (l:List Ab) (s:Ab):Int:=match l.findIdx? (λ x=>decide (x=s)) with
 | some i=>i
 | none=>-1
theorem KX {l:List Ab} {s:Ab} (hl:l.length<9223372036854775807):Ev (λ n=>Gv n l s) (BY l s):=by
 have loop:Ev (λ n=>whl (λ x=>El n l s x) n (0:Int)) (match l.findIdx? (λ x=>decide (x=s)) with|some i=>(.inr (i:Int):Unit⊕Int)|none=>.inl ()):=by
  refine Ev.whl (body:=λ n x=>El n l s x) (λ k x=>∃ i:Nat,x=i/\i<=l.length/\k=l.length-i/\∀ j,j<i->∀ y,l[j]? = some y->y≠s) ?_ l.length 0 ⟨0,rfl,by omega,by omega,λ j hj=>by omega⟩;rintro k x ⟨i,rfl,hi,rfl,hbefore⟩;by_cases hlt:i<l.length
  ·have hg:l[i]? = some l[i]:=Jnx hlt;have hidx:idx l (i:Int)=some l[i]:=by
    unfold idx;rw [if_pos (by omega)];simp
   by_cases he:l[i]=s
   ·right;refine Ev.all λ n=>?_;unfold El;rw [if_pos (by simpa using hlt),hidx];simp only [Jm9,eqS,he,decide_true,if_true];have:l.findIdx? (λ x=>decide (x=s))=some i:=by
     rw [List.findIdx?_eq_some_iff_getElem];refine ⟨hlt,by simpa using he,λ j hj=>?_⟩;have hj':j<l.length:=by omega
     have:=hbefore j hj l[j] (Jnx hj');simpa using this
    rw [this]
   ·left;refine ⟨((i+1:Nat):Int),l.length-(i+1),by omega,⟨i+1,rfl,by omega,rfl,λ j hj y hy=>?_⟩,Ev.all λ n=>?_⟩
    ·by_cases hji:j=i
     ·subst hji;rw [hg] at hy;cases hy;exact he
     ·exact hbefore j (by omega) y hy
    ·unfold El;rw [if_pos (by simpa using hlt),hidx];simp only [Jm9,eqS,he,decide_false,JnK,if_false];rw [Ro (by omega) (by omega)];rfl
  ·right;have hi':i=l.length:=by omega
   subst hi';refine Ev.all λ n=>?_;unfold El;rw [if_neg (by simp)];have:l.findIdx? (λ x=>decide (x=s))=none:=by
    rw [List.findIdx?_eq_none_iff];intro y hy;obtain ⟨j,hj⟩:=List.mem_iff_getElem?.1 hy;have:=hbefore j (Aj hj) y hj;simpa using this
   rw [this]
 refine (Ev.bind loop (g:=λ _ y=>match y with|Sum.inl _=>some (-1)|Sum.inr z=>some z) (z:=BY l s) ?_).congr λ n=>?_
 ·unfold BY;cases l.findIdx? (λ x=>decide (x=s)) with
  | none=>exact Ev.const
  | some i=>exact Ev.const
 ·rfl
end Go.AI
end
section
namespace Go.AI
theorem Zs (a b:Int) (h:0<=b) (h':b<256):0<=CW .u8 a b/\CW .u8 a b<=b:=by
 unfold CW;have hb:(BitVec.ofInt 8 b).toNat=b.toNat:=by
  rw [BitVec.toNat_ofInt];omega
 have hle:(BitVec.ofInt 8 a &&& BitVec.ofInt 8 b).toNat<=b.toNat:=by
  rw [BitVec.toNat_and,hb];exact Nat.and_le_right
 have e:(BitVec.ofInt IntKind.u8.bits a &&& BitVec.ofInt IntKind.u8.bits b).toNat=(BitVec.ofInt 8 a &&& BitVec.ofInt 8 b).toNat:=rfl;rw [e,Jmg (by omega) (by omega)];omega
def Pb (r:AC):Prop:=0<=r.To/\r.To<2/\0<=r.Right/\r.Right<=63/\r.Print.length<=3
def I4 (t:Ad):Prop:=t.Rules.length<=11/\∀ r∈t.Rules,Pb r
theorem I4.short {t:Ad} (h:I4 t):JeC t:=λ r hr=>by have:=(h.2 r hr).2.2.2.2;omega
def InU (s:Ab):Prop:=0<=s.Mode/\s.Mode<2/\0<=s.Last/\s.Last<=5/\0<=s.Need/\s.Need<=63
def JkD:List Ab:=(List.range 768).map λ i=>⟨(i / 384:Nat),(i / 64 % 6:Nat),(i % 64:Nat)⟩
theorem JeD {s:Ab} (h:InU s):s∈JkD:=by
 obtain ⟨h1,h2,h3,h4,h5,h6⟩:=h;obtain ⟨m,l,d⟩:=s;simp only at h1 h2 h3 h4 h5 h6;simp only [JkD,Jno,List.mem_range];refine ⟨m.toNat*384+l.toNat*64+d.toNat,by omega,?_⟩;have e1:(m.toNat*384+l.toNat*64+d.toNat) / 384=m.toNat:=by omega
 have e2:(m.toNat*384+l.toNat*64+d.toNat) / 64 % 6=l.toNat:=by omega
 have e3:(m.toNat*384+l.toNat*64+d.toNat) % 64=d.toNat:=by omega
 rw [e1,e2,e3];congr 1<;>omega
theorem JeE {l m:List Ab} (h:l.Nodup) (hs:∀ x∈l,x∈m):l.length<=m.length:=by
 induction l generalizing m with
 | nil=>simp
 | cons a l ih=>
  rw [List.nodup_cons] at h;have ha:=hs a (by simp);have hlen:(m.erase a).length=m.length-1:=List.length_erase_of_mem ha;have hpos:0<m.length:=List.length_pos_of_mem ha;have:=ih (m:=m.erase a) h.2 λ x hx=>by
   have hne:x≠a:=λ e=>h.1 (e▸hx);exact (List.mem_erase_of_ne hne).2 (hs x (by simp [hx]))
  simp;omega
theorem JeF {l:List Ab} (h:l.Nodup) (hs:∀ x∈l,InU x):l.length<=768:=by
 have:=JeE h λ x hx=>JeD (hs x hx);simpa [JkD] using this
theorem JeG {t:Ad} (ht:I4 t) {s:Ab} (hs:InU s) {k:Int} (h:(Au t s k).2=true):InU (Au t s k).1:=by
 unfold Au at h ⊢;split at h
 ·cases h
 ·rename_i hk;rw [if_neg hk];simp only [JnR,decide_eq_true_eq,not_or,Int.not_lt,ge_iff_le,Int.not_le] at hk;have hmem:(t.Rules[k.toNat]?.getD default)∈t.Rules:=by
   have:k.toNat<t.Rules.length:=by omega
   simp [this]
  have hr:=ht.2 _ hmem;generalize t.Rules[k.toNat]?.getD default=r at hr h ⊢;obtain ⟨a1,a2,a3,a4,a5⟩:=hr;obtain ⟨b1,b2,b3,b4,b5,b6⟩:=hs;unfold Z9 at h ⊢;split at h
  ·cases h
  ·rename_i h1;rw [if_neg h1];split at h
   ·rename_i h2;rw [if_pos h2];split at h
    ·cases h
    ·rename_i h3;rw [if_neg h3];have:=Zs s.Need r.Right a3 (by omega);exact ⟨a1,a2,b3,b4,this.1,by show CW .u8 s.Need r.Right<=63;omega⟩
   ·rename_i h2;rw [if_neg h2];split at h
    ·cases h
    ·rename_i h3;rw [if_neg h3];have:=RY (RZ r.Print (r.Print.length-1));exact ⟨a1,a2,by show 0<=GY _;omega,by show GY _<=5;omega,a3,a4⟩
def A6:Ab:=⟨0,0,63⟩
def LY (t:Ad) (s:Ab) (st:List Ab) (k:Nat):List Ab:=if (Au t s k).2=true/\(Au t s k).1 ∉ st then st++[(Au t s k).1] else st
def KY (t:Ad) (s:Ab) (m:Nat) (st:List Ab):List Ab:=(List.range m).foldl (LY t s) st
theorem KZ (t:Ad) (s:Ab) (m:Nat) (st:List Ab):KY t s (m+1) st=LY t s (KY t s m st) m:=by
 simp [KY,List.range_succ]
def Ur (t:Ad):Nat->Nat->List Ab->List Ab
 | 0,_,st=>st
 | f+1,i,st=>match st[i]? with
  | some s=>Ur t f (i+1) (KY t s t.Rules.length st)
  | none=>st
def Aa (t:Ad):List Ab:=Ur t 800 0 [A6]
structure Hf (t:Ad) (st:List Ab):Prop where
 nodup:st.Nodup
 inU:∀ s∈st,InU s
 first:st[0]? = some A6
 origin:∀ (j:Nat) (s:Ab),st[j]? = some s->0<j->∃ (i:Nat) (s':Ab) (k:Nat),i<j/\st[i]? = some s'/\k<t.Rules.length/\Au t s' k=(s,true)
theorem Hf.len {t:Ad} {st:List Ab} (h:Hf t st):st.length<=768:=JeF h.nodup h.inU
theorem Hf.add {t:Ad} (ht:I4 t) {st:List Ab} (h:Hf t st) {i:Nat} {s:Ab} (hi:st[i]? = some s) {k:Nat} (hk:k<t.Rules.length):Hf t (LY t s st k):=by
 unfold LY;split
 ·rename_i hc;have hil:=Aj hi;refine ⟨?_,λ x hx=>?_,?_,λ j x hj h0=>?_⟩
  ·rw [List.nodup_append];refine ⟨h.nodup,by simp,λ a ha b hb=>?_⟩;simp at hb;subst hb;exact λ e=>hc.2 (e▸ha)
  ·simp only [List.mem_append,List.mem_singleton] at hx;rcases hx with hx|rfl
   ·exact h.inU x hx
   ·exact JeG ht (h.inU s (Jnz hi)) hc.1
  ·rw [JnF (by omega)];exact h.first
  ·rcases Jnk j st.length with hlt|hge
   ·rw [JnF hlt] at hj;obtain ⟨i',s',k',a1,a2,a3,a4⟩:=h.origin j x hj h0;exact ⟨i',s',k',a1,by rw [JnF (by omega)];exact a2,a3,a4⟩
   ·rw [JnQ hge] at hj;have:j-st.length=0:=by have:=Aj hj;simp at this;omega
    rw [this] at hj;simp at hj;subst hj;refine ⟨i,s,k,by omega,by rw [JnF hil];exact hi,hk,?_⟩;exact Prod.ext rfl hc.1
 ·exact h
theorem Ym (t:Ad) (s:Ab) (st:List Ab) (k:Nat):st <+: LY t s st k:=by
 unfold LY;split
 ·exact List.prefix_append _ _
 ·exact List.prefix_refl _
theorem H2 (t:Ad) (s:Ab) (st:List Ab):∀ m,st <+: KY t s m st:=by
 intro m;induction m with
 | zero=>exact List.prefix_refl _
 | succ m ih=>rw [KZ];exact ih.trans (Ym _ _ _ _)
theorem NM {α:Type} {l m:List α} (h:l <+: m) {i:Nat} {x:α} (hi:l[i]? = some x):m[i]? = some x:=by
 obtain ⟨r,rfl⟩:=h;rw [JnF (Aj hi)];exact hi
theorem Hf.exp {t:Ad} (ht:I4 t) {st:List Ab} (h:Hf t st) {i:Nat} {s:Ab} (hi:st[i]? = some s):∀ m,m<=t.Rules.length->Hf t (KY t s m st):=by
 intro m;induction m with
 | zero=>intro _;exact h
 | succ m ih=>
  intro hm;rw [KZ];exact (ih (by omega)).add ht (NM (H2 t s st m) hi) (by omega)
theorem JeH (t:Ad) (s:Ab) (st:List Ab):∀ m k:Nat,k<m->(Au t s k).2=true->(Au t s k).1∈KY t s m st:=by
 intro m;induction m with
 | zero=>intro k hk;omega
 | succ m ih=>
  intro k hk h;rw [KZ];by_cases e:k=m
  ·subst e;unfold LY;by_cases hc:(Au t s k).1∈KY t s k st
   ·rw [if_neg (λ hh=>hh.2 hc)];exact hc
   ·rw [if_pos ⟨h,hc⟩];simp
  ·exact (Ym t s _ m).subset (ih k (by omega) h)
def JkE (t:Ad) (i:Nat) (st:List Ab):Prop:=∀ (j:Nat) (s:Ab),j<i->st[j]? = some s->∀ k:Nat,k<t.Rules.length->(Au t s k).2=true->(Au t s k).1∈st
theorem JkF {t:Ad} (ht:I4 t):∀ (f i:Nat) (st:List Ab),Hf t st->JkE t i st->768<f+i->Hf t (Ur t f i st)/\∀ i',JkE t i' (Ur t f i st):=by
 intro f;induction f with
 | zero=>
  intro i st h hd hf;have:=h.len;refine ⟨h,λ i' j s hj hs=>?_⟩;have hs:st[j]? = some s:=hs;exact hd j s (by have:=Aj hs;omega) hs
 | succ f ih=>
  intro i st h hd hf;simp only [Ur];cases hi:st[i]? with
  | none=>
   refine ⟨h,λ i' j s hj hs=>?_⟩;have hs:st[j]? = some s:=hs;exact hd j s (by have:=Aj hs;rw [List.getElem?_eq_none_iff] at hi;omega) hs
  | some s=>
   refine ih (i+1) _ (h.exp ht hi _ (Jni _)) (λ j x hj hx k hk hk2=>?_) (by omega);by_cases e:j=i
   ·subst e;have:=NM (H2 t s st t.Rules.length) hi;rw [this] at hx;cases hx;exact JeH t s st _ k hk hk2
   ·have hjl:j<st.length:=by have:=Aj hi;omega
    have hxx:st[j]? = some st[j]:=Jnx hjl;have:=NM (H2 t s st t.Rules.length) hxx;rw [this] at hx;cases hx;exact (H2 t s st t.Rules.length).subset (hd j _ (by omega) hxx k hk hk2)
theorem CC {t:Ad} (ht:I4 t):Hf t (Aa t)/\∀ i,JkE t i (Aa t):=by
 refine JkF ht 800 0 [A6] ⟨by simp,λ s hs=>?_,rfl,λ j s hj h0=>?_⟩ (λ j s hj=>by omega) (by omega)
 ·simp at hs;subst hs;exact ⟨by decide,by decide,by decide,by decide,by decide,by decide⟩
 ·cases j with
  | zero=>omega
  | succ j=>simp at hj
end Go.AI
end
section
namespace Go.AI
theorem Jm1 {σ ρ:Type} {body:Nat->σ->Option (σ⊕ρ)} {R:ρ->Prop} (I:Nat->σ->Prop) (h:∀ k x,I k x->(∃ y j,j<k/\I j y/\Ev (λ n=>body n x) (.inl y))\/∃ r,R r/\Ev (λ n=>body n x) (.inr r)):∀ (k:Nat) (x:σ),I k x->∃ r,R r/\Ev (λ n=>Go.AI.whl (body n) n x) r:=by
 have key:∀ (k:Nat) (x:σ),I k x->∃ r,R r/\∃ N c,∀ n fuel,N<=n->c<=fuel->Go.AI.whl (body n) fuel x=some r:=by
  intro k;induction k using Nat.strongRecOn with
  | _ k ih=>
   intro x hx;rcases h k x hx with ⟨y,j,hj,hy,N1,h1⟩|⟨r,hr,N1,h1⟩
   ·obtain ⟨r,hr,N2,c,h2⟩:=ih j hj y hy;refine ⟨r,hr,max N1 N2,c+1,λ n fuel hn hf=>?_⟩;cases fuel with
    | zero=>omega
    | succ fuel=>
     have e:=h1 n (by omega);simp only at e;simp only [Go.AI.whl,e];exact h2 n fuel (by omega) (by omega)
   ·refine ⟨r,hr,N1,1,λ n fuel hn hf=>?_⟩;cases fuel with
    | zero=>omega
    | succ fuel=>
     have e:=h1 n hn;simp only at e;simp only [Go.AI.whl,e]
 intro k x hx;obtain ⟨r,hr,N,c,hh⟩:=key k x hx;exact ⟨r,hr,max N c,λ m hm=>hh m m (by omega) (by omega)⟩
def Hg (st:List Ab) (nb:List (Ab×Int)):Prop:=∀ s,G0 s nb=(st.findIdx? λ x=>decide (x=s)).map λ i=>(i:Int)
theorem Dg {st:List Ab} {s:Ab} {i:Nat} (hn:st.Nodup) (h:st[i]? = some s):(st.findIdx? λ x=>decide (x=s))=some i:=by
 have hi:=Aj h;rw [List.findIdx?_eq_some_iff_getElem];have he:st[i]=s:=by rw [Jnx hi] at h;exact Option.some.inj h
 refine ⟨hi,by simpa using he,λ j hj=>?_⟩;simp only [Jnh,decide_eq_false_iff_not];intro e;have:=(List.getElem_inj (i:=j) (j:=i) (h₀:=by omega) (h₁:=hi) hn).1 (by rw [e,he]);omega
theorem Ix {st:List Ab} {s:Ab} (h:s ∉ st):(st.findIdx? λ x=>decide (x=s))=none:=by
 rw [List.findIdx?_eq_none_iff];intro y hy;simp only [decide_eq_false_iff_not];exact λ e=>h (e▸hy)
theorem Jbm {κ α:Type} [DecidableEq κ] (k k':κ) (v:α) (m:List (κ×α)):G0 k' (MU k v m)=if k'=k then some v else G0 k' m:=by
 induction m with
 | nil=>simp [MU,G0]
 | cons p m ih=>
  simp only [MU];by_cases h:k=p.1
  ·rw [if_pos h];simp only [G0];by_cases h':k'=k
   ·simp [h']
   ·have:k'≠p.1:=λ e=>h' (e.trans h.symm);simp [h',this]
  ·rw [if_neg h];simp only [G0];by_cases h':k'=p.1
   ·have:k'≠k:=λ e=>h (e▸h');rw [if_pos h',if_neg this,if_pos h']
   ·rw [if_neg h',if_neg h',ih]
theorem Hg.snoc {st:List Ab} {nb:List (Ab×Int)} (h:Hg st nb) (hn:st.Nodup) {p:Ab} (hp:p ∉ st):Hg (st++[p]) (MU p (st.length:Nat) nb):=by
 intro s;rw [Jbm];have hnd:(st++[p]).Nodup:=by
  rw [List.nodup_append];exact ⟨hn,by simp,λ a ha b hb=>by simp at hb;subst hb;exact λ e=>hp (e▸ha)⟩
 by_cases e:s=p
 ·subst e;rw [if_pos rfl,Dg hnd (i:=st.length) (by simp)];rfl
 ·rw [if_neg e,h s];by_cases hs:s∈st
  ·obtain ⟨i,hi⟩:=List.mem_iff_getElem?.1 hs;rw [Dg hn hi,Dg hnd (i:=i) (by rw [JnF (Aj hi)];exact hi)]
  ·rw [Ix hs,Ix (by simp [hs,e])]
def I5 (i m j k:Nat):Prop:=j<i\/(j=i/\k<m)
structure D5 (t:Ad) (st:List Ab) (fr:List (List Int)) (i m:Nat):Prop where
 len:fr.length=st.length
 cov:∀ j s k,I5 i m j k->st[j]? = some s->k<t.Rules.length->(Au t s (k:Nat)).2=true->(Au t s (k:Nat)).1∈st
 sound:∀ (n:Nat) l,fr[n]? = some l->∀ x∈l,∃ (j:Nat) (s:Ab) (k:Nat) (s':Ab),x=(j:Int)/\st[j]? = some s/\k<t.Rules.length/\st[n]? = some s'/\Au t s (k:Nat)=(s',true)
 compl:∀ (n:Nat) l,fr[n]? = some l->∀ (j:Nat) (s:Ab) (k:Nat) (s':Ab),I5 i m j k->st[j]? = some s->k<t.Rules.length->st[n]? = some s'->Au t s (k:Nat)=(s',true)->(j:Int)∈l
 small:∀ (n:Nat) l,fr[n]? = some l->l.length<=i*11+m
theorem D5.snoc {t:Ad} {st:List Ab} {fr:List (List Int)} {i m:Nat} (h:D5 t st fr i m) {p:Ab} (hp:p ∉ st) (hi:i<st.length):D5 t (st++[p]) (fr++[[]]) i m:=by
 have hget:∀ (j:Nat) s,I5 i m j 0\/j<=i->(st++[p])[j]? = some s->st[j]? = some s:=λ j s hj hs=>by
  rcases Jnk j st.length with hlt|hge
  ·rwa [JnF hlt] at hs
  ·rcases hj with (h1|⟨h1,_⟩)|h1<;>omega
 have hle:∀ {j k},I5 i m j k->j<=i:=λ h=>by rcases h with h|⟨h,_⟩<;>omega
 refine ⟨by simp [h.len],λ j s k ht hs hk h2=>?_,λ n l hl x hx=>?_,λ n l hl j s k s' ht hs hk hs' he=>?_,λ n l hl=>?_⟩
 ·exact List.mem_append_left _ (h.cov j s k ht (hget j s (.inr (hle ht)) hs) hk h2)
 ·rcases Jnk n fr.length with hlt|hge
  ·rw [JnF hlt] at hl;obtain ⟨j,s,k,s',a1,a2,a3,a4,a5⟩:=h.sound n l hl x hx;exact ⟨j,s,k,s',a1,by rw [JnF (Aj a2)];exact a2,a3,by rw [JnF (Aj a4)];exact a4,a5⟩
  ·rw [JnQ hge] at hl;have:n-fr.length=0:=by have:=Aj hl;simp at this;omega
   rw [this] at hl;simp at hl;subst hl;simp at hx
 ·have hs0:=hget j s (.inr (hle ht)) hs;have hmem:s'∈st:=by have:=h.cov j s k ht hs0 hk (by rw [he]);rwa [he] at this
  rcases Jnk n fr.length with hlt|hge
  ·rw [JnF hlt] at hl;rw [JnF (by rw [← h.len];exact hlt)] at hs';exact h.compl n l hl j s k s' ht hs0 hk hs' he
  ·have hn:n=st.length:=by have:=Aj hs';simp at this;rw [h.len] at hge;omega
   subst hn;simp at hs';subst hs';exact absurd hmem hp
 ·rcases Jnk n fr.length with hlt|hge
  ·rw [JnF hlt] at hl;exact h.small n l hl
  ·rw [JnQ hge] at hl;have:n-fr.length=0:=by have:=Aj hl;simp at this;omega
   rw [this] at hl;simp at hl;subst hl;simp
theorem D5.put {t:Ad} {st:List Ab} {fr:List (List Int)} {i m:Nat} (h:D5 t st fr i m) (hnd:st.Nodup) {s p:Ab} {q:Nat} {l:List Int} (hs:st[i]? = some s) (hm:m<t.Rules.length) (hst:Au t s (m:Nat)=(p,true)) (hq:st[q]? = some p) (hl:fr[q]? = some l):D5 t st (fr.set q (l++[(i:Int)])) i (m+1):=by
 have htk:∀ {j k},I5 i (m+1) j k->I5 i m j k\/(j=i/\k=m):=λ {j k} h=>by
  unfold I5 at *;omega
 have hql:=Aj hl;refine ⟨by simp [h.len],λ j x k ht hx hk h2=>?_,λ n l' hl' x hx=>?_,λ n l' hl' j x k x' ht hx hk hx' he=>?_,λ n l' hl'=>?_⟩
 ·rcases htk ht with ht|⟨rfl,rfl⟩
  ·exact h.cov j x k ht hx hk h2
  ·rw [hs] at hx;cases hx;rw [hst];exact Jnz hq
 ·by_cases e:n=q
  ·subst e;rw [JnJ hql] at hl';cases hl';simp only [List.mem_append,List.mem_singleton] at hx;rcases hx with hx|rfl
   ·exact h.sound n l hl x hx
   ·exact ⟨i,s,m,p,rfl,hs,hm,hq,hst⟩
  ·rw [JnO (Ne.symm e)] at hl';exact h.sound n l' hl' x hx
 ·rcases htk ht with ht|⟨rfl,rfl⟩
  ·by_cases e:n=q
   ·subst e;rw [JnJ hql] at hl';cases hl';exact List.mem_append_left _ (h.compl n l hl j x k x' ht hx hk hx' he)
   ·rw [JnO (Ne.symm e)] at hl';exact h.compl n l' hl' j x k x' ht hx hk hx' he
  ·rw [hs] at hx;cases hx;rw [hst] at he;cases he;have e:n=q:=by
    have h1:=Aj hx';have h2:=Aj hq;rw [Jnx h1] at hx';rw [Jnx h2] at hq;exact (List.getElem_inj (h₀:=h1) (h₁:=h2) hnd).1 ((Option.some.inj hx').trans (Option.some.inj hq).symm)
   subst e;rw [JnJ hql] at hl';cases hl';simp
 ·by_cases e:n=q
  ·subst e;rw [JnJ hql] at hl';cases hl';have:=h.small n l hl;simp;omega
  ·rw [JnO (Ne.symm e)] at hl';have:=h.small n l' hl';omega
theorem D5.skip {t:Ad} {st:List Ab} {fr:List (List Int)} {i m:Nat} (h:D5 t st fr i m) {s:Ab} (hs:st[i]? = some s) (hst:(Au t s (m:Nat)).2=false):D5 t st fr i (m+1):=by
 have htk:∀ {j k},I5 i (m+1) j k->I5 i m j k\/(j=i/\k=m):=λ {j k} h=>by
  unfold I5 at *;omega
 refine ⟨h.len,λ j x k ht hx hk h2=>?_,h.sound,λ n l hl j x k x' ht hx hk hx' he=>?_,λ n l hl=>by have:=h.small n l hl;omega⟩
 ·rcases htk ht with ht|⟨rfl,rfl⟩
  ·exact h.cov j x k ht hx hk h2
  ·rw [hs] at hx;cases hx;rw [hst] at h2;cases h2
 ·rcases htk ht with ht|⟨rfl,rfl⟩
  ·exact h.compl n l hl j x k x' ht hx hk hx' he
  ·rw [hs] at hx;cases hx;rw [he] at hst;cases hst
end Go.AI
end
section
namespace Go.AI
theorem LZ {α:Type} {l:List α} {i:Nat} {x:α} (h:l[i]? = some x):idx l (i:Int)=some x:=by
 unfold idx;rw [if_pos (by omega)];simpa using h
theorem WM {α:Type} {eb:Nat} {xs ys:List α} (h:(xs.length+ys.length)*eb<=70368744177664):app eb xs ys=some (xs++ys):=by
 unfold app;rw [if_pos h]
theorem Yn {t:Ad} (ht:I4 t) {i m:Nat} {s:Ab} {st:List Ab} {fr:List (List Int)} {nb:List (Ab×Int)} (hF:Hf t st) (hi:st[i]? = some s) (hN:Hg st nb) (hR:D5 t st fr i m) (hm:m<t.Rules.length) :
  ∃ fr' nb',Hg (LY t s st m) nb'/\D5 t (LY t s st m) fr' i (m+1)/\∀ n,BR n t (i:Int) st fr nb (m:Int)=some (.inl (LY t s st m,fr',nb',((m+1:Nat):Int))):=by
 have hil:=Aj hi;have hlen:=hF.len;have hrl:=ht.1;have hinc:An .i64 (m:Int) 1=((m+1:Nat):Int):=by rw [Ro (by omega) (by omega)];rfl
 have hcond:decide ((m:Int)<((t.Rules.length:Nat):Int))=true:=by simpa using hm
 cases hp:(Au t s (m:Nat)).2 with
 | false=>
  have ha:LY t s st m=st:=by unfold LY;rw [if_neg (by rw [hp];simp)]
  refine ⟨fr,nb,by rw [ha];exact hN,by rw [ha];exact hR.skip hi hp,λ n=>?_⟩;unfold BR;rw [if_pos hcond,LZ hi];simp only [Jm9,Qe ht.short,hp,Bool.not_false,if_true,C1,hinc,ha]
 | true=>
  have hpe:Au t s (m:Nat)=((Au t s (m:Nat)).1,true):=Prod.ext rfl hp;generalize hpp:(Au t s (m:Nat)).1=p at hpe;by_cases hmem:p∈st
  ·have ha:LY t s st m=st:=by unfold LY;rw [if_neg (by rw [hpp];exact λ hh=>hh.2 hmem)]
   obtain ⟨q,hq⟩:=List.mem_iff_getElem?.1 hmem;have hql:=Aj hq;obtain ⟨lq,hfq⟩:∃ lq,fr[q]? = some lq:=⟨_,Jnx (by rw [hR.len];exact hql)⟩;have hsm:=hR.small q _ hfq;have hget:G0 p nb=some (q:Int):=by rw [hN p,Dg hF.nodup hq];rfl
   have hiv:i<768:=by omega
   refine ⟨fr.set q (lq++[(i:Int)]),nb,by rw [ha];exact hN,by rw [ha];exact hR.put hF.nodup hi hm hpe hq hfq,λ n=>?_⟩;unfold BR;rw [if_pos hcond,LZ hi];simp only [Jm9,Qe ht.short,hpe,hget,Option.isSome_some,Jng,JnK,if_false,Jne,Dr];rw [LZ hfq];simp only [Jm9];rw [WM (by simp;omega)];simp only [Jm9,C1,hinc,ha,JnH]
  ·have ha:LY t s st m=st++[p]:=by unfold LY;rw [if_pos ⟨hp,by rw [hpp];exact hmem⟩,hpp]
   have hnd:(st++[p]).Nodup:=by have:=(hF.add ht hi hm).nodup;rwa [ha] at this
   have hget:G0 p nb=none:=by rw [hN p,Ix hmem];rfl
   have hR':=hR.snoc hmem hil;have hfq:(fr++[[]])[st.length]? = some ([]:List Int):=by rw [← hR.len];simp
   refine ⟨(fr++[[]]).set st.length ([]++[(i:Int)]),MU p (st.length:Nat) nb,by rw [ha];exact hN.snoc hF.nodup hmem,by rw [ha];exact hR'.put hnd (by rw [JnF hil];exact hi) hm hpe (by simp) hfq,λ n=>?_⟩;unfold BR;rw [if_pos hcond,LZ hi];simp only [Jm9,Qe ht.short,hpe,hget,Option.isSome_none,Bool.not_false,Jng,JnK,if_true,if_false];rw [WM (by simp;omega),Jm9,WM (by simp [hR.len];omega),Jm9];simp only [Dr];rw [LZ hfq];simp only [Jm9];rw [WM (by simp)];simp only [Jm9,C1,hinc,ha,JnH]
theorem D5.next {t:Ad} {st:List Ab} {fr:List (List Int)} {i:Nat} (h:D5 t st fr i t.Rules.length) (hr:t.Rules.length<=11):D5 t st fr (i+1) 0:=by
 have htk:∀ {j k},k<t.Rules.length->I5 (i+1) 0 j k->I5 i t.Rules.length j k:=λ {j k} hk h=>by
  unfold I5 at *;omega
 exact ⟨h.len,λ j s k ht hs hk=>h.cov j s k (htk hk ht) hs hk,h.sound,λ n l hl j s k s' ht hs hk=>h.compl n l hl j s k s' (htk hk ht) hs hk,λ n l hl=>by have:=h.small n l hl;omega⟩
theorem JeI {t:Ad} (ht:I4 t) {i:Nat} {s:Ab} {st:List Ab} {fr:List (List Int)} {nb:List (Ab×Int)} (hF:Hf t st) (hi:st[i]? = some s) (hN:Hg st nb) (hR:D5 t st fr i 0) :
  ∃ r:List Ab×List (List Int)×List (Ab×Int),(r.1=KY t s t.Rules.length st/\Hg r.1 r.2.2/\D5 t r.1 r.2.1 (i+1) 0) /\
   Ev (λ n=>whl (λ (x:((List Ab)×(List (List Int))×(List (Ab×Int))×Int))=>BR n t (i:Int) x.1 x.2.1 x.2.2.1 x.2.2.2) n (st,fr,nb,0)) r:=by
 refine Jm1 (body:=λ n x=>BR n t (i:Int) x.1 x.2.1 x.2.2.1 x.2.2.2) (λ k x=>∃ m:Nat,m<=t.Rules.length/\k=t.Rules.length-m/\x.1=KY t s m st/\x.2.2.2=(m:Int)/\Hg x.1 x.2.2.1/\D5 t x.1 x.2.1 i m) ?_ t.Rules.length (st,fr,nb,0) ⟨0,by omega,by omega,rfl,rfl,hN,hR⟩;rintro k ⟨st',fr',nb',m'⟩ ⟨m,hm,rfl,h1,h2,h3,h4⟩;simp only at h1 h2 h3 h4;subst h1;subst h2;rcases Jnk m t.Rules.length with hlt|hge
 ·left;have hi':(KY t s m st)[i]? = some s:=NM (H2 t s st m) hi;obtain ⟨fr2,nb2,g1,g2,g3⟩:=Yn ht (hF.exp ht hi m hm) hi' h3 h4 hlt;exact ⟨_,t.Rules.length-(m+1),by omega,⟨m+1,hlt,rfl,(KZ t s m st).symm,rfl,g1,g2⟩,Ev.all g3⟩
 ·right;have e:m=t.Rules.length:=by omega
  subst e;refine ⟨(KY t s t.Rules.length st,fr',nb'),⟨rfl,h3,h4.next ht.1⟩,Ev.all λ n=>?_⟩;unfold BR;rw [if_neg (by simp)]
theorem Zt {t:Ad} (ht:I4 t):∃ fr,D5 t (Aa t) fr (Aa t).length 0/\Ev (λ n=>Gm n t) (Aa t,fr):=by
 have h0:Hf t [A6]:=⟨by simp,λ s hs=>by simp at hs;subst hs;exact ⟨by decide,by decide,by decide,by decide,by decide,by decide⟩,rfl,λ j s hj h0=>by cases j with|zero=>omega|succ j=>simp at hj⟩;have loop:∃ r:List Ab×List (List Int),(r.1=Aa t/\D5 t r.1 r.2 r.1.length 0) /\
   Ev (λ n=>whl (λ (x:((List Ab)×(List (List Int))×(List (Ab×Int))×Int))=>C2 n t x.1 x.2.1 x.2.2.1 x.2.2.2) n ([A6],([[]]:List (List Int)),(MU A6 0 []),0)) r:=by
  refine Jm1 (body:=λ n x=>C2 n t x.1 x.2.1 x.2.2.1 x.2.2.2) (λ k x=>∃ i:Nat,i<=x.1.length/\k=800-i/\Ur t (800-i) i x.1=Aa t/\x.2.2.2=(i:Int)/\Hf t x.1/\Hg x.1 x.2.2.1/\D5 t x.1 x.2.1 i 0) ?_ 800 _ ⟨0,by simp,by omega,rfl,rfl,h0,?_,?_⟩
  ·rintro k ⟨st,fr,nb,i'⟩ ⟨i,hil,rfl,hb,hi',hF,hN,hR⟩;simp only at hil hb hi' hF hN hR;subst hi';have hlen:=hF.len;rcases Jnk i st.length with hlt|hge
   ·left;have hi:st[i]? = some st[i]:=Jnx hlt;obtain ⟨r,⟨g1,g2,g3⟩,g4⟩:=JeI ht hF hi hN hR;have hexp:=hF.exp ht hi _ (Jni _);refine ⟨(r.1,r.2.1,r.2.2,((i+1:Nat):Int)),800-(i+1),by omega,⟨i+1,?_,rfl,?_,rfl,by rw [g1];exact hexp,g2,g3⟩,?_⟩
    ·simp only [g1];have:=(H2 t st[i] st t.Rules.length).length_le;omega
    ·simp only [g1];rw [← hb];have e:800-i=(800-(i+1))+1:=by omega
     rw [e];simp only [Ur,hi]
    ·refine (Ev.bind g4 (g:=λ _ y2=>some (.inl (y2.1,y2.2.1,y2.2.2,((i+1:Nat):Int)))) Ev.const).congr λ n=>?_;unfold C2;rw [if_pos (by simpa using hlt)];have hinc:An .i64 (i:Int) 1=((i+1:Nat):Int):=by rw [Ro (by omega) (by omega)];rfl
     rw [hinc]
   ·right;have e:i=st.length:=by omega
    subst e;have hst:st=Aa t:=by
     rw [← hb];have e:800-st.length=(800-(st.length+1))+1:=by omega
     rw [e];simp [Ur]
    refine ⟨(st,fr),⟨hst,hR⟩,Ev.all λ n=>?_⟩;unfold C2;rw [if_neg (by simp)]
  ·intro s;simp only [MU,G0];by_cases e:s=A6
   ·subst e;simp
   ·have:¬ A6=s:=λ h=>e h.symm;simp [e,this]
  ·refine ⟨rfl,λ j s k ht=>?_,λ n l hl x hx=>?_,λ n l hl j s k s' ht=>?_,λ n l hl=>?_⟩
   ·unfold I5 at ht;omega
   ·cases n with
    | zero=>simp at hl;subst hl;simp at hx
    | succ n=>simp at hl
   ·unfold I5 at ht;omega
   ·cases n with
    | zero=>simp at hl;subst hl;simp
    | succ n=>simp at hl
 obtain ⟨⟨st,fr⟩,⟨g1,g2⟩,g3⟩:=loop;simp only at g1 g2;subst g1;refine ⟨fr,g2,?_⟩;have hs:∀ n,Ky n=some A6:=λ n=>rfl;refine (Ev.bind g3 (g:=λ _ y3=>some (y3.1,y3.2)) Ev.const).congr λ n=>?_;unfold Gm;rw [hs,Jm9]
theorem Us {t:Ad} (ht:I4 t):Ev (λ n=>Hr n t) (Aa t):=by
 obtain ⟨fr,_,h⟩:=Zt ht;exact (Ev.bind h (g:=λ _ r=>some r.1) Ev.const).congr λ n=>rfl
end Go.AI
end
section
namespace Go.AI
def Tot {α:Type} (f:Nat->Option α) (P:α->Prop):Prop:=∃ z,P z/\Ev f z
def Rd2 {σ ρ:Type} (I:σ->Prop) (P:ρ->Prop):σ⊕ρ->Prop
 | .inl y=>I y
 | .inr r=>P r
variable {α β σ ρ:Type} {P R:α->Prop}
theorem Tot.ev {f:Nat->Option α} {z:α} (h:Tot f (λ x=>x=z)):Ev f z:=by obtain ⟨_,rfl,h⟩:=h;exact h
theorem Ev.tot {f:Nat->Option α} {z:α} (h:Ev f z) (hp:P z):Tot f P:=⟨z,hp,h⟩
theorem Jm2 {z:α} (h:P z):Tot (λ _=>some z) P:=⟨z,h,Ev.const⟩
theorem Tot.mono {f:Nat->Option α} (h:Tot f R) (hp:∀ x,R x->P x):Tot f P:=by obtain ⟨z,hz,h⟩:=h;exact ⟨z,hp z hz,h⟩
theorem Tot.bind {f:Nat->Option β} {g:Nat->β->Option α} {R:β->Prop} (h:Tot f R) (k:∀ x,R x->Tot (λ n=>g n x) P):Tot (λ n=>(f n).bind (g n)) P:=by
 obtain ⟨x,hx,h⟩:=h;obtain ⟨z,hz,h'⟩:=k x hx;exact ⟨z,hz,Ev.bind h h'⟩
theorem Jm3 {f:Nat->Option β} {g:Nat->β->Option α} {x:β} (h:Ev f x) (k:Tot (λ n=>g n x) P):Tot (λ n=>(f n).bind (g n)) P:=by
 obtain ⟨z,hz,h'⟩:=k;exact ⟨z,hz,Ev.bind h h'⟩
theorem Tot.bindC {x:Option β} {y:β} {g:Nat->β->Option α} (h:x=some y) (k:Tot (λ n=>g n y) P):Tot (λ n=>x.bind (g n)) P:=by subst h;exact k
theorem Jm4 {f:Nat->Option β} {y:β} {g:Nat->β->Option α} (h:∀ n,f n=some y) (k:Tot (λ n=>g n y) P):Tot (λ n=>(f n).bind (g n)) P:=Jm3 (Ev.all h) k
theorem Tot.ite {c:Bool} {a b:Nat->Option α} (h1:c=true->Tot a P) (h2:c=false->Tot b P):Tot (λ n=>if c=true then a n else b n) P:=by
 cases c with
 | true=>exact h1 rfl
 | false=>exact h2 rfl
theorem Tot.iteT {c:Bool} {a b:Nat->Option α} (h:c=true) (k:Tot a P):Tot (λ n=>if c=true then a n else b n) P:=by subst h;exact k
theorem Tot.iteF {c:Bool} {a b:Nat->Option α} (h:c=false) (k:Tot b P):Tot (λ n=>if c=true then a n else b n) P:=by subst h;exact k
theorem Tot.guard {c:Bool} {f:Nat->Option β} {d:β} {g:Nat->β->Option α} {R:β->Prop} (h:c=true->Tot f R) (k:∀ x,(c=true->R x)->Tot (λ n=>g n x) P):Tot (λ n=>(if c=true then f n else some d).bind (g n)) P:=by
 cases c with
 | true=>exact Tot.bind (h rfl) λ x hx=>k x λ _=>hx
 | false=>exact k d λ h=>by cases h
theorem Tot.whl {body:Nat->σ->Option (σ⊕ρ)} {P:ρ->Prop} (I:Nat->σ->Prop) (h:∀ k x,I k x->Tot (λ n=>body n x) (Rd2 (λ y=>∃ j,j<k/\I j y) P)):∀ (k:Nat) (x:σ),I k x->Tot (λ n=>Go.AI.whl (body n) n x) P:=by
 have key:∀ (k:Nat) (x:σ),I k x->∃ r,P r/\∃ N c,∀ n fuel,N<=n->c<=fuel->Go.AI.whl (body n) fuel x=some r:=by
  intro k;induction k using Nat.strongRecOn with
  | _ k ih=>
   intro x hx;obtain ⟨z,hz,N1,h1⟩:=h k x hx;cases z with
   | inl y=>
    obtain ⟨j,hj,hy⟩:=hz;obtain ⟨r,hr,N2,c,h2⟩:=ih j hj y hy;refine ⟨r,hr,max N1 N2,c+1,λ n fuel hn hf=>?_⟩;cases fuel with
    | zero=>omega
    | succ fuel=>
     have e:=h1 n (by omega);simp only at e;simp only [Go.AI.whl,e];exact h2 n fuel (by omega) (by omega)
   | inr r=>
    refine ⟨r,hz,N1,1,λ n fuel hn hf=>?_⟩;cases fuel with
    | zero=>omega
    | succ fuel=>
     have e:=h1 n hn;simp only at e;simp only [Go.AI.whl,e]
 intro k x hx;obtain ⟨r,hr,N,c,hh⟩:=key k x hx;exact ⟨r,hr,max N c,λ m hm=>hh m m (by omega) (by omega)⟩
theorem Tot.upto {body:Nat->σ->Option (σ⊕ρ)} {P:ρ->Prop} (N:Nat) (I:Nat->σ->Prop)
  (step:∀ i x,i<N->I i x->Tot (λ n=>body n x) (Rd2 (I (i+1)) P))
  (last:∀ x,I N x->Tot (λ n=>body n x) (Rd2 (λ _=>False) P)) (x:σ) (h0:I 0 x):Tot (λ n=>Go.AI.whl (body n) n x) P:=by
 refine Tot.whl (body:=body) (λ k x=>∃ i,i<=N/\k=N-i/\I i x) ?_ N x ⟨0,by omega,by omega,h0⟩;rintro k x ⟨i,hi,rfl,hx⟩;rcases Jnk i N with hlt|hge
 ·refine (step i x hlt hx).mono λ z hz=>?_;cases z with
  | inl y=>exact ⟨N-(i+1),by omega,i+1,by omega,rfl,hz⟩
  | inr r=>exact hz
 ·have:i=N:=by omega
  subst this;refine (last x hx).mono λ z hz=>?_;cases z with
  | inl y=>exact hz.elim
  | inr r=>exact hz
theorem BL {l:List α} {i:Nat} {x:α} (h:l[i]? = some x):idx l (i:Int)=some x:=by
 unfold idx;rw [if_pos (by omega)];simpa using h
theorem Em {l:List α} {i:Nat} (h:i<l.length):idx l (i:Int)=some l[i]:=BL (Jnx h)
theorem Gc {eb:Nat} {xs ys:List α} (h:(xs.length+ys.length)*eb<=70368744177664):app eb xs ys=some (xs++ys):=by
 unfold app;rw [if_pos h]
theorem DV {l:List α} {i:Nat} {y:α} (h:i<l.length):put l (i:Int) y=some (l.set i y):=by
 unfold put;rw [if_pos (by omega),JnH]
theorem Rp {x y:List UInt8} (h:x.length+y.length<=9223372036854775807):cat x y=some (x++y):=by
 unfold cat;rw [if_pos h]
end Go.AI
end
section
namespace Go.AI
theorem Jgx (a:Int):IntKind.i64.wrap a=if decide (a % 18446744073709551616>=9223372036854775808)=true then a % 18446744073709551616-18446744073709551616 else a % 18446744073709551616:=rfl
theorem w64 {a:Int} (h:-9223372036854775808<=a) (h':a<9223372036854775808):IntKind.i64.wrap a=a:=by
 rw [Jgx];simp only [decide_eq_true_eq];split<;>omega
theorem E7 {a b:Int} (h:-9223372036854775808<=a+b) (h':a+b<9223372036854775808):An .i64 a b=a+b:=w64 h h'
theorem K0 {a b:Int} (h:-9223372036854775808<=a-b) (h':a-b<9223372036854775808):DL .i64 a b=a-b:=w64 h h'
theorem FC {i:Nat} (h:i<9223372036854775807):An .i64 (i:Int) 1=((i+1:Nat):Int):=by rw [E7]<;>omega
theorem K1 {a m:Int} (h:0<=a) (hm:0<m):Bd a m=a % m/\0<=Bd a m/\Bd a m<m:=by
 have e:Bd a m=a % m:=by unfold Bd;rw [Int.tmod_eq_emod_of_nonneg h]
 rw [e];exact ⟨rfl,Int.emod_nonneg _ (by omega),Int.emod_lt_of_pos _ hm⟩
variable {α β σ ρ:Type}
theorem Jmh [Inhabited α] {l:List α} {i:Int} (h:0<=i) (h':i<l.length):idx l i=some (l.getD i.toNat default):=by
 unfold idx;rw [if_pos h,JnG,Jnx (by omega)];rfl
theorem Hz [Inhabited α] {l:List α} {i:Nat} (h:i<l.length):idx l (i:Int)=some (l.getD i default):=by
 rw [Jmh (by omega) (by omega),JnH]
theorem VC {l:List α} {a b:Int} (h:0<=a) (h1:a<=b) (h2:b<=l.length):sub l a b=some ((l.take b.toNat).drop a.toNat):=by
 unfold sub;rw [if_pos ⟨h,h1,h2⟩]
theorem L3 {l:List α} {k:Nat} (h:k<=l.length):sub l 0 (k:Int)=some (l.take k):=by
 rw [VC (by omega) (by omega) (by omega)];simp
theorem K2 {eb:Nat} {k:Int} {z:α} (h:0<=k) (h':k.toNat*eb<=70368744177664):mkl eb k z=some (List.replicate k.toNat z):=by
 unfold mkl;rw [if_pos ⟨h,h'⟩]
theorem EC {b:Bool} (h:b=true):Bu b=some ():=by subst h;rfl
theorem Jm5 {P:α->Prop} {c:Bool} {f:Nat->Option β} {d x:β} {g:Nat->β->Option α} (hc:c=true) (h:Ev f x) (k:Tot (λ n=>g n x) P):Tot (λ n=>(if c=true then f n else some d).bind (g n)) P:=by
 subst hc;exact Jm3 h k
theorem Jm6 {P:α->Prop} {c:Bool} {f:Nat->Option β} {d:β} {g:Nat->β->Option α} (hc:c=false) (k:Tot (λ n=>g n d) P):Tot (λ n=>(if c=true then f n else some d).bind (g n)) P:=by
 subst hc;exact k
end Go.AI
end
section
namespace Go.AI
def scan {ρ:Type} (N:Nat) (stop:Nat->Option ρ):Unit⊕ρ:=match (List.range N).findSome? stop with
 | some r=>.inr r
 | none=>.inl ()
theorem GZ {ρ:Type} {body:Nat->Int->Option (Int⊕(Unit⊕ρ))} (N:Nat) (stop:Nat->Option ρ)
  (h:∀ i,i<N->Ev (λ n=>body n (i:Int)) (match stop i with|some r=>.inr (.inr r)|none=>.inl ((i+1:Nat):Int)))
  (h2:Ev (λ n=>body n (N:Int)) (.inr (.inl ()))):Ev (λ n=>whl (body n) n 0) (AI.scan N stop):=by
 have key:∀ (k i:Nat),i+k=N->(List.range N).findSome? stop=((List.range k).map (i+·)).findSome? stop->∃ M c,∀ n fuel,M<=n->c<=fuel->whl (body n) fuel (i:Int)=some (AI.scan N stop):=by
  intro k;induction k with
  | zero=>
   intro i hi hf;have:i=N:=by omega
   subst this;obtain ⟨M,hM⟩:=h2;refine ⟨M,1,λ n fuel hn hfu=>?_⟩;obtain ⟨fuel,rfl⟩:∃ f,fuel=f+1:=⟨fuel-1,by omega⟩;have e:=hM n hn;simp only at e;simp only [AI.whl,e];unfold AI.scan;rw [hf];rfl
  | succ k ih=>
   intro i hi hf;obtain ⟨M,hM⟩:=h i (by omega);have hs:(List.range (k+1)).map (i+·)=i::(List.range k).map ((i+1)+·):=by
    rw [List.range_succ_eq_map];simp only [Jns,Nat.add_zero,List.map_map,List.cons.injEq,true_and];apply Jnv;intro a _;simp only [Function.comp];omega
   rw [hs,List.findSome?_cons] at hf;cases hst:stop i with
   | some r=>
    rw [hst] at hf hM;refine ⟨M,1,λ n fuel hn hfu=>?_⟩;obtain ⟨fuel,rfl⟩:∃ f,fuel=f+1:=⟨fuel-1,by omega⟩;have e:=hM n hn;simp only at e;simp only [AI.whl,e];unfold AI.scan;rw [hf]
   | none=>
    rw [hst] at hf hM;obtain ⟨M2,c,h3⟩:=ih (i+1) (by omega) hf;refine ⟨max M M2,c+1,λ n fuel hn hfu=>?_⟩;obtain ⟨fuel,rfl⟩:∃ f,fuel=f+1:=⟨fuel-1,by omega⟩;have e:=hM n (by omega);simp only at e;simp only [AI.whl,e];exact h3 n fuel (by omega) (by omega)
 obtain ⟨M,c,hh⟩:=key N 0 (by omega) (by simp);exact ⟨max M c,λ m hm=>hh m m (by omega) (by omega)⟩
theorem IF {ρ:Type} {N:Nat} {stop:Nat->Option ρ} (h:∀ i,i<N->stop i=none):scan N stop=.inl ():=by
 unfold scan;rw [List.findSome?_eq_none_iff.2 λ i hi=>h i (List.mem_range.1 hi)]
theorem IG {ρ:Type} {N:Nat} {stop:Nat->Option ρ} {i:Nat} (hi:i<N) (h:(stop i).isSome=true):∃ k r,k<N/\stop k=some r/\scan N stop=.inr r:=by
 unfold scan;cases hf:(List.range N).findSome? stop with
 | none=>rw [List.findSome?_eq_none_iff.1 hf i (List.mem_range.2 hi)] at h;cases h
 | some r=>
  obtain ⟨k,hk,hr⟩:=List.exists_of_findSome?_eq_some hf;exact ⟨k,r,List.mem_range.1 hk,hr,rfl⟩
def Qg (b:UInt8):Int:=(b.toNat:Int)
def Eb (b:UInt8):Bool:=decide (CW .u8 (Qg b) 127>=32)&&decide (CW .u8 (Qg b) 127<=126)
def EK (b:UInt8):Bool:=CW .u8 (Qg b) 127==32
theorem Qh {s:List UInt8} {i:Nat} {b:UInt8} (h:s[i]? = some b):NW s (i:Int)=some (Qg b):=by
 rw [LX (Aj h)];unfold RZ Qg;rw [h];rfl
theorem Du {i n:Nat} (h:i<n):decide ((i:Int)<((n:Nat):Int))=true:=by simpa using h
theorem Yo (n:Nat):decide (((n:Nat):Int)<((n:Nat):Int))=false:=by simp
def Hh (s:List UInt8):Int×Int:=match scan s.length (λ i=>if Eb (s.getD i 0) then none else some ((i:Int),(60:Int))) with
 | .inl _=>(((s.length:Nat):Int),0)
 | .inr p=>p
theorem CN {α:Type} {l:List α} {i:Nat} {d:α} (h:i<l.length):l.getD i d=l[i]:=by
 rw [JnG,Jnx h];rfl
theorem SI {s:List UInt8} (hl:s.length<9223372036854775807):Ev (λ n=>GL n s) (Hh s):=by
 unfold GL Hh;refine Ev.bind (GZ s.length (λ i=>if Eb (s.getD i 0) then none else some ((i:Int),(60:Int))) (λ i hi=>Ev.all λ n=>?_) (Ev.all λ n=>?_)) ?_
 ·unfold Gl;have hg:s[i]? = some s[i]:=Jnx hi;rw [if_pos (Du hi),Qh hg,CN hi];have hc:Ep n (Qg s[i])=some (Eb s[i]):=rfl;simp only [Jm9,hc];cases Eb s[i] with
  | true=>simp [FC (show i<9223372036854775807 by omega)]
  | false=>simp
 ·unfold Gl;rw [if_neg (by simp)]
 ·generalize scan s.length _=z;cases z<;>exact Ev.const
theorem Yp {s:List UInt8} (hl:s.length<9223372036854775807):Ev (λ n=>M5 n s) (Hh s):=by
 unfold M5 Hh;refine Ev.bind (GZ s.length (λ i=>if Eb (s.getD i 0) then none else some ((i:Int),(60:Int))) (λ i hi=>Ev.all λ n=>?_) (Ev.all λ n=>?_)) ?_
 ·unfold Jx;have hg:s[i]? = some s[i]:=Jnx hi;rw [if_pos (Du hi),Qh hg,CN hi];have hc:J3 n (Qg s[i])=some (Eb s[i]):=rfl;simp only [Jm9,hc];cases Eb s[i] with
  | true=>simp [FC (show i<9223372036854775807 by omega)]
  | false=>simp
 ·unfold Jx;rw [if_neg (by simp)]
 ·generalize scan s.length _=z;cases z<;>exact Ev.const
theorem Qi {s:List UInt8} (h:s.all Eb=true):Hh s=(((s.length:Nat):Int),0):=by
 unfold Hh;rw [IF λ i hi=>by rw [CN hi,Jnd.1 h _ (Jnf hi)];rfl]
theorem VD {s:List UInt8} (h:s.all Eb=false):(Hh s).2=60:=by
 rw [List.all_eq_false] at h;obtain ⟨b,hb,hc⟩:=h;obtain ⟨i,hi,e⟩:=Jnt hb;unfold Hh;obtain ⟨k,r,hk,hr,hs⟩:=IG (stop:=λ i=>if Eb (s.getD i 0) then none else some ((i:Int),(60:Int))) hi (by
  rw [CN hi,e];simp only [Jnh] at hc;rw [hc];rfl)
 rw [hs];simp only at hr ⊢;split at hr
 ·cases hr
 ·cases hr;rfl
theorem Jbn {s:List UInt8} (hl:s.length<9223372036854775807):Ev (λ n=>Lt n s) (s.all Eb):=by
 unfold Lt;refine Ev.bind (Yp hl) ?_;cases h:s.all Eb with
 | true=>rw [Qi h];exact Ev.const
 | false=>rw [VD h];exact Ev.const
def Db (r:AC) (m:Int):Bool:=
 r.Print.all Eb&&decide (r.Print.length<=4)&&decide (1<=r.Cells.length)&&decide (r.Cells.length<=4) &&
 (decide (1<=r.Left)&&decide (r.Left<=63)&&decide (1<=r.Right)&&decide (r.Right<=63)&&decide (0<=r.From)&&decide (r.From<m)&&decide (0<=r.To)&&decide (r.To<m)) &&
 r.Cells.all (λ c=>decide (c<63)) &&
 (bif r.Print.any EK then decide (r.Print.length=1)&&decide (r.Cells.length=1)&&r.Cells.any (λ c=>c==0) else !r.Cells.any (λ c=>c==0))
end Go.AI
end
section
namespace Go.AI
theorem Jbo {r:AC} (hl:r.Print.length<9223372036854775807):Ev (λ n=>whl (λ (x:(Bool×Int))=>Fm n r x.1 x.2) n (false,0)) (r.Print.any EK):=by
 refine Ev.whl (body:=λ n x=>Fm n r x.1 x.2) (λ k x=>∃ i:Nat,x.2=(i:Int)/\i<=r.Print.length/\k=r.Print.length-i/\x.1=(r.Print.take i).any EK) ?_ r.Print.length (false,0) ⟨0,rfl,by omega,by omega,by simp⟩;rintro k ⟨b,i'⟩ ⟨i,h1,hi,rfl,h2⟩;simp only at h1 h2;subst h1;subst h2;rcases Jnk i r.Print.length with hlt|hge
 ·left;have hg:r.Print[i]? = some r.Print[i]:=Jnx hlt;have hcond:decide ((i:Int)<((r.Print.length:Nat):Int))=true:=by simpa using hlt
  refine ⟨((r.Print.take (i+1)).any EK,((i+1:Nat):Int)),r.Print.length-(i+1),by omega,⟨i+1,rfl,by omega,rfl,rfl⟩,Ev.all λ n=>?_⟩;unfold Fm;rw [if_pos hcond];have ht:(r.Print.take (i+1)).any EK=((r.Print.take i).any EK||EK r.Print[i]):=by
   rw [List.take_add_one,hg];simp only [Option.toList_some,List.any_append,List.any_cons,List.any_nil,Bool.or_false]
  have hsp:∀ n,QP n (Qg r.Print[i])=some (EK r.Print[i]):=λ n=>rfl;rw [ht,Ro (by omega) (by omega),Qh hg];cases (r.Print.take i).any EK with
  | true=>simp
  | false=>simp [hsp]
 ·right;have e:i=r.Print.length:=by omega
  subst e;refine Ev.all λ n=>?_;unfold Fm;rw [if_neg (by simp),List.take_length]
theorem Ev.upto {σ ρ:Type} {body:Nat->σ->Option (σ⊕ρ)} {R:ρ->Prop} (N:Nat) (I:Nat->σ->Prop)
  (step:∀ i x,i<N->I i x->(∃ y,I (i+1) y/\Ev (λ n=>body n x) (.inl y))\/∃ r,R r/\Ev (λ n=>body n x) (.inr r))
  (last:∀ x,I N x->∃ r,R r/\Ev (λ n=>body n x) (.inr r)) (x:σ) (h0:I 0 x):∃ r,R r/\Ev (λ n=>Go.AI.whl (body n) n x) r:=by
 refine Jm1 (body:=body) (λ k x=>∃ i,i<=N/\k=N-i/\I i x) ?_ N x ⟨0,by omega,by omega,h0⟩;rintro k x ⟨i,hi,rfl,hx⟩;rcases Jnk i N with hlt|hge
 ·rcases step i x hlt hx with ⟨y,hy,hE⟩|h
  ·exact .inl ⟨y,N-(i+1),by omega,⟨i+1,by omega,rfl,hy⟩,hE⟩
  ·exact .inr h
 ·have:i=N:=by omega
  subst this;exact .inr (last x hx)
theorem Jbp {r:AC} (hl:r.Cells.length<9223372036854775807) (y:Bool):∃ z:Bool⊕Bool,(if r.Cells.all (λ c=>decide (c<63))=true then z=.inl (r.Cells.any (λ c=>c==0)) else z=.inr false)/\Ev (λ n=>whl (λ (x:(Bool×Int))=>Ek n r y x.1 x.2) n (false,0)) z:=by
 refine Ev.upto (body:=λ n x=>Ek n r y x.1 x.2) r.Cells.length (λ i x=>x.2=(i:Int)/\x.1=(r.Cells.take i).any (λ c=>c==0)/\(r.Cells.take i).all (λ c=>decide (c<63))=true) ?_ ?_ (false,0) ⟨rfl,by simp,by simp⟩
 ·rintro i ⟨b,i'⟩ hlt ⟨h1,h2,h3⟩;simp only at h1 h2;subst h1;subst h2;have hg:r.Cells[i]? = some r.Cells[i]:=Jnx hlt;have hcond:decide ((i:Int)<((r.Cells.length:Nat):Int))=true:=by simpa using hlt
  by_cases hc:r.Cells[i]<63
  ·left;refine ⟨((r.Cells.take (i+1)).any (λ c=>c==0),((i+1:Nat):Int)),⟨rfl,rfl,?_⟩,Ev.all λ n=>?_⟩
   ·rw [List.take_add_one,hg];simp only [Option.toList_some,List.all_append,h3,List.all_cons,decide_eq_true hc,List.all_nil,Bool.and_self]
   ·unfold Ek;have ht:(r.Cells.take (i+1)).any (λ c=>c==0)=((r.Cells.take i).any (λ c=>c==0)||r.Cells[i]==0):=by
     rw [List.take_add_one,hg];simp only [Option.toList_some,List.any_append,List.any_cons,List.any_nil,Bool.or_false]
    rw [if_pos hcond,LZ hg,Jm9,if_neg (by simpa using hc),ht,Ro (by omega) (by omega)];cases (r.Cells.take i).any (λ c=>c==0) with
    | true=>simp
    | false=>simp
  ·right;refine ⟨.inr false,?_,Ev.all λ n=>?_⟩
   ·rw [if_neg];intro h;rw [Jnd] at h;exact hc (by simpa using h r.Cells[i] (Jnf hlt))
   ·unfold Ek;rw [if_pos hcond,LZ hg,Jm9,if_pos (by simp;omega)]
 ·rintro ⟨b,i'⟩ ⟨h1,h2,h3⟩;simp only at h1 h2;subst h1;subst h2;rw [List.take_length] at h3 ⊢;refine ⟨.inl (r.Cells.any (λ c=>c==0)),by rw [if_pos h3],Ev.all λ n=>?_⟩;unfold Ek;rw [if_neg (by simp)]
theorem JeJ {r:AC} (hp:r.Print.length<9223372036854775807) (hc:r.Cells.length<9223372036854775807) (m:Int):Ev (λ n=>NI n r m) (Db r m):=by
 obtain ⟨z,hz,hE⟩:=Jbp hc (r.Print.any EK);have h1:=Jbn hp;have h2:=Jbo (r:=r) hp;unfold NI;refine Ev.bind h1 ?_;unfold Db;generalize r.Print.all Eb=a;by_cases g1:((((!a)||(decide (((r.Print.length:Nat):Int)>4)))||(decide (((r.Cells.length:Nat):Int)<1)))||(decide (((r.Cells.length:Nat):Int)>4)))=true
 ·simp only [g1,if_true];have:(a&&decide (r.Print.length<=4)&&decide (1<=r.Cells.length)&&decide (r.Cells.length<=4))=false:=by
   rw [← Jnh];intro h;simp only [Jny,decide_eq_true_eq] at h;simp only [JnR,decide_eq_true_eq,Bool.not_eq_true'] at g1;rcases g1 with ((g|g)|g)|g
   ·rw [g] at h;simp at h
   all_goals omega
  rw [this];exact Ev.const
 ·simp only [g1];by_cases g2:((((((((decide (r.Left<1))||(decide (r.Left>63)))||(decide (r.Right<1)))||(decide (r.Right>63)))||(decide (r.From<0)))||(decide (r.From>=m)))||(decide (r.To<0)))||(decide (r.To>=m)))=true
  ·simp only [g2,if_true];have:(decide (1<=r.Left)&&decide (r.Left<=63)&&decide (1<=r.Right)&&decide (r.Right<=63)&&decide (0<=r.From)&&decide (r.From<m)&&decide (0<=r.To)&&decide (r.To<m))=false:=by
    rw [← Jnh];intro h;simp only [Jny,decide_eq_true_eq] at h;simp only [JnR,decide_eq_true_eq] at g2;omega
   rw [this,Bool.and_false];exact Ev.const
  ·have e1:(a&&decide (r.Print.length<=4)&&decide (1<=r.Cells.length)&&decide (r.Cells.length<=4))=true:=by
    simp only [JnR,decide_eq_true_eq,Bool.not_eq_true',not_or] at g1;simp only [Jny,decide_eq_true_eq];refine ⟨⟨⟨by simpa using g1.1.1.1,?_⟩,?_⟩,?_⟩<;>omega
   have e2:(decide (1<=r.Left)&&decide (r.Left<=63)&&decide (1<=r.Right)&&decide (r.Right<=63)&&decide (0<=r.From)&&decide (r.From<m)&&decide (0<=r.To)&&decide (r.To<m))=true:=by
    simp only [JnR,decide_eq_true_eq,not_or] at g2;simp only [Jny,decide_eq_true_eq];omega
   rw [e1,e2];simp only [g2,JnK,if_false];refine Ev.bind h2 (Ev.bind hE ?_);split at hz
   ·rename_i h;subst hz;rw [h];generalize r.Print.any EK=b;cases b with
    | false=>exact Ev.const
    | true=>
     refine Ev.all λ n=>?_;simp only [Jng,JnK,if_false,Bool.and_true,Bool.true_and,cond_true];congr 3<;>rw [Bool.eq_iff_iff]<;>simp<;>omega
   ·rename_i h;subst hz;rw [Jnh] at h;rw [h];exact Ev.const
end Go.AI
end
section
namespace Go.AI
theorem Ev.iteT {α:Type} {c:Bool} {a b:Nat->Option α} {z:α} (h:c=true) (k:Ev a z):Ev (λ n=>if c=true then a n else b n) z:=by subst h;exact k
theorem Ev.iteF {α:Type} {c:Bool} {a b:Nat->Option α} {z:α} (h:c=false) (k:Ev b z):Ev (λ n=>if c=true then a n else b n) z:=by subst h;exact k
theorem Ev.bindC {α β:Type} {x:Option β} {y:β} {g:Nat->β->Option α} {z:α} (h:x=some y) (k:Ev (λ n=>g n y) z):Ev (λ n=>x.bind (g n)) z:=by subst h;exact k
theorem Ev.guard {α β:Type} {c:Bool} {f:Nat->Option β} {d x:β} {g:Nat->β->Option α} {z:α} (h:c=true->Ev f x) (k:Ev (λ n=>g n (if c=true then x else d)) z):Ev (λ n=>(if c=true then f n else some d).bind (g n)) z:=by
 cases c with
 | true=>exact Ev.bind (h rfl) k
 | false=>exact k
theorem WN {α β:Type} {a:List α} {b:List β}:(((a.length:Nat):Int) != ((b.length:Nat):Int))=decide (a.length≠b.length):=by
 rw [Bool.eq_iff_iff];simp only [bne_iff_ne,ne_eq,decide_eq_true_eq];omega
theorem Rq {α:Type} [DecidableEq α] [Inhabited α] (a b:List α) (h:a.length=b.length):scan a.length (λ i=>if a.getD i default=b.getD i default then none else some false)=if a=b then .inl () else .inr false:=by
 by_cases e:a=b
 ·subst e;rw [if_pos rfl];exact IF λ i _=>by rw [if_pos rfl]
 ·rw [if_neg e];have:∃ i,i<a.length/\a.getD i default≠b.getD i default:=by
   apply Classical.byContradiction;intro hn;refine e (List.ext_getElem h λ i h1 h2=>?_);have:=Classical.byContradiction λ hc=>hn ⟨i,h1,hc⟩;rwa [CN h1,CN h2] at this
  obtain ⟨i,hi,hne⟩:=this;obtain ⟨k,r,_,hr,hs⟩:=IG (stop:=λ i=>if a.getD i default=b.getD i default then none else some false) hi (by rw [if_neg hne];rfl)
  rw [hs];split at hr
  ·cases hr
  ·cases hr;rfl
theorem Qj (a b:List Int) (ha:a.length<9223372036854775807):Ev (λ n=>DT n a b) (decide (a=b)):=by
 unfold DT;rw [WN];by_cases h:a.length=b.length
 ·refine Ev.iteF (by simp [h]) ?_;refine Ev.bind (GZ a.length (λ i=>if a.getD i default=b.getD i default then none else some false) (λ i hi=>Ev.all λ n=>?_) (Ev.all λ n=>?_)) ?_
  ·unfold Dp;rw [if_pos (Du hi),Hz hi,Hz (by omega)];simp only [Jm9];by_cases e:a.getD i default=b.getD i default
   ·rw [if_neg (by simp only [bne_iff_ne,ne_eq];exact λ hh=>hh e),if_pos e,FC (by omega)]
   ·rw [if_pos (by simp only [bne_iff_ne,ne_eq];exact e),if_neg e]
  ·unfold Dp;rw [if_neg (by simp)]
  ·rw [Rq a b h];by_cases e:a=b
   ·rw [if_pos e,decide_eq_true e];exact Ev.const
   ·rw [if_neg e,decide_eq_false e];exact Ev.const
 ·refine Ev.iteT (by simp [h]) ?_;rw [decide_eq_false (λ e=>h (by rw [e]))];exact Ev.const
theorem Yq (a b:List Int) (ha:a.length<9223372036854775807):Ev (λ n=>IA n a b) (decide (a=b)):=by
 unfold IA;rw [WN];by_cases h:a.length=b.length
 ·refine Ev.iteF (by simp [h]) ?_;refine Ev.bind (GZ a.length (λ i=>if a.getD i default=b.getD i default then none else some false) (λ i hi=>Ev.all λ n=>?_) (Ev.all λ n=>?_)) ?_
  ·unfold Fl;rw [if_pos (Du hi),Hz hi,Hz (by omega)];simp only [Jm9];by_cases e:a.getD i default=b.getD i default
   ·rw [if_neg (by simp only [bne_iff_ne,ne_eq];exact λ hh=>hh e),if_pos e,FC (by omega)]
   ·rw [if_pos (by simp only [bne_iff_ne,ne_eq];exact e),if_neg e]
  ·unfold Fl;rw [if_neg (by simp)]
  ·rw [Rq a b h];by_cases e:a=b
   ·rw [if_pos e,decide_eq_true e];exact Ev.const
   ·rw [if_neg e,decide_eq_false e];exact Ev.const
 ·refine Ev.iteT (by simp [h]) ?_;rw [decide_eq_false (λ e=>h (by rw [e]))];exact Ev.const
theorem Jaa (a b:AC):decide (a=b)=(a.Print==b.Print&&decide (a.Cells=b.Cells)&&a.Left==b.Left&&a.Right==b.Right&&a.From==b.From&&a.To==b.To):=by
 rw [Bool.eq_iff_iff];cases a;cases b;simp only [decide_eq_true_eq,AC.mk.injEq,Jny,beq_iff_eq];exact ⟨λ ⟨h1,h2,h3,h4,h5,h6⟩=>⟨⟨⟨⟨⟨h1,h2⟩,h3⟩,h4⟩,h5⟩,h6⟩,λ ⟨⟨⟨⟨⟨h1,h2⟩,h3⟩,h4⟩,h5⟩,h6⟩=>⟨h1,h2,h3,h4,h5,h6⟩⟩
theorem Yr (a b:AC) (ha:a.Cells.length<9223372036854775807):Ev (λ n=>Io n a b) (decide (a=b)):=by
 unfold Io;refine Ev.guard (λ _=>Qj a.Cells b.Cells ha) (Ev.all λ n=>?_);rw [Jaa];cases h:(a.Print==b.Print)<;>simp
theorem JeK (a b:AC) (ha:a.Cells.length<9223372036854775807):Ev (λ n=>IB n a b) (decide (a=b)):=by
 unfold IB;refine Ev.guard (λ _=>Yq a.Cells b.Cells ha) (Ev.all λ n=>?_);rw [Jaa];cases (a.Print==b.Print)<;>cases (a.Left==b.Left)<;>cases (a.Right==b.Right)<;>cases (a.From==b.From)<;>cases (a.To==b.To)<;>simp
theorem Ys (b:UInt8):(GY (Qg b)==4)=EK b:=by
 have:∀ k:Nat,k<256->(GY (k:Int)==4)=(CW .u8 (k:Int) 127==32):=by decide +kernel
 exact this b.toNat b.toNat_lt
theorem JeL {s:List UInt8} {f:UInt8->Bool}:scan s.length (λ i=>if f (s.getD i 0) then some true else none)=if s.any f then .inr true else .inl ():=by
 cases h:s.any f with
 | false=>
  rw [List.any_eq_false] at h;exact IF λ i hi=>by rw [CN hi,if_neg (h _ (Jnf hi))]
 | true=>
  rw [List.any_eq_true] at h;obtain ⟨b,hb,hf⟩:=h;obtain ⟨i,hi,e⟩:=Jnt hb;obtain ⟨k,r,_,hr,hs⟩:=IG (stop:=λ i=>if f (s.getD i 0) then some true else none) hi (by rw [CN hi,e,hf];rfl)
  rw [hs];split at hr
  ·cases hr;rfl
  ·cases hr
theorem Yt {s:List UInt8} (hl:s.length<9223372036854775807):Ev (λ n=>Fj n s) (s.any EK):=by
 unfold Fj;refine Ev.bind (GZ s.length (λ i=>if EK (s.getD i 0) then some true else none) (λ i hi=>Ev.all λ n=>?_) (Ev.all λ n=>?_)) ?_
 ·unfold Dy;have hg:s[i]? = some s[i]:=Jnx hi;rw [if_pos (Du hi),Qh hg,CN hi];simp only [Jm9,Uo,Ys];cases EK s[i] with
  | true=>simp
  | false=>simp [FC (show i<9223372036854775807 by omega)]
 ·unfold Dy;rw [if_neg (by simp)]
 ·rw [JeL];cases s.any EK<;>exact Ev.const
theorem Jbq {l:List Int} {f:Int->Bool}:scan l.length (λ i=>if f (l.getD i 0) then none else some false)=if l.all f then .inl () else .inr false:=by
 cases h:l.all f with
 | true=>
  rw [Jnd] at h;exact IF λ i hi=>by rw [CN hi,if_pos (h _ (Jnf hi))]
 | false=>
  rw [List.all_eq_false] at h;obtain ⟨b,hb,hf⟩:=h;obtain ⟨i,hi,e⟩:=Jnt hb;obtain ⟨k,r,_,hr,hs⟩:=IG (stop:=λ i=>if f (l.getD i 0) then none else some false) hi (by rw [CN hi,e,if_neg hf];rfl)
  rw [hs];split at hr
  ·cases hr
  ·cases hr;rfl
def R0 (c:Int):Bool:=decide (c<63)&&!(c==0)
theorem Jbr {r:AC} (hp:r.Print.length<9223372036854775807) (hc:r.Cells.length<9223372036854775807) (m:Int):Ev (λ n=>Iz n r m) (Db r m):=by
 unfold Iz;by_cases g1:(((decide (((r.Print.length:Nat):Int)>4))||(decide (((r.Cells.length:Nat):Int)<1)))||(decide (((r.Cells.length:Nat):Int)>4)))=true
 ·refine Ev.iteT g1 ?_;have:Db r m=false:=by
   rw [← Jnh];intro h;simp only [Db,Jny,decide_eq_true_eq] at h;simp only [JnR,decide_eq_true_eq] at g1;omega
  rw [this];exact Ev.const
 ·rw [Jnh] at g1;refine Ev.iteF g1 (Ev.bind (SI hp) ?_);cases ha:r.Print.all Eb with
  | false=>
   refine Ev.iteT (by rw [VD ha];rfl) ?_;have:Db r m=false:=by simp [Db,ha]
   rw [this];exact Ev.const
  | true=>
   refine Ev.iteF (by rw [Qi ha];rfl) ?_;by_cases g2:((((decide (r.Left<1))||(decide (r.Left>63)))||(decide (r.Right<1)))||(decide (r.Right>63)))=true
   ·refine Ev.iteT g2 ?_;have:Db r m=false:=by
     rw [← Jnh];intro h;simp only [Db,Jny,decide_eq_true_eq] at h;simp only [JnR,decide_eq_true_eq] at g2;omega
    rw [this];exact Ev.const
   ·rw [Jnh] at g2;refine Ev.iteF g2 ?_;by_cases g3:((((decide (r.From<0))||(decide (r.From>=m)))||(decide (r.To<0)))||(decide (r.To>=m)))=true
    ·refine Ev.iteT g3 ?_;have:Db r m=false:=by
      rw [← Jnh];intro h;simp only [Db,Jny,decide_eq_true_eq] at h;simp only [JnR,decide_eq_true_eq] at g3;omega
     rw [this];exact Ev.const
    ·rw [Jnh] at g3;refine Ev.iteF g3 (Ev.bind (Yt hp) ?_);simp only [Jnw,decide_eq_false_iff_not] at g1 g2 g3;have e1:Db r m=(r.Cells.all (λ c=>decide (c<63))&&(bif r.Print.any EK then decide (r.Print.length=1)&&decide (r.Cells.length=1)&&r.Cells.any (λ c=>c==0) else !r.Cells.any (λ c=>c==0))):=by
      unfold Db;rw [ha];have:(true&&decide (r.Print.length<=4)&&decide (1<=r.Cells.length)&&decide (r.Cells.length<=4)&&(decide (1<=r.Left)&&decide (r.Left<=63)&&decide (1<=r.Right)&&decide (r.Right<=63)&&decide (0<=r.From)&&decide (r.From<m)&&decide (0<=r.To)&&decide (r.To<m)))=true:=by
       simp only [Jny,decide_eq_true_eq,true_and];omega
      rw [this,Bool.true_and]
     rw [e1];cases hsp:r.Print.any EK with
     | true=>
      refine Ev.iteT rfl ?_;by_cases g4:((((r.Print.length:Nat):Int)==1)&&(((r.Cells.length:Nat):Int)==1))=true
      ·have hl:r.Print.length=1/\r.Cells.length=1:=by
        simp only [Jny,beq_iff_eq] at g4;omega
       obtain ⟨c,hcell⟩:=List.length_eq_one_iff.1 hl.2;have hi:idx r.Cells 0=some c:=by rw [hcell];rfl
       simp only [g4,if_true,hi,Jm9];refine Ev.all λ n=>?_;rw [hcell];simp only [hl.1,List.all_cons,List.all_nil,List.any_cons,List.any_nil,List.length_cons,List.length_nil,Bool.and_true,Bool.or_false,decide_true,Bool.true_and,cond_true];cases h0:(c==0) with
       | false=>simp
       | true=>
        have:c=0:=by simpa using h0
        subst this;rfl
      ·rw [Jnh] at g4;simp only [g4,JnK,if_false,Jm9,Bool.false_and];refine Ev.all λ n=>?_;have:(decide (r.Print.length=1)&&decide (r.Cells.length=1))=false:=by
        rw [← Jnh];intro h;simp only [Jny,decide_eq_true_eq] at h;rw [← Jnh] at g4;apply g4;simp [h.1,h.2]
       simp [this]
     | false=>
      refine Ev.iteF rfl ?_;refine Ev.bind (GZ r.Cells.length (λ i=>if R0 (r.Cells.getD i 0) then none else some false) (λ i hi=>Ev.all λ n=>?_) (Ev.all λ n=>?_)) ?_
      ·unfold Fk;rw [if_pos (Du hi),Hz hi,show r.Cells.getD i default=r.Cells.getD i 0 from rfl];generalize r.Cells.getD i 0=c;simp only [Jm9,Kz];by_cases hcc:R0 c=true
       ·simp only [R0,Jny,decide_eq_true_eq,Bool.not_eq_true',beq_eq_false_iff_ne,ne_eq] at hcc;rw [if_neg (by simp;omega),if_pos (by simp [R0];omega),FC (by omega)]
       ·rw [if_pos (by simp [R0] at hcc ⊢;omega),if_neg hcc]
      ·unfold Fk;rw [if_neg (by simp)]
      ·rw [Jbq];have e2:(r.Cells.all (λ c=>decide (c<63))&&!r.Cells.any (λ c=>c==0))=r.Cells.all R0:=by
        rw [Bool.eq_iff_iff];simp only [R0,Jny,Jnd,Bool.not_eq_true',List.any_eq_false,Jnh];exact ⟨λ h x hx=>⟨h.1 x hx,h.2 x hx⟩,λ h=>⟨λ x hx=>(h x hx).1,λ x hx=>(h x hx).2⟩⟩
       simp only [cond_false];rw [e2];cases r.Cells.all R0<;>exact Ev.const
end Go.AI
end
section
namespace Go.AI
def JeM (r:AC):Prop:=r.Print.length<9223372036854775807/\r.Cells.length<9223372036854775807
def H9 (t:Ad):Prop:=t.Rules.length<9223372036854775807/\∀ r∈t.Rules,JeM r
def Yu (t:Ad) (i:Nat):Unit⊕(Int×Int):=scan i (λ k=>if t.Rules.getD k default=t.Rules.getD i default then some ((i:Int),(20:Int)) else none)
def K3 (t:Ad) (i:Nat):Option (Int×Int):=if Db (t.Rules.getD i default) t.Modes=true then (match Yu t i with | .inl _=>none | .inr p=>some p) else some ((i:Int),20)
def Yv (t:Ad):Bool:=decide (t.Modes<1)||decide (t.Modes>8)||(t.Accept==0)||decide (IntKind.i64.wrap t.Accept>=Ts .i64 1 t.Modes)||decide (((t.Rules.length:Nat):Int)<1)||decide (((t.Rules.length:Nat):Int)>64)
def Rr (t:Ad):Int×Int:=if Yv t=true then (-1,1) else match scan t.Rules.length (K3 t) with
 | .inl _=>(0,0)
 | .inr p=>p
theorem H9.get {t:Ad} (h:H9 t) {i:Nat} (hi:i<t.Rules.length):JeM (t.Rules.getD i default):=by
 rw [CN hi];exact h.2 _ (Jnf hi)
theorem Jbs {t:Ad} (ht:H9 t) {i:Nat} (hi:i<t.Rules.length):Ev (λ n=>whl (λ (x:Int)=>GM n t (i:Int) x) n 0) (Yu t i):=by
 refine GZ i _ (λ k hk=>?_) (Ev.all λ n=>?_)
 ·unfold GM;refine Ev.iteT (by simpa using hk) (Ev.bindC (Hz (by omega)) (Ev.bindC (Hz hi) (Ev.bind (Yr _ _ (ht.get (by omega)).2) (Ev.all λ n=>?_))));by_cases e:t.Rules.getD k default=t.Rules.getD i default
  ·rw [if_pos (decide_eq_true e),if_pos e]
  ·rw [if_neg (by simpa using e),if_neg e,FC (by have:=ht.1;omega)]
 ·unfold GM;rw [if_neg (by simp)]
theorem Zu {t:Ad} (ht:H9 t) {i:Nat} (hi:i<t.Rules.length):Ev (λ n=>whl (λ (x:Int)=>Ei n t (i:Int) (t.Rules.getD i default) (t.Rules.take i) x) n 0) (Yu t i):=by
 refine GZ i _ (λ k hk=>?_) (Ev.all λ n=>?_)
 ·unfold Ei;have hk':k<(t.Rules.take i).length:=by rw [List.length_take];omega
  have hg:(t.Rules.take i).getD k default=t.Rules.getD k default:=by rw [CN hk',CN (by omega),List.getElem_take]
  refine Ev.iteT (Du hk') (Ev.bindC (Hz hk') ?_);rw [hg];refine Ev.bind (JeK _ _ (ht.get (by omega)).2) (Ev.all λ n=>?_);by_cases e:t.Rules.getD k default=t.Rules.getD i default
  ·rw [if_pos (decide_eq_true e),if_pos e]
  ·rw [if_neg (by simpa using e),if_neg e,FC (by have:=ht.1;omega)]
 ·unfold Ei;rw [if_neg (by simp;omega)]
theorem Jbt {t:Ad} (ht:H9 t):Ev (λ n=>whl (λ (x:Int)=>GN n t x) n 0) (scan t.Rules.length (K3 t)):=by
 refine GZ _ _ (λ i hi=>?_) (Ev.all λ n=>?_)
 ·unfold GN;refine Ev.iteT (Du hi) (Ev.bindC (Hz hi) (Ev.bind (JeJ (ht.get hi).1 (ht.get hi).2 t.Modes) ?_));unfold K3;cases Db (t.Rules.getD i default) t.Modes with
  | false=>exact Ev.iteT rfl Ev.const
  | true=>
   refine Ev.iteF rfl (Ev.bind (Jbs ht hi) ?_);cases Yu t i with
   | inl u=>refine Ev.all λ n=>?_;simp [FC (show i<9223372036854775807 by have:=ht.1;omega)]
   | inr p=>exact Ev.const
 ·unfold GN;rw [if_neg (by simp)]
theorem Zv {t:Ad} (ht:H9 t):Ev (λ n=>whl (λ (x:Int)=>Ej n t x) n 0) (scan t.Rules.length (K3 t)):=by
 refine GZ _ _ (λ i hi=>?_) (Ev.all λ n=>?_)
 ·unfold Ej;refine Ev.iteT (Du hi) (Ev.bindC (Hz hi) (Ev.bind (Jbr (ht.get hi).1 (ht.get hi).2 t.Modes) ?_));unfold K3;cases Db (t.Rules.getD i default) t.Modes with
  | false=>exact Ev.iteT rfl Ev.const
  | true=>
   refine Ev.iteF rfl (Ev.bindC (L3 (by omega)) (Ev.bind (Zu ht hi) ?_));cases Yu t i with
   | inl u=>refine Ev.all λ n=>?_;simp [FC (show i<9223372036854775807 by have:=ht.1;omega)]
   | inr p=>exact Ev.const
 ·unfold Ej;rw [if_neg (by simp)]
theorem JeN {t:Ad} (ht:H9 t):Ev (λ n=>NJ n t) (Rr t):=by
 unfold NJ Rr;refine Ev.bindC (y:=()) ?_ ?_
 ·split
  ·rename_i h;simp only [Bool.not_eq_true',Jnw,decide_eq_false_iff_not] at h;exact EC (by simp;omega)
  ·rfl
 ·show Ev (λ n=>if Yv t=true then _ else _) _
  cases Yv t with
  | true=>exact Ev.iteT rfl Ev.const
  | false=>
   refine Ev.iteF rfl (Ev.bind (Jbt ht) ?_);generalize scan t.Rules.length _=z;cases z<;>exact Ev.const
theorem Jbu {t:Ad} (ht:H9 t):Ev (λ n=>IC n t) (Rr t):=by
 unfold IC Rr Yv;cases h1:((decide (t.Modes<1))||(decide (t.Modes>8))) with
 | true=>exact Ev.iteT rfl (by simp only [Bool.true_or,if_true];exact Ev.const)
 | false=>
  refine Ev.iteF rfl (Ev.bindC (y:=()) ?_ ?_)
  ·split
   ·simp only [Jnw,decide_eq_false_iff_not] at h1;exact EC (by simp;omega)
   ·rfl
  ·simp only [Bool.false_or];cases h2:((t.Accept==0)||(decide (IntKind.i64.wrap t.Accept>=Ts .i64 1 t.Modes))) with
   | true=>exact Ev.iteT rfl (by simp only [Bool.true_or,if_true];exact Ev.const)
   | false=>
    refine Ev.iteF rfl ?_;simp only [Bool.false_or];cases h3:((decide (((t.Rules.length:Nat):Int)<1))||(decide (((t.Rules.length:Nat):Int)>64))) with
    | true=>exact Ev.iteT rfl (by simp only [if_true];exact Ev.const)
    | false=>
     refine Ev.iteF rfl (Ev.bind (Zv ht) ?_);simp only [JnK,if_false];generalize scan t.Rules.length _=z;cases z<;>exact Ev.const
def Gd (t:Ad):Bool:=!Yv t&&t.Rules.all (λ r=>Db r t.Modes)&&decide t.Rules.Nodup
theorem Qk (t:Ad):((Rr t).2==0)=Gd t:=by
 unfold Rr Gd;cases Yv t with
 | true=>rfl
 | false=>
  simp only [JnK,if_false,Bool.not_false,Bool.true_and];have h20:∀ i p,K3 t i=some p->p.2=20:=by
   intro i p h;unfold K3 at h;split at h
   ·split at h
    ·cases h
    ·rename_i q hq;cases h;unfold Yu scan at hq;split at hq
     ·rename_i r hr;cases hq;obtain ⟨k,_,hk⟩:=List.exists_of_findSome?_eq_some hr;split at hk
      ·cases hk;rfl
      ·cases hk
     ·cases hq
   ·cases h;rfl
  have hiff:(∀ i,i<t.Rules.length->K3 t i=none)↔(t.Rules.all (λ r=>Db r t.Modes)&&decide t.Rules.Nodup)=true:=by
   simp only [Jny,Jnd,decide_eq_true_eq];constructor
   ·intro h;have hs:∀ i,i<t.Rules.length->Db (t.Rules.getD i default) t.Modes=true:=by
     intro i hi;have:=h i hi;unfold K3 at this;split at this
     ·assumption
     ·cases this
    refine ⟨λ r hr=>?_,?_⟩
    ·obtain ⟨i,hi,e⟩:=Jnt hr;have:=hs i hi;rwa [CN hi,e] at this
    ·rw [List.Nodup,List.pairwise_iff_getElem];intro k i hk hi hlt e;have h0:=h i hi;unfold K3 at h0;rw [if_pos (hs i hi)] at h0;obtain ⟨_,r,_,_,hsc⟩:=IG (N:=i) (stop:=λ k=>if t.Rules.getD k default=t.Rules.getD i default then some ((i:Int),(20:Int)) else none) hlt (by rw [CN hk,CN hi,if_pos e];rfl)
     unfold Yu at h0;rw [hsc] at h0;cases h0
   ·rintro ⟨h1,h2⟩ i hi;unfold K3;rw [if_pos (by rw [CN hi];exact h1 _ (Jnf hi))];have:Yu t i=.inl ():=IF λ k hk=>by
     rw [CN (show k<t.Rules.length by omega),CN hi,if_neg];rw [List.Nodup,List.pairwise_iff_getElem] at h2;exact h2 k i (by omega) hi hk
    rw [this]
  cases hv:(t.Rules.all (λ r=>Db r t.Modes)&&decide t.Rules.Nodup) with
  | true=>rw [IF (hiff.2 hv)];rfl
  | false=>
   have:¬∀ i,i<t.Rules.length->K3 t i=none:=λ h=>by rw [hiff.1 h] at hv;cases hv
   have:∃ i,i<t.Rules.length/\K3 t i≠none:=Classical.byContradiction λ hn=>this λ i hi=>Classical.byContradiction λ hc=>hn ⟨i,hi,hc⟩;obtain ⟨i,hi,hne⟩:=this;obtain ⟨k,r,_,hr,hs⟩:=IG hi (Option.isSome_iff_ne_none.2 hne);rw [hs];show (r.2==0)=false;rw [h20 k r hr];rfl
theorem JeO {t:Ad} (ht:H9 t):Ev (λ n=>QQ n t) (Gd t):=by
 rw [← Qk];exact Ev.bind (JeN ht) Ev.const
theorem Jbv {t:Ad} (ht:H9 t):Ev (λ n=>Hs n t) (Gd t):=by
 rw [← Qk];exact Ev.bind (Jbu ht) Ev.const
theorem Zw {t:Ad} {l:List AC} (h:Gd t=true) (hl:l.Sublist t.Rules) (h1:1<=l.length):Gd ⟨t.Modes,t.Accept,l⟩=true:=by
 unfold Gd Yv at h ⊢;simp only [Jny,Bool.not_eq_true',Jnw,decide_eq_false_iff_not,Jnd,decide_eq_true_eq] at h ⊢;have hle:=hl.length_le;exact ⟨⟨⟨⟨h.1.1.1.1,by omega⟩,by omega⟩,λ r hr=>h.1.2 r (hl.subset hr)⟩,hl.nodup h.2⟩
theorem Ql {t:Ad} (h:Gd t=true):∀ r∈t.Rules,Db r t.Modes=true:=by
 unfold Gd at h;simp only [Jny,Jnd] at h;exact h.1.2
end Go.AI
end
section
namespace Go.AI
def Yw (r:Int):Ad:=(KA 0 r).getD default
theorem WO (n:Nat) (k:Int) (h0:0<=k):KA n k=some (Yw (Bd k 8))/\0<=Bd k 8/\Bd k 8<8:=by
 have e:Bd k 8=k % 8:=by unfold Bd;rw [Int.tmod_eq_emod_of_nonneg h0]
 have hr:Bd k 8=0\/Bd k 8=1\/Bd k 8=2\/Bd k 8=3\/Bd k 8=4\/Bd k 8=5\/Bd k 8=6\/Bd k 8=7:=by rw [e];omega
 rcases hr with h|h|h|h|h|h|h|h
 all_goals
  refine ⟨?_,by omega,by omega⟩;unfold KA;rw [h];rfl
def WQ (r:AC):Bool:=decide (0<=r.To)&&decide (r.To<2)&&decide (0<=r.Right)&&decide (r.Right<=63)&&decide (r.Print.length<=3)
theorem Zx {r:AC} (h:WQ r=true):Pb r:=by
 simp only [WQ,Jny,decide_eq_true_eq] at h;obtain ⟨⟨⟨⟨h1,h2⟩,h3⟩,h4⟩,h5⟩:=h;exact ⟨h1,h2,h3,h4,h5⟩
def WS (t:Ad):Bool:=decide (t.Rules.length<=8)&&t.Rules.all WQ&&decide (1<=t.Modes)&&decide (t.Modes<=2)&&Gd t
theorem Jgy {r:Int} (h:0<=r) (h':r<8):WS (Yw r)=true:=by
 have:∀ k:Nat,k<8->WS (Yw (k:Int))=true:=by decide +kernel
 have e:=this r.toNat (by omega);rwa [Int.toNat_of_nonneg h] at e
def U8 (n:Int):Prop:=0<=n/\n<256
def Jab (x:DY):Prop:=(∀ a∈x.P,U8 a)/\(∀ a∈x.C,U8 a)/\U8 x.L/\U8 x.R/\U8 x.W.a0/\U8 x.W.a1
theorem E8 {a m:Int} (h:0<=a) (hm:0<m):0<=Bd a m/\Bd a m<m:=(K1 h hm).2
theorem Pc {α:Type} {l:List α} {i:Int} (h:0<=i) (h':i<l.length):∃ x,x∈l/\idx l i=some x:=by
 have hl:i.toNat<l.length:=by omega
 refine ⟨l[i.toNat],Jnf hl,?_⟩;unfold idx;rw [if_pos h];exact Jnx hl
theorem Jgz {α:Type} {l:List α} {i:Int} (h:0<=i) (h':i<l.length):∃ z,z.length=1/\sub l i (i+1)=some z:=by
 refine ⟨(l.take (i+1).toNat).drop i.toNat,?_,?_⟩
 ·simp;omega
 ·unfold sub;rw [if_pos (by omega)]
def Jac (a b:AC):Prop:=a.Left=b.Left/\a.Right=b.Right/\a.From=b.From/\a.To=b.To
theorem JeP (x:DY) (hx:∀ a∈x.P,U8 a) (r0:AC) (h0:r0.Print=[]):Tot (λ n=>whl (λ (y:(AC×Int))=>Gr n x y.1 y.2) n (r0,0)) (λ r=>r.Print.length<=3/\Jac r r0):=by
 refine Tot.upto (body:=λ n y=>Gr n x y.1 y.2) (min x.P.length 3) (λ i y=>y.2=(i:Int)/\y.1.Print.length=i/\Jac y.1 r0) ?_ ?_ (r0,0) ⟨rfl,by simp [h0],rfl,rfl,rfl,rfl⟩
 ·rintro i ⟨r,i'⟩ hi ⟨h1,h2,h3⟩;simp only at h1 h2 h3;subst h1;obtain ⟨c,hcm,hci⟩:=Pc (l:=x.P) (i:=(i:Int)) (by omega) (by omega);have hu:=hx c hcm;have hr:=E8 (m:=9) hu.1 (by omega);have hw:IntKind.i64.wrap (Bd c 9)=Bd c 9:=Un (by omega) (by omega);obtain ⟨z,hz1,hz⟩:=Jgz (l:=([97,98,99,65,66,49,50,45,46]:List UInt8)) (i:=Bd c 9) hr.1 (by simpa using hr.2);unfold Gr;refine Tot.iteT (by simp only [Jny,decide_eq_true_eq];omega) (Tot.bindC hci ?_);simp only [hw];rw [E7 (by omega) (by omega)];refine Tot.bindC hz (Tot.bindC (Rp (by omega)) (Jm2 ⟨FC (by omega),by simp [h2,hz1],h3⟩))
 ·rintro ⟨r,i'⟩ ⟨h1,h2,h3⟩;simp only at h1 h2 h3;subst h1;unfold Gr;exact Tot.iteF (by rw [← Jnh];simp only [Jny,decide_eq_true_eq];omega) (Jm2 ⟨by show r.Print.length<=3;omega,h3⟩)
theorem JeQ (x:DY) (hx:∀ a∈x.C,U8 a) (r0:AC) (h0:r0.Cells.length=1):Tot (λ n=>whl (λ (y:(AC×Int))=>Gs n x y.1 y.2) n (r0,0)) (λ r=>(r.Cells.length<=3/\1<=r.Cells.length)/\r.Print=r0.Print/\Jac r r0):=by
 refine Tot.upto (body:=λ n y=>Gs n x y.1 y.2) (min x.C.length 2) (λ i y=>y.2=(i:Int)/\y.1.Cells.length=i+1/\y.1.Print=r0.Print/\Jac y.1 r0) ?_ ?_ (r0,0) ⟨rfl,by simp [h0],rfl,rfl,rfl,rfl,rfl⟩
 ·rintro i ⟨r,i'⟩ hi ⟨h1,h2,h3,h4⟩;simp only at h1 h2 h3 h4;subst h1;obtain ⟨c,hcm,hci⟩:=Pc (l:=x.C) (i:=(i:Int)) (by omega) (by omega);have hu:=hx c hcm;have hr:=E8 (m:=8) hu.1 (by omega);obtain ⟨z,_,hz⟩:=Pc (l:=([1,3,9,5,7,32,44,60]:List Int)) (i:=Bd c 8) hr.1 (by simpa using hr.2);unfold Gs;refine Tot.iteT (by simp only [Jny,decide_eq_true_eq];omega) (Tot.bindC hci (Tot.bindC hz (Tot.bindC (Gc (by simp;omega)) (Jm2 ⟨FC (by omega),by simp [h2],h3,h4⟩))))
 ·rintro ⟨r,i'⟩ ⟨h1,h2,h3,h4⟩;simp only at h1 h2 h3 h4;subst h1;unfold Gs;exact Tot.iteF (by rw [← Jnh];simp only [Jny,decide_eq_true_eq];omega) (Jm2 ⟨by show r.Cells.length<=3/\1<=r.Cells.length;omega,h3,h4⟩)
theorem JgA {x:DY} (hx:Jab x) {m:Int} (hm:1<=m) (hm':m<=2):Tot (λ n=>PK n x m) (λ r=>Pb r/\(r.Cells.length<=3/\1<=r.Cells.length)/\0<=r.From/\r.From<m/\0<=r.To/\r.To<m):=by
 obtain ⟨hP,hC,hL,hR,hW0,hW1⟩:=hx;have l8:=E8 (m:=8) hL.1 (by omega);have r8:=E8 (m:=8) hR.1 (by omega);obtain ⟨a,ham,ha⟩:=Pc (l:=([63,63,2,8,17,62,4,1]:List Int)) (i:=Bd x.L 8) l8.1 (by simpa using l8.2);obtain ⟨b,hbm,hb⟩:=Pc (l:=([63,63,2,8,17,62,4,1]:List Int)) (i:=Bd x.R 8) r8.1 (by simpa using r8.2);have hq:0<=JfD .u8 x.L 8:=by unfold JfD;exact (Yk _).1
 have q8:=E8 (m:=8) hq (by omega);obtain ⟨c,_,hc⟩:=Pc (l:=([1,3,9,5,7,32,44,60]:List Int)) (i:=Bd (JfD .u8 x.L 8) 8) q8.1 (by simpa using q8.2);have hg:Bu (!(m==0))=some ():=EC (by simp;omega);have w0:IntKind.i64.wrap x.W.a0=x.W.a0:=Un (by have:=hW0.1;omega) (by have:=hW0.2;omega);have w1:IntKind.i64.wrap x.W.a1=x.W.a1:=Un (by have:=hW1.1;omega) (by have:=hW1.2;omega);have hfr:=E8 (a:=x.W.a0) (m:=m) hW0.1 (by omega);have hto:=E8 (a:=x.W.a1) (m:=m) hW1.1 (by omega);have hbr:0<=b/\b<=63:=by
  simp at hbm;omega
 unfold PK;refine Tot.bindC ha (Tot.bindC hb (Tot.bindC hg (Tot.bindC hg (Tot.bind (JeP x hP _ rfl) ?_))));rintro r1 ⟨p1,p2,p3,p4,p5⟩;refine Tot.bindC hc (Tot.bind (JeQ x hC _ rfl) ?_);rintro r2 ⟨q1,q2,q3,q4,q5,q6⟩;simp only at q2 q3 q4 q5 q6;rw [p3] at q4;rw [p4] at q5;rw [p5] at q6;simp only [w0,w1] at q5 q6 q4;refine Jm2 ⟨⟨?_,?_,?_,?_,?_⟩,q1,?_,?_,?_,?_⟩
 all_goals first|(rw [q6];omega)|(rw [q4];omega)|(rw [q5];omega)|(rw [q2];exact p1)
def Qm (x:NY):Prop:=0<=x.Base/\∀ r∈x.More,Jab r
structure Ia (t:Ad):Prop where
 tab:I4 t
 lo:1<=t.Modes
 hi:t.Modes<=2
 valid:Gd t=true
theorem Ia.sound {t:Ad} (h:Ia t):∀ r∈t.Rules,Db r t.Modes=true:=Ql h.valid
theorem Pd {r:AC} {m:Int} (h:Db r m=true):r.Print.length<=4/\1<=r.Cells.length/\r.Cells.length<=4:=by
 simp only [Db,Jny,decide_eq_true_eq] at h;omega
theorem Ia.small {t:Ad} (h:Ia t):H9 t:=⟨by have:=h.tab.1;omega,λ r hr=>by have:=Pd (h.sound r hr);exact ⟨by omega,by omega⟩⟩
theorem JeR (x:NY) (b:Ad) (hb:b.Rules.length<=8):Tot (λ n=>whl (λ (y:(Ad×Int))=>Gt n x b y.1 y.2) n (({ Modes:=b.Modes,Accept:=b.Accept,Rules:=[] }:Ad),0)) (λ t=>t.Modes=b.Modes/\t.Accept=b.Accept/\t.Rules.Sublist b.Rules):=by
 refine Tot.upto (body:=λ n y=>Gt n x b y.1 y.2) b.Rules.length (λ i y=>y.2=(i:Int)/\y.1.Modes=b.Modes/\y.1.Accept=b.Accept/\y.1.Rules.Sublist (b.Rules.take i)) ?_ ?_ _ ⟨rfl,rfl,rfl,by simp⟩
 ·rintro i ⟨t,i'⟩ hi ⟨h1,h2,h3,h4⟩;simp only at h1 h2 h3 h4;subst h1;have ht:b.Rules.take (i+1)=b.Rules.take i++[b.Rules.getD i default]:=by rw [List.take_add_one,CN hi,Jnx hi];rfl
  have hlen:=h4.length_le;rw [List.length_take] at hlen;unfold Gt;refine Tot.iteT (Du hi) (Tot.bindC (EC (by simp)) (Tot.ite (λ _=>Tot.bindC (Hz hi) (Tot.bindC (Gc (by simp;omega)) ?_)) λ _=>?_))
  ·unfold HO;exact Jm2 ⟨FC (by omega),h2,h3,by rw [ht];exact h4.append (List.Sublist.refl _)⟩
  ·unfold HO;exact Jm2 ⟨FC (by omega),h2,h3,by rw [ht];exact h4.trans (List.sublist_append_left _ _)⟩
 ·rintro ⟨t,i'⟩ ⟨h1,h2,h3,h4⟩;simp only at h1 h2 h3 h4;subst h1;rw [List.take_length] at h4;unfold Gt;exact Tot.iteF (by simp) (Jm2 ⟨h2,h3,h4⟩)
structure JkG (b t:Ad):Prop where
 modes:t.Modes=b.Modes
 accept:t.Accept=b.Accept
 rules:∀ r∈t.Rules,Pb r/\r.Cells.length<=4
 valid:t.Rules=[]\/Gd t=true
theorem Jbw {t:Ad} (hl:t.Rules.length<=11) (h:∀ r∈t.Rules,Pb r/\r.Cells.length<=4):H9 t:=⟨by omega,λ r hr=>⟨by have:=(h r hr).1.2.2.2.2;omega,by have:=(h r hr).2;omega⟩⟩
theorem JeS (x:NY) (hx:∀ r∈x.More,Jab r) (b t0:Ad) (hlo:1<=b.Modes) (hhi:b.Modes<=2) (h0:JkG b t0) (hl0:t0.Rules.length<=8):Tot (λ n=>whl (λ (y:(Ad×Int))=>Gu n x b y.1 y.2) n (t0,0)) (λ t=>JkG b t/\t.Rules.length<=10):=by
 refine Tot.upto (body:=λ n y=>Gu n x b y.1 y.2) (min x.More.length 2) (λ i y=>y.2=(i:Int)/\JkG b y.1/\y.1.Rules.length<=8+i) ?_ ?_ _ ⟨rfl,h0,by simpa using hl0⟩
 ·rintro i ⟨t,i'⟩ hi ⟨h1,h2,h3⟩;simp only at h1 h2 h3;subst h1;unfold Gu;refine Tot.iteT (by simp only [Jny,decide_eq_true_eq];omega) (Tot.bindC (Em (by omega)) ?_);rw [h2.modes];refine Tot.bind (JgA (hx _ (Jnf _)) hlo hhi) ?_;rintro r ⟨hr1,hr2,-⟩;refine Tot.bindC (Gc (by simp;omega)) ?_;have hall:∀ q∈t.Rules++[r],Pb q/\q.Cells.length<=4:=by
   intro q hq;simp only [List.mem_append,List.mem_singleton] at hq;rcases hq with hq|rfl
   ·exact h2.rules q hq
   ·exact ⟨hr1,by omega⟩
  refine Jm3 (JeO (Jbw (t:=⟨b.Modes,t.Accept,t.Rules++[r]⟩) (by simp;omega) hall)) ?_;refine Tot.ite (λ _=>?_) λ hv=>?_
  ·have e:DL .i64 ((List.length (t.Rules++[r]):Nat):Int) 1=(t.Rules.length:Nat):=by
    rw [K0 (by simp<;>omega) (by simp<;>omega)];simp
   rw [e];refine Tot.bindC (L3 (by simp)) ?_;unfold HP;rw [List.take_left' rfl];exact Jm2 ⟨FC (by omega),⟨rfl,h2.accept,h2.rules,by have:=h2.valid;have hm:=h2.modes;cases t;simp only at hm this ⊢;subst hm;exact this⟩,by simp only;omega⟩
  ·unfold HP;exact Jm2 ⟨FC (by omega),⟨rfl,h2.accept,hall,.inr (by simpa using hv)⟩,by simp;omega⟩
 ·rintro ⟨t,i'⟩ ⟨h1,h2,h3⟩;simp only at h1 h2 h3;subst h1;unfold Gu;exact Tot.iteF (by rw [← Jnh];simp only [Jny,decide_eq_true_eq];omega) (Jm2 ⟨h2,by show t.Rules.length<=10;omega⟩)
theorem Jbx {x:NY} (hx:Qm x):∃ t,(Ia t/\1<=t.Rules.length/\t.Rules.length<=10)/\Ev (λ n=>KB n x) t:=by
 have hb:∀ n,KA n x.Base=some (Yw (Bd x.Base 8)):=λ n=>(WO n x.Base hx.1).1;have hok:=Jgy (WO 0 x.Base hx.1).2.1 (WO 0 x.Base hx.1).2.2;generalize Yw (Bd x.Base 8)=b at *;unfold WS at hok;simp only [Jny,decide_eq_true_eq,Jnd] at hok;obtain ⟨⟨⟨⟨o1,o2⟩,o3⟩,o4⟩,o5⟩:=hok;have gb:∀ r∈b.Rules,Pb r/\r.Cells.length<=4:=λ r hr=>⟨Zx (o2 r hr),(Pd (Ql o5 r hr)).2.2⟩;have hne:∀ t:Ad,Gd t=true->1<=t.Rules.length:=λ t h=>by
  unfold Gd Yv at h;simp only [Jny,Bool.not_eq_true',Jnw,decide_eq_false_iff_not] at h;omega
 have:Tot (λ n=>KB n x) (λ t=>Ia t/\1<=t.Rules.length/\t.Rules.length<=10):=by
  unfold KB;refine Jm4 hb (Tot.bind (JeR x b o1) ?_);rintro t1 ⟨a1,a2,a3⟩;refine Tot.bind (JeS x hx.2 b t1 o3 o4 ⟨a1,a2,λ r hr=>gb r (a3.subset hr),?_⟩ (by have:=a3.length_le;omega)) ?_
  ·rcases Nat.eq_zero_or_pos t1.Rules.length with h|h
   ·exact .inl (Jnl.1 h)
   ·right;have:=Zw o5 a3 h;cases t1;simp only at a1 a2 this ⊢;subst a1 a2;exact this
  rintro t2 ⟨b1,b2⟩;refine Tot.ite (λ h=>?_) λ h=>?_
  ·unfold HQ;have e:(⟨t2.Modes,t2.Accept,b.Rules⟩:Ad)=b:=by rw [b1.modes,b1.accept]
   rw [e];exact Jm2 ⟨⟨⟨by omega,λ r hr=>(gb r hr).1⟩,o3,o4,o5⟩,hne b o5,by omega⟩
  ·unfold HQ;have hv:Gd t2=true:=b1.valid.resolve_left λ e=>by rw [e] at h;cases h
   exact Jm2 ⟨⟨⟨by omega,λ r hr=>(b1.rules r hr).1⟩,by rw [b1.modes];exact o3,by rw [b1.modes];exact o4,hv⟩,hne t2 hv,b2⟩
 obtain ⟨t,ht,hE⟩:=this;exact ⟨t,ht,hE⟩
end Go.AI
end
section
namespace Go.AI
def Dc (t:Ad) (k:Int):AC:=t.Rules[k.toNat]?.getD default
theorem Cq {t:Ad} {s:Ab} {k:Int} (h:(Au t s k).2=true):0<=k/\k<t.Rules.length:=by
 unfold Au at h;split at h
 ·cases h
 ·rename_i hk;simp only [JnR,decide_eq_true_eq,not_or] at hk;omega
theorem H3 {t:Ad} {k:Int} (h:0<=k) (h':k<t.Rules.length):idx t.Rules k=some (Dc t k):=Up h h'
theorem HA {t:Ad} {k:Int} (h:0<=k) (h':k<t.Rules.length):Dc t k∈t.Rules:=by
 unfold Dc;rw [Jnx (by omega)];exact Jnf _
end Go.AI
end
section
namespace Go.AI
theorem Pe {st:List Ab} (hn:st.Nodup) {i:Nat} {s:Ab} (h:st[i]? = some s):BY st s=(i:Int):=by
 unfold BY;rw [Dg hn h]
theorem NN {st:List Ab} (hn:st.Nodup) {i j:Nat} {s:Ab} (h:st[i]? = some s) (h':st[j]? = some s):i=j:=by
 have a:=Dg hn h;rw [Dg hn h'] at a;cases a;rfl
theorem Br {i:Nat} (h:i<9223372036854775807):An .i64 (i:Int) 1=((i+1:Nat):Int):=by
 rw [Ro (by omega) (by omega)];rfl
theorem BZ {st:List Ab} {s:Ab} (h:s∈st):∃ i:Nat,BY st s=i/\st[i]? = some s:=by
 unfold BY;cases hf:st.findIdx? (λ x=>decide (x=s)) with
 | none=>
  rw [List.findIdx?_eq_none_iff] at hf;have:=hf s h;simp at this
 | some i=>
  rw [List.findIdx?_eq_some_iff_getElem] at hf;obtain ⟨hi,h1,_⟩:=hf;refine ⟨i,rfl,?_⟩;rw [Jnx hi];simpa using h1
theorem Zy {st:List Ab} {s:Ab} (h:s ∉ st):BY st s=-1:=by
 unfold BY;rw [Ix h]
theorem Ut {st:List Ab} {s:Ab}:BY st s<0↔s ∉ st:=by
 constructor
 ·intro h hm;obtain ⟨i,e,_⟩:=BZ hm;omega
 ·intro h;rw [Zy h];omega
theorem Yx {t:Ad} (ht:I4 t) {st:List Ab} (hF:Hf t st) {i:Nat} {s:Ab} (hi:st[i]? = some s):Tot (λ n=>whl (λ (x:((List Ab)×Int))=>EB n t (i:Int) x.1 x.2) n (st,0)) (λ r=>r=KY t s t.Rules.length st):=by
 have hr:=ht.1;refine Tot.upto (body:=λ n x=>EB n t (i:Int) x.1 x.2) t.Rules.length (λ k x=>x.2=(k:Int)/\x.1=KY t s k st) ?_ ?_ _ ⟨rfl,rfl⟩
 ·rintro k ⟨l,k'⟩ hk ⟨e1,e2⟩;simp only at e1 e2;subst e1 e2;have hFk:=hF.exp ht hi k (by omega);have hik:=NM (H2 t s st k) hi;have hlen:=hFk.len;unfold EB;refine Tot.iteT (by simpa using hk) (Tot.bindC (BL hik) (Jm4 (λ n=>Qf ht.short n s k) (Tot.guard (R:=λ z=>z=BY (KY t s k st) (Au t s k).1) (λ _=>(KX (by dsimp only;omega)).tot rfl) (λ z hz=>?_))));have hJ:∀ l',l'=KY t s (k+1) st->Tot (λ n=>FG n (k:Int) l') (Rd2 (λ x:List Ab×Int=>x.2=((k+1:Nat):Int)/\x.1=KY t s (k+1) st) (λ r=>r=KY t s t.Rules.length st)):=by
   intro l' hl';unfold FG;exact Jm2 ⟨Br (by omega),hl'⟩
  have hx:KY t s (k+1) st=LY t s (KY t s k st) k:=KZ t s k st;refine Tot.ite (λ hc=>?_) (λ hc=>?_)
  ·simp only [Jny,decide_eq_true_eq] at hc;refine Tot.bindC (Gc (by simp;omega)) (hJ _ ?_);rw [hx];unfold LY;rw [if_pos ⟨hc.1,Ut.1 (by rw [← hz hc.1];exact hc.2)⟩]
  ·refine hJ _ ?_;rw [hx];unfold LY;rw [if_neg];rintro ⟨h1,h2⟩;rw [h1,hz h1,decide_eq_true (Ut.2 h2)] at hc;cases hc
 ·rintro ⟨l,k'⟩ ⟨e1,e2⟩;simp only at e1 e2;subst e1 e2;unfold EB;exact Tot.iteF (by simp) (Jm2 rfl)
theorem JkH (t:Ad):Hf t [A6]:=⟨by simp,λ s hs=>by simp at hs;subst hs;exact ⟨by decide,by decide,by decide,by decide,by decide,by decide⟩,rfl,λ j s hj h0=>by cases j with|zero=>omega|succ j=>simp at hj⟩
theorem Ny {t:Ad} (ht:I4 t):Ev (λ n=>Ht n t) (Aa t):=by
 have loop:Tot (λ n=>whl (λ (x:((List Ab)×Int))=>FH n t x.1 x.2) n ([A6],0)) (λ r=>r=Aa t):=by
  refine Tot.whl (body:=λ n x=>FH n t x.1 x.2) (λ k x=>∃ i:Nat,i<=x.1.length/\k=800-i/\Ur t (800-i) i x.1=Aa t/\x.2=(i:Int)/\Hf t x.1) ?_ 800 _ ⟨0,by simp,by omega,rfl,rfl,JkH t⟩;rintro k ⟨st,i'⟩ ⟨i,hil,rfl,hb,hi',hF⟩;simp only at hil hb hi' hF;subst hi';have hlen:=hF.len;unfold FH;refine Tot.ite (λ hc=>?_) (λ hc=>?_)
  ·have hlt:i<st.length:=by simpa using hc
   have hi:st[i]? = some st[i]:=Jnx hlt;have hexp:=hF.exp ht hi _ (Jni _);refine Tot.bind (Yx ht hF hi) ?_;rintro _ rfl;refine Jm2 ⟨800-(i+1),by omega,i+1,?_,rfl,?_,?_,hexp⟩
   ·have:=(H2 t st[i] st t.Rules.length).length_le;dsimp only;omega
   ·dsimp only;rw [← hb];have e:800-i=(800-(i+1))+1:=by omega
    rw [e];simp only [Ur,hi]
   ·exact Br (by omega)
  ·have hge:st.length<=i:=by simpa using hc
   have e:i=st.length:=by omega
   subst e;refine Jm2 ?_;show st=Aa t;rw [← hb];have e:800-st.length=(800-(st.length+1))+1:=by omega
   rw [e];simp [Ur]
 refine Tot.ev ?_;unfold Ht;exact Jm4 (y:=A6) (λ n=>rfl) (Tot.bind loop λ _ h=>Jm2 h)
end Go.AI
end
section
namespace Go.AI
def Edge (t:Ad) (st:List Ab) (i:Nat) (k:Nat) (j:Nat):Prop:=∃ s s',st[i]? = some s/\k<t.Rules.length/\st[j]? = some s'/\Au t s (k:Nat)=(s',true)
def JgB (l:List Bool):Nat:=l.count false
theorem JeT {l:List Bool} {i:Nat} (h:l[i]? = some false):JgB (l.set i true)+1=JgB l:=by
 have hi:=Aj h;rw [Jnx hi] at h;have h':l[i]=false:=by simpa using h
 have hp:0<List.count false l:=List.count_pos_iff.2 (h'▸Jnf hi);unfold JgB;rw [List.count_set hi,h'];simp;omega
end Go.AI
end
section
namespace Go.AI
def Pf (t:Ad) (s:Ab):List Int->Ab->Prop
 | [],s'=>s=s'
 | k::p,s'=>(Au t s k).2=true/\Pf t (Au t s k).1 p s'
theorem Pf.snoc {t:Ad}:∀ {p:List Int} {s s':Ab} {k:Int},Pf t s p s'->(Au t s' k).2=true->Pf t s (p++[k]) (Au t s' k).1
 | [],s,s',k,h,h'=>by
  unfold Pf at h;subst h;exact ⟨h',rfl⟩
 | a::p,s,s',k,h,h'=>⟨h.1,Pf.snoc h.2 h'⟩
theorem Pf.mem {t:Ad}:∀ {p:List Int} {s s':Ab},Pf t s p s'->∀ k∈p,0<=k/\k<t.Rules.length
 | [],_,_,_,k,hk=>by cases hk
 | a::p,s,s',h,k,hk=>by
  rcases List.mem_cons.1 hk with rfl|hk
  ·exact Cq h.1
  ·exact Pf.mem h.2 k hk
def E9 (t:Ad) (p:List Int):List UInt8:=p.flatMap λ k=>(Dc t k).Print
def cellsOf (t:Ad) (p:List Int):List Int:=p.flatMap λ k=>(Dc t k).Cells
end Go.AI
end
section
namespace Go.AI
def Way (t:Ad) (q:Ab) (x:List UInt8) (p:List Int):Prop:=(∃ q',Pf t q p q'/\Cy t q'=true)/\E9 t p=x
def Fa (t:Ad) (p:List Int):Nat:=(cellsOf t p).length
def Nz (t:Ad) (q:Ab) (x:List UInt8) (v:Int):Prop:=(v=-1/\∀ p,¬Way t q x p)\/∃ p,Way t q x p/\v=(Fa t p:Nat)/\∀ p',Way t q x p'->Fa t p<=Fa t p'
theorem Jad (t:Ad) (q:Ab) (x:List UInt8):∃ v,Nz t q x v:=by
 by_cases h:∃ p,Way t q x p
 ·obtain ⟨p,hp⟩:=h;have key:∀ (n:Nat) (p:List Int),Fa t p=n->Way t q x p->∃ v,Nz t q x v:=by
   intro n;induction n using Nat.strongRecOn with
   | _ n ih=>
    intro p hn hp;by_cases hm:∃ p',Way t q x p'/\Fa t p'<n
    ·obtain ⟨p',h1,h2⟩:=hm;exact ih _ h2 p' rfl h1
    ·exact ⟨(Fa t p:Nat),.inr ⟨p,hp,rfl,λ p' hp'=>Nat.le_of_not_lt λ hlt=>hm ⟨p',hp',by omega⟩⟩⟩
  exact key _ p rfl hp
 ·exact ⟨-1,.inl ⟨rfl,λ p hp=>h ⟨p,hp⟩⟩⟩
theorem Nz.uniq {t:Ad} {q:Ab} {x:List UInt8} {v w:Int} (h:Nz t q x v) (h':Nz t q x w):v=w:=by
 rcases h with ⟨h1,h2⟩|⟨p,h1,h2,h3⟩
 ·rcases h' with ⟨g1,g2⟩|⟨p',g1,g2,g3⟩
  ·omega
  ·exact absurd g1 (h2 p')
 ·rcases h' with ⟨g1,g2⟩|⟨p',g1,g2,g3⟩
  ·exact absurd h1 (g2 p)
  ·have:=h3 p' g1;have:=g3 p h1;omega
noncomputable def Aq (t:Ad) (q:Ab) (x:List UInt8):Int:=Classical.choose (Jad t q x)
theorem Qn (t:Ad) (q:Ab) (x:List UInt8):Nz t q x (Aq t q x):=Classical.choose_spec (Jad t q x)
theorem JeU {t:Ad} {q:Ab} {x:List UInt8} {v:Int} (h:Nz t q x v):Aq t q x=v:=(Qn t q x).uniq h
theorem I6 {t:Ad} {q:Ab} {x:List UInt8} {p:List Int} (h:Way t q x p):0<=Aq t q x/\Aq t q x<=(Fa t p:Nat):=by
 rcases Qn t q x with ⟨h1,h2⟩|⟨p',h1,h2,h3⟩
 ·exact absurd h (h2 p)
 ·have:=h3 p h;omega
theorem ED {t:Ad} {q:Ab} {x:List UInt8} (h:0<=Aq t q x):∃ p,Way t q x p/\Aq t q x=(Fa t p:Nat):=by
 rcases Qn t q x with ⟨h1,h2⟩|⟨p',h1,h2,h3⟩
 ·omega
 ·exact ⟨p',h1,h2⟩
theorem Qo (t:Ad) (q:Ab) (x:List UInt8):-1<=Aq t q x:=by
 rcases Qn t q x with h1|⟨p',h1,h2,h3⟩<;>omega
abbrev prt (t:Ad) (k:Int):List UInt8:=(Dc t k).Print
abbrev cls (t:Ad) (k:Int):List Int:=(Dc t k).Cells
theorem JW (t:Ad) (k:Int) (p:List Int):E9 t (k::p)=prt t k++E9 t p:=by simp [E9]
theorem EE (t:Ad) (k:Int) (p:List Int):Fa t (k::p)=(cls t k).length+Fa t p:=by simp [Fa,cellsOf]
theorem Way.cons {t:Ad} {q:Ab} {x:List UInt8} {p:List Int} {k:Int} (hk:(Au t q k).2=true) (h:Way t (Au t q k).1 x p):Way t q (prt t k++x) (k::p):=by
 obtain ⟨⟨q',h1,h2⟩,h3⟩:=h;exact ⟨⟨q',⟨hk,h1⟩,h2⟩,by rw [JW,h3]⟩
theorem Way.uncons {t:Ad} {q:Ab} {x:List UInt8} {p:List Int} {k:Int} (h:Way t q x (k::p)):(Au t q k).2=true/\∃ y,x=prt t k++y/\Way t (Au t q k).1 y p:=by
 obtain ⟨⟨q',h1,h2⟩,h3⟩:=h;exact ⟨h1.1,E9 t p,by rw [← h3,JW],⟨q',h1.2,h2⟩,rfl⟩
theorem Way.nil {t:Ad} {q:Ab} {x:List UInt8} (h:Way t q x []):x=[]/\Cy t q=true:=by
 obtain ⟨⟨q',h1,h2⟩,h3⟩:=h;unfold Pf at h1;subst h1;exact ⟨h3.symm,h2⟩
noncomputable def Cb (t:Ad) (q:Ab) (x:List UInt8) (k:Int):Int:=
 if (Au t q k).2=true/\prt t k <+: x/\0<=Aq t (Au t q k).1 (x.drop (prt t k).length) then Aq t (Au t q k).1 (x.drop (prt t k).length)+(cls t k).length else -1
theorem JeV {t:Ad} {q:Ab} {x:List UInt8} {k:Int} (h:0<=Cb t q x k):0<=Aq t q x/\Aq t q x<=Cb t q x k:=by
 unfold Cb at h ⊢;split at h
 ·rename_i hc;rw [if_pos hc];obtain ⟨h1,⟨y,rfl⟩,h3⟩:=hc;rw [List.drop_left] at h3 h ⊢;obtain ⟨p,hp,he⟩:=ED h3;have:=I6 (hp.cons h1);rw [EE] at this;omega
 ·omega
theorem JeW {t:Ad} {S:Ab->Prop} {x:List UInt8} {f:Ab->Int}
  (ach:∀ q,S q->f q=-1\/∃ p,Way t q x p/\f q=(Fa t p:Nat))
  (acc:∀ q,S q->x=[]->Cy t q=true->f q=0)
  (rel:∀ q k,S q->(Au t q k).2=true->prt t k≠[]->∀ y,x=prt t k++y->0<=Aq t (Au t q k).1 y->0<=f q/\f q<=Aq t (Au t q k).1 y+(cls t k).length)
  (sil:∀ q k,S q->(Au t q k).2=true->prt t k=[]->S (Au t q k).1/\(0<=f (Au t q k).1->0<=f q/\f q<=f (Au t q k).1+(cls t k).length)) :
  ∀ q,S q->Nz t q x (f q):=by
 have low:∀ (p:List Int) (q:Ab),S q->Way t q x p->0<=f q/\f q<=(Fa t p:Nat):=by
  intro p;induction p with
  | nil=>
   intro q hq h;obtain ⟨h1,h2⟩:=h.nil;rw [acc q hq h1 h2];omega
  | cons k p ih=>
   intro q hq h;obtain ⟨h1,y,h2,h3⟩:=h.uncons;rw [EE];by_cases he:prt t k=[]
   ·obtain ⟨g1,g2⟩:=sil q k hq h1 he;rw [he,List.nil_append] at h2;subst h2;have h4:=ih _ g1 h3;have:=g2 h4.1;omega
   ·have h4:=I6 h3;have:=rel q k hq h1 he y h2 h4.1;omega
 intro q hq;rcases ach q hq with h|⟨p,h1,h2⟩
 ·exact .inl ⟨h,λ p hp=>by have:=low p q hq hp;omega⟩
 ·exact .inr ⟨p,h1,h2,λ p' hp'=>by have:=low p' q hq hp';omega⟩
inductive Ge (t:Ad):Ab->List UInt8->List Int->Prop
 | nil {q:Ab} {x:List UInt8} (h:Aq t q x<=0):Ge t q x []
 | cons {q:Ab} {x:List UInt8} {k:Nat} {p:List Int} (h:0<Aq t q x) (hk:Cb t q x k=Aq t q x) (hm:∀ j:Nat,j<k->Cb t q x j≠Aq t q x) (hp:Ge t (Au t q k).1 (x.drop (prt t k).length) p):Ge t q x (k::p)
theorem Ge.uniq {t:Ad} {q:Ab} {x:List UInt8} {p p':List Int} (h:Ge t q x p) (h':Ge t q x p'):p=p':=by
 induction h generalizing p' with
 | nil h=>
  cases h' with
  | nil=>rfl
  | cons g=>omega
 | cons h hk hm _ ih=>
  cases h' with
  | nil g=>omega
  | cons g gk gm gp=>
   rename_i k _ _ k' _;have:k=k':=by
    rcases Nat.lt_trichotomy k k' with hlt|he|hgt
    ·exact absurd hk (gm _ hlt)
    ·exact he
    ·exact absurd gk (hm _ hgt)
   subst this;rw [ih gp]
theorem Fq {t:Ad} {q:Ab} {x:List UInt8} {k:Int} (h:0<=Cb t q x k):(Au t q k).2=true/\(∃ y,x=prt t k++y/\x.drop (prt t k).length=y)/\0<=Aq t (Au t q k).1 (x.drop (prt t k).length)/\Cb t q x k=Aq t (Au t q k).1 (x.drop (prt t k).length)+(cls t k).length:=by
 unfold Cb at h ⊢;split at h
 ·rename_i hc;rw [if_pos hc];obtain ⟨y,hy⟩:=hc.2.1;exact ⟨hc.1,⟨y,hy.symm,by rw [← hy,List.drop_left]⟩,hc.2.2,rfl⟩
 ·omega
theorem Jby {t:Ad} (hc:∀ r∈t.Rules,1<=r.Cells.length) {q:Ab} {x:List UInt8} (h:Aq t q x=0):Way t q x []:=by
 obtain ⟨p,hp,he⟩:=ED (t:=t) (q:=q) (x:=x) (by omega);cases p with
 | nil=>exact hp
 | cons k p=>
  obtain ⟨h1,_⟩:=hp.uncons;have hk:=Cq h1;have:=hc _ (HA hk.1 hk.2);rw [EE] at he;simp only [cls] at he;omega
theorem Ge.way {t:Ad} (hc:∀ r∈t.Rules,1<=r.Cells.length) {q:Ab} {x:List UInt8} {p:List Int} (h:Ge t q x p) (h0:0<=Aq t q x):Way t q x p/\Aq t q x=(Fa t p:Nat):=by
 induction h with
 | nil h=>exact ⟨Jby hc (by omega),by simp [Fa,cellsOf];omega⟩
 | cons h hk hm _ ih=>
  obtain ⟨h1,⟨y,h2,h3⟩,h4,h5⟩:=Fq (by rw [hk];omega);obtain ⟨i1,i2⟩:=ih h4;rw [h3] at i1 i2 h5;refine ⟨by rw [h2];exact i1.cons h1,?_⟩;rw [EE];omega
theorem VE {t:Ad} {q:Ab} {x:List UInt8} (h:0<Aq t q x):∃ k:Nat,k<t.Rules.length/\Cb t q x k=Aq t q x:=by
 obtain ⟨p,hp,he⟩:=ED (t:=t) (q:=q) (x:=x) (by omega);cases p with
 | nil=>simp [Fa,cellsOf] at he;omega
 | cons k p=>
  obtain ⟨h1,y,h2,h3⟩:=hp.uncons;have hk:=Cq h1;obtain ⟨k,rfl⟩:∃ n:Nat,k=n:=⟨k.toNat,by omega⟩;refine ⟨k,by omega,?_⟩;have h4:=I6 h3;have hn:Cb t q x k=Aq t (Au t q k).1 y+(cls t k).length:=by
   unfold Cb;subst h2;rw [List.drop_left,if_pos ⟨h1,List.prefix_append _ _,h4.1⟩]
  have h5:=JeV (t:=t) (q:=q) (x:=x) (k:=(k:Int)) (by omega);rw [EE] at he;omega
theorem Jbz {t:Ad} (hc:∀ r∈t.Rules,1<=r.Cells.length):∀ (n:Nat) (q:Ab) (x:List UInt8),Aq t q x<=n->∃ p,Ge t q x p:=by
 intro n;induction n with
 | zero=>intro q x h;exact ⟨[],.nil h⟩
 | succ n ih=>
  intro q x h;rcases Int.lt_or_le 0 (Aq t q x) with h0|h0
  ·have hex:=VE h0;have key:∀ m,(∃ k,k<m/\Cb t q x (k:Nat)=Aq t q x)->∃ k:Nat,Cb t q x k=Aq t q x/\∀ j:Nat,j<k->Cb t q x j≠Aq t q x:=by
    intro m;induction m with
    | zero=>rintro ⟨k,hk,_⟩;omega
    | succ m ihm=>
     rintro ⟨k,hk,h1⟩;by_cases hm:∃ k,k<m/\Cb t q x (k:Nat)=Aq t q x
     ·exact ihm hm
     ·exact ⟨k,h1,λ j hj hh=>hm ⟨j,by omega,hh⟩⟩
   obtain ⟨k,h1,h2⟩:=key _ hex;obtain ⟨g1,⟨y,g2,g3⟩,g4,g5⟩:=Fq (by rw [h1];omega);have hk:=Cq g1;have:=hc _ (HA hk.1 hk.2);obtain ⟨p,hp⟩:=ih (Au t q k).1 (x.drop (prt t k).length) (by simp only [cls] at g5;omega);exact ⟨k::p,.cons h0 h1 h2 hp⟩
  ·exact ⟨[],.nil h0⟩
end Go.AI
end
section
namespace Go.AI
def WT (l:List Int):Nat:=l.countP λ v=>decide (0<=v)
def phi (B:Nat) (l:List Int):Nat:=(l.map λ v=>if v<0 then B else v.toNat).sum
theorem JgC {B:Nat} {l:List Int} {j:Nat} {v c:Int} (h:l[j]? = some v) (hc:0<=c) (hlt:c<if v<0 then (B:Int) else v):phi B (l.set j c)<phi B l:=by
 induction l generalizing j with
 | nil=>simp at h
 | cons a l ih=>
  cases j with
  | zero=>
   simp only [Jnu,JnI] at h;subst h;simp only [phi,List.set_cons_zero,Jns,List.sum_cons];split at hlt
   ·rename_i h1;rw [if_pos h1,if_neg (by omega)];omega
   ·rename_i h1;rw [if_neg h1,if_neg (by omega)];omega
  | succ j=>
   simp only [List.getElem?_cons_succ] at h;have:=ih h;simp only [phi,List.set_cons_succ,Jns,List.sum_cons] at this ⊢;omega
theorem JeX {l:List Int} {j:Nat} {v c:Int} (h:l[j]? = some v) (hc:0<=c):WT (l.set j c)=WT l+(if v<0 then 1 else 0):=by
 induction l generalizing j with
 | nil=>simp at h
 | cons a l ih=>
  cases j with
  | zero=>
   simp only [Jnu,JnI] at h;subst h;simp only [WT,List.set_cons_zero,List.countP_cons,decide_eq_true_eq];rw [if_pos hc];by_cases h0:a<0
   ·rw [if_pos h0,if_neg (by omega)]
   ·rw [if_neg h0,if_pos (by omega)]
  | succ j=>
   simp only [List.getElem?_cons_succ] at h;have:=ih h;simp only [WT,List.set_cons_succ,List.countP_cons] at this ⊢;omega
theorem Qp (l:List Int):WT l<=l.length:=List.countP_le_length
structure Col (t:Ad) (x:List UInt8) (D:Nat) (qs:List Ab) (cur:List Int):Prop where
 len:cur.length=qs.length
 ach:∀ (j:Nat) q,qs[j]? = some q->∃ v,cur[j]? = some v/\(v=-1\/∃ p,Way t q x p/\v=(Fa t p:Nat))
 acc:∀ (j:Nat) q,qs[j]? = some q->x=[]->Cy t q=true->cur[j]? = some 0
 bnd:∀ (j:Nat) v,cur[j]? = some v->v<=((D+4*WT cur:Nat):Int)
theorem Col.top {t:Ad} {x:List UInt8} {D:Nat} {qs:List Ab} {cur:List Int} (h:Col t x D qs cur) {j:Nat} {v:Int} (hv:cur[j]? = some v):-1<=v/\v<=((D+4*qs.length:Nat):Int):=by
 have h1:=h.bnd j v hv;have h2:=Qp cur;rw [h.len] at h2;have hj:j<qs.length:=by rw [← h.len];exact Aj hv
 obtain ⟨w,hw,hd⟩:=h.ach j _ (Jnx hj);rw [hv] at hw;cases hw;refine ⟨?_,by omega⟩;rcases hd with rfl|⟨p,_,rfl⟩<;>omega
theorem Col.get {t:Ad} {x:List UInt8} {D:Nat} {qs:List Ab} {cur:List Int} (h:Col t x D qs cur) {j:Nat} (hj:j<qs.length):∃ v,cur[j]? = some v:=⟨_,Jnx (by rw [h.len];exact hj)⟩
theorem Col.lower {t:Ad} {x:List UInt8} {D:Nat} {qs:List Ab} {cur:List Int} (h:Col t x D qs cur) {j:Nat} {q:Ab} {v c:Int} (hq:qs[j]? = some q) (hv:cur[j]? = some v)
  (hp:∃ p,Way t q x p/\c=(Fa t p:Nat)) (hlt:v<0\/c<v) (hb:c<=((D+4*WT cur+4:Nat):Int)) {B:Nat} (hB:c<(B:Int)):Col t x D qs (cur.set j c)/\phi B (cur.set j c)<phi B cur:=by
 have hc:0<=c:=by obtain ⟨p,_,rfl⟩:=hp;omega
 have hjl:=Aj hv;refine ⟨⟨by rw [JnP];exact h.len,λ i q' hi=>?_,λ i q' hi hx ha=>?_,λ i w hw=>?_⟩,JgC hv hc (by split<;>omega)⟩
 ·by_cases e:j=i
  ·subst e;rw [hq] at hi;cases hi;exact ⟨c,JnJ hjl,.inr hp⟩
  ·rw [JnO e];exact h.ach i q' hi
 ·by_cases e:j=i
  ·subst e;rw [h.acc j q' hi hx ha] at hv;cases hv;omega
  ·rw [JnO e];exact h.acc i q' hi hx ha
 ·rw [JeX hv hc];by_cases e:j=i
  ·subst e;rw [JnJ hjl] at hw;cases hw;have:=h.bnd j v hv;split<;>omega
  ·rw [JnO e] at hw;have:=h.bnd i w hw;omega
structure Jae (t:Ad) (x:List UInt8) (qs:List Ab) (cur:List Int):Prop where
 rel:∀ (j:Nat) q (k:Nat),qs[j]? = some q->(Au t q k).2=true->prt t k≠[]->∀ y,x=prt t k++y->0<=Aq t (Au t q k).1 y->∃ v,cur[j]? = some v/\0<=v/\v<=Aq t (Au t q k).1 y+(cls t k).length
structure Jho (t:Ad) (qs:List Ab) (cur:List Int):Prop where
 sil:∀ (j:Nat) q (k:Nat),qs[j]? = some q->(Au t q k).2=true->prt t k=[]->∃ (i:Nat) (w:Int),qs[i]? = some (Au t q k).1/\cur[i]? = some w/\(0<=w->∃ v,cur[j]? = some v/\0<=v/\v<=w+(cls t k).length)
theorem Col.exact {t:Ad} {x:List UInt8} {D:Nat} {qs:List Ab} {cur:List Int} (h:Col t x D qs cur) (hn:qs.Nodup) (h1:Jae t x qs cur) (h2:Jho t qs cur) {j:Nat} {q:Ab} (hq:qs[j]? = some q):cur[j]? = some (Aq t q x):=by
 let f:Ab->Int:=λ q=>cur.getD ((qs.findIdx? λ x=>decide (x=q)).getD 0) (-1);have hf:∀ (j:Nat) q v,qs[j]? = some q->cur[j]? = some v->f q=v:=by
  intro j q v hj hv;show cur.getD ((qs.findIdx? λ x=>decide (x=q)).getD 0) (-1)=v;rw [Dg hn hj,Jne,JnG,hv];rfl
 have key:=JeW (t:=t) (S:=λ q=>∃ j:Nat,qs[j]? = some q) (x:=x) (f:=f) ?_ ?_ ?_ ?_ q ⟨j,hq⟩
 ·obtain ⟨v,hv⟩:=h.get (Aj hq);rw [hf j q v hq hv] at key;rw [hv,JeU key]
 ·rintro q ⟨j,hj⟩;obtain ⟨v,hv,hd⟩:=h.ach j q hj;rw [hf j q v hj hv];exact hd
 ·rintro q ⟨j,hj⟩ hx ha;exact hf j q 0 hj (h.acc j q hj hx ha)
 ·rintro q k ⟨j,hj⟩ hs hp y hy hc;obtain ⟨k,rfl⟩:∃ n:Nat,k=n:=⟨k.toNat,by have:=Cq hs;omega⟩;obtain ⟨v,hv,g1,g2⟩:=h1.rel j q k hj hs hp y hy hc;rw [hf j q v hj hv];exact ⟨g1,g2⟩
 ·rintro q k ⟨j,hj⟩ hs hp;obtain ⟨k,rfl⟩:∃ n:Nat,k=n:=⟨k.toNat,by have:=Cq hs;omega⟩;obtain ⟨i,w,hi,hw,hh⟩:=h2.sil j q k hj hs hp;refine ⟨⟨i,hi⟩,?_⟩;rw [hf i _ w hi hw];intro h0;obtain ⟨v,hv,g1,g2⟩:=hh h0;rw [hf j q v hj hv];exact ⟨g1,g2⟩
theorem K4 {t:Ad} {q:Ab} {k:Int} {y:List UInt8} {c:Int} (hs:(Au t q k).2=true) (h:∃ p,Way t (Au t q k).1 y p/\c=(Fa t p:Nat)):∃ p,Way t q (prt t k++y) p/\c+((cls t k).length:Nat)=(Fa t p:Nat):=by
 obtain ⟨p,hp,rfl⟩:=h;exact ⟨k::p,hp.cons hs,by rw [EE];omega⟩
end Go.AI
end
section
namespace Go.AI
structure GG (t:Ad):Prop where
 tab:I4 t
 cl:∀ r∈t.Rules,1<=r.Cells.length/\r.Cells.length<=4
theorem GG.one {t:Ad} (h:GG t):∀ r∈t.Rules,1<=r.Cells.length:=λ r hr=>(h.cl r hr).1
theorem GG.pr {t:Ad} (h:GG t) {k:Int} {q:Ab} (hk:(Au t q k).2=true):(prt t k).length<=3/\1<=(cls t k).length/\(cls t k).length<=4:=by
 have h1:=Cq hk;have hm:=HA h1.1 h1.2;exact ⟨(h.tab.2 _ hm).2.2.2.2,h.cl _ hm⟩
theorem D6 {α:Type} (l:List α) (i:Nat) (d:α):l.set i (l.getD i d)=l:=by
 apply Jnm;intro j;rw [List.getElem?_set];split
 ·rename_i e;subst e;split
  ·rename_i hl;rw [JnG,Jnx hl];rfl
  ·rename_i hl;rw [JnT (by omega)]
 ·rfl
theorem De {α:Type} {l:List α} {i:Nat} (h:i<l.length) (y d:α):(l.set i y).getD i d=y:=by
 rw [JnG,JnJ h];rfl
theorem Dm {α:Type} {l:List α} {i j:Nat} (h:i≠j) (y d:α):(l.set i y).getD j d=l.getD j d:=by
 rw [JnG,JnO h,← JnG]
theorem AX {α:Type} {l:List α} {i:Nat} (d:α) (h:i<l.length):idx l (i:Int)=some (l.getD i d):=by
 rw [Em h,CN h]
theorem VF {s pr:List UInt8} {i:Nat} (hi:i<=s.length) (hs:s.length<1000000) (hp:pr.length<1000000) (n:Nat):IT n s (i:Int) pr=some (pr.isPrefixOf (s.drop i)):=by
 unfold IT;have e:An .i64 (i:Int) ((pr.length:Nat):Int)=((i+pr.length:Nat):Int):=by rw [E7]<;>omega
 rw [e];by_cases h:i+pr.length<=s.length
 ·rw [if_pos (by simp;omega),VC (by omega) (by omega) (by omega),Jm9];congr 1;rw [Bool.eq_iff_iff,Jny,beq_iff_eq,Jnj];have e2:(s.take ((i+pr.length:Nat):Int).toNat).drop (i:Int).toNat=(s.drop i).take pr.length:=by
   rw [JnH,JnH,List.drop_take];congr 1;omega
  rw [e2];constructor
  ·rintro ⟨_,h2⟩;rw [← h2];exact List.take_prefix _ _
  ·intro h2;exact ⟨by simp;omega,(List.prefix_iff_eq_take.1 h2).symm⟩
 ·rw [if_neg (by simp;omega),Jm9];congr 1;have:decide (((i+pr.length:Nat):Int)<=((s.length:Nat):Int))=false:=by simp;omega
  rw [this,Bool.false_and,eq_comm,← Jnh,Jnj];intro hp';have:=hp'.length_le;rw [List.length_drop] at this;omega
theorem CG {s pr:List UInt8} {i:Nat} (h:pr.isPrefixOf (s.drop i)=true):s.drop i=pr++s.drop (i+pr.length)/\(i<=s.length->i+pr.length<=s.length):=by
 rw [Jnj] at h;obtain ⟨y,hy⟩:=h;have:s.drop (i+pr.length)=y:=by rw [← List.drop_drop,← hy,List.drop_left]
 rw [this,hy];refine ⟨rfl,λ hi=>?_⟩;have:=congrArg List.length hy;rw [List.length_append,List.length_drop] at this;omega
def Kj (t:Ad) (s:List UInt8) (out:List (List Int)) (i:Nat) (q:Ab) (k:Nat):Int:=
 if (Au t q k).2=true/\(prt t k).isPrefixOf (s.drop i)=true then
  (if (out.getD (i+(prt t k).length) []).getD (BY (Aa t) (Au t q k).1).toNat 0<0 then -1 else (out.getD (i+(prt t k).length) []).getD (BY (Aa t) (Au t q k).1).toNat 0+(cls t k).length) else -1
structure Mv (t:Ad) (s:List UInt8) (i:Nat) (row:List Int):Prop where
 len:row.length=(Aa t).length
 val:∀ (j:Nat) q,(Aa t)[j]? = some q->row[j]? = some (Aq t q (s.drop i))
 bnd:∀ (j:Nat) v,row[j]? = some v->v<=((3072*(s.length-i+1):Nat):Int)
structure Suf (t:Ad) (s:List UInt8) (i:Nat) (out:List (List Int)):Prop where
 len:out.length=s.length+1
 rows:∀ i',i<i'->i'<=s.length->Mv t s i' (out.getD i' [])
 col:Col t (s.drop i) (3072*(s.length-i)) (Aa t) (out.getD i [])
section
variable {t:Ad} (hT:GG t) {s:List UInt8} (hs:s.length<=4000)
include hT
theorem Dt {q:Ab} (hq:q∈Aa t) {k:Nat} (hk:(Au t q k).2=true):(Au t q k).1∈Aa t:=by
 obtain ⟨j,hj,e⟩:=Jnt hq;have h:=Cq hk;exact (CC hT.tab).2 (j+1) j q (by omega) (by rw [← e];exact Jnx hj) k (by omega) hk
theorem EL:(Aa t).length<=768:=(CC hT.tab).1.len
theorem Qq:(Aa t).Nodup:=(CC hT.tab).1.nodup
include hs
theorem Uu {i:Nat} (hi:i<=s.length) {out:List (List Int)} (hol:out.length=s.length+1) (hR:∀ i',i<=i'->i'<=s.length->(out.getD i' []).length=(Aa t).length/\∀ (j:Nat) v,(out.getD i' [])[j]? = some v->-1<=v/\v<=13000000) {q:Ab} (hq:q∈Aa t) {k:Nat} (hk:k<t.Rules.length):Ev (λ n=>Hu n t ⟨s,i,q,Aa t⟩ k out) (Kj t s out i q k):=by
 have hlen:=EL hT;unfold Hu Kj;refine Ev.bind (Ev.all λ n=>Qf hT.tab.short n q k) ?_;cases hst:(Au t q k).2 with
 | false=>
  refine Ev.all λ n=>?_;simp
 | true=>
  obtain ⟨p1,p2,p3⟩:=hT.pr hst;have hr:=H3 (t:=t) (k:=(k:Int)) (by omega) (by omega);refine Ev.all (f:=λ n=>_) (λ n=>?_) |>.bind (x:=Dc t k) ?_
  ·simp [hr]
  refine Ev.bind (x:=(prt t k).isPrefixOf (s.drop i)) (Ev.all λ n=>?_) ?_
  ·rw [if_pos (by simp)];exact VF hi (by omega) (by simp only [prt] at p1;omega) n
  cases hb:(prt t k).isPrefixOf (s.drop i) with
  | false=>exact Ev.iteT (by simp) (by simp;exact Ev.const)
  | true=>
   obtain ⟨q1,q2⟩:=CG hb;have q2:=q2 hi;refine Ev.iteF (by simp) (Ev.bindC hr ?_);have e:An .i64 (i:Int) ((List.length (Dc t k).Print:Nat):Int)=((i+(prt t k).length:Nat):Int):=by rw [E7]<;>simp only [prt] at*<;> omega
   rw [show (({ S:=s,I:=(i:Int),State:=q,L:=Aa t }:FB).I)=(i:Int) from rfl,e];refine Ev.bindC (AX [] (by omega)) ?_;have hmem:=Dt hT hq hst;obtain ⟨m,hm,hmg⟩:=BZ hmem;refine Ev.bind (KX (l:=Aa t) (s:=(Au t q k).1) (by omega)) ?_;rw [hm];have hml:=Aj hmg;obtain ⟨hrl,hrb⟩:=hR (i+(prt t k).length) (by omega) q2;refine Ev.bindC (AX 0 (by rw [hrl];exact hml)) ?_;simp only [JnH,and_self,if_true];generalize hv:(out.getD (i+(prt t k).length) []).getD m 0=v;have hvg:(out.getD (i+(prt t k).length) [])[m]? = some v:=by
    rw [← hv,JnG (l:=out.getD (i+(prt t k).length) []),Jnx (by rw [hrl];exact hml)];rfl
   have hvb:=hrb m v hvg;by_cases hneg:v<0
   ·rw [if_pos hneg];exact Ev.iteT (by simpa using hneg) Ev.const
   ·rw [if_neg hneg];refine Ev.iteF (by simpa using hneg) (Ev.bindC hr (Ev.all λ n=>?_));rw [E7 (by simp only [cls] at *;omega) (by simp only [cls] at *;omega)]
theorem NA {i:Nat} {row:List Int} (h:Mv t s i row):row.length=(Aa t).length/\∀ (j:Nat) v,row[j]? = some v->-1<=v/\v<=13000000:=by
 have _:=hT;refine ⟨h.len,λ j v hv=>?_⟩;have h1:=h.bnd j v hv;have hj:j<(Aa t).length:=by rw [← h.len];exact Aj hv
 have h2:=h.val j _ (Jnx hj);rw [hv] at h2;have:=Qo t (Aa t)[j] (s.drop i);simp only [JnI] at h2;omega
theorem JeY {i:Nat} (hi:i<=s.length) {out:List (List Int)} (ho:Suf t s i out) {q:Ab} (hq:q∈Aa t) {k:Nat} (hk:k<t.Rules.length):Ev (λ n=>Hu n t ⟨s,i,q,Aa t⟩ k out) (Kj t s out i q k):=by
 refine Uu hT hs hi ho.len (λ i' h1 h2=>?_) hq hk;rcases Nat.eq_or_lt_of_le h1 with rfl|hlt
 ·refine ⟨ho.col.len,λ j v hv=>?_⟩;have h1:=ho.col.top hv;have:=EL hT;omega
 ·exact NA hT hs (ho.rows i' hlt h2)
omit hs in
theorem JgD {i:Nat} (hi:i<=s.length) {out:List (List Int)} (ho:Suf t s i out) {q:Ab} (hq:q∈Aa t) {k:Nat} (h:0<=Kj t s out i q k) :
  (∃ p,Way t q (s.drop i) p/\Kj t s out i q k=(Fa t p:Nat))/\Kj t s out i q k<=((3072*(s.length-i)+4*WT (out.getD i [])+4:Nat):Int):=by
 unfold Kj at h ⊢;split at h
 ·rename_i hc;rw [if_pos hc];obtain ⟨hst,hb⟩:=hc;obtain ⟨p1,p2,p3⟩:=hT.pr hst;obtain ⟨q1,q2⟩:=CG hb;have q2:=q2 hi;obtain ⟨m,hm,hmg⟩:=BZ (Dt hT hq hst);rw [hm,JnH] at h ⊢;split at h
  ·omega
  ·rename_i hneg;rw [if_neg hneg];rcases Nat.eq_zero_or_pos (prt t k).length with h0|h0
   ·have hp0:prt t k=[]:=Jnl.1 h0;rw [h0,Nat.add_zero] at h hneg ⊢;obtain ⟨v,hv,hd⟩:=ho.col.ach m _ hmg;have hvv:(out.getD i []).getD m 0=v:=by rw [JnG (l:=out.getD i []),hv];rfl
    rw [hvv] at h hneg ⊢;have hbn:=ho.col.bnd m v hv;refine ⟨?_,by omega⟩;have:=K4 hst (hd.resolve_left (by omega));rw [hp0,List.nil_append] at this;exact this
   ·have hR:=ho.rows _ (show i<i+(prt t k).length by omega) q2;have hv:=hR.val m _ hmg;have hvv:(out.getD (i+(prt t k).length) []).getD m 0=Aq t (Au t q k).1 (s.drop (i+(prt t k).length)):=by
     rw [JnG (l:=out.getD (i+(prt t k).length) []),hv];rfl
    have hbn:=hR.bnd m _ hv;rw [hvv] at h hneg ⊢;refine ⟨?_,?_⟩
    ·have:=K4 hst (ED (x:=s.drop (i+(prt t k).length)) (by omega));rwa [← q1] at this
    ·have:3072*(s.length-(i+(prt t k).length)+1)<=3072*(s.length-i):=by omega
     omega
 ·omega
def JkI (t:Ad) (s:List UInt8) (i:Nat) (out:List (List Int)) (j k:Nat):Prop:=∀ q,(Aa t)[j]? = some q->0<=Kj t s out i q k->∃ v,(out.getD i [])[j]? = some v/\0<=v/\v<=Kj t s out i q k
omit hs in
theorem JeZ {i:Nat} (hi:i<=s.length) {out:List (List Int)} (ho:Suf t s i out) (h:∀ j k,j<(Aa t).length->k<t.Rules.length->JkI t s i out j k):Mv t s i (out.getD i []):=by
 have hx:∀ (j:Nat) q,(Aa t)[j]? = some q->(out.getD i [])[j]? = some (Aq t q (s.drop i)):=by
  intro j q hq;refine ho.col.exact (Qq hT) ⟨λ j q k hj hst hp y hy hc=>?_⟩ ⟨λ j q k hj hst hp=>?_⟩ hq
  ·have hk:=Cq hst;have hb:(prt t k).isPrefixOf (s.drop i)=true:=by rw [Jnj,hy];exact List.prefix_append _ _
   obtain ⟨q1,q2⟩:=CG hb;have q2:=q2 hi;have hyy:s.drop (i+(prt t k).length)=y:=by rw [q1] at hy;exact List.append_cancel_left hy
   have hlp:0<(prt t k).length:=List.length_pos_iff.2 hp;obtain ⟨m,hm,hmg⟩:=BZ (Dt hT (Jnz hj) hst);have hv:=(ho.rows _ (show i<i+(prt t k).length by omega) q2).val m _ hmg;have ha:Kj t s out i q k=Aq t (Au t q k).1 y+(cls t k).length:=by
    unfold Kj;rw [if_pos ⟨hst,hb⟩,hm,JnH,JnG (l:=out.getD (i+(prt t k).length) []),hv,Jne,hyy,if_neg (by omega)]
   have:=h j k (Aj hj) (by omega) q hj (by omega);rwa [ha] at this
  ·have hk:=Cq hst;obtain ⟨m,hm,hmg⟩:=BZ (Dt hT (Jnz hj) hst);obtain ⟨w,hw,_⟩:=ho.col.ach m _ hmg;refine ⟨m,w,hmg,hw,λ h0=>?_⟩;have ha:Kj t s out i q k=w+(cls t k).length:=by
    unfold Kj;rw [if_pos ⟨hst,by rw [hp];rfl⟩,hm,JnH,hp,List.length_nil,Nat.add_zero,JnG (l:=out.getD i []),hw,Jne,if_neg (by omega)]
   have:=h j k (Aj hj) (by omega) q hj (by omega);rwa [ha] at this
 refine ⟨ho.col.len,hx,λ j v hv=>?_⟩;have h1:=(ho.col.top hv).2;have:=EL hT;omega
end
end Go.AI
end
section
namespace Go.AI
section
variable {t:Ad} (hT:GG t) {s:List UInt8} (hs:s.length<=4000)
include hT
def Cm (t:Ad) (x:List UInt8) (q:Ab):Int:=if x=[]/\Cy t q=true then 0 else -1
omit hT in
theorem Rs (t:Ad) (x:List UInt8) (D:Nat) (qs:List Ab):Col t x D qs (qs.map (Cm t x)):=by
 refine ⟨by simp,λ j q hj=>⟨Cm t x q,by simp [hj],?_⟩,λ j q hj hx ha=>by simp [hj,Cm,hx,ha],λ j v hv=>?_⟩
 ·unfold Cm;split
  ·rename_i h;exact .inr ⟨[],⟨⟨q,rfl,h.2⟩,by rw [h.1];rfl⟩,by simp [Fa,cellsOf]⟩
  ·exact .inl rfl
 ·rw [JnB,JnA] at hv;obtain ⟨q,_,rfl⟩:=hv;unfold Cm;split<;>omega
include hs
omit hT in
theorem Uv {i:Nat} (hi:i<=s.length):(((i:Nat):Int)==((s.length:Nat):Int))=decide (s.drop i=[]):=by
 have _:=hs;rw [Bool.eq_iff_iff];simp only [beq_iff_eq,decide_eq_true_eq,List.drop_eq_nil_iff];omega
theorem JgE {i:Nat} (hi:i<=s.length) (out0:List (List Int)) (hl:out0.length=s.length+1) (hr:(out0.getD i []).length=(Aa t).length) :
  Tot (λ n=>whl (λ (x:((List (List Int))×Int))=>Dz n t s (Aa t) (i:Int) x.1 x.2) n (out0,0)) (λ out=>out=out0.set i ((Aa t).map (Cm t (s.drop i)))):=by
 have hlen:=EL hT;refine Tot.upto (body:=λ n x=>Dz n t s (Aa t) (i:Int) x.1 x.2) (Aa t).length (λ k x=>x.2=(k:Int)/\∃ row,x.1=out0.set i row/\row.length=(Aa t).length/\∀ (j:Nat) q,j<k->(Aa t)[j]? = some q->row[j]? = some (Cm t (s.drop i) q)) ?_ ?_ _ ⟨rfl,out0.getD i [],(D6 _ _ _).symm,hr,by omega⟩
 ·rintro k ⟨out,k'⟩ hk ⟨e1,row,e2,e3,e4⟩;simp only at e1 e2;subst e1 e2;have hJ:∀ v,v=Cm t (s.drop i) (Aa t)[k]->∀ out',out'=out0.set i (row.set k v)->Tot (λ n=>Er n (k:Int) out') (Rd2 (λ x:List (List Int)×Int=>x.2=((k+1:Nat):Int)/\∃ row,x.1=out0.set i row/\row.length=(Aa t).length/\∀ (j:Nat) q,j<k+1->(Aa t)[j]? = some q->row[j]? = some (Cm t (s.drop i) q)) (λ out=>out=out0.set i ((Aa t).map (Cm t (s.drop i))))):=by
   intro v hv out' ho';unfold Er;refine Jm2 ⟨Br (by omega),_,ho',by rw [JnP];exact e3,λ j q hj hq=>?_⟩;by_cases e:k=j
   ·subst e;rw [JnJ (by omega),hv];rw [Jnx hk] at hq;cases hq;rfl
   ·rw [JnO e];exact e4 j q (by omega) hq
  unfold Dz;have hil:i<(out0.set i row).length:=by rw [JnP];omega
  have hg:(out0.set i row).getD i []=row:=De (by omega) _ _;refine Tot.iteT (Du hk) (Tot.bindC (AX [] hil) ?_);rw [hg];refine Tot.bindC (AX 0 (by omega)) (Tot.bindC (DV (by omega)) ?_);rw [Uv hs hi,JnH,List.set_set];by_cases hd:s.drop i=[]
  ·refine Jm5 (decide_eq_true hd) (Ev.all λ n=>Em hk) (Jm5 (decide_eq_true hd) (Ev.all λ n=>Yl n t _) (Tot.ite (λ h=>?_) λ h=>?_))
   ·have ha:Cy t (Aa t)[k]=true:=by simpa [hd] using h
    refine Tot.bindC (AX [] (by rw [JnP];omega)) ?_;rw [De (by omega)];refine Tot.bindC (AX 0 (by rw [JnP];omega)) (Tot.bindC (DV (by rw [JnP];omega)) (hJ 0 ?_ _ ?_))
    ·unfold Cm;rw [if_pos ⟨hd,ha⟩]
    ·rw [List.set_set,List.set_set]
   ·have ha:Cy t (Aa t)[k]=false:=by simpa [hd] using h
    refine hJ (-1) ?_ _ rfl;unfold Cm;rw [if_neg (by rw [ha];simp)]
  ·refine Jm6 (decide_eq_false hd) (Jm6 (decide_eq_false hd) (Tot.iteF (by simp [hd]) (hJ (-1) ?_ _ rfl)));unfold Cm;rw [if_neg (λ h=>hd h.1)]
 ·rintro ⟨out,k'⟩ ⟨e1,row,e2,e3,e4⟩;simp only at e1 e2;subst e1 e2;unfold Dz;refine Tot.iteF (by simp) (Jm2 ?_);refine congrArg (out0.set i) (Jnm λ j=>?_);rcases Jnk j (Aa t).length with h|h
  ·rw [e4 j _ h (Jnx h),JnB,Jnx h];rfl
  ·rw [JnT (by omega),JnT (by simpa using h)]
structure Qr (t:Ad) (s:List UInt8) (i:Nat) (B:Nat) (out0 out:List (List Int)) (ch:Bool) (k r:Nat):Prop where
 suf:Suf t s i out
 same:ch=false->out=out0/\∀ j m,(j<k\/(j=k/\m<r))->m<t.Rules.length->JkI t s i out0 j m
 less:ch=true->phi B (out.getD i [])<phi B (out0.getD i [])
omit hT hs in
theorem Je0 (n:Nat) (a c:Int) (hc:0<=c):NK n a c=some (if a<0\/c<a then c else a):=by
 unfold NK;by_cases h:a<0\/c<a
 ·rw [if_pos h,if_pos (by simp only [JnR,Jny,decide_eq_true_eq];omega)]
 ·rw [if_neg h,if_neg (by simp only [JnR,Jny,decide_eq_true_eq];omega)]
theorem JgF {i:Nat} (hi:i<=s.length) {B:Nat} (hB:13000000<=B) {out0 out1:List (List Int)} {ch1:Bool} {k:Nat} (hk:k<(Aa t).length) (h1:Qr t s i B out0 out1 ch1 k 0) :
  Tot (λ n=>whl (λ (x:((List (List Int))×Bool×Int))=>DA n t s (Aa t) (i:Int) (k:Int) x.1 x.2.1 x.2.2) n (out1,ch1,0)) (λ y=>Qr t s i B out0 y.1 y.2 k t.Rules.length):=by
 have hlen:=EL hT;have hrl:=hT.tab.1;refine Tot.upto (body:=λ n x=>DA n t s (Aa t) (i:Int) (k:Int) x.1 x.2.1 x.2.2) t.Rules.length (λ r x=>x.2.2=(r:Int)/\Qr t s i B out0 x.1 x.2.1 k r) ?_ ?_ _ ⟨rfl,h1⟩
 ·rintro r ⟨out,ch,r'⟩ hr ⟨e1,hP⟩;simp only at e1 hP;subst e1;have hq:(Aa t)[k]? = some (Aa t)[k]:=Jnx hk;have hqm:(Aa t)[k]∈Aa t:=Jnf hk;have hA:=hP.suf;have hJ:∀ out' ch',Qr t s i B out0 out' ch' k (r+1)->Tot (λ n=>Es n (r:Int) out' ch') (Rd2 (λ x:List (List Int)×Bool×Int=>x.2.2=((r+1:Nat):Int)/\Qr t s i B out0 x.1 x.2.1 k (r+1)) (λ y=>Qr t s i B out0 y.1 y.2 k t.Rules.length)):=by
   intro out' ch' h;unfold Es;exact Jm2 ⟨Br (by omega),h⟩
  have hskip:JkI t s i out k r->Qr t s i B out0 out ch k (r+1):=by
   intro hrel;refine ⟨hA,λ hc=>⟨(hP.same hc).1,λ j m hjm hm=>?_⟩,hP.less⟩;by_cases e:j=k/\m=r
   ·obtain ⟨rfl,rfl⟩:=e;rw [← (hP.same hc).1];exact hrel
   ·exact (hP.same hc).2 j m (by omega) hm
  unfold DA;refine Tot.iteT (Du hr) (Tot.bindC (BL hq) (Jm3 (JeY hT hs hi hA hqm hr) ?_));have hil:i<out.length:=by rw [hA.len];omega
  rw [JnH];simp only [D6];have hcl:=hA.col.len;obtain ⟨v,hv⟩:=hA.col.get hk;have hvd:(out.getD i []).getD k 0=v:=by rw [JnG (l:=out.getD i []),hv];rfl
  by_cases hc:0<=Kj t s out i (Aa t)[k] r
  ·obtain ⟨u1,u2⟩:=JgD hT hi hA hqm hc;have hgd:decide (Kj t s out i (Aa t)[k] r>=0)=true:=by simpa using hc
   refine Jm5 hgd (Ev.all λ n=>AX [] hil) (Jm5 hgd (Ev.all λ n=>AX 0 (by omega)) ?_);rw [hvd];refine Jm5 hgd (Ev.all λ n=>Je0 n v _ hc) (Jm5 hgd (Ev.all λ n=>AX [] hil) (Jm5 hgd (Ev.all λ n=>AX 0 (by omega)) ?_));rw [hvd];by_cases hlt:v<0\/Kj t s out i (Aa t)[k] r<v
   ·rw [if_pos hlt];refine Tot.iteT (by simp only [Jny,bne_iff_ne,ne_eq];exact ⟨hgd,by omega⟩) ?_;have hfin:=Qp (out.getD i []);obtain ⟨g1,g2⟩:=hA.col.lower hq hv u1 (hlt.imp id id) u2 (B:=B) (by omega);refine Tot.bindC (AX [] hil) (Tot.bindC (AX 0 (by omega)) (Tot.bindC (DV (by omega)) (hJ _ _ ?_)));have hgs:(out.set i ((out.getD i []).set k (Kj t s out i (Aa t)[k] r))).getD i []=(out.getD i []).set k (Kj t s out i (Aa t)[k] r):=De hil _ _;refine ⟨⟨by rw [JnP];exact hA.len,λ i' h1 h2=>by rw [Dm (by omega)];exact hA.rows i' h1 h2,by rw [hgs];exact g1⟩,(λ h=>by cases h),λ _=>?_⟩;rw [hgs];cases hch:ch with
    | false=>rw [(hP.same hch).1] at g2 ⊢;exact g2
    | true=>have:=hP.less hch;omega
   ·rw [if_neg hlt];refine Tot.iteF (by simp) (hJ _ _ (hskip λ q hq' _=>?_));rw [hq] at hq';cases hq';exact ⟨v,hv,by omega,by omega⟩
  ·have hgd:decide (Kj t s out i (Aa t)[k] r>=0)=false:=by simpa using hc
   refine Jm6 hgd (Jm6 hgd (Jm6 hgd (Jm6 hgd (Jm6 hgd (Tot.iteF (by rw [hgd];rfl) (hJ _ _ (hskip λ q hq' h0=>?_)))))));rw [hq] at hq';cases hq';exact absurd h0 hc
 ·rintro ⟨out,ch,r'⟩ ⟨e1,hP⟩;simp only at e1 hP;subst e1;unfold DA;exact Tot.iteF (by simp) (Jm2 hP)
theorem JgG {i:Nat} (hi:i<=s.length) {B:Nat} (hB:13000000<=B) {out0:List (List Int)} (h1:Suf t s i out0) :
  Tot (λ n=>whl (λ (x:((List (List Int))×Bool×Int))=>DB n t s (Aa t) (i:Int) x.1 x.2.1 x.2.2) n (out0,false,0)) (λ y=>Qr t s i B out0 y.1 y.2 (Aa t).length 0):=by
 have hlen:=EL hT;refine Tot.upto (body:=λ n x=>DB n t s (Aa t) (i:Int) x.1 x.2.1 x.2.2) (Aa t).length (λ k x=>x.2.2=(k:Int)/\Qr t s i B out0 x.1 x.2.1 k 0) ?_ ?_ _ ⟨rfl,h1,λ _=>⟨rfl,λ j m h=>by omega⟩,λ h=>by cases h⟩
 ·rintro k ⟨out,ch,k'⟩ hk ⟨e1,hP⟩;simp only at e1 hP;subst e1;unfold DB;refine Tot.iteT (Du hk) (Tot.bind (JgF hT hs hi hB hk hP) ?_);rintro ⟨out',ch'⟩ hP';exact Jm2 ⟨Br (by omega),hP'.suf,λ hc=>⟨(hP'.same hc).1,λ j m hjm hm=>(hP'.same hc).2 j m (by omega) hm⟩,hP'.less⟩
 ·rintro ⟨out,ch,k'⟩ ⟨e1,hP⟩;simp only at e1 hP;subst e1;unfold DB;exact Tot.iteF (by simp) (Jm2 hP)
theorem JgH {i:Nat} (hi:i<=s.length) {out0:List (List Int)} (h1:Suf t s i out0) :
  Tot (λ n=>whl (λ (x:((List (List Int))×Bool))=>Et n t s (Aa t) (i:Int) x.1 x.2) n (out0,true)) (λ out=>out.length=s.length+1/\∀ i',i<=i'->i'<=s.length->Mv t s i' (out.getD i' [])):=by
 refine Tot.whl (body:=λ n x=>Et n t s (Aa t) (i:Int) x.1 x.2) (λ m x=>Suf t s i x.1/\((x.2=true/\m=phi 13000000 (x.1.getD i [])+1)\/(x.2=false/\m=0/\Mv t s i (x.1.getD i [])))) ?_ (phi 13000000 (out0.getD i [])+1) (out0,true) ⟨h1,.inl ⟨rfl,rfl⟩⟩;rintro m ⟨out,ch⟩ ⟨hS,hm⟩;simp only at hS hm;unfold Et;rcases hm with ⟨rfl,rfl⟩|⟨rfl,rfl,hR⟩
 ·refine Tot.iteT rfl (Tot.bind (JgG hT hs hi (Jni _) hS) ?_);rintro ⟨out',ch'⟩ hP;simp only at hP;cases ch' with
  | false=>
   obtain ⟨e,hrel⟩:=hP.same rfl;subst e;exact Jm2 ⟨0,by omega,hS,.inr ⟨rfl,rfl,JeZ hT hi hS λ j k hj hk=>hrel j k (by omega) hk⟩⟩
  | true=>
   have:=hP.less rfl;exact Jm2 ⟨phi 13000000 (out'.getD i [])+1,by omega,hP.suf,.inl ⟨rfl,rfl⟩⟩
 ·refine Tot.iteF rfl (Jm2 ⟨hS.len,λ i' h1 h2=>?_⟩);rcases Nat.eq_or_lt_of_le h1 with rfl|h
  ·exact hR
  ·exact hS.rows i' h h2
theorem JX:Tot (λ n=>GO n t s) (λ out=>out.length=s.length+1/\∀ i,i<=s.length->Mv t s i (out.getD i [])):=by
 have hlen:=EL hT;unfold GO;have e1:An .i64 ((s.length:Nat):Int) 1=((s.length+1:Nat):Int):=Br (by omega);refine Jm3 (Ny hT.tab) ?_;rw [e1];refine Tot.bindC (K2 (by omega) (by omega)) ?_;rw [JnH];refine Tot.bind (R:=λ out=>out.length=s.length+1/\∀ i,i<=s.length->Mv t s i (out.getD i [])) ?_ (λ out h=>Jm2 h);refine Tot.whl (body:=λ n x=>F4 n t s (Aa t) x.1 x.2) (λ m x=>x.2=(m:Int)-1/\x.1.length=s.length+1/\m<=s.length+1/\∀ i',m<=i'->i'<=s.length->Mv t s i' (x.1.getD i' [])) ?_ (s.length+1) _ ⟨by simp,by simp,by omega,by omega⟩;rintro m ⟨out,i'⟩ ⟨e2,e3,e4,e5⟩;simp only at e2 e3 e5;subst e2;unfold F4;cases m with
 | zero=>exact Tot.iteF (by simp) (Jm2 ⟨e3,λ i hi=>e5 i (by omega) hi⟩)
 | succ i=>
  have ei:((i+1:Nat):Int)-1=(i:Int):=by omega
  rw [ei];refine Tot.iteT (by simp) (Tot.bindC (AX [] (show i<out.length by omega)) (Tot.bindC (K2 (by omega) (by omega)) ?_));rw [JnH,JnH];refine Tot.bind (JgE hT hs (show i<=s.length by omega) (out.set i (List.replicate (Aa t).length 0)) (by rw [JnP];exact e3) (by rw [De (by omega),List.length_replicate])) ?_;rintro out1 rfl;rw [List.set_set];refine Tot.bind (JgH hT hs (show i<=s.length by omega) ⟨by rw [JnP];exact e3,λ i' h1 h2=>?_,?_⟩) ?_
  ·rw [Dm (by omega)];exact e5 i' (by omega) h2
  ·rw [De (by omega)];exact Rs t _ _ _
  ·rintro out2 ⟨h1,h2⟩;refine Jm2 ⟨i,by omega,?_,h1,by omega,h2⟩;show DL .i64 (i:Int) 1=(i:Int)-1;rw [K0 (by omega) (by omega)]
end
end Go.AI
end
section
namespace Go.AI
def Rch (t:Ad) (s:List UInt8) (i:Nat) (q:Ab):Prop:=i<=s.length/\∃ p,Pf t A6 p q/\E9 t p=s.take i
theorem Rch.start (t:Ad) (s:List UInt8):Rch t s 0 A6:=⟨by omega,[],rfl,by simp [E9]⟩
theorem NB (t:Ad) (p:List Int) (k:Int):E9 t (p++[k])=E9 t p++prt t k:=by simp [E9]
theorem Rch.next {t:Ad} {s:List UInt8} {i:Nat} {q:Ab} {k:Int} (h:Rch t s i q) (hk:(Au t q k).2=true) (hb:(prt t k).isPrefixOf (s.drop i)=true):Rch t s (i+(prt t k).length) (Au t q k).1:=by
 obtain ⟨h1,p,h2,h3⟩:=h;obtain ⟨q1,q2⟩:=CG hb;refine ⟨q2 h1,p++[k],h2.snoc hk,?_⟩;rw [NB,h3,List.take_add,q1,List.take_left' rfl]
theorem Jm7 {t:Ad} {s:List UInt8} {A:Nat->Ab->Prop} (h0:A 0 A6) (h1:∀ i q (k:Nat),i<=s.length->A i q->(Au t q k).2=true->(prt t k).isPrefixOf (s.drop i)=true->A (i+(prt t k).length) (Au t q k).1):∀ {i:Nat} {q:Ab},Rch t s i q->A i q:=by
 have key:∀ (p:List Int) (i:Nat) (q q':Ab),A i q->i<=s.length->Pf t q p q'->(∃ y,s.drop i=E9 t p++y)->A (i+(E9 t p).length) q':=by
  intro p;induction p with
  | nil=>
   intro i q q' hA _ hg _;unfold Pf at hg;subst hg;simpa [E9] using hA
  | cons k p ih=>
   intro i q q' hA hi hg hy;obtain ⟨g1,g2⟩:=hg;obtain ⟨y,hy⟩:=hy;obtain ⟨k,rfl⟩:∃ n:Nat,k=n:=⟨k.toNat,by have:=Cq g1;omega⟩;rw [JW,List.append_assoc] at hy;have hb:(prt t k).isPrefixOf (s.drop i)=true:=by rw [Jnj];exact ⟨_,hy.symm⟩
   obtain ⟨q1,q2⟩:=CG hb;have:=ih _ _ q' (h1 i q k hi hA g1 hb) (q2 hi) g2 ⟨y,by rw [q1] at hy;exact List.append_cancel_left hy⟩;rw [JW,List.length_append,← Jnq];exact this
 rintro i q ⟨hi,p,hg,ht⟩;have:=key p 0 A6 q h0 (by omega) hg ⟨s.drop i,by rw [ht,List.drop_zero,List.take_append_drop]⟩;rw [ht,List.length_take,JnM,Nat.min_eq_left hi] at this;exact this
def Ec (s:List UInt8) (i:Nat):Int:=if i<s.length then GY (RZ s i) else 0
theorem R1 (s:List UInt8) (i:Nat):0<=Ec s i/\Ec s i<=5:=by
 unfold Ec;split
 ·have:=RY (RZ s i);omega
 ·omega
def Qs (t:Ad) (s:List UInt8) (i:Nat):Prop:=∃ q,Rch t s i q/\Hy q.Need (Ec s i)=true
def OF (t:Ad) (s:List UInt8) (v:Int):Prop:=(∃ i:Nat,v=i/\Qs t s i)/\∀ i:Nat,Qs t s i->(i:Int)<=v
theorem OF.uniq {t:Ad} {s:List UInt8} {v w:Int} (h:OF t s v) (h':OF t s w):v=w:=by
 obtain ⟨⟨i,e1,h1⟩,h2⟩:=h;obtain ⟨⟨j,e2,g1⟩,g2⟩:=h';have:=h2 j g1;have:=g2 i h1;omega
theorem Jmi (t:Ad) (s:List UInt8):Qs t s 0:=by
 refine ⟨A6,.start t s,?_⟩;have h:=R1 s 0;generalize Ec s 0=c at h;have:c=0\/c=1\/c=2\/c=3\/c=4\/c=5:=by omega
 rcases this with rfl|rfl|rfl|rfl|rfl|rfl<;>decide +kernel
def H4 (t:Ad) (s:List UInt8) (i:Nat) (v:Int):Prop:=(∃ j:Nat,v=j/\(j=0\/(j<i/\Qs t s j)))/\∀ j:Nat,j<i->Qs t s j->(j:Int)<=v
theorem H4.stop {t:Ad} {s:List UInt8} {i:Nat} (hs:Qs t s i):H4 t s (i+1) (i:Nat):=⟨⟨i,rfl,.inr ⟨by omega,hs⟩⟩,λ j h _=>by omega⟩
theorem H4.skip {t:Ad} {s:List UInt8} {i:Nat} {v:Int} (h:H4 t s i v) (hs:¬Qs t s i):H4 t s (i+1) v:=by
 obtain ⟨⟨j,e,h1⟩,h2⟩:=h;refine ⟨⟨j,e,h1.imp id λ h=>⟨by omega,h.2⟩⟩,λ k hk hS=>?_⟩;by_cases e:k=i
 ·subst e;exact absurd hS hs
 ·exact h2 k (by omega) hS
theorem H4.all {t:Ad} {s:List UInt8} {v:Int} (h:H4 t s (s.length+1) v):OF t s v:=by
 obtain ⟨⟨j,e,h1⟩,h2⟩:=h;refine ⟨⟨j,e,?_⟩,λ i hi=>h2 i ?_ hi⟩
 ·rcases h1 with rfl|h1
  ·exact Jmi t s
  ·exact h1.2
 ·obtain ⟨q,hq,_⟩:=hi;have:=hq.1;omega
section
variable {t:Ad} (hT:GG t) {s:List UInt8} (hs:s.length<=4000)
def WU (l:List (List Bool)):Nat:=(l.map λ r=>r.count false).sum
theorem Je1 {l:List (List Bool)} {i j:Nat} {r:List Bool} (h:l[i]? = some r) (hj:r[j]? = some false):WU (l.set i (r.set j true))+1=WU l:=by
 induction l generalizing i with
 | nil=>simp at h
 | cons a l ih=>
  cases i with
  | zero=>
   simp only [Jnu,JnI] at h;subst h;have:=JeT hj;unfold JgB at this;simp only [WU,List.set_cons_zero,Jns,List.sum_cons];omega
  | succ i=>
   simp only [List.getElem?_cons_succ] at h;have:=ih h;simp only [WU,List.set_cons_succ,Jns,List.sum_cons] at this ⊢;omega
def Mk (m:List (List Bool)) (i j:Nat):Prop:=(m.getD i [])[j]? = some true
structure Rea (t:Ad) (s:List UInt8) (i:Nat) (m:List (List Bool)):Prop where
 len:m.length=s.length+1
 rows:∀ i,i<=s.length->(m.getD i []).length=(Aa t).length
 sound:∀ i j,i<=s.length->Mk m i j->∃ q,(Aa t)[j]? = some q/\Rch t s i q
 first:Mk m 0 0
 done:∀ i',i'<i->∀ j k:Nat,∀ q,Mk m i' j->(Aa t)[j]? = some q->(Au t q k).2=true->(prt t k).isPrefixOf (s.drop i')=true->∃ j',(Aa t)[j']? = some (Au t q k).1/\Mk m (i'+(prt t k).length) j'
def Jmj (t:Ad) (s:List UInt8) (i:Nat) (m:List (List Bool)) (j k:Nat):Prop:=∀ q,Mk m i j->(Aa t)[j]? = some q->(Au t q k).2=true->(prt t k).isPrefixOf (s.drop i)=true->∃ j',(Aa t)[j']? = some (Au t q k).1/\Mk m (i+(prt t k).length) j'
structure Qt (t:Ad) (s:List UInt8) (i:Nat) (m0 m:List (List Bool)) (ch:Bool) (k r:Nat):Prop where
 rea:Rea t s i m
 same:ch=false->m=m0/\∀ j x,(j<k\/(j=k/\x<r))->x<t.Rules.length->Jmj t s i m0 j x
 less:ch=true->WU m<WU m0
theorem Mk.set {m:List (List Bool)} {i j:Nat} (hi:i<m.length) (hj:j<(m.getD i []).length) {i' j':Nat}:Mk (m.set i ((m.getD i []).set j true)) i' j'↔(i=i'/\j=j')\/Mk m i' j':=by
 unfold Mk;by_cases e:i=i'
 ·subst e;rw [De hi];by_cases e2:j=j'
  ·subst e2;rw [JnJ hj];simp
  ·rw [JnO e2];simp [e2]
 ·rw [Dm e];simp [e]
include hT hs
theorem JgI {i:Nat} (hi:i<=s.length) {m0 m1:List (List Bool)} {ch1:Bool} {k:Nat} (hk:k<(Aa t).length) (x0:Int) (h1:Qt t s i m0 m1 ch1 k 0) :
  Tot (λ n=>whl (λ (x:((List (List Bool))×Bool×Int))=>D1 n t s (Aa t) x0 (i:Int) (k:Int) x.1 x.2.1 x.2.2) n (m1,ch1,0)) (λ y=>Qt t s i m0 y.1 y.2 k t.Rules.length):=by
 have hlen:=EL hT;have hrl:=hT.tab.1;refine Tot.upto (body:=λ n x=>D1 n t s (Aa t) x0 (i:Int) (k:Int) x.1 x.2.1 x.2.2) t.Rules.length (λ r x=>x.2.2=(r:Int)/\Qt t s i m0 x.1 x.2.1 k r) ?_ ?_ _ ⟨rfl,h1⟩
 ·rintro r ⟨m,ch,r'⟩ hr ⟨e1,hP⟩;simp only at e1 hP;subst e1;have hq:(Aa t)[k]? = some (Aa t)[k]:=Jnx hk;have hqm:(Aa t)[k]∈Aa t:=Jnf hk;have hA:=hP.rea;have hrow:=hA.rows i hi;have hil:i<m.length:=by rw [hA.len];omega
  have hJ:∀ m' ch',Qt t s i m0 m' ch' k (r+1)->Tot (λ n=>E2 n (r:Int) m' ch') (Rd2 (λ x:List (List Bool)×Bool×Int=>x.2.2=((r+1:Nat):Int)/\Qt t s i m0 x.1 x.2.1 k (r+1)) (λ y=>Qt t s i m0 y.1 y.2 k t.Rules.length)):=by
   intro m' ch' h;unfold E2;exact Jm2 ⟨Br (by omega),h⟩
  have hskip:∀ r1,r1<=t.Rules.length->(∀ x,r<=x->x<r1->Jmj t s i m k x)->Qt t s i m0 m ch k r1:=by
   intro r1 _ hrel;refine ⟨hA,λ hc=>⟨(hP.same hc).1,λ j x hjx hx=>?_⟩,hP.less⟩;by_cases e:j=k/\r<=x
   ·obtain ⟨rfl,h2⟩:=e;rw [← (hP.same hc).1];exact hrel x h2 (by omega)
   ·exact (hP.same hc).2 j x (by omega) hx
  have hgr:decide ((r:Int)<((t.Rules.length:Nat):Int))=true:=Du hr;obtain ⟨b,hb⟩:∃ b,(m.getD i [])[k]? = some b:=⟨_,Jnx (by omega)⟩;have hbd:(m.getD i []).getD k false=b:=by rw [JnG (l:=m.getD i []),hb];rfl
  unfold D1;simp only [JnH,D6];refine Jm5 hgr (Ev.all λ n=>AX [] hil) (Jm5 hgr (Ev.all λ n=>AX false (by omega)) ?_);rw [hbd];cases b with
  | false=>
   refine Tot.iteF (by simp) (Jm2 (hskip _ (Jni _) λ x _ _ q hmk _ _ _=>?_));unfold Mk at hmk;rw [hb] at hmk;cases hmk
  | true=>
   have hRr:=H3 (t:=t) (k:=(r:Int)) (by omega) (by omega);refine Tot.iteT (by rw [hgr];rfl) (Tot.bindC (BL hq) (Jm4 (λ n=>Qf hT.tab.short n _ r) (Tot.bindC hRr ?_)));cases hst:(Au t (Aa t)[k] r).2 with
   | false=>
    refine Jm6 rfl (Jm6 rfl (Jm6 rfl (Jm6 rfl (Jm6 rfl (Tot.iteF rfl (hJ _ _ (hskip _ (by omega) λ x h1 h2 q _ hq' hs' _=>?_)))))));rw [hq] at hq';cases hq';have:x=r:=by omega
    subst this;rw [hst] at hs';cases hs'
   | true=>
    obtain ⟨p1,p2,p3⟩:=hT.pr hst;have hpl:(prt t r).length=(Dc t r).Print.length:=rfl;refine Jm5 rfl (Ev.all λ n=>hRr) (Jm5 rfl (Ev.all λ n=>VF hi (by omega) (by omega) n) ?_);simp only [Bool.true_and];cases hpf:(Dc t r).Print.isPrefixOf (s.drop i) with
    | false=>
     refine Jm6 rfl (Jm6 rfl (Jm6 rfl (Tot.iteF rfl (hJ _ _ (hskip _ (by omega) λ x h1 h2 q _ hq' _ hb'=>?_)))));have:x=r:=by omega
     subst this;rw [hpf] at hb';cases hb'
    | true=>
     obtain ⟨q1,q2⟩:=CG hpf;have q2:=q2 hi;have e:An .i64 (i:Int) ((List.length (Dc t r).Print:Nat):Int)=((i+(prt t r).length:Nat):Int):=by rw [E7 (by omega) (by omega)];omega
     rw [e];have hto:i+(prt t r).length<m.length:=by rw [hA.len];omega
     have hrow2:=hA.rows _ q2;have hrow3:(m.getD (i+(prt t r).length) []).length=(Aa t).length:=hrow2;obtain ⟨d,hd,hdg⟩:=BZ (Dt hT hqm hst);have hdl:=Aj hdg;refine Jm5 rfl (Ev.all λ n=>AX [] hto) (Jm5 rfl (KX (by omega)) ?_);rw [hd];refine Jm5 rfl (Ev.all λ n=>AX false (by rw [JnH];omega)) ?_;simp only [JnH,D6];obtain ⟨b2,hb2⟩:∃ b,(m.getD (i+(prt t r).length) [])[d]? = some b:=⟨_,Jnx (by omega)⟩;have hbd2:(m.getD (i+(prt t r).length) []).getD d false=b2:=by rw [JnG (l:=m.getD (i+(prt t r).length) []),hb2];rfl
     rw [hbd2];cases b2 with
     | true=>
      refine Tot.iteF rfl (hJ _ _ (hskip _ (by omega) λ x h1 h2 q _ hq' _ _=>?_));have:x=r:=by omega
      subst this;rw [hq] at hq';cases hq';exact ⟨d,hdg,hb2⟩
     | false=>
      refine Tot.iteT rfl (Tot.bindC (AX [] hto) (Jm3 (KX (by omega)) ?_));rw [hd];refine Tot.bindC (AX false (by omega)) (Tot.bindC (DV (by omega)) (hJ _ _ ?_));have hmk:∀ {i' j':Nat},Mk (m.set (i+(prt t r).length) ((m.getD (i+(prt t r).length) []).set d true)) i' j'↔(i+(prt t r).length=i'/\d=j')\/Mk m i' j':=Mk.set hto (by omega);refine ⟨⟨by rw [JnP];exact hA.len,λ i' h=>?_,λ i' j h hm=>?_,hmk.2 (.inr hA.first),λ i' h j x q hm hq' hs' hb'=>?_⟩,(λ h=>by cases h),λ _=>?_⟩
      ·by_cases e2:i+(prt t r).length=i'
       ·subst e2;rw [De hto,JnP];exact hrow2
       ·rw [Dm e2];exact hA.rows i' h
      ·rcases hmk.1 hm with ⟨rfl,rfl⟩|hm
       ·obtain ⟨q,g1,g2⟩:=hA.sound i k hi hb;rw [hq] at g1;cases g1;exact ⟨_,hdg,g2.next hst hpf⟩
       ·exact hA.sound i' j h hm
      ·rcases hmk.1 hm with ⟨h1,_⟩|hm
       ·omega
       ·obtain ⟨j',g1,g2⟩:=hA.done i' h j x q hm hq' hs' hb';exact ⟨j',g1,hmk.2 (.inr g2)⟩
      ·have:=Je1 (l:=m) (i:=i+(prt t r).length) (j:=d) (r:=m.getD (i+(prt t r).length) []) (by rw [JnG,Jnx hto];rfl) hb2;cases hch:ch with
       | false=>rw [(hP.same hch).1] at this ⊢;omega
       | true=>have:=hP.less hch;omega
 ·rintro ⟨m,ch,r'⟩ ⟨e1,hP⟩;simp only at e1 hP;subst e1;unfold D1;simp only [JnH,D6];exact Jm6 (Yo _) (Jm6 (Yo _) (Tot.iteF (by rw [Yo];rfl) (Jm2 hP)))
theorem JgJ {i:Nat} (hi:i<=s.length) {m0:List (List Bool)} (x0:Int) (h1:Rea t s i m0) :
  Tot (λ n=>whl (λ (x:((List (List Bool))×Bool×Int))=>D2 n t s (Aa t) x0 (i:Int) x.1 x.2.1 x.2.2) n (m0,false,0)) (λ y=>Qt t s i m0 y.1 y.2 (Aa t).length 0):=by
 have hlen:=EL hT;refine Tot.upto (body:=λ n x=>D2 n t s (Aa t) x0 (i:Int) x.1 x.2.1 x.2.2) (Aa t).length (λ k x=>x.2.2=(k:Int)/\Qt t s i m0 x.1 x.2.1 k 0) ?_ ?_ _ ⟨rfl,h1,λ _=>⟨rfl,λ j m h=>by omega⟩,λ h=>by cases h⟩
 ·rintro k ⟨out,ch,k'⟩ hk ⟨e1,hP⟩;simp only at e1 hP;subst e1;unfold D2;refine Tot.iteT (Du hk) (Tot.bind (JgI hT hs hi hk x0 hP) ?_);rintro ⟨out',ch'⟩ hP';exact Jm2 ⟨Br (by omega),hP'.rea,λ hc=>⟨(hP'.same hc).1,λ j m hjm hm=>(hP'.same hc).2 j m (by omega) hm⟩,hP'.less⟩
 ·rintro ⟨out,ch,k'⟩ ⟨e1,hP⟩;simp only at e1 hP;subst e1;unfold D2;exact Tot.iteF (by simp) (Jm2 hP)
theorem JgK {i:Nat} (hi:i<=s.length) {m0:List (List Bool)} (x0:Int) (h1:Rea t s i m0) :
  Tot (λ n=>whl (λ (x:((List (List Bool))×Bool))=>E3 n t s (Aa t) x0 (i:Int) x.1 x.2) n (m0,true)) (Rea t s (i+1)):=by
 refine Tot.whl (body:=λ n x=>E3 n t s (Aa t) x0 (i:Int) x.1 x.2) (λ c x=>Rea t s i x.1/\((x.2=true/\c=WU x.1+1)\/(x.2=false/\c=0/\Rea t s (i+1) x.1))) ?_ (WU m0+1) (m0,true) ⟨h1,.inl ⟨rfl,rfl⟩⟩;rintro c ⟨m,ch⟩ ⟨hS,hm⟩;simp only at hS hm;unfold E3;rcases hm with ⟨rfl,rfl⟩|⟨rfl,rfl,hR⟩
 ·refine Tot.iteT rfl (Tot.bind (JgJ hT hs hi x0 hS) ?_);rintro ⟨m',ch'⟩ hP;simp only at hP;cases ch' with
  | false=>
   obtain ⟨e,hrel⟩:=hP.same rfl;subst e;refine Jm2 ⟨0,by omega,hS,.inr ⟨rfl,rfl,hS.len,hS.rows,hS.sound,hS.first,λ i' hi' j k q hmk hq hst hpf=>?_⟩⟩;by_cases e:i'=i
   ·subst e;exact hrel j k (.inl (Aj hq)) (by have:=Cq hst;omega) q hmk hq hst hpf
   ·exact hS.done i' (by omega) j k q hmk hq hst hpf
  | true=>
   have:=hP.less rfl;exact Jm2 ⟨WU m'+1,by omega,hP.rea,.inl ⟨rfl,rfl⟩⟩
 ·exact Tot.iteF rfl (Jm2 hR)
omit hs in
theorem Rea.all {i:Nat} {m:List (List Bool)} (h:Rea t s (i+1) m) {j:Nat} {q:Ab} (hq:(Aa t)[j]? = some q):Rch t s i q↔i<=s.length/\Mk m i j:=by
 constructor
 ·intro hr;refine ⟨hr.1,?_⟩;have key:∀ {i' q},Rch t s i' q->i'<=i->∃ j,(Aa t)[j]? = some q/\Mk m i' j:=λ {i' q} hr=>Jm7 (A:=λ i' q=>i'<=i->∃ j,(Aa t)[j]? = some q/\Mk m i' j) (λ _=>⟨0,(CC hT.tab).1.first,h.first⟩) (λ i' q k hi' hA hst hpf hle=>by
   obtain ⟨j,h1,h2⟩:=hA (by omega);exact h.done i' (by omega) j k q h2 h1 hst hpf) hr
  obtain ⟨j',h1,h2⟩:=key hr (Jni _);rwa [NN (Qq hT) hq h1]
 ·rintro ⟨h1,h2⟩;obtain ⟨q',g1,g2⟩:=h.sound i j h1 h2;rw [hq] at g1;cases g1;exact g2
theorem JgL {i:Nat} (hi:i<=s.length) {m:List (List Bool)} (h:Rea t s (i+1) m) {v0:Int} (h0:H4 t s i v0) :
  Tot (λ n=>whl (λ (x:((List (List Bool))×Int×Int))=>D3 n t s (Aa t) (i:Int) (Ec s i) x.1 x.2.1 x.2.2) n (m,v0,0)) (λ y=>y.1=m/\H4 t s (i+1) y.2):=by
 have _:=hs;have hlen:=EL hT;refine Tot.upto (body:=λ n x=>D3 n t s (Aa t) (i:Int) (Ec s i) x.1 x.2.1 x.2.2) (Aa t).length (λ k x=>x.2.2=(k:Int)/\x.1=m/\(H4 t s (i+1) x.2.1/\Qs t s i\/(x.2.1=v0/\∀ j q,j<k->(Aa t)[j]? = some q->¬(Rch t s i q/\Hy q.Need (Ec s i)=true)))) ?_ ?_ _ ⟨rfl,rfl,.inr ⟨rfl,λ j q h=>by omega⟩⟩
 ·rintro k ⟨m',v,k'⟩ hk ⟨e1,e2,hv⟩;simp only at e1 e2 hv;subst e1 e2;have hq:(Aa t)[k]? = some (Aa t)[k]:=Jnx hk;have hil:i<m'.length:=by rw [h.len];omega
  have hrow:=h.rows i hi;obtain ⟨b,hb⟩:∃ b,(m'.getD i [])[k]? = some b:=⟨_,Jnx (by omega)⟩;have hbd:(m'.getD i []).getD k false=b:=by rw [JnG (l:=m'.getD i []),hb];rfl
  have hJ:∀ v',(H4 t s (i+1) v'/\Qs t s i\/(v'=v0/\∀ j q,j<k+1->(Aa t)[j]? = some q->¬(Rch t s i q/\Hy q.Need (Ec s i)=true)))->Tot (λ n=>E4 n (k:Int) m' v') (Rd2 (λ x:List (List Bool)×Int×Int=>x.2.2=((k+1:Nat):Int)/\x.1=m'/\(H4 t s (i+1) x.2.1/\Qs t s i\/(x.2.1=v0/\∀ j q,j<k+1->(Aa t)[j]? = some q->¬(Rch t s i q/\Hy q.Need (Ec s i)=true)))) (λ y=>y.1=m'/\H4 t s (i+1) y.2)):=by
   intro v' hh;unfold E4;exact Jm2 ⟨Br (by omega),rfl,hh⟩
  have hno:¬(Rch t s i (Aa t)[k]/\Hy (Aa t)[k].Need (Ec s i)=true)->(H4 t s (i+1) v/\Qs t s i\/(v=v0/\∀ j q,j<k+1->(Aa t)[j]? = some q->¬(Rch t s i q/\Hy q.Need (Ec s i)=true))):=by
   intro hn;refine hv.imp id λ ⟨g1,g2⟩=>⟨g1,λ j q hj hjq=>?_⟩;by_cases e:j=k
   ·subst e;rw [hq] at hjq;cases hjq;exact hn
   ·exact g2 j q (by omega) hjq
  unfold D3;simp only [JnH];refine Tot.iteT (Du hk) (Tot.bindC (AX [] hil) (Tot.bindC (AX false (by omega)) ?_));rw [hbd];simp only [D6];cases b with
  | false=>
   refine Jm6 rfl (Jm6 rfl (Tot.iteF rfl (hJ v (hno λ hh=>?_))));have:=((Rea.all hT h hq).1 hh.1).2;unfold Mk at this;rw [hb] at this;cases this
  | true=>
   refine Jm5 rfl (Ev.all λ n=>BL hq) (Jm5 rfl (Ev.all λ n=>Zr n _ _) (Tot.ite (λ hc=>?_) λ hc=>?_))
   ·have hst:Qs t s i:=⟨_,(Rea.all hT h hq).2 ⟨hi,hb⟩,by simpa using hc⟩;exact hJ _ (.inl ⟨.stop hst,hst⟩)
   ·exact hJ v (hno λ hh=>by rw [hh.2] at hc;cases hc)
 ·rintro ⟨m',v,k'⟩ ⟨e1,e2,hv⟩;simp only at e1 e2 hv;subst e1 e2;unfold D3;refine Tot.iteF (by simp) (Jm2 ⟨rfl,?_⟩);rcases hv with hv|⟨rfl,hv⟩
  ·exact hv.1
  ·refine h0.skip ?_;rintro ⟨q,h1,h2⟩;have hmem:q∈Aa t:=by
    obtain ⟨j,hj,_⟩:=Jm7 (A:=λ _ q=>∃ j,(Aa t)[j]? = some q/\True) ⟨0,(CC hT.tab).1.first,trivial⟩ (λ i' q k _ hA hst _=>by
     obtain ⟨j,hj,_⟩:=hA;obtain ⟨d,_,hd⟩:=BZ (Dt hT (Jnz hj) hst);exact ⟨d,hd,trivial⟩) h1
    exact Jnz hj
   obtain ⟨j,hj,e⟩:=Jnt hmem;exact hv j q hj (by rw [← e];exact Jnx hj) ⟨h1,h2⟩
theorem Zz:Tot (λ n=>JC n t s) (OF t s):=by
 have hlen:=EL hT;have hf:=(CC hT.tab).1.first;have hpos:=Aj hf;unfold JC;have e1:An .i64 ((s.length:Nat):Int) 1=((s.length+1:Nat):Int):=Br (by omega);refine Jm3 (Ny hT.tab) ?_;rw [e1];refine Tot.bindC (K2 (by omega) (by omega)) ?_;rw [JnH];refine Tot.bind (R:=λ m=>m.length=s.length+1/\∀ i,i<=s.length->m.getD i []=List.replicate (Aa t).length false) ?_ ?_
 ·refine Tot.upto (body:=λ n x=>E1 n t s (Aa t) x.1 x.2) (s.length+1) (λ k x=>x.2=(k:Int)/\x.1.length=s.length+1/\∀ i,i<k->x.1.getD i []=List.replicate (Aa t).length false) ?_ ?_ _ ⟨rfl,by simp,by omega⟩
  ·rintro k ⟨m,k'⟩ hk ⟨g1,g2,g3⟩;simp only at g1 g2 g3;subst g1;unfold E1;refine Tot.iteT (by simp;omega) (Tot.bindC (AX [] (show k<m.length by omega)) (Tot.bindC (K2 (by omega) (by omega)) ?_));rw [JnH,JnH];refine Jm2 ⟨Br (by omega),by rw [JnP];exact g2,λ i hi=>?_⟩;by_cases e:k=i
   ·subst e;exact De (show k<m.length by omega) _ _
   ·show (m.set k _).getD i []=_;rw [Dm e];exact g3 i (by omega)
  ·rintro ⟨m,k'⟩ ⟨g1,g2,g3⟩;simp only at g1 g2 g3;subst g1;unfold E1;exact Tot.iteF (by simp;omega) (Jm2 ⟨g2,λ i hi=>g3 i (by omega)⟩)
 ·rintro m ⟨g2,g3⟩;have g0:=g3 0 (by omega);have h0l:(m.getD 0 []).length=(Aa t).length:=by rw [g0,List.length_replicate]
  refine Tot.bindC (AX (i:=0) [] (by omega)) (Tot.bindC (AX (i:=0) false (by omega)) (Tot.bindC (DV (i:=0) (by omega)) ?_));have hmk:∀ {i' j':Nat},Mk (m.set 0 ((m.getD 0 []).set 0 true)) i' j'↔(0=i'/\0=j')\/Mk m i' j':=Mk.set (by omega) (by omega);have hnm:∀ i j,i<=s.length->¬Mk m i j:=by
   intro i j hi hm;unfold Mk at hm;rw [g3 i hi,List.getElem?_replicate] at hm;split at hm<;>cases hm
  have hR:Rea t s 0 (m.set 0 ((m.getD 0 []).set 0 true)):=by
   refine ⟨by rw [JnP];exact g2,λ i hi=>?_,λ i j hi hm=>?_,hmk.2 (.inl ⟨rfl,rfl⟩),λ i' h=>by omega⟩
   ·by_cases e:0=i
    ·subst e;rw [De (by omega),JnP];exact h0l
    ·rw [Dm e,g3 i hi,List.length_replicate]
   ·rcases hmk.1 hm with ⟨rfl,rfl⟩|hm
    ·exact ⟨_,hf,.start t s⟩
    ·exact absurd hm (hnm i j hi)
  refine Tot.bind (R:=OF t s) ?_ (λ v hv=>Jm2 hv);refine Tot.upto (body:=λ n x=>E6 n t s (Aa t) x.1 x.2.1 x.2.2) (s.length+1) (λ i x=>x.2.2=(i:Int)/\Rea t s i x.1/\H4 t s i x.2.1) ?_ ?_ _ ⟨rfl,hR,⟨0,rfl,.inl rfl⟩,by omega⟩
  ·rintro i ⟨m',v,i'⟩ hi ⟨k1,k2,k3⟩;simp only at k1 k2 k3;subst k1;unfold E6;refine Tot.iteT (by simp;omega) (Tot.bind (JgK hT hs (show i<=s.length by omega) v k2) ?_);intro m2 hm2;have hJ:∀ c,c=Ec s i->Tot (λ n=>E5 n t s (Aa t) v (i:Int) m2 c) (Rd2 (λ x:List (List Bool)×Int×Int=>x.2.2=((i+1:Nat):Int)/\Rea t s (i+1) x.1/\H4 t s (i+1) x.2.1) (OF t s)):=by
    rintro c rfl;unfold E5;refine Tot.bind (JgL hT hs (show i<=s.length by omega) hm2 k3) ?_;rintro ⟨m3,v3⟩ ⟨rfl,hv3⟩;exact Jm2 ⟨Br (by omega),hm2,hv3⟩
   refine Tot.ite (λ h=>?_) λ h=>?_
   ·have hlt:i<s.length:=by simpa using h
    refine Tot.bindC (LX hlt) (Jm4 (λ n=>VB n _) (hJ _ ?_));unfold Ec;rw [if_pos hlt]
   ·have hlt:¬i<s.length:=by simpa using h
    refine hJ 0 ?_;unfold Ec;rw [if_neg hlt]
  ·rintro ⟨m',v,i'⟩ ⟨k1,k2,k3⟩;simp only at k1 k2 k3;subst k1;unfold E6;exact Tot.iteF (by simp;omega) (Jm2 k3.all)
end
end Go.AI
end
section
namespace Go.AI
def K5 (t:Ad) (q:Ab) (k:Nat):Option AE:=if (Au t q k).2=true then some ⟨k,BY (Aa t) (Au t q k).1⟩ else none
def Be (t:Ad) (q:Ab):List AE:=(List.range t.Rules.length).filterMap (K5 t q)
theorem I7 {t:Ad} {q:Ab} {a:AE}:a∈Be t q↔∃ k:Nat,k<t.Rules.length/\(Au t q k).2=true/\a=⟨k,BY (Aa t) (Au t q k).1⟩:=by
 unfold Be;rw [List.mem_filterMap];constructor
 ·rintro ⟨k,hk,h⟩;unfold K5 at h;split at h
  ·rename_i hs;cases h;exact ⟨k,List.mem_range.1 hk,hs,rfl⟩
  ·cases h
 ·rintro ⟨k,hk,hs,rfl⟩;exact ⟨k,List.mem_range.2 hk,by unfold K5;rw [if_pos hs]⟩
structure R4 (t:Ad) (s:List UInt8) (w:Ae):Prop where
 tt:w.T=t
 ss:w.S=s
 st:w.States=Aa t
 al:w.Arcs.length=(Aa t).length
 arc:∀ (j:Nat) q,(Aa t)[j]? = some q->w.Arcs[j]? = some (Be t q)
section
variable {t:Ad} (hT:GG t) {s:List UInt8} (hs:s.length<=4000)
include hT hs
theorem JgM (x:List AG):Tot (λ n=>whl (λ (x_1:((List (Ab×Int))×Int))=>Cn n t s (Aa t) x x_1.1 x_1.2) n ([],0)) (Hg (Aa t)):=by
 have _:=hs;have hlen:=EL hT;refine Tot.upto (body:=λ n y=>Cn n t s (Aa t) x y.1 y.2) (Aa t).length (λ k y=>y.2=(k:Int)/\Hg ((Aa t).take k) y.1) ?_ ?_ _ ⟨rfl,λ q=>rfl⟩
 ·rintro k ⟨nb,k'⟩ hk ⟨e1,hN⟩;simp only at e1 hN;subst e1;unfold Cn;refine Tot.iteT (Du hk) (Tot.bindC (Em hk) (Jm2 ⟨Br (by omega),?_⟩));have hn:=Qq hT;have e:(Aa t).take (k+1)=(Aa t).take k++[(Aa t)[k]]:=by rw [List.take_add_one,Jnx hk];rfl
  have hnd:((Aa t).take (k+1)).Nodup:=(List.take_sublist _ _).nodup hn;rw [e] at hnd;have hp:(Aa t)[k] ∉ (Aa t).take k:=by
   intro hm;exact (List.nodup_append.1 hnd).2.2 _ hm _ (by simp) rfl
  have:=Hg.snoc hN ((List.take_sublist _ _).nodup hn) hp;rw [← e,List.length_take,Nat.min_eq_left (by omega)] at this;exact this
 ·rintro ⟨nb,k'⟩ ⟨e1,hN⟩;simp only at e1 hN;subst e1;rw [List.take_length] at hN;unfold Cn;exact Tot.iteF (by simp) (Jm2 hN)
omit hs in
theorem Jaf {nb:List (Ab×Int)} (hN:Hg (Aa t) nb) {q:Ab} (hq:q∈Aa t):Option.getD (G0 q nb) 0=BY (Aa t) q:=by
 obtain ⟨j,hj,hg⟩:=BZ hq;rw [hN q,Dg (Qq hT) hg,hj];rfl
omit hs in
theorem JgN {nb:List (Ab×Int)} (hN:Hg (Aa t) nb) {j:Nat} {q:Ab} (hq:(Aa t)[j]? = some q) (w0:Ae) (hl:w0.Arcs.length=(Aa t).length) (h0:w0.Arcs[j]? = some []) :
  Tot (λ n=>whl (λ (x:(Ae×Int))=>Co n t (Aa t) nb (j:Int) q x.1 x.2) n (w0,0)) (λ w=>w={ w0 with Arcs:=w0.Arcs.set j (Be t q) }):=by
 have hrl:=hT.tab.1;have hjl:=Aj hq;refine Tot.upto (body:=λ n x=>Co n t (Aa t) nb (j:Int) q x.1 x.2) t.Rules.length (λ k x=>x.2=(k:Int)/\x.1={ w0 with Arcs:=w0.Arcs.set j ((List.range k).filterMap (K5 t q)) }/\((List.range k).filterMap (K5 t q)).length<=k) ?_ ?_ _ ⟨rfl,?_,by simp⟩
 ·rintro k ⟨w,k'⟩ hk ⟨e1,e2,e3⟩;simp only at e1 e2 e3;subst e1;have hJ:∀ w',w'={ w0 with Arcs:=w0.Arcs.set j ((List.range (k+1)).filterMap (K5 t q)) }->Tot (λ n=>CQ n (k:Int) w') (Rd2 (λ x:Ae×Int=>x.2=((k+1:Nat):Int)/\x.1={ w0 with Arcs:=w0.Arcs.set j ((List.range (k+1)).filterMap (K5 t q)) }/\((List.range (k+1)).filterMap (K5 t q)).length<=k+1) (λ w=>w={ w0 with Arcs:=w0.Arcs.set j (Be t q) })):=by
   intro w' hw;unfold CQ;refine Jm2 ⟨Br (by omega),hw,?_⟩;exact Nat.le_trans (List.length_filterMap_le _ _) (by simp)
  unfold Co;refine Tot.iteT (Du hk) (Jm4 (λ n=>Qe hT.tab.short n q k) (Tot.ite (λ h=>?_) λ h=>?_))
  ·subst e2;refine Tot.bindC (AX [] (by rw [JnP];omega)) ?_;rw [De (by omega)];refine Tot.bindC (Gc (by simp;omega)) (hJ _ ?_);rw [Jaf hT hN (Dt hT (Jnz hq) h)];simp only [JnH,List.set_set,List.range_succ,List.filterMap_append];have:(List.filterMap (K5 t q) [k])=[⟨k,BY (Aa t) (Au t q k).1⟩]:=by
    simp only [List.filterMap_cons,K5,h,if_true,List.filterMap_nil]
   rw [this]
  ·refine hJ _ ?_;rw [e2];simp only [List.range_succ,List.filterMap_append];have:(List.filterMap (K5 t q) [k])=[]:=by
    simp only [List.filterMap_cons,K5,h,JnK,if_false,List.filterMap_nil]
   rw [this,List.append_nil]
 ·rintro ⟨w,k'⟩ ⟨e1,e2,e3⟩;simp only at e1 e2;subst e1;unfold Co;exact Tot.iteF (by simp) (Jm2 e2)
 ·show w0={ w0 with Arcs:=w0.Arcs.set j [] };have:w0.Arcs.set j []=w0.Arcs:=by
   have:=D6 w0.Arcs j [];rwa [JnG,h0] at this
  rw [this]
theorem JkJ:Tot (λ n=>EA n t s) (λ w=>R4 t s w/\w.Columns=List.replicate (s.length+1) ⟨[],[]⟩/\w.Last=0):=by
 have hlen:=EL hT;unfold EA;have e1:An .i64 ((s.length:Nat):Int) 1=((s.length+1:Nat):Int):=Br (by omega);refine Jm3 (Us hT.tab) ?_;rw [e1];refine Tot.bindC (K2 (by omega) (by omega)) (Tot.bind (JgM hT hs _) ?_);intro nb hN;refine Tot.bindC (K2 (by omega) (by omega)) ?_;simp only [JnH];refine Tot.bind (R:=λ w=>R4 t s w/\w.Columns=List.replicate (s.length+1) ⟨[],[]⟩/\w.Last=0) ?_ (λ w h=>Jm2 h);refine Tot.upto (body:=λ n x=>CS n t (Aa t) nb x.1 x.2) (Aa t).length (λ k x=>x.2=(k:Int)/\∃ A,x.1=({ T:=t,S:=s,States:=Aa t,Arcs:=A,Columns:=List.replicate (s.length+1) ⟨[],[]⟩,Last:=0 }:Ae)/\A.length=(Aa t).length/\(∀ (j:Nat) q,j<k->(Aa t)[j]? = some q->A[j]? = some (Be t q))/\∀ j,k<=j->j<(Aa t).length->A[j]? = some []) ?_ ?_ _ ⟨rfl,_,rfl,by simp,by omega,λ j _ h=>by rw [List.getElem?_replicate,if_pos h]⟩
 ·rintro k ⟨w,k'⟩ hk ⟨e1,A,e2,a1,a2,a3⟩;simp only at e1 e2;subst e1 e2;have hq:(Aa t)[k]? = some (Aa t)[k]:=Jnx hk;unfold CS;refine Tot.iteT (Du hk) (Tot.bindC (BL hq) (Tot.bind (JgN hT hN hq _ a1 (a3 k (Jni _) hk)) ?_));rintro w' rfl;refine Jm2 ⟨Br (by omega),_,rfl,by rw [JnP];exact a1,λ j q hj hjq=>?_,λ j h1 h2=>?_⟩
  ·by_cases e:k=j
   ·subst e;rw [hq] at hjq;cases hjq;exact JnJ (show k<A.length by omega)
   ·rw [JnO e];exact a2 j q (by omega) hjq
  ·rw [JnO (by omega)];exact a3 j (by omega) h2
 ·rintro ⟨w,k'⟩ ⟨e1,A,e2,a1,a2,a3⟩;simp only at e1 e2;subst e1 e2;unfold CS;exact Tot.iteF (by simp) (Jm2 ⟨⟨rfl,rfl,rfl,a1,λ j q hq=>a2 j q (Aj hq) hq⟩,rfl,rfl⟩)
theorem Rt {w:Ae} (hw:R4 t s w) {i:Nat} (hi:i<=s.length) {q:Ab} {k:Nat} (hk:(Au t q k).2=true) (n:Nat) :
  BS n (i:Int) (k:Int) w=some (((i+(prt t k).length:Nat):Int),(prt t k).isPrefixOf (s.drop i)):=by
 have h:=Cq hk;obtain ⟨p1,p2,p3⟩:=hT.pr hk;have hpl:(prt t k).length=(Dc t k).Print.length:=rfl;unfold BS DN Ey;rw [hw.tt,hw.ss,H3 h.1 h.2,Jm9,VC (by omega) (by omega) (by omega),Jm9];simp only [JnH,List.take_length];have e1:An .i64 (i:Int) ((List.length (Dc t k).Print:Nat):Int)=((i+(prt t k).length:Nat):Int):=by rw [E7 (by omega) (by omega)];omega
 rw [e1];by_cases hle:(prt t k).length<=(s.drop i).length
 ·have hd:decide (((List.length (s.drop i):Nat):Int)>=((List.length (Dc t k).Print:Nat):Int))=true:=by simp only [ge_iff_le,decide_eq_true_eq];omega
  rw [if_pos hd,L3 (by omega),Jm9,hd,Bool.true_and,Jm9,Jm9];congr 2;rw [Bool.eq_iff_iff,beq_iff_eq,Jnj];constructor
  ·intro h2;have:=List.take_prefix (Dc t k).Print.length (s.drop i);rw [h2] at this;exact this
  ·intro h2;exact (List.prefix_iff_eq_take.1 h2).symm
 ·have hd:decide (((List.length (s.drop i):Nat):Int)>=((List.length (Dc t k).Print:Nat):Int))=false:=by simp only [ge_iff_le,decide_eq_false_iff_not];omega
  rw [if_neg (by rw [hd];simp),Jm9,hd,Bool.false_and,Jm9,Jm9];congr 2;rw [eq_comm,← Jnh,Jnj];intro hp';exact hle hp'.length_le
end
end Go.AI
end
section
namespace Go.AI
def A7 (w:Ae) (p:Nat):List Int:=(w.Columns.getD p default).States
def InC (w:Ae) (p:Nat) (v:Int):Prop:=v∈A7 w p
structure Kn (t:Ad) (s:List UInt8) (place:Nat) (w:Ae) (kn:List (List Bool)):Prop where
 base:R4 t s w
 clen:w.Columns.length=s.length+1
 cost:∀ p,(w.Columns.getD p default).Costs=[]
 klen:kn.length=5
 rows:∀ c,c<5->(kn.getD c []).length=(Aa t).length
 nod:∀ p,(A7 w p).Nodup
 ok:∀ p v,InC w p v->∃ (j:Nat) (q:Ab),v=(j:Int)/\(Aa t)[j]? = some q/\Rch t s p q
 row:∀ p,place<=p->p<place+5->∀ j:Nat,(kn.getD (p % 5) [])[j]? = some true↔InC w p (j:Int)
 far:∀ p,place+5<=p->A7 w p=[]
structure JY (w w':Ae):Prop where
 last:w'.Last=w.Last
 pre:∀ p,A7 w p <+: A7 w' p
theorem JY.refl (w:Ae):JY w w:=⟨rfl,λ _=>List.prefix_rfl⟩
theorem JY.trans {w w' w'':Ae} (h:JY w w') (h':JY w' w''):JY w w'':=⟨h'.last.trans h.last,λ p=>(h.pre p).trans (h'.pre p)⟩
theorem JY.inc {w w':Ae} (h:JY w w') {p:Nat} {v:Int} (hv:InC w p v):InC w' p v:=(h.pre p).subset hv
theorem Uw {w:Ae} {p:Nat} (hp:p<w.Columns.length) (c:AG) (p':Nat) (a b d:Int) (x:List AC):((w.Columns.set p c).getD p' default)=if p=p' then c else w.Columns.getD p' default:=by
 split
 ·rename_i e;subst e;exact De hp _ _
 ·rename_i e;exact Dm e _ _
section
variable {t:Ad} (hT:GG t) {s:List UInt8} (hs:s.length<=4000)
include hT hs
omit hs in
theorem Kn.len {place:Nat} {w:Ae} {kn:List (List Bool)} (h:Kn t s place w kn) (p:Nat):(A7 w p).length<=(Aa t).length:=by
 have _:=hT;have hsub:∀ v∈A7 w p,v∈(List.range (Aa t).length).map (λ j:Nat=>(j:Int)):=by
  intro v hv;obtain ⟨j,q,rfl,hq,_⟩:=h.ok p v hv;exact Jno.2 ⟨j,List.mem_range.2 (Aj hq),rfl⟩
 have:=(h.nod p).length_le_of_subset hsub;simpa using this
omit hs in
theorem Je2 {place:Nat} {w:Ae} {kn:List (List Bool)} (h:Kn t s place w kn) {p:Nat} (h1:place<=p) (h2:p<place+5) (hp:p<=s.length) {j:Nat} {q:Ab} (hq:(Aa t)[j]? = some q) (hr:Rch t s p q) :
  Tot (λ n=>Ck n (p:Int) (j:Int) w kn) (λ y=>Kn t s place y.1 y.2/\JY w y.1/\InC y.1 p (j:Int)):=by
 have hlen:=EL hT;have hc5:p % 5<5:=Nat.mod_lt _ (by omega);have hjl:=Aj hq;have hrl:=h.rows _ hc5;obtain ⟨b,hb⟩:∃ b,(kn.getD (p % 5) [])[j]? = some b:=⟨_,Jnx (by omega)⟩;have hbd:(kn.getD (p % 5) []).getD j false=b:=by rw [JnG (l:=kn.getD (p % 5) []),hb];rfl
 have e5:Bd (p:Int) 5=((p % 5:Nat):Int):=by
  have:=(K1 (a:=(p:Int)) (m:=5) (by omega) (by omega)).1;rw [this];omega
 unfold Ck;rw [e5];simp only [JnH];refine Tot.bindC (AX [] (by rw [h.klen];exact hc5)) (Tot.bindC (EC (by simp;omega)) (Tot.bindC (AX false (by omega)) ?_));rw [hbd];cases b with
 | true=>
  refine Tot.iteF rfl (Jm2 ?_);rw [D6];exact ⟨h,.refl w,(h.row p h1 h2 j).1 hb⟩
 | false=>
  have hcl:p<w.Columns.length:=by rw [h.clen];omega
  have hnl:=h.len hT p;refine Tot.iteT rfl (Tot.bindC (AX false (by omega)) (Tot.bindC (DV (by omega)) (Tot.bindC (AX default hcl) (Tot.bindC (Gc (by show ((A7 w p).length+1)*8<=70368744177664;omega)) (Jm2 ?_)))));have hni:¬InC w p (j:Int):=λ hin=>by have:=(h.row p h1 h2 j).2 hin;rw [hb] at this;cases this
  generalize hw':(⟨w.T,w.S,w.States,w.Arcs,w.Columns.set p ⟨(w.Columns.getD p default).States++[(j:Int)],(w.Columns.getD p default).Costs⟩,w.Last⟩:Ae)=w';have hcol:∀ p',w'.Columns.getD p' default=if p=p' then ⟨(w.Columns.getD p default).States++[(j:Int)],(w.Columns.getD p default).Costs⟩ else w.Columns.getD p' default:=by
   intro p';subst hw';exact Uw hcl _ p' 0 0 0 []
  have hcS:∀ p',A7 w' p'=if p=p' then A7 w p++[(j:Int)] else A7 w p':=by
   intro p';unfold A7;rw [hcol];split<;>rfl
  have hin:∀ p' v,InC w' p' v↔InC w p' v\/(p=p'/\v=(j:Int)):=by
   intro p' v;unfold InC;rw [hcS];by_cases e:p=p'
   ·subst e;rw [if_pos rfl,List.mem_append,List.mem_singleton];simp
   ·rw [if_neg e];simp [e]
  have hkn:∀ c,(kn.set (p % 5) ((kn.getD (p % 5) []).set j true)).getD c []=if p % 5=c then (kn.getD (p % 5) []).set j true else kn.getD c []:=by
   intro c;split
   ·rename_i e;subst e;exact De (by rw [h.klen];exact hc5) _ _
   ·rename_i e;exact Dm e _ _
  refine ⟨⟨?_,?_,λ p'=>?_,by rw [JnP];exact h.klen,λ c hc=>?_,λ p'=>?_,λ p' v hv=>?_,λ p' g1 g2 j'=>?_,λ p' g=>?_⟩,⟨?_,λ p'=>?_⟩,(hin _ _).2 (.inr ⟨rfl,rfl⟩)⟩
  ·subst hw';exact ⟨h.base.tt,h.base.ss,h.base.st,h.base.al,h.base.arc⟩
  ·subst hw';simp only [JnP];exact h.clen
  ·rw [hcol];split
   ·exact h.cost p
   ·exact h.cost p'
  ·rw [hkn];split
   ·rw [JnP];exact hrl
   ·exact h.rows c hc
  ·rw [hcS];split
   ·rw [List.nodup_append];exact ⟨h.nod p,by simp,λ a ha b hb e=>by simp at hb;subst hb;subst e;exact hni ha⟩
   ·exact h.nod p'
  ·rcases (hin p' v).1 hv with hv|⟨rfl,rfl⟩
   ·exact h.ok p' v hv
   ·exact ⟨j,q,rfl,hq,hr⟩
  ·rw [hkn,hin];by_cases e:p=p'
   ·subst e;rw [if_pos rfl];by_cases e2:j=j'
    ·subst e2;rw [JnJ (by omega)];simp
    ·rw [JnO e2,h.row p h1 h2 j'];exact ⟨.inl,λ hh=>hh.resolve_right λ hh=>e2 (by have:=hh.2;omega)⟩
   ·rw [if_neg (by omega),h.row p' g1 g2 j'];exact ⟨.inl,λ hh=>hh.resolve_right λ hh=>e hh.1⟩
  ·rw [hcS,if_neg (by omega)];exact h.far p' g
  ·subst hw';rfl
  ·rw [hcS];split
   ·rename_i e;subst e;exact List.prefix_append _ _
   ·exact List.prefix_rfl
def Clo (t:Ad) (s:List UInt8) (w:Ae) (p:Nat) (q:Ab):Prop:=∀ k:Nat,(Au t q k).2=true->(prt t k).isPrefixOf (s.drop p)=true->∃ j:Nat,(Aa t)[j]? = some (Au t q k).1/\InC w (p+(prt t k).length) (j:Int)
theorem JbA {place:Nat} (hpl:place<=s.length) {w:Ae} {kn:List (List Bool)} (h:Kn t s place w kn) {j:Nat} {q:Ab} (hq:(Aa t)[j]? = some q) (hr:Rch t s place q) (x0:Ae×List (List Bool)) (x1 x2:Int) :
  Tot (λ n=>whl (λ (x:(Ae×(List (List Bool))×Int))=>BD n x0 (place:Int) x1 x2 (Be t q) x.1 x.2.1 x.2.2) n (w,kn,0)) (λ y=>Kn t s place y.1 y.2/\JY w y.1/\Clo t s y.1 place q):=by
 have hrl:=hT.tab.1;have hal:(Be t q).length<=t.Rules.length:=by unfold Be;exact Nat.le_trans (List.length_filterMap_le _ _) (by simp)
 refine Tot.upto (body:=λ n x=>BD n x0 (place:Int) x1 x2 (Be t q) x.1 x.2.1 x.2.2) (Be t q).length (λ i x=>x.2.2=(i:Int)/\Kn t s place x.1 x.2.1/\JY w x.1/\∀ (k:Nat) a,(∃ i',i'<i/\(Be t q)[i']? = some a)->a.Rule=(k:Int)->(prt t k).isPrefixOf (s.drop place)=true->InC x.1 (place+(prt t k).length) a.To) ?_ ?_ _ ⟨rfl,h,.refl w,λ k a ⟨i',hi',_⟩=>by omega⟩
 ·rintro i ⟨w1,kn1,i'⟩ hi ⟨e1,hK,hE,hC⟩;simp only at e1 hK hE hC;subst e1;have ha:(Be t q)[i]? = some (Be t q)[i]:=Jnx hi;obtain ⟨k,hk,hst,hae⟩:=I7.1 (Jnf hi);have hJ:∀ w2 kn2,Kn t s place w2 kn2->JY w1 w2->((prt t k).isPrefixOf (s.drop place)=true->InC w2 (place+(prt t k).length) (BY (Aa t) (Au t q k).1))->Tot (λ n=>B5 n (i:Int) w2 kn2) (Rd2 (λ x:Ae×(List (List Bool))×Int=>x.2.2=((i+1:Nat):Int)/\Kn t s place x.1 x.2.1/\JY w x.1/\∀ (k:Nat) a,(∃ i',i'<i+1/\(Be t q)[i']? = some a)->a.Rule=(k:Int)->(prt t k).isPrefixOf (s.drop place)=true->InC x.1 (place+(prt t k).length) a.To) (λ y=>Kn t s place y.1 y.2/\JY w y.1/\Clo t s y.1 place q)):=by
   intro w2 kn2 g1 g2 g3;unfold B5;refine Jm2 ⟨Br (by omega),g1,hE.trans g2,?_⟩;rintro k' a ⟨i',hi',hia⟩ hak hpf;by_cases e:i'=i
   ·subst e;rw [ha,hae] at hia;cases hia;simp only at hak;have:k=k':=by omega
    subst this;exact g3 hpf
   ·exact g2.inc (hC k' a ⟨i',by omega,hia⟩ hak hpf)
  unfold BD;refine Tot.iteT (Du hi) (Tot.bindC (BL ha) ?_);rw [hae];refine Jm4 (λ n=>Rt hT hs hK.base hpl hst n) (Tot.ite (λ hpf=>?_) λ hpf=>?_)
  ·obtain ⟨d,hd,hdg⟩:=BZ (Dt hT (Jnz hq) hst);obtain ⟨p1,_,_⟩:=hT.pr hst;have hle:=(CG hpf).2 hpl;simp only;rw [hd];refine Tot.bind (Je2 hT hK (p:=place+(prt t k).length) (by omega) (by omega) hle hdg (hr.next hst hpf)) ?_;rintro ⟨w2,kn2⟩ ⟨g1,g2,g3⟩;exact hJ w2 kn2 g1 g2 λ _=>by rw [hd];exact g3
  ·exact hJ w1 kn1 hK (.refl w1) λ hh=>by
    have:(prt t k).isPrefixOf (s.drop place)=false:=hpf;rw [hh] at this;cases this
 ·rintro ⟨w1,kn1,i'⟩ ⟨e1,hK,hE,hC⟩;simp only at e1 hK hE hC;subst e1;unfold BD;refine Tot.iteF (by simp) (Jm2 ⟨hK,hE,λ k hst hpf=>?_⟩);obtain ⟨d,hd,hdg⟩:=BZ (Dt hT (Jnz hq) hst);have hm:(⟨k,BY (Aa t) (Au t q k).1⟩:AE)∈Be t q:=I7.2 ⟨k,by have:=Cq hst;omega,hst,rfl⟩;obtain ⟨i',hi',e⟩:=Jnt hm;have:=hC k _ ⟨i',hi',by rw [Jnx hi',e]⟩ rfl hpf;simp only [hd] at this;exact ⟨d,hdg,this⟩
omit hT hs in
theorem Je3 {m c:Int} (h:0<=c) (h':c<=5):((CW .u8 (Tt .u8 m c) 1)==1)=Hy m c:=by
 unfold Hy;rw [decide_eq_true h,decide_eq_true (show c<8 by omega)];rfl
omit hT hs in
theorem H5 (w:Ae) (p:Nat) (d:AG):(⟨w.T,w.S,w.States,w.Arcs,w.Columns.set p (w.Columns.getD p d),w.Last⟩:Ae)=w:=by rw [D6]
omit hT hs in
theorem Kn.last {place:Nat} {w:Ae} {kn:List (List Bool)} (h:Kn t s place w kn) (v:Int):Kn t s place { w with Last:=v } kn:=⟨⟨h.base.tt,h.base.ss,h.base.st,h.base.al,h.base.arc⟩,h.clen,h.cost,h.klen,h.rows,h.nod,h.ok,h.row,h.far⟩
structure R3 (t:Ad) (s:List UInt8) (place:Nat) (v0:Int) (w0 w:Ae) (kn:List (List Bool)) (i:Nat):Prop where
 kn:Kn t s place w kn
 pre:∀ p,A7 w0 p <+: A7 w p
 le:i<=(A7 w place).length
 clo:∀ i' v,i'<i->(A7 w place)[i']? = some v->∀ (j:Nat) q,v=(j:Int)->(Aa t)[j]? = some q->Clo t s w place q
 last:(w.Last=(place:Int)/\Qs t s place)\/(w.Last=v0/\∀ i' v,i'<i->(A7 w place)[i']? = some v->∀ (j:Nat) q,v=(j:Int)->(Aa t)[j]? = some q->Hy q.Need (Ec s place)=false)
theorem JbB {place:Nat} (hpl:place<=s.length) {w0:Ae} {kn:List (List Bool)} (h:Kn t s place w0 kn) (x0:Ae×List (List Bool)) :
  Tot (λ n=>whl (λ (x:(Ae×(List (List Bool))×Int))=>B7 n x0 (place:Int) (Ec s place) x.1 x.2.1 x.2.2) n (w0,kn,0)) (λ y=>R3 t s place w0.Last w0 y.1 y.2 (A7 y.1 place).length):=by
 have hlen:=EL hT;refine Tot.whl (body:=λ n x=>B7 n x0 (place:Int) (Ec s place) x.1 x.2.1 x.2.2) (λ m x=>∃ i:Nat,m=1000-i/\x.2.2=(i:Int)/\R3 t s place w0.Last w0 x.1 x.2.1 i) ?_ 1000 _ ⟨0,rfl,rfl,h,λ _=>List.prefix_rfl,by omega,λ i' v h=>by omega,.inr ⟨rfl,λ i' v h=>by omega⟩⟩;rintro m ⟨w,kn,i'⟩ ⟨i,rfl,e1,hR⟩;simp only at e1 hR;subst e1;have hK:=hR.kn;have hcl:place<w.Columns.length:=by rw [hK.clen];omega
 have hll:=hK.len hT place;unfold B7;simp only [JnH];refine Tot.bindC (AX default hcl) ?_;simp only [H5,D6];rcases Jnk i (A7 w place).length with hi|hi
 ·refine Tot.iteT (Du hi) (Tot.bindC (AX default hcl) ?_);simp only [D6];have hv:(A7 w place)[i]? = some (A7 w place)[i]:=Jnx hi;obtain ⟨j,q,hvj,hq,hr⟩:=hK.ok place _ (Jnz hv);refine Tot.bindC (BL hv) ?_;rw [hvj];have hcr:=R1 s place;refine Tot.bindC (show idx w.States (j:Int)=some q by rw [hK.base.st];exact BL hq) (Tot.bindC (EC (by simp;exact hcr.1)) ?_);rw [Je3 hcr.1 hcr.2];have hJ:∀ w1,Kn t s place w1 kn->(∀ p,A7 w1 p=A7 w p)->((w1.Last=(place:Int)/\Qs t s place)\/(w1.Last=w0.Last/\(∀ i' v,i'<i->(A7 w place)[i']? = some v->∀ (j:Nat) q,v=(j:Int)->(Aa t)[j]? = some q->Hy q.Need (Ec s place)=false)/\Hy q.Need (Ec s place)=false)) ->
    Tot (λ n=>B6 n x0 (place:Int) (Ec s place) kn (i:Int) (j:Int) w1) (Rd2 (λ y:Ae×(List (List Bool))×Int=>∃ m',m'<1000-i/\∃ i:Nat,m'=1000-i/\y.2.2=(i:Int)/\R3 t s place w0.Last w0 y.1 y.2.1 i) (λ y=>R3 t s place w0.Last w0 y.1 y.2 (A7 y.1 place).length)):=by
   intro w1 hK1 hc1 hl1;unfold B6;refine Tot.bindC (BL (hK1.base.arc j q hq)) (Tot.bind (JbA hT hs hpl hK1 hq hr x0 (Ec s place) (i:Int)) ?_);rintro ⟨w2,kn2⟩ ⟨g1,g2,g3⟩;simp only at g1 g2 g3;have hpre:∀ p,A7 w p <+: A7 w2 p:=λ p=>by rw [← hc1 p];exact g2.pre p
   have hgetp:∀ i' v,i'<(A7 w place).length->((A7 w2 place)[i']? = some v↔(A7 w place)[i']? = some v):=by
    intro i' v hi';have:=NM (hpre place) (Jnx hi');rw [this,Jnx hi']
   refine Jm2 ⟨1000-(i+1),by omega,i+1,rfl,Br (by omega),g1,λ p=>(hR.pre p).trans (hpre p),Nat.le_trans hi (hpre place).length_le,λ i' v hi' hv' j' q' hj' hq'=>?_,?_⟩
   ·rw [hgetp i' v (by omega)] at hv';by_cases e:i'=i
    ·subst e;rw [hv] at hv';cases hv';have:j=j':=by omega
     subst this;rw [hq] at hq';cases hq';exact g3
    ·have:=hR.clo i' v (by omega) hv' j' q' hj' hq';exact λ k h1 h2=>by
      obtain ⟨d,d1,d2⟩:=this k h1 h2;exact ⟨d,d1,(hpre _).subset d2⟩
   ·rw [g2.last];refine hl1.imp id λ ⟨l1,l2,l3⟩=>⟨l1,λ i' v hi' hv' j' q' hj' hq'=>?_⟩;rw [hgetp i' v (by omega)] at hv';by_cases e:i'=i
    ·subst e;rw [hv] at hv';cases hv';have:j=j':=by omega
     subst this;rw [hq] at hq';cases hq';exact l3
    ·exact l2 i' v (by omega) hv' j' q' hj' hq'
  refine Tot.ite (λ hc=>?_) λ hc=>?_
  ·exact hJ { w with Last:=(place:Int) } (hK.last _) (λ p=>rfl) (.inl ⟨rfl,q,hr,hc⟩)
  ·exact hJ w hK (λ p=>rfl) (hR.last.imp id λ ⟨l1,l2⟩=>⟨l1,l2,hc⟩)
 ·have:i=(A7 w place).length:=by have:=hR.le;omega
  refine Tot.iteF (by simp only [decide_eq_false_iff_not];show ¬((i:Int)<(((A7 w place).length:Nat):Int));omega) (Jm2 ?_);show R3 t s place w0.Last w0 w kn (A7 w place).length;rw [← this];exact hR
end
end Go.AI
end
section
namespace Go.AI
structure WR (t:Ad) (s:List UInt8) (w:Ae):Prop where
 base:R4 t s w
 clen:w.Columns.length=s.length+1
 cost:∀ p,(w.Columns.getD p default).Costs=[]
 nod:∀ p,(A7 w p).Nodup
 ok:∀ p v,InC w p v->∃ (j:Nat) (q:Ab),v=(j:Int)/\(Aa t)[j]? = some q/\Rch t s p q
 all:∀ p (j:Nat) q,(Aa t)[j]? = some q->Rch t s p q->InC w p (j:Int)
 sort:∀ p,p<=s.length->(A7 w p).Pairwise (·<=·)
 last:OF t s w.Last
structure R2 (t:Ad) (s:List UInt8) (place:Nat) (w:Ae) (kn:List (List Bool)):Prop where
 kn:Kn t s place w kn
 sort:∀ p,p<place->(A7 w p).Pairwise (·<=·)
 clo:∀ p,p<place->∀ v,InC w p v->∀ (j:Nat) q,v=(j:Int)->(Aa t)[j]? = some q->Clo t s w p q
 last:H4 t s place w.Last
 first:InC w 0 0
section
variable {t:Ad} (hT:GG t) {s:List UInt8} (hs:s.length<=4000)
include hT hs
theorem JbC {place:Nat} (hpl:place<=s.length) {w:Ae} {kn:List (List Bool)} (h:R2 t s place w kn) (x0:Ae×List (List Bool)) :
  Tot (λ n=>BE n x0 w kn (place:Int) (Ec s place)) (Rd2 (λ y:Ae×(List (List Bool))×Int=>y.2.2=((place+1:Nat):Int)/\R2 t s (place+1) y.1 y.2.1) (λ _=>False)):=by
 have hlen:=EL hT;have e5:Bd (place:Int) 5=((place % 5:Nat):Int):=by
  have:=(K1 (a:=(place:Int)) (m:=5) (by omega) (by omega)).1;rw [this];omega
 have hc5:place % 5<5:=Nat.mod_lt _ (by omega);unfold BE;refine Tot.bind (JbB hT hs hpl h.kn x0) ?_;rintro ⟨w1,kn1⟩ hR;simp only at hR;have hK:=hR.kn;have hcl:place<w1.Columns.length:=by rw [hK.clen];omega
 have hll:=hK.len hT place;refine Tot.bindC (AX default hcl) ?_;have hsort:Vz 0 (w1.Columns.getD place default).States=some (Lp (A7 w1 place)):=by
  unfold Vz ZX;rw [if_pos (show (w1.Columns.getD place default).States.length<4611686018427387904 from (show (A7 w1 place).length<4611686018427387904 by omega))];rfl
 have hperm:=M4 (A7 w1 place);refine Jm4 (λ n=>hsort) (Tot.bindC (EC (by rw [decide_eq_true_eq];exact hperm.length_eq.symm)) ?_);rw [e5];refine Tot.bindC (AX [] (by rw [hK.klen];exact hc5)) (Tot.bindC (EC (by simp;omega)) (Jm2 ⟨Br (by omega),?_⟩));simp only [JnH];generalize hw':(⟨w1.T,w1.S,w1.States,w1.Arcs,w1.Columns.set place ⟨Lp (A7 w1 place),(w1.Columns.getD place default).Costs⟩,w1.Last⟩:Ae)=w';have hcol:∀ p',w'.Columns.getD p' default=if place=p' then ⟨Lp (A7 w1 place),(w1.Columns.getD place default).Costs⟩ else w1.Columns.getD p' default:=by
  intro p';subst hw';exact Uw hcl _ p' 0 0 0 []
 have hcS:∀ p',A7 w' p'=if place=p' then Lp (A7 w1 place) else A7 w1 p':=by
  intro p';show (w'.Columns.getD p' default).States=_;rw [hcol];split<;>rfl
 have hin:∀ p' v,InC w' p' v↔InC w1 p' v:=by
  intro p' v;unfold InC;rw [hcS];split
  ·rename_i e;subst e;exact hperm.mem_iff
  ·exact Iff.rfl
 have hkn:∀ c,(kn1.set (place % 5) (List.replicate (kn1.getD (place % 5) []).length false)).getD c []=if place % 5=c then List.replicate (kn1.getD (place % 5) []).length false else kn1.getD c []:=by
  intro c;split
  ·rename_i e;subst e;exact De (by rw [hK.klen];exact hc5) _ _
  ·rename_i e;exact Dm e _ _
 have hclo:∀ {p q},Clo t s w1 p q->Clo t s w' p q:=λ {p q} hh k h1 h2=>by
  obtain ⟨j,g1,g2⟩:=hh k h1 h2;exact ⟨j,g1,(hin _ _).2 g2⟩
 refine ⟨⟨?_,?_,λ p'=>?_,by rw [JnP];exact hK.klen,λ c hc=>?_,λ p'=>?_,λ p' v hv=>hK.ok p' v ((hin _ _).1 hv),λ p' g1 g2 j'=>?_,λ p' g=>?_⟩,λ p' g=>?_,λ p' g v hv j q hj hq=>hclo ?_,?_,(hin _ _).2 ((hR.pre 0).subset h.first)⟩
 ·subst hw';exact ⟨hK.base.tt,hK.base.ss,hK.base.st,hK.base.al,hK.base.arc⟩
 ·subst hw';simp only [JnP];exact hK.clen
 ·rw [hcol];split
  ·exact hK.cost place
  ·exact hK.cost p'
 ·rw [hkn];split
  ·rename_i e;rw [List.length_replicate,e];exact hK.rows c hc
  ·exact hK.rows c hc
 ·rw [hcS];split
  ·exact hperm.nodup_iff.2 (hK.nod place)
  ·exact hK.nod p'
 ·rw [hkn,hin];by_cases e:place % 5=p' % 5
  ·rw [if_pos e];have hp5:p'=place+5:=by omega
   have hf:=hK.far p' (by omega);unfold InC;rw [hf,List.getElem?_replicate];constructor
   ·intro hh;split at hh<;>cases hh
   ·intro hh;cases hh
  ·rw [if_neg e,hK.row p' (by omega) (by omega) j']
 ·rw [hcS,if_neg (by omega)];exact hK.far p' (by omega)
 ·rw [hcS];split
  ·exact J2 _
  ·rename_i e;have:A7 w1 p'=A7 w p':=by
    have h1:=hR.pre p';obtain ⟨l,hl⟩:=h1;have hp':p'<place:=by omega
    cases l with
    | nil=>rw [← hl,List.append_nil]
    | cons a l=>
     exfalso;have ha:InC w1 p' a:=by unfold InC;rw [← hl];simp
     obtain ⟨j,q,e1,e2,e3⟩:=hK.ok p' a ha;have hin0:InC w p' a:=by
      have key:∀ {i' q},Rch t s i' q->i'<place->∃ j:Nat,(Aa t)[j]? = some q/\InC w i' (j:Int):=λ {i' q} hr=>Jm7 (A:=λ i' q=>i'<place->∃ j:Nat,(Aa t)[j]? = some q/\InC w i' (j:Int)) (λ _=>⟨0,(CC hT.tab).1.first,h.first⟩) (λ i' q k hi' hA hst hpf hlt=>by
       obtain ⟨j,h1,h2⟩:=hA (by omega);exact h.clo i' (by omega) _ h2 j q rfl h1 k hst hpf) hr
      obtain ⟨j',g1,g2⟩:=key e3 hp';rw [e1,NN (Qq hT) e2 g1];exact g2
     have hnd:=hK.nod p';rw [← hl,List.nodup_append] at hnd;exact hnd.2.2 a hin0 a (by simp) rfl
   rw [this];exact h.sort p' (by omega)
 ·by_cases e:p'=place
  ·subst e;obtain ⟨i',hi',e1⟩:=Jnt ((hin _ _).1 hv);exact hR.clo i' v hi' (by rw [← e1];exact Jnx hi') j q hj hq
  ·have hp':p'<place:=by omega
   obtain ⟨j2,q2,e1,e2,e3⟩:=hK.ok p' v ((hin _ _).1 hv);have hin0:InC w p' v:=by
    have key:∀ {i' q},Rch t s i' q->i'<place->∃ j:Nat,(Aa t)[j]? = some q/\InC w i' (j:Int):=λ {i' q} hr=>Jm7 (A:=λ i' q=>i'<place->∃ j:Nat,(Aa t)[j]? = some q/\InC w i' (j:Int)) (λ _=>⟨0,(CC hT.tab).1.first,h.first⟩) (λ i' q k hi' hA hst hpf hlt=>by
     obtain ⟨j,h1,h2⟩:=hA (by omega);exact h.clo i' (by omega) _ h2 j q rfl h1 k hst hpf) hr
    obtain ⟨j',g1,g2⟩:=key e3 hp';rw [e1,NN (Qq hT) e2 g1];exact g2
   exact λ k h1 h2=>by
    obtain ⟨d,d1,d2⟩:=h.clo p' hp' v hin0 j q hj hq k h1 h2;exact ⟨d,d1,(hR.pre _).subset d2⟩
 ·have hl':w'.Last=w1.Last:=by subst hw';rfl
  rw [hl'];rcases hR.last with ⟨l1,l2⟩|⟨l1,l2⟩
  ·rw [l1];exact .stop l2
  ·rw [l1];refine h.last.skip ?_;rintro ⟨q,hr,hn⟩;have hA:∃ j:Nat,(Aa t)[j]? = some q/\InC w1 place (j:Int):=by
    have key:∀ {i' q},Rch t s i' q->i'<=place->∃ j:Nat,(Aa t)[j]? = some q/\InC w1 i' (j:Int):=λ {i' q} hr=>Jm7 (A:=λ i' q=>i'<=place->∃ j:Nat,(Aa t)[j]? = some q/\InC w1 i' (j:Int)) (λ _=>⟨0,(CC hT.tab).1.first,(hR.pre 0).subset h.first⟩) (λ i' q k hi' hA hst hpf hle=>by
     obtain ⟨j,h1,h2⟩:=hA (by omega);by_cases e:i'=place
     ·subst e;obtain ⟨x,hx,e1⟩:=Jnt h2;exact hR.clo x _ hx (by rw [← e1];exact Jnx hx) j q rfl h1 k hst hpf
     ·have hin0:InC w i' (j:Int):=by
       have key2:∀ {i' q},Rch t s i' q->i'<place->∃ j:Nat,(Aa t)[j]? = some q/\InC w i' (j:Int):=λ {i' q} hr=>Jm7 (A:=λ i' q=>i'<place->∃ j:Nat,(Aa t)[j]? = some q/\InC w i' (j:Int)) (λ _=>⟨0,(CC hT.tab).1.first,h.first⟩) (λ i' q k hi' hA hst hpf hlt=>by
        obtain ⟨j,h1,h2⟩:=hA (by omega);exact h.clo i' (by omega) _ h2 j q rfl h1 k hst hpf) hr
       obtain ⟨j2,q2,e1,e2,e3⟩:=hK.ok i' _ h2;obtain ⟨j',g1,g2⟩:=key2 e3 (by omega);rw [e1,NN (Qq hT) e2 g1];exact g2
      obtain ⟨d,d1,d2⟩:=h.clo i' (by omega) _ hin0 j q rfl h1 k hst hpf;exact ⟨d,d1,(hR.pre _).subset d2⟩) hr
    exact key hr (Jni _)
   obtain ⟨j,h1,h2⟩:=hA;obtain ⟨x,hx,e1⟩:=Jnt h2;have:=l2 x _ hx (by rw [← e1];exact Jnx hx) j q rfl h1;rw [hn] at this;cases this
theorem Je4 {w:Ae} (hw:R4 t s w) (hc:w.Columns=List.replicate (s.length+1) ⟨[],[]⟩) (hl:w.Last=0):Tot (λ n=>Dn n w) (WR t s):=by
 have hlen:=EL hT;have hf:=(CC hT.tab).1.first;have hcg:∀ p,w.Columns.getD p default=⟨[],[]⟩:=by
  intro p;rw [hc,JnG,List.getElem?_replicate];split<;>rfl
 have hcS:∀ p,A7 w p=[]:=λ p=>by show (w.Columns.getD p default).States=[];rw [hcg]
 unfold Dn;refine Tot.bind (R:=λ kn=>kn.length=5/\∀ c,c<5->kn.getD c []=List.replicate (Aa t).length false) ?_ ?_
 ·refine Tot.upto (body:=λ n x=>B4 n w x.1 x.2) 5 (λ k x=>x.2=(k:Int)/\x.1.length=5/\∀ c,c<k->x.1.getD c []=List.replicate (Aa t).length false) ?_ ?_ _ ⟨rfl,rfl,by omega⟩
  ·rintro k ⟨m,k'⟩ hk ⟨g1,g2,g3⟩;simp only at g1 g2 g3;subst g1;unfold B4;refine Tot.iteT (by simp;omega) (Tot.bindC (AX [] (show k<m.length by omega)) (Tot.bindC (K2 (by omega) (by rw [hw.st];omega)) (Tot.bindC (EC (by simp;omega)) ?_)));rw [hw.st,JnH,JnH];refine Jm2 ⟨Br (by omega),by rw [JnP];exact g2,λ c hc=>?_⟩;by_cases e:k=c
   ·subst e;exact De (show k<m.length by omega) _ _
   ·show (m.set k _).getD c []=_;rw [Dm e];exact g3 c (by omega)
  ·rintro ⟨m,k'⟩ ⟨g1,g2,g3⟩;simp only at g1 g2 g3;subst g1;unfold B4;exact Tot.iteF (by simp) (Jm2 ⟨g2,g3⟩)
 ·rintro kn ⟨k1,k2⟩;have hK:Kn t s 0 w kn:=by
   refine ⟨hw,by rw [hc,List.length_replicate],λ p=>by rw [hcg],k1,λ c hc=>by rw [k2 c hc,List.length_replicate],λ p=>by rw [hcS];exact List.nodup_nil,λ p v hv=>?_,λ p _ h2 j=>?_,λ p _=>hcS p⟩
   ·unfold InC at hv;rw [hcS] at hv;cases hv
   ·unfold InC;rw [hcS,k2 _ (Nat.mod_lt _ (by omega)),List.getElem?_replicate];constructor
    ·intro hh;split at hh<;>cases hh
    ·intro hh;cases hh
  refine Tot.bind (Je2 hT hK (p:=0) (j:=0) (by omega) (by omega) (by omega) hf (.start t s)) ?_;rintro ⟨w1,kn1⟩ ⟨g1,g2,g3⟩;simp only at g1 g2 g3 ⊢;have hR:R2 t s 0 w1 kn1:=⟨g1,by omega,by omega,by rw [g2.last,hl];exact ⟨⟨0,rfl,.inl rfl⟩,by omega⟩,g3⟩;refine Tot.bind (R:=WR t s) ?_ (λ w h=>Jm2 h);refine Tot.upto (body:=λ n x=>B8 n (w1,kn1) x.1 x.2.1 x.2.2) (s.length+1) (λ i x=>x.2.2=(i:Int)/\R2 t s i x.1 x.2.1) ?_ ?_ _ ⟨rfl,hR⟩
  ·rintro i ⟨w2,kn2,i'⟩ hi ⟨e1,h2⟩;simp only at e1 h2;subst e1;unfold B8;refine Tot.iteT (by simp only [decide_eq_true_eq];rw [g1.clen];omega) ?_;have hJ:=JbC hT hs (show i<=s.length by omega) h2 (w1,kn1);have hJ':∀ c,c=Ec s i->Tot (λ n=>BE n (w1,kn1) w2 kn2 (i:Int) c) (Rd2 (λ x:Ae×(List (List Bool))×Int=>x.2.2=((i+1:Nat):Int)/\R2 t s (i+1) x.1 x.2.1) (WR t s)):=by
    rintro c rfl;exact hJ.mono λ z hz=>by
     cases z with
     | inl y=>exact hz
     | inr y=>exact hz.elim
   rw [h2.kn.base.ss];refine Tot.ite (λ h=>?_) λ h=>?_
   ·have hlt:i<s.length:=by simpa using h
    refine Tot.bindC (LX hlt) (Jm4 (λ n=>Uo n _) (hJ' _ ?_));unfold Ec;rw [if_pos hlt]
   ·have hlt:¬i<s.length:=by simpa using h
    refine hJ' 0 ?_;unfold Ec;rw [if_neg hlt]
  ·rintro ⟨w2,kn2,i'⟩ ⟨e1,h2⟩;simp only at e1 h2;subst e1;unfold B8;refine Tot.iteF (by simp only [decide_eq_false_iff_not];rw [g1.clen];omega) (Jm2 ⟨h2.kn.base,h2.kn.clen,h2.kn.cost,h2.kn.nod,h2.kn.ok,λ p j q hq hr=>?_,λ p hp=>h2.sort p (by omega),h2.last.all⟩);have key:∀ {i' q},Rch t s i' q->∃ j:Nat,(Aa t)[j]? = some q/\InC w2 i' (j:Int):=λ {i' q} hr=>Jm7 (A:=λ i' q=>∃ j:Nat,(Aa t)[j]? = some q/\InC w2 i' (j:Int)) ⟨0,hf,h2.first⟩ (λ i' q k hi' hA hst hpf=>by
    obtain ⟨j,h1,h3⟩:=hA;exact h2.clo i' (by omega) _ h3 j q rfl h1 k hst hpf) hr
   obtain ⟨j',g4,g5⟩:=key hr;rw [NN (Qq hT) hq g4];exact g5
end
end Go.AI
end
section
namespace Go.AI
theorem Ux {α:Type} {l:List α} (h:l.Nodup) {a b:Nat} {x:α} (ha:l[a]? = some x) (hb:l[b]? = some x):a=b:=by
 have ha':=Aj ha;have hb':=Aj hb;rw [Jnx ha'] at ha;rw [Jnx hb'] at hb;have e:l[a]=l[b]:=by injection ha with ha;injection hb with hb;rw [ha,hb]
 rw [List.Nodup,List.pairwise_iff_getElem] at h;rcases Nat.lt_trichotomy a b with hlt|he|hgt
 ·exact absurd e (h a b ha' hb' hlt)
 ·exact he
 ·exact absurd e.symm (h b a hb' ha' hgt)
theorem JkK {i j:Nat} (h:i+j<1000000):IntKind.i64.wrap (Tt .u64 (IntKind.u64.wrap (An .i64 (i:Int) (j:Int))) 1)=(((i+j) / 2:Nat):Int):=by
 rw [E7 (by omega) (by omega)];have h1:IntKind.u64.wrap ((i:Int)+(j:Int))=(i:Int)+(j:Int):=by
  have:IntKind.u64.wrap ((i:Int)+(j:Int))=((i:Int)+(j:Int)) % 18446744073709551616:=rfl;rw [this];omega
 have h2:∀ a:Int,Tt .u64 a 1=a.fdiv 2:=λ a=>rfl;rw [h1,h2,Int.fdiv_eq_ediv_of_nonneg _ (by omega),w64 (by omega) (by omega)];omega
theorem JgO (n:Nat) (a b:Int):Ez n a b=some (decide (a<b)):=by
 unfold Ez D0;simp
theorem JkL {l:List Int} (hl:l.length<=1000) (hs:l.Pairwise (·<=·)) (hn:l.Nodup) {d:Nat} {v:Int} (hd:l[d]? = some v):Ev (λ n=>BC n l v) ((d:Int),true):=by
 have hdl:=Aj hd;have hmono:∀ a b:Nat,a<=b->∀ x y,l[a]? = some x->l[b]? = some y->x<=y:=by
  intro a b hab x y hx hy;rcases Nat.eq_or_lt_of_le hab with rfl|hlt
  ·rw [hx] at hy;cases hy;omega
  ·have ha:=Aj hx;have hb:=Aj hy;have:=(List.pairwise_iff_getElem.1 hs) a b ha hb hlt;rw [Jnx ha] at hx;rw [Jnx hb] at hy;cases hx;cases hy;exact this
 refine Tot.ev ?_;unfold BC;refine Tot.bind (R:=λ i=>i=(d:Int)) ?_ ?_
 ·refine Tot.whl (body:=λ n x=>Bl n l v x.1 x.2) (λ m x=>∃ i j:Nat,x=((i:Int),(j:Int))/\m=j-i/\i<=d/\d<=j/\j<=l.length/\(∀ k x,k<i->l[k]? = some x->x<v)/\∀ k x,j<=k->l[k]? = some x->v<=x) ?_ l.length _ ⟨0,l.length,rfl,by omega,by omega,by omega,by omega,by omega,λ k x h1 h2=>by have:=Aj h2;omega⟩;rintro m x ⟨i,j,rfl,rfl,h1,h2,h3,h4,h5⟩;unfold Bl;simp only;rw [JkK (by omega)];rcases Jnk i j with hij|hij
  ·have hm:(i+j) / 2<l.length:=by omega
   refine Tot.iteT (by simpa using hij) (Tot.bindC (Em hm) (Jm4 (λ n=>JgO n _ _) (Tot.ite (λ hc=>?_) λ hc=>?_)))
   ·have hlt:l[(i+j) / 2]<v:=by simpa using hc
    refine Jm2 ⟨j-((i+j) / 2+1),by omega,(i+j) / 2+1,j,by rw [Br (by omega)],rfl,?_,h2,h3,λ k x hk hx=>?_,h5⟩
    ·apply Classical.byContradiction;intro hh;have:=hmono d ((i+j) / 2) (by omega) _ _ hd (Jnx hm);omega
    ·have:=hmono k ((i+j) / 2) (by omega) _ _ hx (Jnx hm);omega
   ·have hge:v<=l[(i+j) / 2]:=by simpa using hc
    refine Jm2 ⟨(i+j) / 2-i,by omega,i,(i+j) / 2,rfl,rfl,h1,?_,by omega,h4,λ k x hk hx=>?_⟩
    ·apply Classical.byContradiction;intro hh;have h6:=hmono ((i+j) / 2) d (by omega) _ _ (Jnx hm) hd;have:=Ux hn (show l[(i+j) / 2]? = some v by rw [Jnx hm];congr 1;omega) hd;omega
    ·have:=hmono ((i+j) / 2) k hk _ _ (Jnx hm) hx;omega
  ·refine Tot.iteF (by simp;omega) (Jm2 ?_);show (i:Int)=(d:Int);omega
 ·rintro i rfl;have hg:decide ((d:Int)<((l.length:Nat):Int))=true:=Du hdl;refine Jm5 hg (Ev.all λ n=>BL hd) ?_;have hf:((decide ((d:Int)<((l.length:Nat):Int)))&&!(v==v))=false:=by simp
  refine Jm6 hf (Jm6 hf (Jm6 (by rw [hf];rfl) (Jm2 ?_)));rw [hg];simp
theorem WV {c:AG} (hl:c.States.length<=1000) (hs:c.States.Pairwise (·<=·)) (hn:c.States.Nodup) {d:Nat} {v x:Int} (hd:c.States[d]? = some v) (hx:c.Costs[d]? = some x):Ev (λ n=>BT n c v) x:=by
 unfold BT;refine Ev.bind (JkL hl hs hn hd) (Ev.iteF rfl (Ev.bindC (BL hx) Ev.const))
def Cz (t:Ad) (w:Ae) (p:Nat):List Ab:=(A7 w p).map λ v=>(Aa t).getD v.toNat default
abbrev BP (w:Ae) (p:Nat):List Int:=(w.Columns.getD p default).Costs
structure PI (t:Ad) (s:List UInt8) (place:Nat) (w:Ae):Prop where
 base:R4 t s w
 clen:w.Columns.length=s.length+1
 nod:∀ p,(A7 w p).Nodup
 ok:∀ p v,InC w p v->∃ (j:Nat) (q:Ab),v=(j:Int)/\(Aa t)[j]? = some q/\Rch t s p q
 all:∀ p (j:Nat) q,(Aa t)[j]? = some q->Rch t s p q->InC w p (j:Int)
 sort:∀ p,p<=s.length->(A7 w p).Pairwise (·<=·)
 later:∀ p,place<p->p<=s.length->(∀ (i:Nat) q,(Cz t w p)[i]? = some q->(BP w p)[i]? = some (Aq t q (s.drop p)))/\∀ (i:Nat) v,(BP w p)[i]? = some v->v<=((3072*(s.length-p+1):Nat):Int)
 col:Col t (s.drop place) (3072*(s.length-place)) (Cz t w place) (BP w place)
section
variable {t:Ad} (hT:GG t) {s:List UInt8} (hs:s.length<=4000)
include hT
omit hT in
theorem NC {w:Ae} {p:Nat} (hok:∀ v,InC w p v->∃ (j:Nat) (q:Ab),v=(j:Int)/\(Aa t)[j]? = some q/\Rch t s p q) {i:Nat} {q:Ab}:(Cz t w p)[i]? = some q↔∃ j:Nat,(A7 w p)[i]? = some (j:Int)/\(Aa t)[j]? = some q:=by
 unfold Cz;rw [JnB,JnA];constructor
 ·rintro ⟨v,hv,rfl⟩;obtain ⟨j,q,rfl,hq,_⟩:=hok v (Jnz hv);refine ⟨j,hv,?_⟩;rw [JnH,JnG,hq];rfl
 ·rintro ⟨j,hv,hq⟩;refine ⟨_,hv,?_⟩;rw [JnH,JnG,hq];rfl
theorem PI.qn {place:Nat} {w:Ae} (h:PI t s place w) (p:Nat):(Cz t w p).Nodup:=by
 rw [List.nodup_iff_pairwise_ne,List.pairwise_iff_getElem];intro a b ha hb hlt he;have h1:=Jnx ha;have h2:=Jnx hb;rw [he] at h1;obtain ⟨j,e1,g1⟩:=(NC (h.ok p)).1 h1;obtain ⟨j',e2,g2⟩:=(NC (h.ok p)).1 h2;have:=NN (Qq hT) g1 g2;subst this;have:=Ux (h.nod p) e1 e2;omega
theorem PI.qlen {place:Nat} {w:Ae} (h:PI t s place w) (p:Nat):(Cz t w p).length=(A7 w p).length/\(A7 w p).length<=768:=by
 refine ⟨by simp [Cz],?_⟩;have hsub:∀ v∈A7 w p,v∈(List.range (Aa t).length).map (λ j:Nat=>(j:Int)):=by
  intro v hv;obtain ⟨j,q,rfl,hq,_⟩:=h.ok p v hv;exact Jno.2 ⟨j,List.mem_range.2 (Aj hq),rfl⟩
 have:=(h.nod p).length_le_of_subset hsub;have:=EL hT;simp at *;omega
theorem PI.pos {place:Nat} {w:Ae} (h:PI t s place w) {p:Nat} {q:Ab} (hr:Rch t s p q) (hq:q∈Aa t):∃ d:Nat,(A7 w p)[d]? = some (BY (Aa t) q)/\(Cz t w p)[d]? = some q:=by
 have _:=hT;obtain ⟨j,hj,hg⟩:=BZ hq;obtain ⟨d,hd,e⟩:=Jnt (h.all p j q hg hr);have:(A7 w p)[d]? = some (j:Int):=by rw [← e];exact Jnx hd
 exact ⟨d,by rw [hj];exact this,(NC (h.ok p)).2 ⟨j,this,hg⟩⟩
include hs in
theorem PI.find {place:Nat} (hpl:place<=s.length) {w:Ae} (h:PI t s place w) {p:Nat} (h1:place<=p) (h2:p<=s.length) {q:Ab} (hr:Rch t s p q) (hq:q∈Aa t):∃ (d:Nat) (x:Int),(Cz t w p)[d]? = some q/\(BP w p)[d]? = some x/\Ev (λ n=>BT n (w.Columns.getD p default) (BY (Aa t) q)) x/\(-1<=x/\x<=13000000)/\(place<p->x=Aq t q (s.drop p)/\x<=((3072*(s.length-p+1):Nat):Int)):=by
 obtain ⟨d,g1,g2⟩:=h.pos hT hr hq;have hql:=h.qlen hT p;rcases Nat.eq_or_lt_of_le h1 with rfl|hlt
 ·obtain ⟨x,hx⟩:=h.col.get (Aj g2);have hb:=h.col.top hx;exact ⟨d,x,g2,hx,WV (by show (A7 w place).length<=1000;omega) (h.sort place hpl) (h.nod place) g1 hx,⟨hb.1,by omega⟩,by omega⟩
 ·obtain ⟨k1,k2⟩:=h.later p hlt h2;have hx:=k1 d q g2;have hb:=k2 d _ hx;exact ⟨d,_,g2,hx,WV (by show (A7 w p).length<=1000;omega) (h.sort p h2) (h.nod p) g1 hx,⟨Qo _ _ _,by omega⟩,λ _=>⟨rfl,hb⟩⟩
end
end Go.AI
end
section
namespace Go.AI
def Ru (w:Ae) (p:Nat) (cs:List Int):Ae:={ w with Columns:=w.Columns.set p ⟨(w.Columns.getD p default).States,cs⟩ }
theorem DK {w:Ae} {p:Nat} (hp:p<w.Columns.length) (cs:List Int) (p':Nat):A7 (Ru w p cs) p'=A7 w p'/\BP (Ru w p cs) p'=if p=p' then cs else BP w p':=by
 have h:=Uw hp ⟨(w.Columns.getD p default).States,cs⟩ p' 0 0 0 [];unfold A7 BP Ru;simp only;rw [h];split
 ·rename_i e;subst e;exact ⟨rfl,rfl⟩
 ·exact ⟨rfl,rfl⟩
theorem SJ {t:Ad} {w:Ae} {p:Nat} (hp:p<w.Columns.length) (cs:List Int) (p':Nat):Cz t (Ru w p cs) p'=Cz t w p':=by
 unfold Cz;rw [(DK hp cs p').1]
theorem PI.set {t:Ad} {s:List UInt8} {place:Nat} {w:Ae} (h:PI t s place w) (hpl:place<=s.length) {cs:List Int} (hc:Col t (s.drop place) (3072*(s.length-place)) (Cz t w place) cs):PI t s place (Ru w place cs):=by
 have hp:place<w.Columns.length:=by rw [h.clen];omega
 refine ⟨⟨h.base.tt,h.base.ss,h.base.st,h.base.al,h.base.arc⟩,?_,λ p=>?_,λ p v hv=>?_,λ p j q h1 h2=>?_,λ p hp'=>?_,λ p h1 h2=>?_,?_⟩
 ·show (w.Columns.set _ _).length=_;rw [JnP];exact h.clen
 ·rw [(DK hp cs p).1];exact h.nod p
 ·unfold InC at hv;rw [(DK hp cs p).1] at hv;exact h.ok p v hv
 ·unfold InC;rw [(DK hp cs p).1];exact h.all p j q h1 h2
 ·rw [(DK hp cs p).1];exact h.sort p hp'
 ·rw [SJ hp,(DK hp cs p).2,if_neg (by omega)];exact h.later p h1 h2
 ·rw [SJ hp,(DK hp cs place).2,if_pos rfl];exact hc
structure Imp (t:Ad) (s:List UInt8) (place:Nat) (sl:Bool) (B:Nat) (i:Nat) (q:Ab) (P:Nat->Prop) (w1 w2:Ae) (b:Bool):Prop where
 pi:PI t s place w2
 cols:∀ p,A7 w2 p=A7 w1 p
 last:w2.Last=w1.Last
 low:∀ (j:Nat) v,(BP w1 place)[j]? = some v->0<=v->∃ v',(BP w2 place)[j]? = some v'/\0<=v'/\v'<=v
 fls:b=false->w2=w1
 less:b=true->phi B (BP w2 place)<phi B (BP w1 place)
 rel:sl=false->∀ k:Nat,P k->(Au t q k).2=true->prt t k≠[]->∀ y,s.drop place=prt t k++y->0<=Aq t (Au t q k).1 y->∃ v,(BP w2 place)[i]? = some v/\0<=v/\v<=Aq t (Au t q k).1 y+(cls t k).length
 sil:sl=true->b=false->∀ k:Nat,P k->(Au t q k).2=true->prt t k=[]->∃ (i':Nat) (w':Int),(Cz t w1 place)[i']? = some (Au t q k).1/\(BP w1 place)[i']? = some w'/\(0<=w'->∃ v,(BP w1 place)[i]? = some v/\0<=v/\v<=w'+(cls t k).length)
section
variable {t:Ad} (hT:GG t) {s:List UInt8} (hs:s.length<=4000)
include hT hs
theorem ZA (sl:Bool) {place:Nat} (hpl:place<=s.length) {B:Nat} (hB:13000000<=B) {w1:Ae} (h:PI t s place w1) {i:Nat} {q:Ab} (hq:(Cz t w1 place)[i]? = some q) :
  Tot (λ n=>whl (λ (x:(Ae×Bool×Int))=>Bq n (i:Int) sl (place:Int) (place:Int) (Be t q) x.1 x.2.1 x.2.2) n (w1,false,0)) (λ y=>Imp t s place sl B i q (λ _=>True) w1 y.1 y.2):=by
 have hrl:=hT.tab.1;have hal:(Be t q).length<=t.Rules.length:=by unfold Be;exact Nat.le_trans (List.length_filterMap_le _ _) (by simp)
 obtain ⟨jq,hjq1,hjq2⟩:=(NC (h.ok place)).1 hq;obtain ⟨j2,qq,e1,e2,hr⟩:=h.ok place _ (Jnz hjq1);have e3:j2=jq:=by omega
 subst e3;rw [hjq2] at e2;cases e2;have hqm:q∈Aa t:=Jnz hjq2;refine Tot.upto (body:=λ n x=>Bq n (i:Int) sl (place:Int) (place:Int) (Be t q) x.1 x.2.1 x.2.2) (Be t q).length (λ m x=>x.2.2=(m:Int)/\Imp t s place sl B i q (λ k=>∃ (m':Nat) (a:AE),m'<m/\(Be t q)[m']? = some a/\a.Rule=(k:Int)) w1 x.1 x.2.1) ?_ ?_ _ ⟨rfl,h,λ _=>rfl,rfl,λ j v hv h0=>⟨v,hv,h0,Int.le_refl v⟩,λ _=>rfl,(λ h=>by cases h),λ _ k ⟨m',_,hm,_⟩=>by omega,λ _ _ k ⟨m',_,hm,_⟩=>by omega⟩
 ·rintro m ⟨w,b,m'⟩ hm ⟨e1,hI⟩;simp only at e1 hI;subst e1;have ha:(Be t q)[m]? = some (Be t q)[m]:=Jnx hm;obtain ⟨k,hk,hst,hae⟩:=I7.1 (Jnf hm);have hW:=hI.pi;have hqs:Cz t w place=Cz t w1 place:=by unfold Cz;rw [hI.cols]
  have hq':(Cz t w place)[i]? = some q:=by rw [hqs];exact hq
  obtain ⟨p1,p2,p3⟩:=hT.pr hst;have hcl:place<w.Columns.length:=by rw [hW.clen];omega
  obtain ⟨v,hv⟩:=hW.col.get (Aj hq');have hvd:(w.Columns.getD place default).Costs.getD i 0=v:=by rw [JnG (l:=(w.Columns.getD place default).Costs),show (w.Columns.getD place default).Costs[i]? = some v from hv];rfl
  have hil:i<(w.Columns.getD place default).Costs.length:=Aj (show (w.Columns.getD place default).Costs[i]? = some v from hv);have hP:∀ k':Nat,(∃ (m':Nat) (a:AE),m'<m+1/\(Be t q)[m']? = some a/\a.Rule=(k':Int))->k'=k\/∃ (m':Nat) (a:AE),m'<m/\(Be t q)[m']? = some a/\a.Rule=(k':Int):=by
   rintro k' ⟨m',a,h1,h2,h3⟩;by_cases e:m'=m
   ·subst e;rw [ha,hae] at h2;cases h2;simp only at h3;left;omega
   ·exact .inr ⟨m',a,by omega,h2,h3⟩
  have hJ:∀ w2 b2,Imp t s place sl B i q (λ k=>∃ (m':Nat) (a:AE),m'<m+1/\(Be t q)[m']? = some a/\a.Rule=(k:Int)) w1 w2 b2->Tot (λ n=>Bp n (m:Int) w2 b2) (Rd2 (λ x:Ae×Bool×Int=>x.2.2=((m+1:Nat):Int)/\Imp t s place sl B i q (λ k=>∃ (m':Nat) (a:AE),m'<m+1/\(Be t q)[m']? = some a/\a.Rule=(k:Int)) w1 x.1 x.2.1) (λ y=>Imp t s place sl B i q (λ _=>True) w1 y.1 y.2)):=by
   intro w2 b2 h2;unfold Bp;exact Jm2 ⟨Br (by omega),h2⟩
  have hskip:(sl=false->prt t k≠[]->∀ y,s.drop place=prt t k++y->0<=Aq t (Au t q k).1 y->∃ v,(BP w place)[i]? = some v/\0<=v/\v<=Aq t (Au t q k).1 y+(cls t k).length) ->
    (sl=true->prt t k=[]->∃ (i':Nat) (w':Int),(Cz t w place)[i']? = some (Au t q k).1/\(BP w place)[i']? = some w'/\(0<=w'->∃ v,(BP w place)[i]? = some v/\0<=v/\v<=w'+(cls t k).length)) ->
    Imp t s place sl B i q (λ k=>∃ (m':Nat) (a:AE),m'<m+1/\(Be t q)[m']? = some a/\a.Rule=(k:Int)) w1 w b:=by
   intro g1 g2;refine ⟨hI.pi,hI.cols,hI.last,hI.low,hI.fls,hI.less,λ hsl k' hk' hst' hp' y hy hc=>?_,λ hsl hb k' hk' hst' hp'=>?_⟩
   ·rcases hP k' hk' with rfl|hk'
    ·exact g1 hsl hp' y hy hc
    ·exact hI.rel hsl k' hk' hst' hp' y hy hc
   ·rcases hP k' hk' with rfl|hk'
    ·have:=g2 hsl hp';rw [hI.fls hb] at this;exact this
    ·exact hI.sil hsl hb k' hk' hst' hp'
  unfold Bq;refine Tot.iteT (Du hm) (Tot.bindC (BL ha) ?_);rw [hae];refine Jm4 (λ n=>Rt hT hs hW.base hpl hst n) (Tot.ite (λ hc=>?_) λ hc=>?_)
  ·
   have hcc:(prt t k).isPrefixOf (s.drop place)=false\/(((((place+(prt t k).length:Nat):Int))==(place:Int))==sl)=false:=by
    simp only [JnR,Bool.not_eq_true'] at hc;exact hc
   have hz:((((place+(prt t k).length:Nat):Int))==(place:Int))=decide (prt t k=[]):=by
    rw [Bool.eq_iff_iff,beq_iff_eq,decide_eq_true_eq,← Jnl];omega
   rw [hz] at hcc;refine hJ w b (hskip (λ hsl hp y hy _=>?_) (λ hsl hp=>?_))
   ·exfalso;rcases hcc with h1|h1
    ·rw [← Jnh,Jnj,hy] at h1;exact h1 (List.prefix_append _ _)
    ·rw [hsl,decide_eq_false hp] at h1;cases h1
   ·exfalso;rcases hcc with h1|h1
    ·rw [hp] at h1;cases h1
    ·rw [hsl,decide_eq_true hp] at h1;cases h1
  ·have hcc:(prt t k).isPrefixOf (s.drop place)=true/\(((((place+(prt t k).length:Nat):Int))==(place:Int))==sl)=true:=by
    simp only [Jnw,Bool.not_eq_false'] at hc;exact hc
   obtain ⟨hpf,hsl⟩:=hcc;have hz:((((place+(prt t k).length:Nat):Int))==(place:Int))=decide (prt t k=[]):=by
    rw [Bool.eq_iff_iff,beq_iff_eq,decide_eq_true_eq,← Jnl];omega
   rw [hz,beq_iff_eq] at hsl;obtain ⟨q1,q2⟩:=CG hpf;have q2:=q2 hpl;have hnm:=Dt hT hqm hst;obtain ⟨d,x,f1,f2,f3,f4,f5⟩:=hW.find hT hs hpl (p:=place+(prt t k).length) (by omega) q2 (hr.next hst hpf) hnm;have hrule:=H3 (t:=t) (k:=(k:Int)) (by omega) (by omega);refine Tot.bindC (AX default (by rw [hW.clen];omega)) (Jm3 f3 ?_);rw [hW.base.tt];refine Tot.bindC hrule (Tot.bindC (AX default hcl) ?_);simp only [JnH,D6];have hclen:(cls t k).length=(Dc t k).Cells.length:=rfl;have hsum:An .i64 x ((List.length (Dc t k).Cells:Nat):Int)=x+((cls t k).length:Nat):=by rw [E7 (by omega) (by omega)]
   rw [hsum];have hway:0<=x->(∃ p,Way t q (s.drop place) p/\x+((cls t k).length:Nat)=(Fa t p:Nat))/\x+((cls t k).length:Nat)<=((3072*(s.length-place)+4*WT (BP w place)+4:Nat):Int):=by
    intro h0;rcases Nat.eq_zero_or_pos (prt t k).length with hz|hz
    ·have hp0:prt t k=[]:=Jnl.1 hz;rw [hz,Nat.add_zero] at f1 f2;obtain ⟨v',hv',hd⟩:=hW.col.ach d _ f1;rw [f2] at hv';cases hv';have hb:=hW.col.bnd d x f2;refine ⟨?_,by omega⟩;have:=K4 hst (hd.resolve_left (by omega));rwa [hp0,List.nil_append] at this
    ·obtain ⟨g1,g2⟩:=f5 (by omega);refine ⟨?_,?_⟩
     ·have:=K4 hst (ED (t:=t) (q:=(Au t q k).1) (x:=s.drop (place+(prt t k).length)) (by omega));rw [g1];rwa [← q1] at this
     ·have:3072*(s.length-(place+(prt t k).length)+1)<=3072*(s.length-place):=by omega
      omega
   by_cases h0:0<=x
   ·have hg:decide (x>=0)=true:=by simpa using h0
    obtain ⟨u1,u2⟩:=hway h0;refine Jm5 hg (Ev.all λ n=>AX 0 hil) ?_;rw [hvd];have hv2:∀ (c:Bool),(if ((decide (x>=0))&&c)=true then idx (w.Columns.getD place default).Costs (i:Int) else some default)=some (if c=true then v else default):=by
     intro c;rw [hg,Bool.true_and,AX 0 hil,hvd];cases c<;>rfl
    refine Tot.bindC (hv2 _) ?_;by_cases hlt:v<0\/x+((cls t k).length:Nat)<v
    ·refine Tot.iteT ?_ ?_
     ·rw [hg,Bool.true_and,JnR,decide_eq_true_eq,decide_eq_true_eq];by_cases hv0:v<0
      ·exact .inl hv0
      ·right;rw [if_pos (by simpa using hv0)];exact hlt.resolve_left hv0
     ·have hfin:=Qp (BP w place);rw [hW.col.len] at hfin
      have hql:=hW.qlen hT place;obtain ⟨g1,g2⟩:=hW.col.lower hq' hv u1 hlt u2 (B:=B) (by omega);refine Tot.bindC (AX default hcl) (Tot.bindC (AX 0 hil) (Tot.bindC (DV hil) (hJ _ _ ?_)));have hw2:(⟨t,w.S,w.States,w.Arcs,w.Columns.set place ⟨(w.Columns.getD place default).States,(w.Columns.getD place default).Costs.set i (x+((cls t k).length:Nat))⟩,w.Last⟩:Ae)=Ru w place ((BP w place).set i (x+((cls t k).length:Nat))):=by
       unfold Ru BP;rw [← hW.base.tt]
      rw [hw2];have hc0:=λ p=>DK hcl ((BP w place).set i (x+((cls t k).length:Nat))) p;have hcp:BP (Ru w place ((BP w place).set i (x+((cls t k).length:Nat)))) place=(BP w place).set i (x+((cls t k).length:Nat)):=by rw [(hc0 place).2,if_pos rfl]
      have hlow:∀ (j:Nat) v0,(BP w place)[j]? = some v0->0<=v0->∃ v',((BP w place).set i (x+((cls t k).length:Nat)))[j]? = some v'/\0<=v'/\v'<=v0:=by
       intro j v0 hv0 h00;by_cases e:i=j
       ·subst e;rw [hv] at hv0;cases hv0;exact ⟨_,JnJ hil,by omega,by omega⟩
       ·exact ⟨v0,by rw [JnO e];exact hv0,h00,Int.le_refl _⟩
      refine ⟨hW.set hpl g1,λ p=>(hc0 p).1.trans (hI.cols p),hI.last,λ j v0 hv0 h00=>?_,(λ hb=>by cases hb),λ _=>?_,λ hsl' k' hk' hst' hp' y hy hc=>?_,(λ _ hb=>by cases hb)⟩
      ·obtain ⟨v1,a1,a2,a3⟩:=hI.low j v0 hv0 h00;obtain ⟨v2,b1,b2,b3⟩:=hlow j v1 a1 a2;rw [hcp];exact ⟨v2,b1,b2,by omega⟩
      ·rw [hcp];cases hb:b with
       | false=>rw [hI.fls hb] at g2 ⊢;exact g2
       | true=>have:=hI.less hb;omega
      ·rw [hcp];rcases hP k' hk' with rfl|hk'
       ·have hyy:s.drop (place+(prt t k').length)=y:=by rw [q1] at hy;exact List.append_cancel_left hy
        have hlp:0<(prt t k').length:=List.length_pos_iff.2 hp';obtain ⟨g3,_⟩:=f5 (by omega);rw [hyy] at g3;exact ⟨_,JnJ hil,by omega,by omega⟩
       ·obtain ⟨v1,a1,a2,a3⟩:=hI.rel hsl' k' hk' hst' hp' y hy hc;obtain ⟨v2,b1,b2,b3⟩:=hlow i v1 a1 a2;exact ⟨v2,b1,b2,by omega⟩
    ·refine Tot.iteF ?_ ?_
     ·rw [hg,Bool.true_and,← Jnh,JnR,decide_eq_true_eq,decide_eq_true_eq];have hv0:¬v<0:=λ hh=>hlt (.inl hh);rw [if_pos (by simpa using hv0)];exact hlt
     ·have hws:(⟨t,w.S,w.States,w.Arcs,w.Columns,w.Last⟩:Ae)=w:=by rw [← hW.base.tt]
      rw [hws];refine hJ w b (hskip (λ _ hp' y hy hc=>?_) λ _ hp'=>?_)
      ·have hyy:s.drop (place+(prt t k).length)=y:=by rw [q1] at hy;exact List.append_cancel_left hy
       have hlp:0<(prt t k).length:=List.length_pos_iff.2 hp';obtain ⟨g3,_⟩:=f5 (by omega);rw [hyy] at g3;exact ⟨v,hv,by omega,by omega⟩
      ·rw [hp',List.length_nil,Nat.add_zero] at f1 f2;exact ⟨d,x,f1,f2,λ _=>⟨v,hv,by omega,by omega⟩⟩
   ·have hg:decide (x>=0)=false:=by simpa using h0
    refine Jm6 hg (Jm6 (by rw [hg];rfl) (Tot.iteF (by rw [hg];rfl) ?_));have hws:(⟨t,w.S,w.States,w.Arcs,w.Columns,w.Last⟩:Ae)=w:=by rw [← hW.base.tt]
    rw [hws];refine hJ w b (hskip (λ _ hp' y hy hc=>?_) λ _ hp'=>?_)
    ·have hyy:s.drop (place+(prt t k).length)=y:=by rw [q1] at hy;exact List.append_cancel_left hy
     have hlp:0<(prt t k).length:=List.length_pos_iff.2 hp';obtain ⟨g3,_⟩:=f5 (by omega);rw [hyy] at g3;omega
    ·rw [hp',List.length_nil,Nat.add_zero] at f1 f2;exact ⟨d,x,f1,f2,λ h1=>absurd h1 h0⟩
 ·rintro ⟨w,b,m'⟩ ⟨e1,hI⟩;simp only at e1 hI;subst e1;have hall:∀ k:Nat,(Au t q k).2=true->∃ (m':Nat) (a:AE),m'<(Be t q).length/\(Be t q)[m']? = some a/\a.Rule=(k:Int):=by
   intro k hst;obtain ⟨m',hm',e⟩:=Jnt (I7.2 ⟨k,by have:=Cq hst;omega,hst,rfl⟩:(⟨k,BY (Aa t) (Au t q k).1⟩:AE)∈Be t q);exact ⟨m',_,hm',by rw [Jnx hm',e],rfl⟩
  unfold Bq;exact Tot.iteF (by simp) (Jm2 ⟨hI.pi,hI.cols,hI.last,hI.low,hI.fls,hI.less,λ hsl k _ hst=>hI.rel hsl k (hall k hst) hst,λ hsl hb k _ hst=>hI.sil hsl hb k (hall k hst) hst⟩)
theorem VG (sl:Bool) {place:Nat} (hpl:place<=s.length) {B:Nat} (hB:13000000<=B) {w1:Ae} (h:PI t s place w1) {i:Nat} {q:Ab} (hq:(Cz t w1 place)[i]? = some q) :
  Tot (λ n=>Cl n (i:Int) sl (place:Int) (place:Int) w1) (λ y=>Imp t s place sl B i q (λ _=>True) w1 y.1 y.2):=by
 have hcl:place<w1.Columns.length:=by rw [h.clen];omega
 obtain ⟨j,g1,g2⟩:=(NC (h.ok place)).1 hq;unfold Cl;refine Tot.bindC (AX default hcl) (Tot.bindC (BL g1) (Tot.bindC (BL (h.base.arc j q g2)) ?_));simp only [JnH,H5];exact Tot.bind (ZA hT hs sl hpl hB h hq) (λ y hy=>Jm2 hy)
end
end Go.AI
end
section
namespace Go.AI
structure PB (t:Ad) (s:List UInt8) (m:Nat) (w:Ae):Prop where
 base:R4 t s w
 clen:w.Columns.length=s.length+1
 nod:∀ p,(A7 w p).Nodup
 ok:∀ p v,InC w p v->∃ (j:Nat) (q:Ab),v=(j:Int)/\(Aa t)[j]? = some q/\Rch t s p q
 all:∀ p (j:Nat) q,(Aa t)[j]? = some q->Rch t s p q->InC w p (j:Int)
 sort:∀ p,p<=s.length->(A7 w p).Pairwise (·<=·)
 later:∀ p,m<=p->p<=s.length->(∀ (i:Nat) q,(Cz t w p)[i]? = some q->(BP w p)[i]? = some (Aq t q (s.drop p)))/\∀ (i:Nat) v,(BP w p)[i]? = some v->v<=((3072*(s.length-p+1):Nat):Int)
theorem WR.pb {t:Ad} {s:List UInt8} {w:Ae} (h:WR t s w):PB t s (s.length+1) w:=⟨h.base,h.clen,h.nod,h.ok,h.all,h.sort,λ p hp hp'=>by omega⟩
theorem PB.set {t:Ad} {s:List UInt8} {place:Nat} {w:Ae} (h:PB t s (place+1) w) (hpl:place<=s.length) {cs:List Int} (hc:Col t (s.drop place) (3072*(s.length-place)) (Cz t w place) cs):PI t s place (Ru w place cs):=by
 have hp:place<w.Columns.length:=by rw [h.clen];omega
 refine ⟨⟨h.base.tt,h.base.ss,h.base.st,h.base.al,h.base.arc⟩,?_,λ p=>?_,λ p v hv=>?_,λ p j q h1 h2=>?_,λ p hp'=>?_,λ p h1 h2=>?_,?_⟩
 ·show (w.Columns.set _ _).length=_;rw [JnP];exact h.clen
 ·rw [(DK hp cs p).1];exact h.nod p
 ·unfold InC at hv;rw [(DK hp cs p).1] at hv;exact h.ok p v hv
 ·unfold InC;rw [(DK hp cs p).1];exact h.all p j q h1 h2
 ·rw [(DK hp cs p).1];exact h.sort p hp'
 ·rw [SJ hp,(DK hp cs p).2,if_neg (by omega)];exact h.later p (by omega) h2
 ·rw [SJ hp,(DK hp cs place).2,if_pos rfl];exact hc
section
variable {t:Ad} (hT:GG t) {s:List UInt8} (hs:s.length<=4000)
include hT hs
omit hT in
theorem JbD {place:Nat} (hpl:place<=s.length) {w:Ae} (h:PB t s (place+1) w) (hl7:(A7 w place).length<=768) (l0:List Int) (hl0:l0.length=(A7 w place).length) :
  Tot (λ n=>whl (λ (x:((List Int)×Int))=>BF n w (place:Int) (w.Columns.getD place default) l0 ⟨A7 w place,l0⟩ x.1 x.2) n (l0,0)) (λ w'=>w'=Ru w place ((Cz t w place).map (Cm t (s.drop place)))):=by
 have hcl:place<w.Columns.length:=by rw [h.clen];omega
 refine Tot.upto (body:=λ n x=>BF n w (place:Int) (w.Columns.getD place default) l0 ⟨A7 w place,l0⟩ x.1 x.2) (A7 w place).length (λ k x=>x.2=(k:Int)/\x.1.length=(A7 w place).length/\∀ (j:Nat) q,j<k->(Cz t w place)[j]? = some q->x.1[j]? = some (Cm t (s.drop place) q)) ?_ ?_ _ ⟨rfl,hl0,by omega⟩
 ·rintro k ⟨r,k'⟩ hk ⟨e1,e2,e3⟩;simp only at e1 e2 e3;subst e1;have hv:(A7 w place)[k]? = some (A7 w place)[k]:=Jnx hk;obtain ⟨j,q,hvj,hq,hr⟩:=h.ok place _ (Jnz hv);have hqk:(Cz t w place)[k]? = some q:=(NC (h.ok place)).2 ⟨j,by rw [← hvj];exact hv,hq⟩;have hJ:∀ v,v=Cm t (s.drop place) q->∀ r',r'=r.set k v->Tot (λ n=>B9 n (k:Int) r') (Rd2 (λ x:List Int×Int=>x.2=((k+1:Nat):Int)/\x.1.length=(A7 w place).length/\∀ (j:Nat) q,j<k+1->(Cz t w place)[j]? = some q->x.1[j]? = some (Cm t (s.drop place) q)) (λ w'=>w'=Ru w place ((Cz t w place).map (Cm t (s.drop place))))):=by
   rintro v rfl r' rfl;unfold B9;refine Jm2 ⟨Br (by omega),by rw [JnP];exact e2,λ j' q' hj' hq'=>?_⟩;by_cases e:k=j'
   ·subst e;rw [hqk] at hq';cases hq';exact JnJ (by omega)
   ·show (r.set k _)[j']? = _;rw [JnO e];exact e3 j' q' (by omega) hq'
  unfold BF;refine Tot.iteT (Du hk) (Tot.bindC (BL hv) (Tot.bindC (AX default (by rw [JnH,JnP];exact hcl)) (Tot.bindC (AX 0 (show k<r.length by omega)) (Tot.bindC (DV (show k<r.length by omega)) ?_))));rw [h.base.ss,h.base.st,h.base.tt,Uv hs hpl,hvj];by_cases hd:s.drop place=[]
  ·refine Jm5 (decide_eq_true hd) (Ev.all λ n=>BL hq) (Jm5 (decide_eq_true hd) (Ev.all λ n=>Uq n t _) (Tot.ite (λ h=>?_) λ h=>?_))
   ·have ha:Cy t q=true:=by simpa [hd] using h
    refine Tot.bindC (AX 0 (by rw [JnP];show k<r.length;omega)) (Tot.bindC (DV (by rw [JnP];show k<r.length;omega)) (hJ 0 ?_ _ ?_))
    ·unfold Cm;rw [if_pos ⟨hd,ha⟩]
    ·rw [List.set_set]
   ·have ha:Cy t q=false:=by simpa [hd] using h
    refine hJ (-1) ?_ _ rfl;unfold Cm;rw [if_neg (by rw [ha];simp)]
  ·refine Jm6 (decide_eq_false hd) (Jm6 (decide_eq_false hd) (Tot.iteF (by simp [hd]) (hJ (-1) ?_ _ rfl)));unfold Cm;rw [if_neg (λ h=>hd h.1)]
 ·rintro ⟨r,k'⟩ ⟨e1,e2,e3⟩;simp only at e1 e2 e3;subst e1;unfold BF;refine Tot.iteF (by simp) (Jm2 ?_);have hr:r=(Cz t w place).map (Cm t (s.drop place)):=by
   have hq:(Cz t w place).length=(A7 w place).length:=by simp [Cz]
   refine Jnm λ j=>?_;rcases Jnk j (A7 w place).length with hj|hj
   ·have hg:(Cz t w place)[j]? = some (Cz t w place)[j]:=Jnx (by omega);rw [e3 j _ hj hg,JnB,hg];rfl
   ·rw [JnT (by omega),JnT (by rw [Jnr];omega)]
  subst hr;unfold Ru;simp only [JnH,List.set_set];rfl
theorem JbE {place:Nat} (hpl:place<=s.length) {w1:Ae} (h:PI t s place w1) :
  Tot (λ n=>whl (λ (x:(Ae×Int))=>BG n (place:Int) (w1.Columns.getD place default) x.1 x.2) n (w1,0)) (λ w=>PI t s place w/\(∀ p,A7 w p=A7 w1 p)/\w.Last=w1.Last/\Jae t (s.drop place) (Cz t w place) (BP w place)):=by
 have hql:=h.qlen hT place;refine Tot.upto (body:=λ n x=>BG n (place:Int) (w1.Columns.getD place default) x.1 x.2) (A7 w1 place).length (λ i x=>x.2=(i:Int)/\PI t s place x.1/\(∀ p,A7 x.1 p=A7 w1 p)/\x.1.Last=w1.Last/\∀ (j:Nat) q (k:Nat),j<i->(Cz t w1 place)[j]? = some q->(Au t q k).2=true->prt t k≠[]->∀ y,s.drop place=prt t k++y->0<=Aq t (Au t q k).1 y->∃ v,(BP x.1 place)[j]? = some v/\0<=v/\v<=Aq t (Au t q k).1 y+(cls t k).length) ?_ ?_ _ ⟨rfl,h,λ _=>rfl,rfl,λ j q k h=>by omega⟩
 ·rintro i ⟨w,i'⟩ hi ⟨e1,hP,hC,hL,hR⟩;simp only at e1 hP hC hL hR;subst e1;have hqs:Cz t w place=Cz t w1 place:=by unfold Cz;rw [hC]
  obtain ⟨q0,hq⟩:∃ q0,(Cz t w place)[i]? = some q0:=⟨_,Jnx (by rw [hqs,hql.1];exact hi)⟩;unfold BG;refine Tot.iteT (Du hi) (Tot.bind (VG hT hs false hpl (Jni 13000000) hP hq) ?_);rintro ⟨w2,b⟩ hI;refine Jm2 ⟨Br (by omega),hI.pi,λ p=>(hI.cols p).trans (hC p),hI.last.trans hL,λ j q k hj hjq hst hp y hy hc=>?_⟩;by_cases e:j=i
  ·subst e;rw [← hqs,hq] at hjq;cases hjq;exact hI.rel rfl k trivial hst hp y hy hc
  ·obtain ⟨v,a1,a2,a3⟩:=hR j q k (by omega) hjq hst hp y hy hc;obtain ⟨v',b1,b2,b3⟩:=hI.low j v a1 a2;exact ⟨v',b1,b2,by omega⟩
 ·rintro ⟨w,i'⟩ ⟨e1,hP,hC,hL,hR⟩;simp only at e1 hP hC hL hR;subst e1;have hqs:Cz t w place=Cz t w1 place:=by unfold Cz;rw [hC]
  unfold BG;refine Tot.iteF (Yo _) (Jm2 ⟨hP,hC,hL,⟨λ j q k hj hst hp y hy hc=>?_⟩⟩);rw [hqs] at hj;exact hR j q k (by have:=Aj hj;omega) hj hst hp y hy hc
theorem JbF {place:Nat} (hpl:place<=s.length) {w1:Ae} (h:PI t s place w1) :
  Tot (λ n=>whl (λ (x:(Ae×Bool×Int))=>BH n (place:Int) (w1.Columns.getD place default) x.1 x.2.1 x.2.2) n (w1,false,0)) (λ y=>PI t s place y.1/\(∀ p,A7 y.1 p=A7 w1 p)/\y.1.Last=w1.Last/\(∀ (j:Nat) v,(BP w1 place)[j]? = some v->0<=v->∃ v',(BP y.1 place)[j]? = some v'/\0<=v'/\v'<=v)/\(y.2=false->y.1=w1/\Jho t (Cz t w1 place) (BP w1 place))/\(y.2=true->phi 13000000 (BP y.1 place)<phi 13000000 (BP w1 place))):=by
 have hql:=h.qlen hT place;refine Tot.upto (body:=λ n x=>BH n (place:Int) (w1.Columns.getD place default) x.1 x.2.1 x.2.2) (A7 w1 place).length (λ i x=>x.2.2=(i:Int)/\PI t s place x.1/\(∀ p,A7 x.1 p=A7 w1 p)/\x.1.Last=w1.Last/\(∀ (j:Nat) v,(BP w1 place)[j]? = some v->0<=v->∃ v',(BP x.1 place)[j]? = some v'/\0<=v'/\v'<=v)/\(x.2.1=false->x.1=w1/\∀ (j:Nat) q (k:Nat),j<i->(Cz t w1 place)[j]? = some q->(Au t q k).2=true->prt t k=[]->∃ (i':Nat) (w':Int),(Cz t w1 place)[i']? = some (Au t q k).1/\(BP w1 place)[i']? = some w'/\(0<=w'->∃ v,(BP w1 place)[j]? = some v/\0<=v/\v<=w'+(cls t k).length))/\(x.2.1=true->phi 13000000 (BP x.1 place)<phi 13000000 (BP w1 place))) ?_ ?_ _ ⟨rfl,h,λ _=>rfl,rfl,λ j v hv h0=>⟨v,hv,h0,Int.le_refl v⟩,λ _=>⟨rfl,λ j q k h=>by omega⟩,(λ h=>by cases h)⟩
 ·rintro i ⟨w,b,i'⟩ hi ⟨e1,hP,hC,hL,hlow,hfl,hle⟩;simp only at e1 hP hC hL hlow hfl hle;subst e1;have hqs:Cz t w place=Cz t w1 place:=by unfold Cz;rw [hC]
  obtain ⟨q0,hq⟩:∃ q0,(Cz t w place)[i]? = some q0:=⟨_,Jnx (by rw [hqs,hql.1];exact hi)⟩;unfold BH;refine Tot.iteT (Du hi) (Tot.bind (VG hT hs true hpl (Jni 13000000) hP hq) ?_);rintro ⟨w2,b2⟩ hI;simp only at hI;refine Jm2 ⟨Br (by omega),hI.pi,λ p=>(hI.cols p).trans (hC p),hI.last.trans hL,λ j v hv h0=>?_,λ hb=>?_,λ hb=>?_⟩
  ·obtain ⟨v1,a1,a2,a3⟩:=hlow j v hv h0;obtain ⟨v2,b1,b2,b3⟩:=hI.low j v1 a1 a2;exact ⟨v2,b1,b2,by omega⟩
  ·simp only [Jnw] at hb;obtain ⟨e2,hR⟩:=hfl hb.2;refine ⟨(hI.fls hb.1).trans e2,λ j q k hj hjq hst hp=>?_⟩;by_cases e:j=i
   ·subst e;rw [← hqs,hq] at hjq;cases hjq;have:=hI.sil rfl hb.1 k trivial hst hp;rw [e2] at this;exact this
   ·exact hR j q k (by omega) hjq hst hp
  ·simp only [JnR] at hb;cases hb2:b2 with
   | true=>
    have h1:=hI.less hb2;cases hbb:b with
    | true=>have:=hle hbb;show phi 13000000 (BP w2 place)<_;omega
    | false=>rw [(hfl hbb).1] at h1;exact h1
   | false=>
    rw [hI.fls hb2];exact hle (hb.resolve_left (by rw [hb2];simp))
 ·rintro ⟨w,b,i'⟩ ⟨e1,hP,hC,hL,hlow,hfl,hle⟩;simp only at e1 hP hC hL hlow hfl hle;subst e1;unfold BH;refine Tot.iteF (Yo _) (Jm2 ⟨hP,hC,hL,hlow,λ hb=>⟨(hfl hb).1,⟨λ j q k hj hst hp=>(hfl hb).2 j q k (by have:=Aj hj;omega) hj hst hp⟩⟩,hle⟩)
theorem JbG {place:Nat} (hpl:place<=s.length) {w1:Ae} (h:PI t s place w1) (h1:Jae t (s.drop place) (Cz t w1 place) (BP w1 place)) :
  Tot (λ n=>whl (λ (x:Ae)=>Ca n (place:Int) x) n w1) (λ w=>PB t s place w/\(∀ p,A7 w p=A7 w1 p)/\w.Last=w1.Last):=by
 refine Tot.whl (body:=λ n x=>Ca n (place:Int) x) (λ m x=>m=phi 13000000 (BP x place)/\PI t s place x/\(∀ p,A7 x p=A7 w1 p)/\x.Last=w1.Last/\Jae t (s.drop place) (Cz t x place) (BP x place)) ?_ _ w1 ⟨rfl,h,λ _=>rfl,rfl,h1⟩;rintro m w ⟨rfl,hP,hC,hL,hD⟩;have hcl:place<w.Columns.length:=by rw [hP.clen];omega
 unfold Ca;refine Tot.bindC (AX default hcl) ?_;simp only [JnH,H5];refine Tot.bind (JbF hT hs hpl hP) ?_;rintro ⟨w2,b⟩ ⟨g1,g2,g3,g4,g5,g6⟩;simp only at g1 g2 g3 g4 g5 g6 ⊢;cases b with
 | false=>
  obtain ⟨e,hD2⟩:=g5 rfl;subst e;refine Tot.iteT rfl (Jm2 ⟨⟨hP.base,hP.clen,hP.nod,hP.ok,hP.all,hP.sort,λ p h1 h2=>?_⟩,hC,hL⟩);rcases Nat.eq_or_lt_of_le h1 with rfl|hlt
  ·refine ⟨λ i q hq=>hP.col.exact (hP.qn hT place) hD hD2 hq,λ i v hv=>?_⟩;have hb:=(hP.col.top hv).2;have:=hP.qlen hT place;omega
  ·exact hP.later p hlt h2
 | true=>
  have hqs:Cz t w2 place=Cz t w place:=by unfold Cz;rw [g2]
  refine Tot.iteF rfl (Jm2 ⟨_,g6 rfl,rfl,g1,λ p=>(g2 p).trans (hC p),g3.trans hL,⟨λ j q k hj hst hp y hy hc=>?_⟩⟩);rw [hqs] at hj;obtain ⟨v,a1,a2,a3⟩:=hD.rel j q k hj hst hp y hy hc;obtain ⟨v',b1,b2,b3⟩:=g4 j v a1 a2;exact ⟨v',b1,b2,by omega⟩
theorem Je5 {w1:Ae} (h:WR t s w1):Tot (λ n=>Do n w1) (λ w=>PB t s 0 w/\w.Last=w1.Last):=by
 have hlen:=EL hT;unfold Do;rw [h.base.ss];refine Tot.bind (R:=λ w=>PB t s 0 w/\w.Last=w1.Last) ?_ (λ w h=>Jm2 h);refine Tot.whl (body:=λ n x=>CA n x.1 x.2) (λ m x=>x.2=(m:Int)-1/\m<=s.length+1/\PB t s m x.1/\x.1.Last=w1.Last) ?_ (s.length+1) _ ⟨by simp,by omega,h.pb,rfl⟩;rintro m ⟨w,i'⟩ ⟨e2,e4,e5,e6⟩;simp only at e2 e5 e6;subst e2;unfold CA;cases m with
 | zero=>exact Tot.iteF (by simp) (Jm2 ⟨e5,e6⟩)
 | succ i=>
  have ei:((i+1:Nat):Int)-1=(i:Int):=by omega
  rw [ei];have hcl:i<w.Columns.length:=by rw [e5.clen];omega
  have hll:(A7 w i).length<=768:=by
   have hsub:∀ v∈A7 w i,v∈(List.range (Aa t).length).map (λ j:Nat=>(j:Int)):=by
    intro v hv;obtain ⟨j,q,rfl,hq,_⟩:=e5.ok i v hv;exact Jno.2 ⟨j,List.mem_range.2 (Aj hq),rfl⟩
   have:=(e5.nod i).length_le_of_subset hsub;rw [Jnr,List.length_range] at this;omega
  refine Tot.iteT (by simp) (Tot.bindC (AX default hcl) (Tot.bindC (AX default hcl) (Tot.bindC (K2 (by omega) (by show ((A7 w i).length:Int).toNat*8<=_;omega)) ?_)));rw [show (w.Columns.getD i default).States=A7 w i from rfl,JnH,JnH];refine Tot.bindC (AX default (by rw [JnP];exact hcl)) ?_;rw [De hcl];refine Tot.bind (JbD hs (show i<=s.length by omega) e5 hll (List.replicate (A7 w i).length 0) (by simp)) ?_;rintro w2 rfl;have hPI:=e5.set (show i<=s.length by omega) (Rs t (s.drop i) _ (Cz t w i));have hcl2:i<(Ru w i ((Cz t w i).map (Cm t (s.drop i)))).Columns.length:=by rw [hPI.clen];omega
  refine Tot.bindC (AX default hcl2) ?_;simp only [H5];refine Tot.bind (JbE hT hs (show i<=s.length by omega) hPI) ?_;rintro w3 ⟨g1,g2,g3,g4⟩;refine Tot.bind (JbG hT hs (show i<=s.length by omega) g1 g4) ?_;rintro w4 ⟨k1,k2,k3⟩;refine Jm2 ⟨i,by omega,?_,by omega,k1,?_⟩
  ·show DL .i64 (i:Int) 1=(i:Int)-1;rw [K0 (by omega) (by omega)]
  ·rw [k3,g3];exact e6
end
end Go.AI
end
section
namespace Go.AI
structure WW (t:Ad) (s:List UInt8) (w:AJ) (a e:Int):Prop where
 bad:(Hh s).2≠0->w=⟨[],[]⟩/\a=(Hh s).1/\e=(Hh s).2
 none:(Hh s).2=0->Aq t A6 s<0->w=⟨[],[]⟩/\OF t s a/\e=61
 path:(Hh s).2=0->0<=Aq t A6 s->e=0/\a=(s.length:Int)/\∃ p,Ge t A6 s p/\w=⟨cellsOf t p,p⟩
theorem WW.uniq {t:Ad} {s:List UInt8} {w w':AJ} {a a' e e':Int} (h:WW t s w a e) (h':WW t s w' a' e'):w=w'/\a=a'/\e=e':=by
 by_cases h1:(Hh s).2=0
 ·by_cases h2:Aq t A6 s<0
  ·obtain ⟨g1,g2,g3⟩:=h.none h1 h2;obtain ⟨k1,k2,k3⟩:=h'.none h1 h2;exact ⟨g1.trans k1.symm,g2.uniq k2,g3.trans k3.symm⟩
  ·obtain ⟨g1,g2,p,g3,g4⟩:=h.path h1 (by omega);obtain ⟨k1,k2,p',k3,k4⟩:=h'.path h1 (by omega);have:=g3.uniq k3;subst this;exact ⟨g4.trans k4.symm,g2.trans k2.symm,g1.trans k1.symm⟩
 ·obtain ⟨g1,g2,g3⟩:=h.bad h1;obtain ⟨k1,k2,k3⟩:=h'.bad h1;exact ⟨g1.trans k1.symm,g2.trans k2.symm,g3.trans k3.symm⟩
theorem Yy (t:Ad) (q:Ab):(Be t q).Pairwise (λ a b=>a.Rule<b.Rule):=by
 unfold Be;refine List.Pairwise.filterMap _ (R:=λ a b=>a<b) (λ a a' hlt b hb b' hb'=>?_) List.pairwise_lt_range;unfold K5 at hb hb';split at hb
 ·split at hb'
  ·cases hb;cases hb';simp only;omega
  ·cases hb'
 ·cases hb
theorem Qu (t:Ad) (p:List Int) (k:Int):cellsOf t (p++[k])=cellsOf t p++cls t k:=by simp [cellsOf]
theorem VH (t:Ad) (p:List Int) (k:Int):Fa t (p++[k])=Fa t p+(cls t k).length:=by simp [Fa,cellsOf]
section
variable {t:Ad} (hT:GG t) {s:List UInt8} (hs:s.length<=4000)
include hT
omit hT in
theorem PB.pi0 {w:Ae} {t:Ad} {s:List UInt8} (h:PB t s 0 w) (p:Nat) (hp:p<=s.length):(∀ (i:Nat) q,(Cz t w p)[i]? = some q->(BP w p)[i]? = some (Aq t q (s.drop p)))/\∀ (i:Nat) v,(BP w p)[i]? = some v->v<=((3072*(s.length-p+1):Nat):Int):=h.later p (by omega) hp
theorem PB.find {w:Ae} (h:PB t s 0 w) {p:Nat} (hp:p<=s.length) {q:Ab} (hr:Rch t s p q) (hq:q∈Aa t):Ev (λ n=>BT n (w.Columns.getD p default) (BY (Aa t) q)) (Aq t q (s.drop p))/\Aq t q (s.drop p)<=((3072*(s.length-p+1):Nat):Int):=by
 obtain ⟨j,hj,hg⟩:=BZ hq;obtain ⟨d,hd,e⟩:=Jnt (h.all p j q hg hr);have hd':(A7 w p)[d]? = some (j:Int):=by rw [← e];exact Jnx hd
 have hqs:(Cz t w p)[d]? = some q:=(NC (h.ok p)).2 ⟨j,hd',hg⟩;obtain ⟨k1,k2⟩:=h.pi0 p hp;have hx:=k1 d q hqs;have hll:(A7 w p).length<=768:=by
  have hsub:∀ v∈A7 w p,v∈(List.range (Aa t).length).map (λ j:Nat=>(j:Int)):=by
   intro v hv;obtain ⟨j,q,rfl,hq,_⟩:=h.ok p v hv;exact Jno.2 ⟨j,List.mem_range.2 (Aj hq),rfl⟩
  have:=(h.nod p).length_le_of_subset hsub;have:=EL hT;simp at *;omega
 refine ⟨?_,k2 d _ hx⟩;rw [hj];exact WV (by show (A7 w p).length<=1000;omega) (h.sort p hp) (h.nod p) hd' hx
include hs
theorem JbH {w:Ae} (h:PB t s 0 w) {place:Nat} (hpl:place<=s.length) {q:Ab} (hr:Rch t s place q) (hq:q∈Aa t) (hc:0<Aq t q (s.drop place)) (r0:AJ) (h1:r0.Cells.length<=13000000) (h2:r0.Path.length<=13000000) :
  Tot (λ n=>whl (λ (x:Int)=>Bz n w r0 (place:Int) (Aq t q (s.drop place)) (Be t q) x) n 0) (λ y=>∃ k:Nat,Cb t q (s.drop place) k=Aq t q (s.drop place)/\(∀ j:Nat,j<k->Cb t q (s.drop place) j≠Aq t q (s.drop place))/\y=.inl (⟨r0.Cells++cls t k,r0.Path++[(k:Int)]⟩,((place+(prt t k).length:Nat):Int),BY (Aa t) (Au t q k).1,Aq t (Au t q k).1 (s.drop (place+(prt t k).length)))):=by
 have hrl:=hT.tab.1;have hal:(Be t q).length<=t.Rules.length:=by unfold Be;exact Nat.le_trans (List.length_filterMap_le _ _) (by simp)
 refine Tot.upto (body:=λ n x=>Bz n w r0 (place:Int) (Aq t q (s.drop place)) (Be t q) x) (Be t q).length (λ i x=>x=(i:Int)/\∀ (i':Nat) a (k:Nat),i'<i->(Be t q)[i']? = some a->a.Rule=(k:Int)->Cb t q (s.drop place) k≠Aq t q (s.drop place)) ?_ ?_ _ ⟨rfl,λ i' a k h=>by omega⟩
 ·rintro i x hi ⟨rfl,hI⟩;have ha:(Be t q)[i]? = some (Be t q)[i]:=Jnx hi;obtain ⟨k,hk,hst,hae⟩:=I7.1 (Jnf hi);obtain ⟨p1,p2,p3⟩:=hT.pr hst;have hJ:Cb t q (s.drop place) k≠Aq t q (s.drop place)->Tot (λ n=>By n (i:Int)) (Rd2 (λ x=>x=((i+1:Nat):Int)/\∀ (i':Nat) a (k:Nat),i'<i+1->(Be t q)[i']? = some a->a.Rule=(k:Int)->Cb t q (s.drop place) k≠Aq t q (s.drop place)) (λ y:(AJ×Int×Int×Int)⊕Unit=>∃ k:Nat,Cb t q (s.drop place) k=Aq t q (s.drop place)/\(∀ j:Nat,j<k->Cb t q (s.drop place) j≠Aq t q (s.drop place))/\y=.inl (⟨r0.Cells++cls t k,r0.Path++[(k:Int)]⟩,((place+(prt t k).length:Nat):Int),BY (Aa t) (Au t q k).1,Aq t (Au t q k).1 (s.drop (place+(prt t k).length))))):=by
   intro hne;unfold By;refine Jm2 ⟨Br (by omega),λ i' a k' hi' hia hak=>?_⟩;by_cases e:i'=i
   ·subst e;rw [ha,hae] at hia;cases hia;simp only at hak;have:k=k':=by omega
    subst this;exact hne
   ·exact hI i' a k' (by omega) hia hak
  unfold Bz;refine Tot.iteT (Du hi) (Tot.bindC (BL ha) ?_);rw [hae];refine Jm4 (λ n=>Rt hT hs h.base hpl hst n) (Tot.ite (λ hpf=>?_) λ hpf=>?_)
  ·refine hJ λ he=>?_;have hpf':(prt t k).isPrefixOf (s.drop place)=false:=by simpa using hpf
   obtain ⟨_,⟨y,hy,_⟩,_⟩:=Fq (t:=t) (q:=q) (x:=s.drop place) (k:=(k:Int)) (by omega);rw [← Jnh,Jnj,hy] at hpf';exact hpf' (List.prefix_append _ _)
  ·have hpf':(prt t k).isPrefixOf (s.drop place)=true:=by simpa using hpf
   have q2:=(CG hpf').2 hpl;obtain ⟨f1,f2⟩:=h.find hT q2 (hr.next hst hpf') (Dt hT hq hst);have f3:=Qo t (Au t q k).1 (s.drop (place+(prt t k).length));have hrule:=H3 (t:=t) (k:=(k:Int)) (by omega) (by omega);have hclen:(cls t k).length=(Dc t k).Cells.length:=rfl;have hcb:=(h.find hT hpl hr hq).2;have hn:Cb t q (s.drop place) k=if 0<=Aq t (Au t q k).1 (s.drop (place+(prt t k).length)) then Aq t (Au t q k).1 (s.drop (place+(prt t k).length))+(cls t k).length else -1:=by
    unfold Cb;rw [List.drop_drop];have hpp:prt t k <+: s.drop place:=Jnj.1 hpf';by_cases h0:0<=Aq t (Au t q k).1 (s.drop (place+(prt t k).length))
    ·rw [if_pos ⟨hst,hpp,h0⟩,if_pos h0]
    ·rw [if_neg (λ hh=>h0 hh.2.2),if_neg h0]
   rw [h.base.tt];refine Tot.bindC hrule (Tot.bindC (AX default (by rw [h.clen];omega)) (Jm3 f1 ?_));have hsub:DL .i64 (Aq t q (s.drop place)) ((List.length (Dc t k).Cells:Nat):Int)=Aq t q (s.drop place)-((cls t k).length:Nat):=by rw [K0 (by omega) (by omega)]
   rw [hsub];refine Tot.ite (λ hcond=>hJ λ he=>?_) λ hcond=>?_
   ·simp only [JnR,decide_eq_true_eq,bne_iff_ne,ne_eq] at hcond;rw [hn] at he;split at he<;>omega
   ·simp only [Jnw,decide_eq_false_iff_not,bne_eq_false_iff_eq] at hcond;refine Tot.bindC (Gc (by omega)) (Tot.bindC (Gc (by simp;omega)) (Jm2 ⟨k,?_,λ j hj hje=>?_,?_⟩))
    ·rw [hn,if_pos (by omega)];omega
    ·obtain ⟨hsj,_⟩:=Fq (t:=t) (q:=q) (x:=s.drop place) (k:=(j:Int)) (by omega);obtain ⟨i',hi',e⟩:=Jnt (I7.2 ⟨j,by have:=Cq hsj;omega,hsj,rfl⟩:(⟨j,BY (Aa t) (Au t q j).1⟩:AE)∈Be t q);have hlt:i'<i:=by
      apply Classical.byContradiction;intro hge;rcases Nat.eq_or_lt_of_le (Nat.le_of_not_lt hge) with rfl|hgt
      ·rw [hae] at e;have:=congrArg AE.Rule e;simp only at this;omega
      ·have:=(List.pairwise_iff_getElem.1 (Yy t q)) i i' hi hi' hgt;rw [hae,e] at this;simp only at this;omega
     exact hI i' _ j hlt (by rw [Jnx hi',e]) rfl hje
    ·rw [← hcond.2]
 ·rintro x ⟨rfl,hI⟩;exfalso;obtain ⟨k,hk,he⟩:=VE hc;obtain ⟨hst,_⟩:=Fq (t:=t) (q:=q) (x:=s.drop place) (k:=(k:Int)) (by omega);obtain ⟨i',hi',e⟩:=Jnt (I7.2 ⟨k,hk,hst,rfl⟩:(⟨k,BY (Aa t) (Au t q k).1⟩:AE)∈Be t q);exact hI i' _ k hi' (by rw [Jnx hi',e]) rfl he
structure WX (t:Ad) (s:List UInt8) (p0:List Int) (place:Nat) (q:Ab):Prop where
 goes:Pf t A6 p0 q
 text:E9 t p0=s.take place
 le:place<=s.length
 greedy:∀ p1,Ge t q (s.drop place) p1->Ge t A6 s (p0++p1)
 len:Fa t p0+(Aq t q (s.drop place)).toNat<=(Aq t A6 s).toNat
 plen:p0.length<=Fa t p0
 pos:0<=Aq t q (s.drop place)
omit hs in
theorem WX.next {p0:List Int} {place:Nat} {q:Ab} (h:WX t s p0 place q) {k:Nat} (hc:0<Aq t q (s.drop place)) (hk:Cb t q (s.drop place) k=Aq t q (s.drop place)) (hm:∀ j:Nat,j<k->Cb t q (s.drop place) j≠Aq t q (s.drop place)):WX t s (p0++[(k:Int)]) (place+(prt t k).length) (Au t q k).1:=by
 obtain ⟨g1,⟨y,g2,g3⟩,g4,g5⟩:=Fq (t:=t) (q:=q) (x:=s.drop place) (k:=(k:Int)) (by omega);rw [List.drop_drop] at g3 g4 g5;have hpf:(prt t k).isPrefixOf (s.drop place)=true:=by rw [Jnj,g2];exact List.prefix_append _ _
 obtain ⟨q1,q2⟩:=CG hpf;obtain ⟨p1,p2,p3⟩:=hT.pr g1;refine ⟨h.goes.snoc g1,?_,q2 h.le,λ p' hp'=>?_,?_,?_,g4⟩
 ·rw [NB,h.text,List.take_add,q1,List.take_left' rfl]
 ·rw [List.append_assoc];exact h.greedy _ (.cons hc hk hm (by rw [List.drop_drop];exact hp'))
 ·rw [VH];have:=h.len;omega
 ·rw [VH,List.length_append];have:=h.plen;simp only [List.length_cons,List.length_nil];omega
omit hT hs in
theorem WX.start {t:Ad} {s:List UInt8} (h:0<=Aq t A6 s):WX t s [] 0 A6:=⟨rfl,by simp [E9],by omega,λ p hp=>by simpa using hp,by simp [Fa,cellsOf],by simp,h⟩
omit hT hs in
theorem WX.rch {t:Ad} {s:List UInt8} {p0:List Int} {place:Nat} {q:Ab} (h:WX t s p0 place q):Rch t s place q:=⟨h.le,p0,h.goes,h.text⟩
omit hs in
theorem Rch.mem {i:Nat} {q:Ab} (h:Rch t s i q):q∈Aa t:=by
 obtain ⟨j,hj⟩:=Jm7 (A:=λ _ q=>∃ j:Nat,(Aa t)[j]? = some q) ⟨0,(CC hT.tab).1.first⟩ (λ i' q k _ hA hst _=>by
  obtain ⟨j,hj⟩:=hA;obtain ⟨d,_,hd⟩:=BZ (Dt hT (Jnz hj) hst);exact ⟨d,hd⟩) h
 exact Jnz hj
theorem JbI {w:Ae} (h:PB t s 0 w) (h0:0<=Aq t A6 s):Tot (λ n=>CB n w) (λ r=>∃ p,Ge t A6 s p/\r=⟨cellsOf t p,p⟩):=by
 have hf:=(CC hT.tab).1.first;have hi0:BY (Aa t) A6=0:=Pe (Qq hT) hf;have hS:A6∈Aa t:=Jnz hf;obtain ⟨f1,f2⟩:=h.find hT (p:=0) (by omega) (.start t s) hS;rw [hi0,List.drop_zero] at f1;rw [List.drop_zero] at f2;unfold CB;refine Tot.bindC (AX (i:=0) default (by rw [h.clen];omega)) (Jm3 f1 ?_);refine Tot.bind (R:=λ r=>∃ p,Ge t A6 s p/\r=(⟨cellsOf t p,p⟩:AJ)) ?_ (λ r hr=>Jm2 hr);refine Tot.whl (body:=λ n x=>BX n w x.1 x.2.1 x.2.2.1 x.2.2.2) (λ m x=>∃ (p0:List Int) (place:Nat) (q:Ab),WX t s p0 place q/\x=(⟨cellsOf t p0,p0⟩,(place:Int),BY (Aa t) q,Aq t q (s.drop place))/\m=(Aq t q (s.drop place)).toNat) ?_ (Aq t A6 s).toNat _ ⟨[],0,A6,.start h0,by rw [hi0,List.drop_zero];rfl,by rw [List.drop_zero]⟩;rintro m x ⟨p0,place,q,hW,rfl,rfl⟩;have hq:=hW.rch.mem hT;unfold BX;simp only;by_cases hc:0<Aq t q (s.drop place)
 ·obtain ⟨j,hj,hg⟩:=BZ hq;have hlen:=hW.len;have hpl:=hW.plen;rw [hj];refine Tot.iteT (by simpa using hc) (Tot.bindC (BL (h.base.arc j q hg)) (Tot.bind (JbH hT hs h hW.le hW.rch hq hc ⟨cellsOf t p0,p0⟩ (by show Fa t p0<=_;omega) (by show p0.length<=_;omega)) ?_));rintro y ⟨k,g1,g2,rfl⟩;have hW2:=hW.next hT hc g1 g2;obtain ⟨e1,⟨y,e2,e3⟩,e4,e5⟩:=Fq (t:=t) (q:=q) (x:=s.drop place) (k:=(k:Int)) (by omega);rw [List.drop_drop] at e5;obtain ⟨p1,p2,p3⟩:=hT.pr e1;refine Jm2 ⟨(Aq t (Au t q k).1 (s.drop (place+(prt t k).length))).toNat,by have:=hW2.pos;omega,p0++[(k:Int)],place+(prt t k).length,(Au t q k).1,hW2,?_,rfl⟩;simp only [Qu]
 ·refine Tot.iteF (by simpa using hc) (Jm2 ⟨p0,?_,rfl⟩);have:=hW.greedy [] (.nil (by omega));rwa [List.append_nil] at this
theorem JbJ (hv:Ev (λ n=>Hs n t) true):Tot (λ n=>ID n t s) (λ y=>WW t s y.1 y.2.1 y.2.2):=by
 have hf:=(CC hT.tab).1.first;have hi0:BY (Aa t) A6=0:=Pe (Qq hT) hf;unfold ID;refine Jm3 (SI (by omega)) ?_;by_cases hb:(Hh s).2=0
 ·refine Tot.iteF (by rw [hb];rfl) (Jm3 hv (Tot.iteF rfl (Tot.bind (JkJ hT hs) ?_)));rintro w1 ⟨h1,h2,h3⟩;refine Tot.bind (Je4 hT hs h1 h2 h3) λ w2 hR=>Tot.bind (Je5 hT hs hR) ?_;rintro w3 ⟨hP,hL⟩;have hcol:∀ v,InC w3 0 v->∃ (j:Nat) (q:Ab),v=(j:Int)/\(Aa t)[j]? = some q/\Rch t s 0 q:=hP.ok 0;have hin0:InC w3 0 (0:Nat):=hP.all 0 0 A6 hf (.start t s);have hfirst:(A7 w3 0)[0]? = some ((0:Nat):Int):=by
   obtain ⟨d,hd,e⟩:=Jnt hin0;cases d with
   | zero=>rw [← e];exact Jnx hd
   | succ d=>
    exfalso;have h4:=(List.pairwise_iff_getElem.1 (hP.sort 0 (by omega))) 0 (d+1) (by omega) hd (by omega);obtain ⟨j,q,e1,_,_⟩:=hcol _ (Jnf (show 0<(A7 w3 0).length by omega));have h5:=Ux (hP.nod 0) (a:=0) (b:=d+1) (x:=((0:Nat):Int)) (by rw [Jnx (by omega)];congr 1;omega) (by rw [Jnx hd,e]);omega
  have hqs:(Cz t w3 0)[0]? = some A6:=(NC hcol).2 ⟨0,hfirst,hf⟩;have hx:=(hP.pi0 0 (by omega)).1 0 A6 hqs;rw [List.drop_zero] at hx;refine Tot.bindC (AX (i:=0) default (by rw [hP.clen];omega)) (Tot.bindC (BL (i:=0) hx) (Tot.ite (λ hc=>?_) λ hc=>?_))
  ·have hneg:Aq t A6 s<0:=by simpa using hc
   refine Jm2 ⟨λ h=>absurd hb h,λ _ _=>⟨rfl,?_,rfl⟩,λ _ h=>by omega⟩;show OF t s w3.Last;rw [hL];exact hR.last
  ·have hpos:0<=Aq t A6 s:=by simpa using hc
   have e0:(⟨w3.T,w3.S,w3.States,w3.Arcs,w3.Columns.set (Int.toNat 0) (w3.Columns.getD 0 default),w3.Last⟩:Ae)=w3:=H5 w3 0 default;rw [e0];refine Tot.bind (JbI hT hs hP hpos) ?_;rintro r ⟨p,hp,rfl⟩;exact Jm2 ⟨λ h=>absurd hb h,λ _ h=>by omega,λ _ _=>⟨rfl,rfl,p,hp,rfl⟩⟩
 ·refine Tot.iteT (by simpa using hb) (Jm2 ⟨λ _=>⟨rfl,rfl,rfl⟩,λ h=>absurd h hb,λ h=>absurd h hb⟩)
end
end Go.AI
end
