/- Part 6 of 7 of the proof: lemmas about the model and the program's functions, with no condition beyond those that each states. -/
import Derived.Test.YtjaogfjfamffnaaGreatLE
import Derived.ChangeArms
import Derived.WalkKit
import Derived.ProofKit
import Derived.OpenShut
import Derived.Carry
import Derived.WideKeyArgs
import Derived.ChangeSame
import Derived.KernelRfl
section
namespace Go.AI
def CRd (F:Nat->Option Obj) (l:List D) (cs:List Value):Prop:=l.length=cs.length/\∀ (i:Nat) (y:D) (v:Value),l[i]? = some y->cs[i]? = some v->DRep F y v
def Reads {α:Type} (P:Program) (t:TypeId) (enc:α->List D) (ok:α->Prop):Prop:=
 ∀ (H:Type) (e:TypeId×Value->H) (w:World) (base:Nat) (spare:Nat->Bool) (held:Bool) (fuel:Nat) (cs:List Value) (x:DataW H×List MemPlace),DataW.trod e P w base spare held fuel t cs=some x->∃ a:α,ok a/\CRd (λ b=>w.heap[b]?) (enc a) cs
theorem crd_one {F:Nat->Option Obj} {y:D} {v:Value} (h:DRep F y v):CRd F [y] [v]:=by
 refine ⟨rfl,λ i a b ha hb=>?_⟩;cases i with
 | zero=>simp at ha hb;subst ha;subst hb;exact h
 | succ i=>simp at ha
theorem reads_int {P:Program} {t:TypeId} {k:IntKind} (ht:P.underlying t=some (.int k)):Reads P t (λ n=>[.int k n]) (λ n=>(Lit.int k n).wf=true):=by
 intro H e w base spare held fuel cs x h;obtain ⟨n,rfl,_,hw⟩:=DataW.trod_int ht h;exact ⟨n,hw,crd_one (.int k n)⟩
theorem list_choose {α:Type} {Q:Nat->α->Prop}:∀ n,(∀ i,i<n->∃ a,Q i a)->∃ l:List α,l.length=n/\∀ i a,l[i]? = some a->Q i a:=by
 intro n;induction n with
 | zero=>intro _;exact ⟨[],rfl,λ i a h=>by simp at h⟩
 | succ n ih=>
  intro h;obtain ⟨l,hl,hq⟩:=ih λ i hi=>h i (by omega);obtain ⟨a,ha⟩:=h n (by omega);refine ⟨l++[a],by simp [hl],λ i b hb=>?_⟩;rcases Nat.lt_or_ge i l.length with hlt|hge
  ·rw [List.getElem?_append_left hlt] at hb;exact hq i b hb
  ·rw [List.getElem?_append_right hge] at hb;have:i-l.length=0:=by have:=getElem?_lt hb;simp at this;omega
   rw [this] at hb;simp at hb;subst hb;have:i=n:=by omega
   subst this;exact ha
theorem mapM_get {α β:Type} {f:α->Option β}:∀ {l:List α} {r:List β},l.mapM f=some r->r.length=l.length/\∀ (i:Nat) (a:α),l[i]? = some a->r[i]? = f a:=by
 intro l;induction l with
 | nil=>intro r h;simp at h;subst h;exact ⟨rfl,λ i a h=>by simp at h⟩
 | cons a l ih=>
  intro r h;rw [List.mapM_cons] at h;simp only [Option.bind_eq_bind,Option.bind_eq_some_iff,Option.pure_def,Option.some.injEq] at h;obtain ⟨b,hb,r',hr',rfl⟩:=h;obtain ⟨h1,h2⟩:=ih hr';refine ⟨by simp [h1],λ i x hx=>?_⟩;cases i with
  | zero=>simp at hx;subst hx;simp [hb]
  | succ i=>simpa using h2 i x (by simpa using hx)
theorem reads_slice {α:Type} {P:Program} {t e:TypeId} {enc:α->List D} {ok:α->Prop} {sz:Nat} (ht:P.underlying t=some (.slice e)) (hsz:P.cellsOf e=sz) (h1:Nat.ble 1 sz=true) (hl:∀ a,(enc a).length=sz) (he:Reads P e enc ok):Reads P t (eL enc) (λ l=>∀ a∈l,ok a):=by
 intro H en w base spare held fuel cs x h;have h1:=Nat.le_of_ble_eq_true h1;rcases DataW.trod_slice ht h with ⟨rfl,_⟩|⟨a,len,cap,elems,rest,n,_,rfl,_,_,hcap,_,hel,hget,_,_⟩
 ·exact ⟨[],λ a h=>by simp at h,crd_one (.sl0 _ _)⟩
 ·rw [hsz] at hget;have hex:∀ i,i<len->∃ y:α,ok y/\∃ ci,w.cells? base (a.add (i*sz)) sz=some ci/\CRd (λ b=>w.heap[b]?) (enc y) ci:=λ i hi=>by
   have hg:=hget i hi;rw [List.getElem?_eq_getElem (show i<elems.length by omega)] at hg;simp only [Option.bind_eq_some_iff] at hg;obtain ⟨ci,hc,htr⟩:=hg;obtain ⟨y,hy,hcr⟩:=he H en w base spare held n ci _ htr;exact ⟨y,hy,ci,hc,hcr⟩
  obtain ⟨l,hll,hq⟩:=list_choose len hex;refine ⟨l,λ y hy=>?_,crd_one ?_⟩
  ·obtain ⟨i,hi⟩:=List.mem_iff_getElem?.1 hy;exact (hq i y hi).1
  ·rcases Nat.eq_zero_or_pos len with h0|hpos
   ·have:l=[]:=List.length_eq_zero_iff.1 (by omega);subst this;subst h0;exact .sl0 _ _
   ·
    have hcell:∀ i y,l[i]? = some y->∀ j,j<sz->∃ v,w.cell? ((a.add (i*sz)).add j)=some v/\∀ d,(enc y)[j]? = some d->DRep (λ b=>w.heap[b]?) d v:=λ i y hy j hj=>by
     obtain ⟨_,ci,hc,hcr⟩:=hq i y hy;unfold World.cells? at hc;split at hc
     ·obtain ⟨g1,g2⟩:=mapM_get hc;have:=g2 j j (by simp [hj]);have hjc:j<ci.length:=by rw [g1];simpa using hj
      rw [List.getElem?_eq_getElem hjc] at this;exact ⟨ci[j],this.symm,λ d hd=>hcr.2 j d _ hd (List.getElem?_eq_getElem hjc)⟩
     ·cases hc
    have h0:l[0]? = some l[0]:=List.getElem?_eq_getElem (by omega);obtain ⟨v0,hv0,_⟩:=hcell 0 _ h0 0 (by omega);have ha0:(a.add (0*sz)).add 0=a:=by simp [Addr.add]
    rw [ha0] at hv0;obtain ⟨b,off,spot⟩:=a;unfold World.cell? at hv0;simp only at hv0;split at hv0
    ·rename_i c ty fr hblk;cases spot with
     | some s=>simp at hv0
     | none=>
      have hcell':∀ i y,l[i]? = some y->∀ j d,(enc y)[j]? = some d->∃ v,c[off+i*sz+j]? = some v/\DRep (λ b=>w.heap[b]?) d v:=λ i y hy j d hd=>by
       have hj:j<sz:=by rw [← hl y];exact getElem?_lt hd
       obtain ⟨v,hv,hr⟩:=hcell i y hy j hj;rw [add_none,add_none,cell_blk hblk] at hv;exact ⟨v,hv,hr d hd⟩
      have hlen:(l.map enc).length=len:=by simp [hll]
      have:=DRep.sl (F:=λ b=>w.heap[b]?) (l.map enc) b off cap sz c ty fr (λ i j=>(c[off+i*sz+j]?).getD undef) hblk (λ e he=>by
        simp only [List.mem_map] at he;obtain ⟨y,_,rfl⟩:=he;exact hl y) (by omega) (λ i e hi j d hd=>by
        simp only [List.getElem?_map,Option.map_eq_some_iff] at hi;obtain ⟨y,hy,rfl⟩:=hi;obtain ⟨v,hv,_⟩:=hcell' i y hy j d hd;simp only [hv,Option.getD_some]) (λ i e hi j d hd=>by
        simp only [List.getElem?_map,Option.map_eq_some_iff] at hi;obtain ⟨y,hy,rfl⟩:=hi;obtain ⟨v,hv,hr⟩:=hcell' i y hy j d hd;simp only [hv,Option.getD_some];exact hr)
      rw [hlen] at this;exact this
    ·cases hv0
theorem crd_part {F:Nat->Option Obj} {l m:List D} {cs:List Value} {o n:Nat} (h:CRd F l ((cs.drop o).take n)) (hn:Nat.beq l.length n=true) (h':CRd F m (cs.drop (o+n))):CRd F (l++m) (cs.drop o):=by
 have hn:=Nat.eq_of_beq_eq_true hn;have e:cs.drop o=(cs.drop o).take n++cs.drop (o+n):=by rw [← List.drop_drop,List.take_append_drop]
 rw [e];refine ⟨by simp only [List.length_append,h.1,h'.1],λ i y v hy hv=>?_⟩;rcases Nat.lt_or_ge i l.length with hlt|hge
 ·rw [List.getElem?_append_left hlt] at hy;rw [List.getElem?_append_left (by rw [← h.1];exact hlt)] at hv;exact h.2 i y v hy hv
 ·rw [List.getElem?_append_right hge] at hy;rw [List.getElem?_append_right (by rw [← h.1];exact hge),← h.1] at hv;exact h'.2 _ y v hy hv
theorem crd_end {F:Nat->Option Obj} {cs:List Value} {o:Nat} (h:cs.length<=o):CRd F [] (cs.drop o):=by
 rw [List.drop_eq_nil_of_le h];exact ⟨rfl,λ i y v hy=>by simp at hy⟩
theorem trod_array {H:Type} {enc:TypeId×Value->H} {P:Program} {w:World} {base:Nat} {spare:Nat->Bool} {held:Bool} {fuel:Nat} {t e:TypeId} {n:Nat} {cs:List Value} {x:DataW H×List MemPlace} (ht:P.underlying t=some (.array n e)) (h:DataW.trod enc P w base spare held fuel t cs=some x) :
  ∃ m,cs.length=P.cellsOf t/\∀ i,i<n->∃ y,DataW.trod enc P w base spare held m e ((cs.drop (i*P.cellsOf e)).take (P.cellsOf e))=some y:=by
 cases fuel with
 | zero=>simp [DataW.trod] at h
 | succ m=>
  unfold DataW.trod at h;rw [ht] at h;split at h<;>simp_all;obtain ⟨xs,hp,_⟩:=h.2;refine ⟨m,λ i hi=>?_⟩;obtain ⟨g1,g2⟩:=mapM_get hp;have:=g2 i i (by simp [hi]);have hlt:i<xs.length:=by rw [g1];simpa using hi
  rw [List.getElem?_eq_getElem hlt] at this;exact ⟨_,_,this.symm⟩
end Go.AI
end
section
namespace Go.AI
open Go.ChangeShapes Go.WideShapes Go.ChangeAt Go.RowKit
variable {P:Program} {H:Type} {en:TypeId×Value->H} {W W':World} {base:Nat} {spare:Nat->Bool} {held:Bool} {t e:TypeId} {v:Value} {d:DataW H} {ps:List MemPlace} {α:Type} {enc:α->List D} {ok:α->Prop}
theorem arg_agg {cs:Array Value} (hv:v=.agg cs) (hd:DataW.Trod en P W base spare held t v d ps) (hr:Reads P t enc ok):∃ a,ok a/\ARep (λ b=>W.heap[b]?) noR (.agg ((enc a).map .d)) v:=by
 subst hv;obtain ⟨fuel,hf⟩:=hd;obtain ⟨a,h1,h2,h3⟩:=hr H en W base spare held fuel _ _ hf;refine ⟨a,h1,.agg _ _ (by simpa [Value.cells] using h2) λ i x u hx hu=>?_⟩;simp only [List.getElem?_map,Option.map_eq_some_iff] at hx;obtain ⟨y,hy,rfl⟩:=hx;exact .d _ _ (h3 i y u hy (by simpa [Value.cells] using hu))
theorem arg_one {y:α->D} (hc:v.cells=#[v]) (hd:DataW.Trod en P W base spare held t v d ps) (hr:Reads P t enc ok) (he:∀ a,enc a=[y a]):∃ a,ok a/\ARep (λ b=>W.heap[b]?) noR (.d (y a)) v:=by
 obtain ⟨fuel,hf⟩:=hd;obtain ⟨a,h1,h2,h3⟩:=hr H en W base spare held fuel _ _ hf;refine ⟨a,h1,.d _ _ (h3 0 (y a) v (by rw [he];rfl) (by rw [hc];rfl))⟩
theorem cr_nil {F:Nat->Option Obj} {ρ:Nat->Option Loc}:CR F ρ [] []:=⟨rfl,λ i a v h=>by simp at h⟩
theorem cr_cons {F:Nat->Option Obj} {ρ:Nat->Option Loc} {a:AV} {v:Value} {l:List AV} {vs:List Value} (h:ARep F ρ a v) (h':CR F ρ l vs):CR F ρ (a::l) (v::vs):=by
 refine ⟨by simp [h'.1],λ i x u hx hu=>?_⟩;cases i with
 | zero=>simp at hx hu;subst hx;subst hu;exact h
 | succ i=>exact h'.2 i x u (by simpa using hx) (by simpa using hu)
theorem fld {w:World} {fuel:Nat} {cs:List Value} {fs:Array Field} {xs:List (DataW H×List MemPlace)} (hg:∀ (i:Nat) (f:Field),fs[i]? = some f->DataW.trod en P w base spare held fuel f.type ((cs.drop f.offset).take (P.cellsOf f.type))=xs[i]?) (hxl:xs.length=fs.size) (i:Nat) {f:Field} (hf:fs[i]? = some f) (u o n:Nat) (hu:f.type=u) (ho:f.offset=o) (hn:P.cellsOf u=n) (hr:Reads P u enc ok) :
  ∃ a,ok a/\CRd (λ b=>w.heap[b]?) (enc a) ((cs.drop o).take n):=by
 have:=hg i f hf;have hi:i<xs.length:=by rw [hxl];exact getElem?_ltA hf
 rw [List.getElem?_eq_getElem hi,hu,ho,hn] at this;exact hr H en w base spare held fuel _ _ this
theorem fldA {w:World} {fuel:Nat} {cs:List Value} {m:Nat} (hg:∀ i,i<m->∃ y,DataW.trod en P w base spare held fuel e ((cs.drop (i*P.cellsOf e)).take (P.cellsOf e))=some y) (i:Nat) (hi:Nat.ble (i+1) m=true) (o n:Nat) (hn:P.cellsOf e=n) (ho:i*n=o) (hr:Reads P e enc ok) :
  ∃ a,ok a/\CRd (λ b=>w.heap[b]?) (enc a) ((cs.drop o).take n):=by
 obtain ⟨y,hy⟩:=hg i (Nat.le_of_ble_eq_true hi);rw [hn,ho] at hy;exact hr H en w base spare held fuel _ _ hy
theorem law_walk {f:FuncId} {args:List AV} {vs:Array Value} (hc:CallOK P f args (.d (.bool true))) (hcr:CR (λ b=>W.heap[b]?) noR args vs.toList):Calls P f vs W λ e W'=>e=.returned (.bool true)/\(∀ before:List MemPlace,W.keptBut W' (·∈before))/\∀ b,b<W.heap.size->W'.heap[b]? = W.heap[b]? := by
 refine (hc.2 (λ b=>W.heap[b]?) W vs hcr λ b o h=>h).mono λ e W' h=>?_;obtain ⟨v,F',ρ,rfl,hS,hr,hmu⟩:=h;have hv:v=.bool true:=by
  have:(impR true 0 (.d (.bool true))).1=.d (.bool true):=rfl;rw [this] at hr;exact hr.bool
 subst hv;have hold:∀ b,b<W.heap.size->W'.heap[b]? = W.heap[b]? := λ b hb=>hS.old b (by omega);refine ⟨rfl,λ before=>World.keptBut_mono (λ p hp=>hp.elim) (?_:W.keptBut W' λ _=>False),hold⟩;refine ⟨hmu.1,hmu.2.1,λ i hi=>?_⟩;rw [hold i hi];cases hh:W.heap[i]? with
 | none=>rfl
 | some o=>cases o<;>first|exact ⟨rfl,rfl,rfl,λ _ _=>rfl⟩|exact .inr ⟨rfl,rfl⟩|rfl
theorem post_same {f:Func} {s:ChangeSpec} {apart fresh handsOn again:Bool} {args:Array Value} {ds gs:List (DataW H)} {before pa pv:List MemPlace}
  (hW:DataW.Whole en P f.params.toList s.vars apart W args.toList ds gs before)
  (hres:∀ (b:Nat) (sp:Nat->Bool) (hd:Bool),DataW.TrodAll en P W' b sp hd f.resultTypes.toList (v.resultList f.resultTypes.size) (s.fn H (ds++gs)).results [])
  (hargs:∀ sp:Nat->Bool,(∀ p∈before,sp p.block=true)->DataW.TrodAll en P W' 0 sp true f.params.toList args.toList (s.fn H (ds++gs)).args pa)
  (hvars:∀ sp:Nat->Bool,(∀ p∈before,sp p.block=true)->DataW.TrodVars en P W' sp s.vars (s.fn H (ds++gs)).vars pv)
  (hps:before=pa++pv) (hk:W.keptBut W' (·∈before)) (hold:∀ b,b<W.heap.size->W'.heap[b]? = W.heap[b]?)
  (hok:∀ (j:Nat) (t:TypeId) (r:Value),f.resultTypes[j]? = some t->(v.resultList f.resultTypes.size)[j]? = some r->Value.okWide P W' .any 0 t r) :
  s.post en P f apart fresh handsOn again W args v W':=by
 have hin:∀ p∈before,(λ b=>decide (b<W.heap.size)) p.block=true:=λ p hp=>by simpa using hW.lt p hp
 have hlt:=hW.lt;refine ⟨ds,gs,before,[],pa,pv,hW,hres _ _ _,hargs _ hin,hvars _ hin,World.keptBut_mono (λ p hp=>⟨hp,?_⟩) hk,λ _=>?_⟩
 ·rw [hps,List.mem_append] at hp;exact Or.inr hp
 ·obtain ⟨_,_,_,_,_,hz,hn⟩:=hW;refine ⟨hok,_,_,([]++pa)++pv,⟨[]++pa,pv,trodAll_append (hargs _ (λ _ _=>rfl)) (hres _ _ _),hvars _ (λ _ _=>rfl),rfl,?_,?_⟩,?_⟩
  ·intro b off hp;have hp:MemPlace.cell b off∈before:=by rw [hps];simpa using hp
   have:=hz b off hp;simp only [World.frozen?,hold b (hlt _ hp)] at this ⊢;exact this
  ·intro ha;have:=hn ha;rw [hps] at this;simpa using this
  ·intro p hp _;rw [hps];simpa using hp
theorem stays (hl:laidOutB P=true) (hr:P.readableRec t=true) (hrow:t<P.types.size) (h:DataW.Trod en P W 0 (λ _=>true) true t v d ps) (hb:∀ p∈ps,p.block<W.heap.size) {sp:Nat->Bool} (hs:∀ p∈ps,sp p.block=true) (hold:∀ b,b<W.heap.size->W'.heap[b]? = W.heap[b]?):DataW.Trod en P W' 0 sp true t v d ps:=by
 refine WideElems.Trod_stays hl hr hrow h (λ p hp=>?_) hs;have:=hb p hp;cases p with
 | cell b o=>exact World.cell?_of_block (w:=W) (hold b this)
 | map b=>exact hold b this
end Go.AI
end
section
namespace Go.AI
open Go.Proofs Go.ChangeShapes Go.WideShapes Go.ChangeAt Go.RowKit
def okI (k:IntKind) (n:Int):Prop:=(Lit.int k n).wf=true
theorem rd5:Reads Tryz.prog 5 eU8 (okI .u8):=reads_int Tryz.underlying5
theorem rd25:Reads Tryz.prog 25 (eL eU8) (λ l=>∀ a∈l,okI .u8 a):=reads_slice (sz:=1) Tryz.underlying25 (by kernel_rfl) rfl (λ _=>rfl) rd5
theorem rd69:Reads Tryz.prog 69 (eArr2 eU8) (λ x=>okI .u8 x.a0/\okI .u8 x.a1):=by
 intro H e w base spare held fuel cs x h;obtain ⟨m,hcl,hg⟩:=trod_array Tryz.underlying69 h;have hcl:cs.length=2:=hcl.trans (by kernel_rfl);obtain ⟨a0,k0,c0⟩:=fldA hg 0 rfl 0 1 (by kernel_rfl) rfl rd5;obtain ⟨a1,k1,c1⟩:=fldA hg 1 rfl 1 1 (by kernel_rfl) rfl rd5;refine ⟨⟨a0,a1⟩,⟨k0,k1⟩,?_⟩;have:=crd_part c0 rfl (crd_part c1 rfl (crd_end (Nat.le_of_eq hcl)));exact this
def okGRawRule (x:GRawRule):Prop:=(∀ a∈x.P,okI .u8 a)/\(∀ a∈x.C,okI .u8 a)/\okI .u8 x.L/\okI .u8 x.R/\(okI .u8 x.W.a0/\okI .u8 x.W.a1)
theorem rd71:Reads Tryz.prog 71 eGRawRule okGRawRule:=by
 intro H e w base spare held fuel cs x h;obtain ⟨xs,n,_,_,hcl,hxl,hg⟩:=DataW.trod_struct Tryz.underlying71 h;have hcl:cs.length=6:=hcl.trans (by kernel_rfl);obtain ⟨a0,k0,c0⟩:=fld hg hxl 0 rfl 25 0 1 rfl rfl (by kernel_rfl) rd25;obtain ⟨a1,k1,c1⟩:=fld hg hxl 1 rfl 25 1 1 rfl rfl (by kernel_rfl) rd25;obtain ⟨a2,k2,c2⟩:=fld hg hxl 2 rfl 5 2 1 rfl rfl (by kernel_rfl) rd5;obtain ⟨a3,k3,c3⟩:=fld hg hxl 3 rfl 5 3 1 rfl rfl (by kernel_rfl) rd5;obtain ⟨a4,k4,c4⟩:=fld hg hxl 4 rfl 69 4 2 rfl rfl (by kernel_rfl) rd69;refine ⟨⟨a0,a1,a2,a3,a4⟩,⟨k0,k1,k2,k3,k4⟩,?_⟩;have:=crd_part c0 rfl (crd_part c1 rfl (crd_part c2 rfl (crd_part c3 rfl (crd_part c4 rfl (crd_end (Nat.le_of_eq hcl))))));exact this
theorem rd22:Reads Tryz.prog 22 (eL eGRawRule) (λ l=>∀ a∈l,okGRawRule a):=reads_slice (sz:=6) Tryz.underlying22 (by kernel_rfl) rfl (λ _=>rfl) rd71
def okGRaw (x:GRaw):Prop:=okI .u8 x.Base/\okI .u8 x.Drop/\(∀ a∈x.More,okGRawRule a)
theorem rd24:Reads Tryz.prog 24 eGRaw okGRaw:=by
 intro H e w base spare held fuel cs x h;obtain ⟨xs,n,_,_,hcl,hxl,hg⟩:=DataW.trod_struct Tryz.underlying24 h;have hcl:cs.length=3:=hcl.trans (by kernel_rfl);obtain ⟨a0,k0,c0⟩:=fld hg hxl 0 rfl 5 0 1 rfl rfl (by kernel_rfl) rd5;obtain ⟨a1,k1,c1⟩:=fld hg hxl 1 rfl 5 1 1 rfl rfl (by kernel_rfl) rd5;obtain ⟨a2,k2,c2⟩:=fld hg hxl 2 rfl 22 2 1 rfl rfl (by kernel_rfl) rd22;refine ⟨⟨a0,a1,a2⟩,⟨k0,k1,k2⟩,?_⟩;have:=crd_part c0 rfl (crd_part c1 rfl (crd_part c2 rfl (crd_end (Nat.le_of_eq hcl))));exact this
def okGSixdotref07Raw (x:GSixdotref07Raw):Prop:=okI .u8 x.At/\okI .u8 x.Cut/\(∀ a∈x.L,okI .u8 a)
theorem rd27:Reads Tryz.prog 27 eGSixdotref07Raw okGSixdotref07Raw:=by
 intro H e w base spare held fuel cs x h;obtain ⟨xs,n,_,_,hcl,hxl,hg⟩:=DataW.trod_struct Tryz.underlying27 h;have hcl:cs.length=3:=hcl.trans (by kernel_rfl);obtain ⟨a0,k0,c0⟩:=fld hg hxl 0 rfl 5 0 1 rfl rfl (by kernel_rfl) rd5;obtain ⟨a1,k1,c1⟩:=fld hg hxl 1 rfl 5 1 1 rfl rfl (by kernel_rfl) rd5;obtain ⟨a2,k2,c2⟩:=fld hg hxl 2 rfl 25 2 1 rfl rfl (by kernel_rfl) rd25;refine ⟨⟨a0,a1,a2⟩,⟨k0,k1,k2⟩,?_⟩;have:=crd_part c0 rfl (crd_part c1 rfl (crd_part c2 rfl (crd_end (Nat.le_of_eq hcl))));exact this
theorem rd47:Reads Tryz.prog 47 (eL eGSixdotref07Raw) (λ l=>∀ a∈l,okGSixdotref07Raw a):=reads_slice (sz:=3) Tryz.underlying47 (by kernel_rfl) rfl (λ _=>rfl) rd27
end Go.AI
end
section
namespace Go.AI
def Le {α:Type} (a b:Option α):Prop:=∀ z,a=some z->b=some z
theorem Le.refl {α:Type} (a:Option α):Le a a:=λ _ h=>h
theorem Le.bind {α β:Type} {a a':Option α} {f f':α->Option β} (h:Le a a') (hf:∀ x,Le (f x) (f' x)):Le (a.bind f) (a'.bind f'):=by
 intro z hz;obtain ⟨x,h1,h2⟩:=bind_some hz;rw [h x h1];exact hf x z h2
theorem Le.ite {α:Type} {c:Prop} [Decidable c] {a a' b b':Option α} (h:Le a a') (h':Le b b'):Le (if c then a else b) (if c then a' else b'):=by
 split
 ·exact h
 ·exact h'
theorem Le.whl {σ ρ:Type} {body body':σ->Option (σ⊕ρ)} (hb:∀ x,Le (body x) (body' x)):∀ {n m:Nat},n<=m->∀ x,Le (whl body n x) (whl body' m x):=by
 intro n;induction n with
 | zero=>intro m _ x z hz;cases hz
 | succ n ih=>
  intro m hm x z hz;cases m with
  | zero=>omega
  | succ m=>
   simp only [Go.AI.whl] at hz ⊢;cases hx:body x with
   | none=>rw [hx] at hz;cases hz
   | some y=>
    rw [hb x y hx];rw [hx] at hz;cases y with
    | inl y=>exact ih (by omega) y z hz
    | inr r=>exact hz
def Ev {α:Type} (f:Nat->Option α) (z:α):Prop:=∃ n,∀ m,n<=m->f m=some z
theorem Ev.const {α:Type} {z:α}:Ev (λ _=>some z) z:=⟨0,λ _ _=>rfl⟩
theorem Ev.of {α:Type} {f:Nat->Option α} {z:α} (hm:∀ n m,n<=m->Le (f n) (f m)) {n:Nat} (h:f n=some z):Ev f z:=⟨n,λ m hnm=>hm n m hnm z h⟩
theorem Ev.all {α:Type} {f:Nat->Option α} {z:α} (h:∀ n,f n=some z):Ev f z:=⟨0,λ m _=>h m⟩
theorem Ev.bind {α β:Type} {f:Nat->Option α} {g:Nat->α->Option β} {x:α} {z:β} (h:Ev f x) (hg:Ev (λ n=>g n x) z):Ev (λ n=>(f n).bind (g n)) z:=by
 obtain ⟨n,hn⟩:=h;obtain ⟨m,hm⟩:=hg;refine ⟨max n m,λ k hk=>?_⟩;show (f k).bind (g k)=_;rw [hn k (by omega)];exact hm k (by omega)
theorem Ev.out {α:Type} {f:Nat->Option α} {z:α} (h:Ev f z):∃ n,f n=some z:=by
 obtain ⟨n,hn⟩:=h;exact ⟨n,hn n (Nat.le_refl n)⟩
theorem Ev.congr {α:Type} {f g:Nat->Option α} {z:α} (h:Ev f z) (e:∀ n,g n=f n):Ev g z:=by
 obtain ⟨n,hn⟩:=h;exact ⟨n,λ m hm=>by rw [e m];exact hn m hm⟩
theorem Ev.whl {σ ρ:Type} {body:Nat->σ->Option (σ⊕ρ)} {r:ρ} (I:Nat->σ->Prop) (h:∀ k x,I k x->(∃ y j,j<k/\I j y/\Ev (λ n=>body n x) (.inl y))\/Ev (λ n=>body n x) (.inr r)):∀ (k:Nat) (x:σ),I k x->Ev (λ n=>Go.AI.whl (body n) n x) r:=by
 have key:∀ (k:Nat) (x:σ),I k x->∃ N c,∀ n fuel,N<=n->c<=fuel->Go.AI.whl (body n) fuel x=some r:=by
  intro k;induction k using Nat.strongRecOn with
  | _ k ih=>
   intro x hx;rcases h k x hx with ⟨y,j,hj,hy,N1,h1⟩|⟨N1,h1⟩
   ·obtain ⟨N2,c,h2⟩:=ih j hj y hy;refine ⟨max N1 N2,c+1,λ n fuel hn hf=>?_⟩;cases fuel with
    | zero=>omega
    | succ fuel=>
     have e:=h1 n (by omega);simp only at e;simp only [Go.AI.whl,e];exact h2 n fuel (by omega) (by omega)
   ·refine ⟨N1,1,λ n fuel hn hf=>?_⟩;cases fuel with
    | zero=>omega
    | succ fuel=>
     have e:=h1 n hn;simp only at e;simp only [Go.AI.whl,e]
 intro k x hx;obtain ⟨N,c,hh⟩:=key k x hx;exact ⟨max N c,λ m hm=>hh m m (by omega) (by omega)⟩
end Go.AI
end
section
namespace Go.AI
theorem lr {α:Type} {x:Option α}:Le x x:=Le.refl x
theorem FL7_simple_L1_le {n m} (_:n<=m) (a b):Le (FL7_simple_L1 n a b) (FL7_simple_L1 m a b):=.ite (.bind lr λ _=>.bind lr λ _=>.bind lr λ _=>lr) lr
theorem FL7_simple_le {n m} (h:n<=m):Le (FL7_simple n) (FL7_simple m):=.bind (Le.whl (λ _=>FL7_simple_L1_le h _ _) h _) λ _=>lr
theorem FTb_isCharacter_le {n m} (_:n<=m) (a):Le (FTb_isCharacter n a) (FTb_isCharacter m a):=lr
theorem FTb_Text_L1_le {n m} (h:n<=m) (a b):Le (FTb_Text_L1 n a b) (FTb_Text_L1 m a b):=.ite (.bind lr λ _=>.bind (FTb_isCharacter_le h _) λ _=>.ite lr lr) lr
theorem FTb_Text_le {n m} (h:n<=m) (a):Le (FTb_Text n a) (FTb_Text m a):=.bind (Le.whl (λ _=>FTb_Text_L1_le h _ _) h _) λ b=>by rcases b with _|_;exact lr;exact lr
theorem FAu_Start_le {n m} (_:n<=m):Le (FAu_Start n) (FAu_Start m):=lr
theorem FAu_has_le {n m} (_:n<=m) (a b):Le (FAu_has n a b) (FAu_has m a b):=.bind (Le.ite (lr) (lr)) λ _=>lr
theorem FTb_Class_le {n m} (_:n<=m) (a):Le (FTb_Class n a) (FTb_Class m a):=.ite lr (.ite lr (.ite lr (.ite lr lr)))
theorem FAu_Step_le {n m} (h:n<=m) (a b c):Le (FAu_Step n a b c) (FAu_Step m a b c):=.ite lr (.bind lr λ _=>.bind (Le.ite (FAu_has_le h _ _) (lr)) λ _=>.ite lr (.ite (.ite lr lr) (.bind lr λ _=>.bind (FTb_Class_le h _) λ _=>.bind (FAu_has_le h _ _) λ _=>.ite lr (.bind lr λ _=>.bind (FTb_Class_le h _) λ _=>lr))))
theorem FAu_explore_J1_le {n m} (_:n<=m) (a b c d):Le (FAu_explore_J1 n a b c d) (FAu_explore_J1 m a b c d):=lr
theorem FAu_explore_J2_le {n m} (h:n<=m) (a b c d e f):Le (FAu_explore_J2 n a b c d e f) (FAu_explore_J2 m a b c d e f):=.bind lr λ _=>.bind lr λ _=>FAu_explore_J1_le h _ _ _ _
theorem FAu_explore_L2_le {n m} (h:n<=m) (a b c d e f):Le (FAu_explore_L2 n a b c d e f) (FAu_explore_L2 m a b c d e f):=.ite (.bind lr λ _=>.bind (FAu_Step_le h _ _ _) λ _=>.ite (FAu_explore_J1_le h _ _ _ _) (.ite (.bind lr λ _=>.bind lr λ _=>FAu_explore_J2_le h _ _ _ _ _ _) (FAu_explore_J2_le h _ _ _ _ _ _))) lr
theorem FAu_explore_L1_le {n m} (h:n<=m) (a b c d e):Le (FAu_explore_L1 n a b c d e) (FAu_explore_L1 m a b c d e):=.ite (.bind (Le.whl (λ _=>FAu_explore_L2_le h _ _ _ _ _ _) h _) λ _=>lr) lr
theorem FAu_explore_le {n m} (h:n<=m) (a):Le (FAu_explore n a) (FAu_explore m a):=.bind (FAu_Start_le h) λ _=>.bind (Le.whl (λ _=>FAu_explore_L1_le h _ _ _ _ _) h _) λ _=>lr
theorem FAu_States_le {n m} (h:n<=m) (a):Le (FAu_States n a) (FAu_States m a):=.bind (FAu_explore_le h _) λ _=>lr
theorem FAu_Accepts_le {n m} (h:n<=m) (a b):Le (FAu_Accepts n a b) (FAu_Accepts m a b):=.bind (Le.ite (FAu_has_le h _ _) (lr)) λ _=>.bind (Le.ite (FAu_has_le h _ _) (lr)) λ _=>lr
theorem FSl_HasPrefix_le {n m} (_:n<=m) (a b):Le (FSl_HasPrefix n a b) (FSl_HasPrefix m a b):=.bind (Le.ite (lr) (lr)) λ _=>lr
theorem FSt_HasPrefix_le {n m} (h:n<=m) (a b):Le (FSt_HasPrefix n a b) (FSt_HasPrefix m a b):=.bind (FSl_HasPrefix_le h _ _) λ _=>lr
theorem FRv_newGraph_L1_le {n m} (_:n<=m) (a b c d):Le (FRv_newGraph_L1 n a b c d) (FRv_newGraph_L1 m a b c d):=.ite (.bind lr λ _=>lr) lr
theorem FRv_newGraph_J1_le {n m} (_:n<=m) (a b):Le (FRv_newGraph_J1 n a b) (FRv_newGraph_J1 m a b):=lr
theorem FRv_newGraph_L3_le {n m} (h:n<=m) (a b c d e f g):Le (FRv_newGraph_L3 n a b c d e f g) (FRv_newGraph_L3 m a b c d e f g):=.ite (.bind lr λ _=>.bind (FAu_Step_le h _ _ _) λ _=>.ite (.bind lr λ _=>.bind lr λ _=>FRv_newGraph_J1_le h _ _) (FRv_newGraph_J1_le h _ _)) lr
theorem FRv_newGraph_L2_le {n m} (h:n<=m) (a b c d e):Le (FRv_newGraph_L2 n a b c d e) (FRv_newGraph_L2 m a b c d e):=.ite (.bind lr λ _=>.bind (FAu_Accepts_le h _ _) λ _=>.bind lr λ _=>.bind lr λ _=>.bind (Le.whl (λ _=>FRv_newGraph_L3_le h _ _ _ _ _ _ _) h _) λ _=>lr) lr
theorem FRv_newGraph_le {n m} (h:n<=m) (a):Le (FRv_newGraph n a) (FRv_newGraph m a):=.bind (FAu_States_le h _) λ _=>.bind (Le.whl (λ _=>FRv_newGraph_L1_le h _ _ _ _) h _) λ _=>.bind lr λ _=>.bind lr λ _=>.bind (Le.whl (λ _=>FRv_newGraph_L2_le h _ _ _ _ _) h _) λ _=>lr
theorem FRv_graph_emptyx_L1_le {n m} (_:n<=m) (a b c d e f):Le (FRv_graph_emptyx_L1 n a b c d e f) (FRv_graph_emptyx_L1 m a b c d e f):=.ite (.bind lr λ _=>.bind lr λ _=>.bind lr λ _=>lr) lr
theorem FRv_graph_emptyx_le {n m} (h:n<=m) (a b):Le (FRv_graph_emptyx n a b) (FRv_graph_emptyx m a b):=.bind lr λ _=>.bind lr λ _=>.bind lr λ _=>.bind (Le.whl (λ _=>FRv_graph_emptyx_L1_le h _ _ _ _ _ _) h _) λ _=>lr
theorem FRv_graph_columns_le {n m} (_:n<=m) (a b c d e):Le (FRv_graph_columns n a b c d e) (FRv_graph_columns m a b c d e):=lr
theorem FRv_suffixx_le {n m} (_:n<=m) (a b c d e f):Le (FRv_suffixx n a b c d e f) (FRv_suffixx m a b c d e f):=.bind lr λ _=>.bind lr λ _=>.ite lr (.bind lr λ _=>.bind lr λ _=>.bind lr λ _=>lr)
theorem FRv_graph_columns_1_1_le {n m} (_:n<=m) (a b c d e):Le (FRv_graph_columns_1_1 n a b c d e) (FRv_graph_columns_1_1 m a b c d e):=.bind (Le.ite (lr) (lr)) λ _=>.bind (Le.ite (lr) (lr)) λ _=>.ite lr (.bind lr λ _=>.bind lr λ _=>lr)
theorem FRv_reduce_J1_le {n m} (_:n<=m) (a b):Le (FRv_reduce_J1 n a b) (FRv_reduce_J1 m a b):=lr
theorem FRv_reduce_L1_le {n m} (h:n<=m) (a b c d):Le (FRv_reduce_L1 n a b c d) (FRv_reduce_L1 m a b c d):=.ite (.bind lr λ _=>.ite (FRv_reduce_J1_le h _ _) (FRv_reduce_J1_le h _ _)) lr
theorem FRv_reduce_J2_le {n m} (_:n<=m) (a b):Le (FRv_reduce_J2 n a b) (FRv_reduce_J2 m a b):=lr
theorem FRv_reduce_L2_le {n m} (h:n<=m) (a b c d):Le (FRv_reduce_L2 n a b c d) (FRv_reduce_L2 m a b c d):=.ite (.bind lr λ _=>.ite (.bind lr λ _=>.bind lr λ _=>FRv_reduce_J2_le h _ _) (FRv_reduce_J2_le h _ _)) lr
theorem FRv_reduce_le {n m} (h:n<=m) (a b):Le (FRv_reduce n a b) (FRv_reduce m a b):=.bind (Le.whl (λ _=>FRv_reduce_L1_le h _ _ _ _) h _) λ _=>.bind (Le.whl (λ _=>FRv_reduce_L2_le h _ _ _ _) h _) λ _=>lr
theorem FRv_graph_columns_1_J1_le {n m} (_:n<=m) (a b):Le (FRv_graph_columns_1_J1 n a b) (FRv_graph_columns_1_J1 m a b):=lr
theorem FRv_graph_columns_1_L1_le {n m} (h:n<=m) (a b c d e f g i):Le (FRv_graph_columns_1_L1 n a b c d e f g i) (FRv_graph_columns_1_L1 m a b c d e f g i):=.ite (.bind lr λ _=>.bind lr λ _=>.bind (Le.ite (lr) (lr)) λ _=>.ite (.bind lr λ _=>.bind lr λ _=>FRv_graph_columns_1_J1_le h _ _) (FRv_graph_columns_1_J1_le h _ _)) lr
theorem FRv_graph_columns_1_J2_le {n m} (_:n<=m) (a b):Le (FRv_graph_columns_1_J2 n a b) (FRv_graph_columns_1_J2 m a b):=lr
theorem FRv_graph_columns_1_L3_le {n m} (h:n<=m) (a b c d e f g i j k):Le (FRv_graph_columns_1_L3 n a b c d e f g i j k) (FRv_graph_columns_1_L3 m a b c d e f g i j k):=.ite (.bind lr λ _=>.bind (Le.ite (lr) (lr)) λ _=>.bind (Le.ite (FSt_HasPrefix_le h _ _) (lr)) λ _=>.ite (.bind (FRv_suffixx_le h _ _ _ _ _ _) λ _=>.bind (FRv_graph_columns_1_1_le h _ _ _ _ _) λ _=>FRv_graph_columns_1_J2_le h _ _) (FRv_graph_columns_1_J2_le h _ _)) lr
theorem FRv_graph_columns_1_L2_le {n m} (h:n<=m) (a b c d e f g i):Le (FRv_graph_columns_1_L2 n a b c d e f g i) (FRv_graph_columns_1_L2 m a b c d e f g i):=.ite (.bind lr λ _=>.bind (Le.whl (λ _=>FRv_graph_columns_1_L3_le h _ _ _ _ _ _ _ _ _ _) h _) λ _=>lr) lr
theorem FRv_graph_columns_1_J3_le {n m} (_:n<=m) (a b c):Le (FRv_graph_columns_1_J3 n a b c) (FRv_graph_columns_1_J3 m a b c):=lr
theorem FRv_graph_columns_1_L6_le {n m} (h:n<=m) (a b c d e f g i j k):Le (FRv_graph_columns_1_L6 n a b c d e f g i j k) (FRv_graph_columns_1_L6 m a b c d e f g i j k):=.ite (.bind lr λ _=>.bind (Le.ite (lr) (lr)) λ _=>.ite (.bind (FRv_graph_columns_1_1_le h _ _ _ _ _) λ _=>.ite (FRv_graph_columns_1_J3_le h _ _ _) (FRv_graph_columns_1_J3_le h _ _ _)) (.ite (FRv_graph_columns_1_J3_le h _ _ _) (FRv_graph_columns_1_J3_le h _ _ _))) lr
theorem FRv_graph_columns_1_L5_le {n m} (h:n<=m) (a b c d e f g i):Le (FRv_graph_columns_1_L5 n a b c d e f g i) (FRv_graph_columns_1_L5 m a b c d e f g i):=.ite (.bind lr λ _=>.bind (Le.whl (λ _=>FRv_graph_columns_1_L6_le h _ _ _ _ _ _ _ _ _ _) h _) λ _=>lr) lr
theorem FRv_graph_columns_1_L4_le {n m} (h:n<=m) (a b c d e f g):Le (FRv_graph_columns_1_L4 n a b c d e f g) (FRv_graph_columns_1_L4 m a b c d e f g):=.ite (.bind (Le.whl (λ _=>FRv_graph_columns_1_L5_le h _ _ _ _ _ _ _ _) h _) λ _=>lr) lr
theorem FRv_graph_columns_1_le {n m} (h:n<=m) (a b c d e f):Le (FRv_graph_columns_1 n a b c d e f) (FRv_graph_columns_1 m a b c d e f):=.bind lr λ _=>.bind (Le.whl (λ _=>FRv_graph_columns_1_L1_le h _ _ _ _ _ _ _ _) h _) λ _=>.bind (Le.whl (λ _=>FRv_graph_columns_1_L2_le h _ _ _ _ _ _ _ _) h _) λ _=>.bind (Le.whl (λ _=>FRv_graph_columns_1_L4_le h _ _ _ _ _ _ _) h _) λ _=>.bind (FRv_reduce_le h _ _) λ _=>lr
theorem FRv_Start_L1_le {n m} (h:n<=m) (a b c d e f):Le (FRv_Start_L1 n a b c d e f) (FRv_Start_L1 m a b c d e f):=.ite (.bind (FRv_graph_columns_1_le h _ _ _ _ _ _) λ _=>.bind lr λ _=>.bind lr λ _=>lr) lr
theorem FRv_Start_le {n m} (h:n<=m) (a b):Le (FRv_Start n a b) (FRv_Start m a b):=.bind (FTb_Text_le h _) λ _=>.ite lr (.bind (FRv_newGraph_le h _) λ _=>.bind (FRv_graph_emptyx_le h _ _) λ _=>.bind (FRv_graph_columns_le h _ _ _ _ _) λ _=>.bind (Le.whl (λ _=>FRv_Start_L1_le h _ _ _ _ _ _) h _) λ _=>.bind lr λ _=>lr)
theorem FRv_graph_hasx_L1_le {n m} (_:n<=m) (a b c):Le (FRv_graph_hasx_L1 n a b c) (FRv_graph_hasx_L1 m a b c):=.ite (.bind lr λ _=>.ite lr lr) lr
theorem FRv_graph_hasx_le {n m} (h:n<=m) (a b):Le (FRv_graph_hasx n a b) (FRv_graph_hasx m a b):=.ite lr (.bind (Le.whl (λ _=>FRv_graph_hasx_L1_le h _ _ _) h _) λ c=>by rcases c with _|_;exact lr;exact lr)
theorem FSl_Equal_int_intx_L1_le {n m} (_:n<=m) (a b c d):Le (FSl_Equal_int_intx_L1 n a b c d) (FSl_Equal_int_intx_L1 m a b c d):=.ite (.bind lr λ _=>.bind lr λ _=>.ite lr lr) lr
theorem FSl_Equal_int_intx_le {n m} (h:n<=m) (a b c):Le (FSl_Equal_int_intx n a b c) (FSl_Equal_int_intx m a b c):=.ite lr (.bind (Le.whl (λ _=>FSl_Equal_int_intx_L1_le h _ _ _ _) h _) λ d=>by rcases d with _|_;exact lr;exact lr)
theorem FRv_settledx_J1_le {n m} (_:n<=m) (a b c):Le (FRv_settledx_J1 n a b c) (FRv_settledx_J1 m a b c):=lr
theorem FRv_settledx_L1_le {n m} (h:n<=m) (a b c d e f g i j):Le (FRv_settledx_L1 n a b c d e f g i j) (FRv_settledx_L1 m a b c d e f g i j):=.ite (.bind lr λ _=>.bind lr λ _=>.bind (FSl_Equal_int_intx_le h _ _ _) λ _=>.ite lr (.bind lr λ _=>.bind (Le.ite (lr) (lr)) λ _=>.ite (FRv_settledx_J1_le h _ _ _) (.bind lr λ _=>.bind lr λ _=>.ite lr (FRv_settledx_J1_le h _ _ _)))) lr
theorem FRv_settledx_le {n m} (h:n<=m) (a b c d e f):Le (FRv_settledx n a b c d e f) (FRv_settledx m a b c d e f):=.bind (Le.whl (λ _=>FRv_settledx_L1_le h _ _ _ _ _ _ _ _ _) h _) λ g=>by rcases g with _|_;exact lr;exact lr
theorem FRv_Change_L1_le {n m} (_:n<=m) (a b c d e f g i):Le (FRv_Change_L1 n a b c d e f g i) (FRv_Change_L1 m a b c d e f g i):=.ite (.bind lr λ _=>.bind lr λ _=>.bind lr λ _=>.bind lr λ _=>.bind lr λ _=>.bind lr λ _=>lr) lr
theorem FRv_Change_J1_le {n m} (_:n<=m) (a b c d):Le (FRv_Change_J1 n a b c d) (FRv_Change_J1 m a b c d):=lr
theorem FRv_Change_L2_le {n m} (h:n<=m) (a b c d e f g i j):Le (FRv_Change_L2 n a b c d e f g i j) (FRv_Change_L2 m a b c d e f g i j):=.ite (.bind (FRv_graph_columns_1_le h _ _ _ _ _ _) λ _=>.bind lr λ _=>.bind lr λ _=>.ite (FRv_Change_J1_le h _ _ _ _) (.bind (FRv_settledx_le h _ _ _ _ _ _) λ _=>.ite lr (FRv_Change_J1_le h _ _ _ _))) lr
theorem FRv_Change_J2_le {n m} (_:n<=m) (a b c):Le (FRv_Change_J2 n a b c) (FRv_Change_J2 m a b c):=lr
theorem FRv_Change_L3_le {n m} (h:n<=m) (a b c d e f g):Le (FRv_Change_L3 n a b c d e f g) (FRv_Change_L3 m a b c d e f g):=.ite (.bind lr λ _=>.bind lr λ _=>.bind lr λ _=>.bind lr λ _=>.bind lr λ _=>.bind lr λ _=>.bind lr λ _=>.ite (.bind lr λ _=>.bind lr λ _=>.bind lr λ _=>FRv_Change_J2_le h _ _ _) (FRv_Change_J2_le h _ _ _)) lr
theorem FRv_Change_le {n m} (h:n<=m) (a b c):Le (FRv_Change n a b c) (FRv_Change m a b c):=.ite lr (.bind lr λ _=>.bind lr λ _=>.bind lr λ _=>.bind lr λ _=>.bind (FTb_Text_le h _) λ _=>.ite lr (.bind (FRv_newGraph_le h _) λ _=>.bind (FRv_graph_hasx_le h _ _) λ _=>.ite lr (.bind (FRv_graph_emptyx_le h _ _) λ _=>.bind (Le.whl (λ _=>FRv_Change_L1_le h _ _ _ _ _ _ _ _) h _) λ _=>.bind (FRv_graph_columns_le h _ _ _ _ _) λ _=>.bind (Le.whl (λ _=>FRv_Change_L2_le h _ _ _ _ _ _ _ _ _) h _) λ _=>.bind (Le.whl (λ _=>FRv_Change_L3_le h _ _ _ _ _ _ _) h _) λ _=>.bind lr λ _=>lr)))
theorem FTb_hasSpace_L1_le {n m} (h:n<=m) (a b):Le (FTb_hasSpace_L1 n a b) (FTb_hasSpace_L1 m a b):=.ite (.bind lr λ _=>.bind (FTb_Class_le h _) λ _=>.ite lr lr) lr
theorem FTb_hasSpace_le {n m} (h:n<=m) (a):Le (FTb_hasSpace n a) (FTb_hasSpace m a):=.bind (Le.whl (λ _=>FTb_hasSpace_L1_le h _ _) h _) λ b=>by rcases b with _|_;exact lr;exact lr
theorem FCe_Valid_le {n m} (_:n<=m) (a):Le (FCe_Valid n a) (FCe_Valid m a):=lr
theorem FTb_sound_L1_le {n m} (h:n<=m) (a b):Le (FTb_sound_L1 n a b) (FTb_sound_L1 m a b):=.ite (.bind lr λ _=>.bind (FCe_Valid_le h _) λ _=>.ite lr lr) lr
theorem FTb_sound_le {n m} (h:n<=m) (a b):Le (FTb_sound n a b) (FTb_sound m a b):=.ite lr (.bind (FTb_Text_le h _) λ _=>.ite lr (.ite lr (.ite lr (.bind (FTb_hasSpace_le h _) λ _=>.ite (.bind (Le.ite (lr) (lr)) λ _=>lr) (.bind (Le.whl (λ _=>FTb_sound_L1_le h _ _) h _) λ c=>by rcases c with _|_;exact lr;exact lr)))))
theorem FApi_Cell_L1_le {n m} (_:n<=m) (a b c):Le (FApi_Cell_L1 n a b c) (FApi_Cell_L1 m a b c):=.ite (.bind lr λ _=>.bind lr λ _=>.ite lr lr) lr
theorem FApi_Cell_le {n m} (h:n<=m) (a b):Le (FApi_Cell n a b) (FApi_Cell m a b):=.ite lr (.bind (Le.whl (λ _=>FApi_Cell_L1_le h _ _ _) h _) λ c=>by rcases c with _|_;exact lr;exact lr)
theorem FTb_equal_le {n m} (h:n<=m) (a b):Le (FTb_equal n a b) (FTb_equal m a b):=.bind (Le.ite (FApi_Cell_le h _ _) (lr)) λ _=>lr
theorem FTb_Check_L2_le {n m} (h:n<=m) (a b c d e):Le (FTb_Check_L2 n a b c d e) (FTb_Check_L2 m a b c d e):=.ite (.bind lr λ _=>.bind (FTb_equal_le h _ _) λ _=>.ite lr lr) lr
theorem FTb_Check_L1_le {n m} (h:n<=m) (a b):Le (FTb_Check_L1 n a b) (FTb_Check_L1 m a b):=.ite (.bind lr λ _=>.bind (FTb_sound_le h _ _) λ _=>.ite lr (.bind lr λ _=>.bind (Le.whl (λ _=>FTb_Check_L2_le h _ _ _ _ _) h _) λ c=>by rcases c with _|_;exact lr;exact lr)) lr
theorem FTb_Check_le {n m} (h:n<=m) (a):Le (FTb_Check n a) (FTb_Check m a):=.ite lr (.bind (Le.ite (lr) (lr)) λ _=>.ite lr (.ite lr (.bind (Le.whl (λ _=>FTb_Check_L1_le h _ _) h _) λ b=>by rcases b with _|_;exact lr;exact lr)))
theorem FTb_Valid_le {n m} (h:n<=m) (a):Le (FTb_Valid n a) (FTb_Valid m a):=.bind (FTb_Check_le h _) λ _=>lr
theorem FCmp_isNaN_int_le {n m} (_:n<=m) (a):Le (FCmp_isNaN_int n a) (FCmp_isNaN_int m a):=lr
theorem FCmp_Less_int_le {n m} (h:n<=m) (a b):Le (FCmp_Less_int n a b) (FCmp_Less_int m a b):=.bind (FCmp_isNaN_int_le h _) λ _=>.bind (Le.ite (FCmp_isNaN_int_le h _) (lr)) λ _=>lr
theorem FSl_isNaN_int_le {n m} (_:n<=m) (a):Le (FSl_isNaN_int n a) (FSl_isNaN_int m a):=lr
theorem FSl_BinarySearch_int_int_L1_le {n m} (h:n<=m) (a b c d):Le (FSl_BinarySearch_int_int_L1 n a b c d) (FSl_BinarySearch_int_int_L1 m a b c d):=.ite (.bind lr λ _=>.bind (FCmp_Less_int_le h _ _) λ _=>.ite lr lr) lr
theorem FSl_BinarySearch_int_int_le {n m} (h:n<=m) (a b):Le (FSl_BinarySearch_int_int n a b) (FSl_BinarySearch_int_int m a b):=.bind (Le.whl (λ _=>FSl_BinarySearch_int_int_L1_le h _ _ _ _) h _) λ _=>.bind (Le.ite (lr) (lr)) λ _=>.bind (Le.ite (lr) (lr)) λ _=>.bind (Le.ite (FSl_isNaN_int_le h _) (lr)) λ _=>.bind (Le.ite (FSl_isNaN_int_le h _) (lr)) λ _=>lr
theorem FTr_column_find_le {n m} (h:n<=m) (a b):Le (FTr_column_find n a b) (FTr_column_find m a b):=.bind (FSl_BinarySearch_int_int_le h _ _) λ _=>.ite lr (.bind lr λ _=>lr)
theorem FTr_newWriter_L1_le {n m} (_:n<=m) (a b c d e f):Le (FTr_newWriter_L1 n a b c d e f) (FTr_newWriter_L1 m a b c d e f):=.ite (.bind lr λ _=>lr) lr
theorem FTr_newWriter_J1_le {n m} (_:n<=m) (a b):Le (FTr_newWriter_J1 n a b) (FTr_newWriter_J1 m a b):=lr
theorem FTr_newWriter_L3_le {n m} (h:n<=m) (a b c d e f g):Le (FTr_newWriter_L3 n a b c d e f g) (FTr_newWriter_L3 m a b c d e f g):=.ite (.bind (FAu_Step_le h _ _ _) λ _=>.ite (.bind lr λ _=>.bind lr λ _=>FTr_newWriter_J1_le h _ _) (FTr_newWriter_J1_le h _ _)) lr
theorem FTr_newWriter_L2_le {n m} (h:n<=m) (a b c d e):Le (FTr_newWriter_L2 n a b c d e) (FTr_newWriter_L2 m a b c d e):=.ite (.bind lr λ _=>.bind (Le.whl (λ _=>FTr_newWriter_L3_le h _ _ _ _ _ _ _) h _) λ _=>lr) lr
theorem FTr_newWriter_le {n m} (h:n<=m) (a b):Le (FTr_newWriter n a b) (FTr_newWriter m a b):=.bind (FAu_States_le h _) λ _=>.bind lr λ _=>.bind (Le.whl (λ _=>FTr_newWriter_L1_le h _ _ _ _ _ _) h _) λ _=>.bind lr λ _=>.bind (Le.whl (λ _=>FTr_newWriter_L2_le h _ _ _ _ _) h _) λ _=>lr
theorem FTr_writer_reach_1_le {n m} (_:n<=m) (a b c d):Le (FTr_writer_reach_1 n a b c d) (FTr_writer_reach_1 m a b c d):=.bind lr λ _=>.bind lr λ _=>.bind lr λ _=>.ite (.bind lr λ _=>.bind lr λ _=>.bind lr λ _=>.bind lr λ _=>lr) lr
theorem FTr_writer_printsx_le {n m} (h:n<=m) (a b c):Le (FTr_writer_printsx n a b c) (FTr_writer_printsx m a b c):=.bind lr λ _=>.bind lr λ _=>.bind (FSt_HasPrefix_le h _ _) λ _=>lr
theorem FSort_le {n m} (_:n<=m) (a):Le (FSort n a) (FSort m a):=lr
theorem FTr_writer_reach_L1_le {n m} (_:n<=m) (a b c):Le (FTr_writer_reach_L1 n a b c) (FTr_writer_reach_L1 m a b c):=.ite (.bind lr λ _=>.bind lr λ _=>.bind lr λ _=>lr) lr
theorem FTr_writer_reach_J3_le {n m} (_:n<=m) (a b c):Le (FTr_writer_reach_J3 n a b c) (FTr_writer_reach_J3 m a b c):=lr
theorem FTr_writer_reach_L4_le {n m} (h:n<=m) (a b c d e f g i):Le (FTr_writer_reach_L4 n a b c d e f g i) (FTr_writer_reach_L4 m a b c d e f g i):=.ite (.bind lr λ _=>.bind (FTr_writer_printsx_le h _ _ _) λ _=>.ite (.bind (FTr_writer_reach_1_le h _ _ _ _) λ _=>FTr_writer_reach_J3_le h _ _ _) (FTr_writer_reach_J3_le h _ _ _)) lr
theorem FTr_writer_reach_J2_le {n m} (h:n<=m) (a b c d e f g):Le (FTr_writer_reach_J2 n a b c d e f g) (FTr_writer_reach_J2 m a b c d e f g):=.bind lr λ _=>.bind (Le.whl (λ _=>FTr_writer_reach_L4_le h _ _ _ _ _ _ _ _) h _) λ _=>lr
theorem FTr_writer_reach_L3_le {n m} (h:n<=m) (a b c d e f):Le (FTr_writer_reach_L3 n a b c d e f) (FTr_writer_reach_L3 m a b c d e f):=.bind lr λ _=>.ite (.bind lr λ _=>.bind lr λ _=>.bind lr λ _=>.bind lr λ _=>.ite (FTr_writer_reach_J2_le h _ _ _ _ _ _ _) (FTr_writer_reach_J2_le h _ _ _ _ _ _ _)) lr
theorem FTr_writer_reach_J1_le {n m} (h:n<=m) (a b c d e):Le (FTr_writer_reach_J1 n a b c d e) (FTr_writer_reach_J1 m a b c d e):=.bind (Le.whl (λ _=>FTr_writer_reach_L3_le h _ _ _ _ _ _) h _) λ _=>.bind lr λ _=>.bind (FSort_le h _) λ _=>.bind lr λ _=>.bind lr λ _=>.bind lr λ _=>lr
theorem FTr_writer_reach_L2_le {n m} (h:n<=m) (a b c d):Le (FTr_writer_reach_L2 n a b c d) (FTr_writer_reach_L2 m a b c d):=.ite (.ite (.bind lr λ _=>.bind (FTb_Class_le h _) λ _=>FTr_writer_reach_J1_le h _ _ _ _ _) (FTr_writer_reach_J1_le h _ _ _ _ _)) lr
theorem FTr_writer_reach_le {n m} (h:n<=m) (a):Le (FTr_writer_reach n a) (FTr_writer_reach m a):=.bind (Le.whl (λ _=>FTr_writer_reach_L1_le h _ _ _) h _) λ _=>.bind (FTr_writer_reach_1_le h _ _ _ _) λ _=>.bind (Le.whl (λ _=>FTr_writer_reach_L2_le h _ _ _ _) h _) λ _=>lr
theorem FTr_writer_price_1_J1_le {n m} (_:n<=m) (a b c):Le (FTr_writer_price_1_J1 n a b c) (FTr_writer_price_1_J1 m a b c):=lr
theorem FTr_writer_price_1_L1_le {n m} (h:n<=m) (a b c d e f g i):Le (FTr_writer_price_1_L1 n a b c d e f g i) (FTr_writer_price_1_L1 m a b c d e f g i):=.ite (.bind lr λ _=>.bind (FTr_writer_printsx_le h _ _ _) λ _=>.ite (FTr_writer_price_1_J1_le h _ _ _) (.bind lr λ _=>.bind (FTr_column_find_le h _ _) λ _=>.bind lr λ _=>.bind lr λ _=>.bind (Le.ite (lr) (lr)) λ _=>.bind (Le.ite (lr) (lr)) λ _=>.ite (.bind lr λ _=>.bind lr λ _=>.bind lr λ _=>FTr_writer_price_1_J1_le h _ _ _) (FTr_writer_price_1_J1_le h _ _ _))) lr
theorem FTr_writer_price_1_le {n m} (h:n<=m) (a b c d e):Le (FTr_writer_price_1 n a b c d e) (FTr_writer_price_1 m a b c d e):=.bind lr λ _=>.bind lr λ _=>.bind lr λ _=>.bind (Le.whl (λ _=>FTr_writer_price_1_L1_le h _ _ _ _ _ _ _ _) h _) λ _=>lr
theorem FTr_writer_price_J1_le {n m} (_:n<=m) (a b):Le (FTr_writer_price_J1 n a b) (FTr_writer_price_J1 m a b):=lr
theorem FTr_writer_price_L2_le {n m} (h:n<=m) (a b c d e f g):Le (FTr_writer_price_L2 n a b c d e f g) (FTr_writer_price_L2 m a b c d e f g):=.ite (.bind lr λ _=>.bind lr λ _=>.bind lr λ _=>.bind lr λ _=>.bind (Le.ite (lr) (lr)) λ _=>.bind (Le.ite (FAu_Accepts_le h _ _) (lr)) λ _=>.ite (.bind lr λ _=>.bind lr λ _=>FTr_writer_price_J1_le h _ _) (FTr_writer_price_J1_le h _ _)) lr
theorem FTr_writer_price_L3_le {n m} (h:n<=m) (a b c d):Le (FTr_writer_price_L3 n a b c d) (FTr_writer_price_L3 m a b c d):=.ite (.bind (FTr_writer_price_1_le h _ _ _ _ _) λ _=>lr) lr
theorem FTr_writer_price_L5_le {n m} (h:n<=m) (a b c d e):Le (FTr_writer_price_L5 n a b c d e) (FTr_writer_price_L5 m a b c d e):=.ite (.bind (FTr_writer_price_1_le h _ _ _ _ _) λ _=>lr) lr
theorem FTr_writer_price_L4_le {n m} (h:n<=m) (a b):Le (FTr_writer_price_L4 n a b) (FTr_writer_price_L4 m a b):=.bind lr λ _=>.bind (Le.whl (λ _=>FTr_writer_price_L5_le h _ _ _ _ _) h _) λ _=>.ite lr lr
theorem FTr_writer_price_L1_le {n m} (h:n<=m) (a b):Le (FTr_writer_price_L1 n a b) (FTr_writer_price_L1 m a b):=.ite (.bind lr λ _=>.bind lr λ _=>.bind lr λ _=>.bind lr λ _=>.bind (Le.whl (λ _=>FTr_writer_price_L2_le h _ _ _ _ _ _ _) h _) λ _=>.bind lr λ _=>.bind (Le.whl (λ _=>FTr_writer_price_L3_le h _ _ _ _) h _) λ _=>.bind (Le.whl (λ _=>FTr_writer_price_L4_le h _ _) h _) λ _=>lr) lr
theorem FTr_writer_price_le {n m} (h:n<=m) (a):Le (FTr_writer_price n a) (FTr_writer_price m a):=.bind (Le.whl (λ _=>FTr_writer_price_L1_le h _ _) h _) λ _=>lr
theorem FTr_writer_writingx_J1_le {n m} (_:n<=m) (a):Le (FTr_writer_writingx_J1 n a) (FTr_writer_writingx_J1 m a):=lr
theorem FTr_writer_writingx_L2_le {n m} (h:n<=m) (a b c d e f):Le (FTr_writer_writingx_L2 n a b c d e f) (FTr_writer_writingx_L2 m a b c d e f):=.ite (.bind lr λ _=>.bind (FTr_writer_printsx_le h _ _ _) λ _=>.ite (FTr_writer_writingx_J1_le h _) (.bind lr λ _=>.bind lr λ _=>.bind (FTr_column_find_le h _ _) λ _=>.ite (FTr_writer_writingx_J1_le h _) (.bind lr λ _=>.bind lr λ _=>lr))) lr
theorem FTr_writer_writingx_L1_le {n m} (h:n<=m) (a b c d e):Le (FTr_writer_writingx_L1 n a b c d e) (FTr_writer_writingx_L1 m a b c d e):=.ite (.bind lr λ _=>.bind (Le.whl (λ _=>FTr_writer_writingx_L2_le h _ _ _ _ _ _) h _) λ f=>by rcases f with _|_;exact lr;exact lr) lr
theorem FTr_writer_writingx_le {n m} (h:n<=m) (a):Le (FTr_writer_writingx n a) (FTr_writer_writingx m a):=.bind lr λ _=>.bind (FTr_column_find_le h _ _) λ _=>.bind (Le.whl (λ _=>FTr_writer_writingx_L1_le h _ _ _ _ _) h _) λ _=>lr
theorem FTr_Write_le {n m} (h:n<=m) (a b):Le (FTr_Write n a b) (FTr_Write m a b):=.bind (FTb_Text_le h _) λ _=>.ite lr (.bind (FTb_Valid_le h _) λ _=>.ite lr (.bind (FTr_newWriter_le h _ _) λ _=>.bind (FTr_writer_reach_le h _) λ _=>.bind (FTr_writer_price_le h _) λ _=>.bind lr λ _=>.bind lr λ _=>.ite lr (.bind (FTr_writer_writingx_le h _) λ _=>lr)))
theorem FRv_Result_le {n m} (h:n<=m) (a b):Le (FRv_Result n a b) (FRv_Result m a b):=.bind (FTr_Write_le h _ _) λ _=>.ite lr lr
theorem FR6_Ints_L1_le {n m} (_:n<=m) (a b c):Le (FR6_Ints_L1 n a b c) (FR6_Ints_L1 m a b c):=.ite (.bind lr λ _=>.bind lr λ _=>.ite lr lr) lr
theorem FR6_Ints_le {n m} (h:n<=m) (a b):Le (FR6_Ints n a b) (FR6_Ints m a b):=.ite lr (.bind (Le.whl (λ _=>FR6_Ints_L1_le h _ _ _) h _) λ c=>by rcases c with _|_;exact lr;exact lr)
theorem FR2_SameCells_L1_le {n m} (_:n<=m) (a b c):Le (FR2_SameCells_L1 n a b c) (FR2_SameCells_L1 m a b c):=.ite (.bind lr λ _=>.bind lr λ _=>.ite lr lr) lr
theorem FR2_SameCells_le {n m} (h:n<=m) (a b):Le (FR2_SameCells n a b) (FR2_SameCells m a b):=.ite lr (.bind (Le.whl (λ _=>FR2_SameCells_L1_le h _ _ _) h _) λ c=>by rcases c with _|_;exact lr;exact lr)
theorem FR6_Same_le {n m} (h:n<=m) (a b):Le (FR6_Same n a b) (FR6_Same m a b):=.bind (FR2_SameCells_le h _ _) λ _=>.bind (Le.ite (FR6_Ints_le h _ _) (lr)) λ _=>lr
theorem FL7_sanity_le {n m} (h:n<=m):Le (FL7_sanity n) (FL7_sanity m):=.bind (FL7_simple_le h) λ _=>.bind (FRv_Start_le h _ _) λ _=>.bind (FRv_Start_le h _ _) λ _=>.bind (FRv_Change_le h _ _ _) λ _=>.bind (FRv_Change_le h _ _ _) λ _=>.bind (FRv_Change_le h _ _ _) λ _=>.bind (FRv_Result_le h _ _) λ _=>.bind (FRv_Start_le h _ _) λ _=>.bind (FRv_Result_le h _ _) λ _=>.bind (Le.ite (FR6_Ints_le h _ _) (lr)) λ _=>.bind (Le.ite (FR6_Ints_le h _ _) (lr)) λ _=>.bind (Le.ite (FR6_Same_le h _ _) (lr)) λ _=>.bind (Le.ite (FR6_Ints_le h _ _) (lr)) λ _=>lr
end Go.AI
end
section
namespace Go.AI
theorem wrap64_def (a:Int):IntKind.i64.wrap a=if decide (a % 18446744073709551616>=9223372036854775808)=true then a % 18446744073709551616-18446744073709551616 else a % 18446744073709551616:=rfl
theorem wrap8_def (a:Int):IntKind.u8.wrap a=a % 256:=rfl
theorem wrap64 {a:Int} (h:-9223372036854775808<=a) (h':a<9223372036854775808):IntKind.i64.wrap a=a:=by
 rw [wrap64_def];split
 ·rename_i hc;simp at hc;omega
 ·rename_i hc;simp at hc;omega
theorem iadd64 {a b:Int} (h:-9223372036854775808<=a+b) (h':a+b<9223372036854775808):iadd .i64 a b=a+b:=wrap64 h h'
theorem isub64 {a b:Int} (h:-9223372036854775808<=a-b) (h':a-b<9223372036854775808):isub .i64 a b=a-b:=wrap64 h h'
theorem wrap8 {a:Int} (h:0<=a) (h':a<256):IntKind.u8.wrap a=a:=by
 rw [wrap8_def];omega
theorem wrap8_range (a:Int):0<=IntKind.u8.wrap a/\IntKind.u8.wrap a<256:=by
 rw [wrap8_def];omega
def hasS (m k:Int):Bool:=decide (0<=k)&&decide (k<8)&&(iand .u8 (ishr .u8 m k) 1==1)
theorem has_eq (n:Nat) (m k:Int):FAu_has n m k=some (hasS m k):=by
 unfold FAu_has hasS;by_cases h:0<=k
 ·by_cases h':k<8<;>simp [h,h',guardB]
 ·simp [h]
theorem bit_eq (n:Nat) (m k:Int):FR3_Bit n m k=some (hasS m k):=by
 unfold FR3_Bit hasS;by_cases h:0<=k
 ·by_cases h':k<8<;>simp [h,h',guardB]
 ·simp [h]
def classS (b:Int):Int:=
 if (decide (97<=iand .u8 b 127)&&decide (iand .u8 b 127<=122))=true then 1
 else if (decide (65<=iand .u8 b 127)&&decide (iand .u8 b 127<=90))=true then 2
 else if (decide (48<=iand .u8 b 127)&&decide (iand .u8 b 127<=57))=true then 3
 else if (iand .u8 b 127==32)=true then 4 else 5
theorem class_eq (n:Nat) (b:Int):FTb_Class n b=some (classS b):=by
 unfold FTb_Class classS;split
 ·rfl
 ·split
  ·rfl
  ·split
   ·rfl
   ·split<;>rfl
theorem class2_eq (n:Nat) (b:Int):FR2_Class n b=some (classS b):=by
 unfold FR2_Class classS;simp only [ge_iff_le];split
 ·rfl
 ·split
  ·rfl
  ·split
   ·rfl
   ·split<;>rfl
theorem class_range (b:Int):1<=classS b/\classS b<=5:=by
 unfold classS;split
 ·omega
 ·split
  ·omega
  ·split
   ·omega
   ·split<;>omega
def byteS (s:List UInt8) (i:Nat):Int:=(s[i]?.getD 0).toNat
theorem sidx_eq {s:List UInt8} {i:Nat} (h:i<s.length):sidx s (i:Int)=some (byteS s i):=by
 unfold sidx byteS;rw [if_pos (by omega)];simp
def noneS:GState:=⟨0,0,0⟩
def stepR (r:GRule) (s:GState):GState×Bool:=
 if ((r.From != s.Mode)||!hasS r.Left s.Last)=true then (noneS,false)
 else if (r.Print==[])=true then
  (if (iand .u8 s.Need r.Right==0)=true then (noneS,false) else (⟨r.To,s.Last,iand .u8 s.Need r.Right⟩,true))
 else if (!hasS s.Need (classS (byteS r.Print 0)))=true then (noneS,false)
 else (⟨r.To,classS (byteS r.Print (r.Print.length-1)),r.Right⟩,true)
def stepS (t:GTable) (s:GState) (k:Int):GState×Bool:=
 if (decide (k<0)||decide (k>=(t.Rules.length:Int)))=true then (noneS,false) else stepR (t.Rules[k.toNat]?.getD default) s
def Short (t:GTable):Prop:=∀ r∈t.Rules,r.Print.length<9223372036854775808
theorem idx_getD {α:Type} [Inhabited α] {l:List α} {k:Int} (h:0<=k) (h':k<l.length):idx l k=some (l[k.toNat]?.getD default):=by
 unfold idx;rw [if_pos h];have:k.toNat<l.length:=by omega
 simp [this]
theorem step_eq {t:GTable} (ht:Short t) (n:Nat) (s:GState) (k:Int):FAu_Step n t s k=some (stepS t s k):=by
 unfold FAu_Step stepS;by_cases hk:(decide (k<0)||decide (k>=(t.Rules.length:Int)))=true
 ·rw [if_pos hk,if_pos hk];rfl
 ·rw [if_neg hk,if_neg hk];simp only [Bool.or_eq_true,decide_eq_true_eq,not_or,Int.not_lt,ge_iff_le,Int.not_le] at hk;rw [idx_getD hk.1 hk.2];have hmem:(t.Rules[k.toNat]?.getD default)∈t.Rules:=by
   have:k.toNat<t.Rules.length:=by omega
   simp [this]
  have hlen:=ht _ hmem;generalize t.Rules[k.toNat]?.getD default=r at hlen ⊢;simp only [Option.bind_some,has_eq,class_eq];unfold stepR;by_cases h1:r.From=s.Mode
  ·simp only [h1,bne_self_eq_false,Bool.not_false,if_true,Option.bind_some,Bool.false_or];by_cases h2:hasS r.Left s.Last=true
   ·simp only [h2,Bool.not_true,Bool.false_eq_true,if_false];by_cases h3:r.Print=[]
    ·simp only [h3,beq_self_eq_true,if_true];split<;>rfl
    ·have h3':(r.Print==[])=false:=by simpa using h3
     have hpos:0<r.Print.length:=List.length_pos_iff.2 h3;simp only [h3',Bool.false_eq_true,if_false];have e0:=sidx_eq (s:=r.Print) (i:=0) hpos;simp only [Int.natCast_zero] at e0;rw [e0];have e1:isub .i64 ((r.Print.length:Nat):Int) 1=((r.Print.length-1:Nat):Int):=by rw [isub64 (by omega) (by omega)];omega
     rw [e1,sidx_eq (by omega)];simp only [Option.bind_some];split<;>rfl
   ·have h2:hasS r.Left s.Last=false:=by simpa using h2
    simp only [h2,Bool.not_false,if_true];rfl
  ·have h1':(r.From != s.Mode)=true:=by simpa using h1
   simp only [h1',Bool.not_true,Bool.false_eq_true,if_false,Option.bind_some,Bool.true_or,if_true];rfl
end Go.AI
end
section
namespace Go.AI
theorem getElem?_lt' {α:Type} {l:List α} {i:Nat} {x:α} (h:l[i]? = some x):i<l.length:=(List.getElem?_eq_some_iff.1 h).1
theorem step3_eq {t:GTable} (ht:Short t) (n:Nat) (s:GState) (k:Int):FR3_Step n t s k=some (stepS t s k):=by
 unfold FR3_Step stepS;by_cases hk:(decide (k<0)||decide (k>=(t.Rules.length:Int)))=true
 ·rw [if_pos hk,if_pos hk];rfl
 ·rw [if_neg hk,if_neg hk];simp only [Bool.or_eq_true,decide_eq_true_eq,not_or,Int.not_lt,ge_iff_le,Int.not_le] at hk;rw [idx_getD hk.1 hk.2];have hmem:(t.Rules[k.toNat]?.getD default)∈t.Rules:=by
   have:k.toNat<t.Rules.length:=by omega
   simp [this]
  have hlen:=ht _ hmem;generalize t.Rules[k.toNat]?.getD default=r at hlen ⊢;simp only [Option.bind_some,bit_eq,class2_eq];unfold stepR;by_cases h1:r.From=s.Mode
  ·simp only [h1,bne_self_eq_false,Bool.not_false,if_true,Option.bind_some,Bool.false_or];by_cases h2:hasS r.Left s.Last=true
   ·simp only [h2,Bool.not_true,Bool.false_eq_true,if_false];by_cases h3:r.Print=[]
    ·simp only [h3,List.length_nil,Int.natCast_zero,beq_self_eq_true,Bool.true_and,if_true];split<;>rfl
    ·have h3':(r.Print==[])=false:=by simpa using h3
     have hpos:0<r.Print.length:=List.length_pos_iff.2 h3;have h4:(((r.Print.length:Nat):Int)==0)=false:=by simp;omega
     simp only [h3',h4,Bool.false_and,Bool.false_eq_true,if_false];have e0:=sidx_eq (s:=r.Print) (i:=0) hpos;simp only [Int.natCast_zero] at e0;rw [e0];have e1:isub .i64 ((r.Print.length:Nat):Int) 1=((r.Print.length-1:Nat):Int):=by rw [isub64 (by omega) (by omega)];omega
     rw [e1,sidx_eq (by omega)];simp only [Option.bind_some];split<;>rfl
   ·have h2:hasS r.Left s.Last=false:=by simpa using h2
    simp only [h2,Bool.not_false,if_true];rfl
  ·have h1':(r.From != s.Mode)=true:=by simpa using h1
   simp only [h1',Bool.not_true,Bool.false_eq_true,if_false,Option.bind_some,Bool.true_or,if_true];rfl
def acceptsS (t:GTable) (s:GState):Bool:=decide (s.Mode<t.Modes)&&hasS t.Accept s.Mode&&hasS s.Need 0
theorem accepts_eq (n:Nat) (t:GTable) (s:GState):FAu_Accepts n t s=some (acceptsS t s):=by
 unfold FAu_Accepts acceptsS;simp only [has_eq];by_cases h1:s.Mode<t.Modes
 ·cases h2:hasS t.Accept s.Mode<;>simp [h1]
 ·simp [h1]
theorem accepts3_eq (n:Nat) (t:GTable) (s:GState):FR3_Accepts n t s=some (acceptsS t s):=by
 unfold FR3_Accepts acceptsS;simp only [bit_eq];have h0:¬ (0<=s.Mode)->hasS t.Accept s.Mode=false:=λ h=>by simp [hasS,h]
 by_cases h:0<=s.Mode
 ·by_cases h1:s.Mode<t.Modes
  ·cases h2:hasS t.Accept s.Mode<;>simp [h,h1]
  ·simp [h1]
 ·simp [h,h0 h]
theorem eqS (a b:GState):((a.Mode==b.Mode)&&((a.Last==b.Last)&&((a.Need==b.Need)&&true)))=decide (a=b):=by
 cases a;cases b;simp [Bool.decide_and];rfl
def indexS (l:List GState) (s:GState):Int:=match l.findIdx? (λ x=>decide (x=s)) with
 | some i=>i
 | none=>-1
theorem index_ev {l:List GState} {s:GState} (hl:l.length<9223372036854775807):Ev (λ n=>FR3_Index n l s) (indexS l s):=by
 have loop:Ev (λ n=>whl (λ x=>FR3_Index_L1 n l s x) n (0:Int)) (match l.findIdx? (λ x=>decide (x=s)) with|some i=>(.inr (i:Int):Unit⊕Int)|none=>.inl ()):=by
  refine Ev.whl (body:=λ n x=>FR3_Index_L1 n l s x) (λ k x=>∃ i:Nat,x=i/\i<=l.length/\k=l.length-i/\∀ j,j<i->∀ y,l[j]? = some y->y≠s) ?_ l.length 0 ⟨0,rfl,by omega,by omega,λ j hj=>by omega⟩;rintro k x ⟨i,rfl,hi,rfl,hbefore⟩;by_cases hlt:i<l.length
  ·have hg:l[i]? = some l[i]:=List.getElem?_eq_getElem hlt;have hidx:idx l (i:Int)=some l[i]:=by
    unfold idx;rw [if_pos (by omega)];simp
   by_cases he:l[i]=s
   ·right;refine Ev.all λ n=>?_;unfold FR3_Index_L1;rw [if_pos (by simpa using hlt),hidx];simp only [Option.bind_some,eqS,he,decide_true,if_true];have:l.findIdx? (λ x=>decide (x=s))=some i:=by
     rw [List.findIdx?_eq_some_iff_getElem];refine ⟨hlt,by simpa using he,λ j hj=>?_⟩;have hj':j<l.length:=by omega
     have:=hbefore j hj l[j] (List.getElem?_eq_getElem hj');simpa using this
    rw [this]
   ·left;refine ⟨((i+1:Nat):Int),l.length-(i+1),by omega,⟨i+1,rfl,by omega,rfl,λ j hj y hy=>?_⟩,Ev.all λ n=>?_⟩
    ·by_cases hji:j=i
     ·subst hji;rw [hg] at hy;cases hy;exact he
     ·exact hbefore j (by omega) y hy
    ·unfold FR3_Index_L1;rw [if_pos (by simpa using hlt),hidx];simp only [Option.bind_some,eqS,he,decide_false,Bool.false_eq_true,if_false];rw [iadd64 (by omega) (by omega)];rfl
  ·right;have hi':i=l.length:=by omega
   subst hi';refine Ev.all λ n=>?_;unfold FR3_Index_L1;rw [if_neg (by simp)];have:l.findIdx? (λ x=>decide (x=s))=none:=by
    rw [List.findIdx?_eq_none_iff];intro y hy;obtain ⟨j,hj⟩:=List.mem_iff_getElem?.1 hy;have:=hbefore j (getElem?_lt' hj) y hj;simpa using this
   rw [this]
 refine (Ev.bind loop (g:=λ _ y=>match y with|Sum.inl _=>some (-1)|Sum.inr z=>some z) (z:=indexS l s) ?_).congr λ n=>?_
 ·unfold indexS;cases l.findIdx? (λ x=>decide (x=s)) with
  | none=>exact Ev.const
  | some i=>exact Ev.const
 ·rfl
end Go.AI
end
section
namespace Go.AI
theorem iand_range (a b:Int) (h:0<=b) (h':b<256):0<=iand .u8 a b/\iand .u8 a b<=b:=by
 unfold iand;have hb:(BitVec.ofInt 8 b).toNat=b.toNat:=by
  rw [BitVec.toNat_ofInt];omega
 have hle:(BitVec.ofInt 8 a &&& BitVec.ofInt 8 b).toNat<=b.toNat:=by
  rw [BitVec.toNat_and,hb];exact Nat.and_le_right
 have e:(BitVec.ofInt IntKind.u8.bits a &&& BitVec.ofInt IntKind.u8.bits b).toNat=(BitVec.ofInt 8 a &&& BitVec.ofInt 8 b).toNat:=rfl;rw [e,wrap8 (by omega) (by omega)];omega
def RuleOK (r:GRule):Prop:=0<=r.To/\r.To<2/\0<=r.Right/\r.Right<=63/\r.Print.length<=3
def TabOK (t:GTable):Prop:=t.Rules.length<=11/\∀ r∈t.Rules,RuleOK r
theorem TabOK.short {t:GTable} (h:TabOK t):Short t:=λ r hr=>by have:=(h.2 r hr).2.2.2.2;omega
def InU (s:GState):Prop:=0<=s.Mode/\s.Mode<2/\0<=s.Last/\s.Last<=5/\0<=s.Need/\s.Need<=63
def allU:List GState:=(List.range 768).map λ i=>⟨(i / 384:Nat),(i / 64 % 6:Nat),(i % 64:Nat)⟩
theorem allU_mem {s:GState} (h:InU s):s∈allU:=by
 obtain ⟨h1,h2,h3,h4,h5,h6⟩:=h;obtain ⟨m,l,d⟩:=s;simp only at h1 h2 h3 h4 h5 h6;simp only [allU,List.mem_map,List.mem_range];refine ⟨m.toNat*384+l.toNat*64+d.toNat,by omega,?_⟩;have e1:(m.toNat*384+l.toNat*64+d.toNat) / 384=m.toNat:=by omega
 have e2:(m.toNat*384+l.toNat*64+d.toNat) / 64 % 6=l.toNat:=by omega
 have e3:(m.toNat*384+l.toNat*64+d.toNat) % 64=d.toNat:=by omega
 rw [e1,e2,e3];congr 1<;>omega
theorem nodup_le {l m:List GState} (h:l.Nodup) (hs:∀ x∈l,x∈m):l.length<=m.length:=by
 induction l generalizing m with
 | nil=>simp
 | cons a l ih=>
  rw [List.nodup_cons] at h;have ha:=hs a (by simp);have hlen:(m.erase a).length=m.length-1:=List.length_erase_of_mem ha;have hpos:0<m.length:=List.length_pos_of_mem ha;have:=ih (m:=m.erase a) h.2 λ x hx=>by
   have hne:x≠a:=λ e=>h.1 (e▸hx);exact (List.mem_erase_of_ne hne).2 (hs x (by simp [hx]))
  simp;omega
theorem bound768 {l:List GState} (h:l.Nodup) (hs:∀ x∈l,InU x):l.length<=768:=by
 have:=nodup_le h λ x hx=>allU_mem (hs x hx);simpa [allU] using this
theorem step_InU {t:GTable} (ht:TabOK t) {s:GState} (hs:InU s) {k:Int} (h:(stepS t s k).2=true):InU (stepS t s k).1:=by
 unfold stepS at h ⊢;split at h
 ·cases h
 ·rename_i hk;rw [if_neg hk];simp only [Bool.or_eq_true,decide_eq_true_eq,not_or,Int.not_lt,ge_iff_le,Int.not_le] at hk;have hmem:(t.Rules[k.toNat]?.getD default)∈t.Rules:=by
   have:k.toNat<t.Rules.length:=by omega
   simp [this]
  have hr:=ht.2 _ hmem;generalize t.Rules[k.toNat]?.getD default=r at hr h ⊢;obtain ⟨a1,a2,a3,a4,a5⟩:=hr;obtain ⟨b1,b2,b3,b4,b5,b6⟩:=hs;unfold stepR at h ⊢;split at h
  ·cases h
  ·rename_i h1;rw [if_neg h1];split at h
   ·rename_i h2;rw [if_pos h2];split at h
    ·cases h
    ·rename_i h3;rw [if_neg h3];have:=iand_range s.Need r.Right a3 (by omega);exact ⟨a1,a2,b3,b4,this.1,by show iand .u8 s.Need r.Right<=63;omega⟩
   ·rename_i h2;rw [if_neg h2];split at h
    ·cases h
    ·rename_i h3;rw [if_neg h3];have:=class_range (byteS r.Print (r.Print.length-1));exact ⟨a1,a2,by show 0<=classS _;omega,by show classS _<=5;omega,a3,a4⟩
def startS:GState:=⟨0,0,63⟩
def addS (t:GTable) (s:GState) (st:List GState) (k:Nat):List GState:=if (stepS t s k).2=true/\(stepS t s k).1 ∉ st then st++[(stepS t s k).1] else st
def expS (t:GTable) (s:GState) (m:Nat) (st:List GState):List GState:=(List.range m).foldl (addS t s) st
theorem expS_succ (t:GTable) (s:GState) (m:Nat) (st:List GState):expS t s (m+1) st=addS t s (expS t s m st) m:=by
 simp [expS,List.range_succ]
def bfsS (t:GTable):Nat->Nat->List GState->List GState
 | 0,_,st=>st
 | f+1,i,st=>match st[i]? with
  | some s=>bfsS t f (i+1) (expS t s t.Rules.length st)
  | none=>st
def statesS (t:GTable):List GState:=bfsS t 800 0 [startS]
structure Found (t:GTable) (st:List GState):Prop where
 nodup:st.Nodup
 inU:∀ s∈st,InU s
 first:st[0]? = some startS
 origin:∀ (j:Nat) (s:GState),st[j]? = some s->0<j->∃ (i:Nat) (s':GState) (k:Nat),i<j/\st[i]? = some s'/\k<t.Rules.length/\stepS t s' k=(s,true)
theorem Found.len {t:GTable} {st:List GState} (h:Found t st):st.length<=768:=bound768 h.nodup h.inU
theorem Found.add {t:GTable} (ht:TabOK t) {st:List GState} (h:Found t st) {i:Nat} {s:GState} (hi:st[i]? = some s) {k:Nat} (hk:k<t.Rules.length):Found t (addS t s st k):=by
 unfold addS;split
 ·rename_i hc;have hil:=getElem?_lt' hi;refine ⟨?_,λ x hx=>?_,?_,λ j x hj h0=>?_⟩
  ·rw [List.nodup_append];refine ⟨h.nodup,by simp,λ a ha b hb=>?_⟩;simp at hb;subst hb;exact λ e=>hc.2 (e▸ha)
  ·simp only [List.mem_append,List.mem_singleton] at hx;rcases hx with hx|rfl
   ·exact h.inU x hx
   ·exact step_InU ht (h.inU s (List.mem_of_getElem? hi)) hc.1
  ·rw [List.getElem?_append_left (by omega)];exact h.first
  ·rcases Nat.lt_or_ge j st.length with hlt|hge
   ·rw [List.getElem?_append_left hlt] at hj;obtain ⟨i',s',k',a1,a2,a3,a4⟩:=h.origin j x hj h0;exact ⟨i',s',k',a1,by rw [List.getElem?_append_left (by omega)];exact a2,a3,a4⟩
   ·rw [List.getElem?_append_right hge] at hj;have:j-st.length=0:=by have:=getElem?_lt' hj;simp at this;omega
    rw [this] at hj;simp at hj;subst hj;refine ⟨i,s,k,by omega,by rw [List.getElem?_append_left hil];exact hi,hk,?_⟩;exact Prod.ext rfl hc.1
 ·exact h
theorem addS_pre (t:GTable) (s:GState) (st:List GState) (k:Nat):st <+: addS t s st k:=by
 unfold addS;split
 ·exact List.prefix_append _ _
 ·exact List.prefix_refl _
theorem expS_pre (t:GTable) (s:GState) (st:List GState):∀ m,st <+: expS t s m st:=by
 intro m;induction m with
 | zero=>exact List.prefix_refl _
 | succ m ih=>rw [expS_succ];exact ih.trans (addS_pre _ _ _ _)
theorem pre_get {α:Type} {l m:List α} (h:l <+: m) {i:Nat} {x:α} (hi:l[i]? = some x):m[i]? = some x:=by
 obtain ⟨r,rfl⟩:=h;rw [List.getElem?_append_left (getElem?_lt' hi)];exact hi
theorem Found.exp {t:GTable} (ht:TabOK t) {st:List GState} (h:Found t st) {i:Nat} {s:GState} (hi:st[i]? = some s):∀ m,m<=t.Rules.length->Found t (expS t s m st):=by
 intro m;induction m with
 | zero=>intro _;exact h
 | succ m ih=>
  intro hm;rw [expS_succ];exact (ih (by omega)).add ht (pre_get (expS_pre t s st m) hi) (by omega)
theorem expS_has (t:GTable) (s:GState) (st:List GState):∀ m k:Nat,k<m->(stepS t s k).2=true->(stepS t s k).1∈expS t s m st:=by
 intro m;induction m with
 | zero=>intro k hk;omega
 | succ m ih=>
  intro k hk h;rw [expS_succ];by_cases e:k=m
  ·subst e;unfold addS;by_cases hc:(stepS t s k).1∈expS t s k st
   ·rw [if_neg (λ hh=>hh.2 hc)];exact hc
   ·rw [if_pos ⟨h,hc⟩];simp
  ·exact (addS_pre t s _ m).subset (ih k (by omega) h)
def Done (t:GTable) (i:Nat) (st:List GState):Prop:=∀ (j:Nat) (s:GState),j<i->st[j]? = some s->∀ k:Nat,k<t.Rules.length->(stepS t s k).2=true->(stepS t s k).1∈st
theorem bfs_ok {t:GTable} (ht:TabOK t):∀ (f i:Nat) (st:List GState),Found t st->Done t i st->768<f+i->Found t (bfsS t f i st)/\∀ i',Done t i' (bfsS t f i st):=by
 intro f;induction f with
 | zero=>
  intro i st h hd hf;have:=h.len;refine ⟨h,λ i' j s hj hs=>?_⟩;have hs:st[j]? = some s:=hs;exact hd j s (by have:=getElem?_lt' hs;omega) hs
 | succ f ih=>
  intro i st h hd hf;simp only [bfsS];cases hi:st[i]? with
  | none=>
   refine ⟨h,λ i' j s hj hs=>?_⟩;have hs:st[j]? = some s:=hs;exact hd j s (by have:=getElem?_lt' hs;rw [List.getElem?_eq_none_iff] at hi;omega) hs
  | some s=>
   refine ih (i+1) _ (h.exp ht hi _ (Nat.le_refl _)) (λ j x hj hx k hk hk2=>?_) (by omega);by_cases e:j=i
   ·subst e;have:=pre_get (expS_pre t s st t.Rules.length) hi;rw [this] at hx;cases hx;exact expS_has t s st _ k hk hk2
   ·have hjl:j<st.length:=by have:=getElem?_lt' hi;omega
    have hxx:st[j]? = some st[j]:=List.getElem?_eq_getElem hjl;have:=pre_get (expS_pre t s st t.Rules.length) hxx;rw [this] at hx;cases hx;exact (expS_pre t s st t.Rules.length).subset (hd j _ (by omega) hxx k hk hk2)
theorem states_ok {t:GTable} (ht:TabOK t):Found t (statesS t)/\∀ i,Done t i (statesS t):=by
 refine bfs_ok ht 800 0 [startS] ⟨by simp,λ s hs=>?_,rfl,λ j s hj h0=>?_⟩ (λ j s hj=>by omega) (by omega)
 ·simp at hs;subst hs;exact ⟨by decide,by decide,by decide,by decide,by decide,by decide⟩
 ·cases j with
  | zero=>omega
  | succ j=>simp at hj
end Go.AI
end
section
namespace Go.AI
theorem Ev.whlR {σ ρ:Type} {body:Nat->σ->Option (σ⊕ρ)} {R:ρ->Prop} (I:Nat->σ->Prop) (h:∀ k x,I k x->(∃ y j,j<k/\I j y/\Ev (λ n=>body n x) (.inl y))\/∃ r,R r/\Ev (λ n=>body n x) (.inr r)):∀ (k:Nat) (x:σ),I k x->∃ r,R r/\Ev (λ n=>Go.AI.whl (body n) n x) r:=by
 have key:∀ (k:Nat) (x:σ),I k x->∃ r,R r/\∃ N c,∀ n fuel,N<=n->c<=fuel->Go.AI.whl (body n) fuel x=some r:=by
  intro k;induction k using Nat.strongRecOn with
  | _ k ih=>
   intro x hx;rcases h k x hx with ⟨y,j,hj,hy,N1,h1⟩|⟨r,hr,N1,h1⟩
   ·obtain ⟨r,hr,N2,c,h2⟩:=ih j hj y hy;refine ⟨r,hr,max N1 N2,c+1,λ n fuel hn hf=>?_⟩;cases fuel with
    | zero=>omega
    | succ fuel=>
     have e:=h1 n (by omega);simp only at e;simp only [Go.AI.whl,e];exact h2 n fuel (by omega) (by omega)
   ·refine ⟨r,hr,N1,1,λ n fuel hn hf=>?_⟩;cases fuel with
    | zero=>omega
    | succ fuel=>
     have e:=h1 n hn;simp only at e;simp only [Go.AI.whl,e]
 intro k x hx;obtain ⟨r,hr,N,c,hh⟩:=key k x hx;exact ⟨r,hr,max N c,λ m hm=>hh m m (by omega) (by omega)⟩
def NumOK (st:List GState) (nb:List (GState×Int)):Prop:=∀ s,mget s nb=(st.findIdx? λ x=>decide (x=s)).map λ i=>(i:Int)
theorem findIdx_some {st:List GState} {s:GState} {i:Nat} (hn:st.Nodup) (h:st[i]? = some s):(st.findIdx? λ x=>decide (x=s))=some i:=by
 have hi:=getElem?_lt' h;rw [List.findIdx?_eq_some_iff_getElem];have he:st[i]=s:=by rw [List.getElem?_eq_getElem hi] at h;exact Option.some.inj h
 refine ⟨hi,by simpa using he,λ j hj=>?_⟩;simp only [Bool.not_eq_true,decide_eq_false_iff_not];intro e;have:=(List.getElem_inj (i:=j) (j:=i) (h₀:=by omega) (h₁:=hi) hn).1 (by rw [e,he]);omega
theorem findIdx_none {st:List GState} {s:GState} (h:s ∉ st):(st.findIdx? λ x=>decide (x=s))=none:=by
 rw [List.findIdx?_eq_none_iff];intro y hy;simp only [decide_eq_false_iff_not];exact λ e=>h (e▸hy)
theorem mget_mput {κ α:Type} [DecidableEq κ] (k k':κ) (v:α) (m:List (κ×α)):mget k' (mput k v m)=if k'=k then some v else mget k' m:=by
 induction m with
 | nil=>simp [mput,mget]
 | cons p m ih=>
  simp only [mput];by_cases h:k=p.1
  ·rw [if_pos h];simp only [mget];by_cases h':k'=k
   ·simp [h']
   ·have:k'≠p.1:=λ e=>h' (e.trans h.symm);simp [h',this]
  ·rw [if_neg h];simp only [mget];by_cases h':k'=p.1
   ·have:k'≠k:=λ e=>h (e▸h');rw [if_pos h',if_neg this,if_pos h']
   ·rw [if_neg h',if_neg h',ih]
theorem NumOK.snoc {st:List GState} {nb:List (GState×Int)} (h:NumOK st nb) (hn:st.Nodup) {p:GState} (hp:p ∉ st):NumOK (st++[p]) (mput p (st.length:Nat) nb):=by
 intro s;rw [mget_mput];have hnd:(st++[p]).Nodup:=by
  rw [List.nodup_append];exact ⟨hn,by simp,λ a ha b hb=>by simp at hb;subst hb;exact λ e=>hp (e▸ha)⟩
 by_cases e:s=p
 ·subst e;rw [if_pos rfl,findIdx_some hnd (i:=st.length) (by simp)];rfl
 ·rw [if_neg e,h s];by_cases hs:s∈st
  ·obtain ⟨i,hi⟩:=List.mem_iff_getElem?.1 hs;rw [findIdx_some hn hi,findIdx_some hnd (i:=i) (by rw [List.getElem?_append_left (getElem?_lt' hi)];exact hi)]
  ·rw [findIdx_none hs,findIdx_none (by simp [hs,e])]
def Taken (i m j k:Nat):Prop:=j<i\/(j=i/\k<m)
structure FromOK (t:GTable) (st:List GState) (fr:List (List Int)) (i m:Nat):Prop where
 len:fr.length=st.length
 cov:∀ j s k,Taken i m j k->st[j]? = some s->k<t.Rules.length->(stepS t s (k:Nat)).2=true->(stepS t s (k:Nat)).1∈st
 sound:∀ (n:Nat) l,fr[n]? = some l->∀ x∈l,∃ (j:Nat) (s:GState) (k:Nat) (s':GState),x=(j:Int)/\st[j]? = some s/\k<t.Rules.length/\st[n]? = some s'/\stepS t s (k:Nat)=(s',true)
 compl:∀ (n:Nat) l,fr[n]? = some l->∀ (j:Nat) (s:GState) (k:Nat) (s':GState),Taken i m j k->st[j]? = some s->k<t.Rules.length->st[n]? = some s'->stepS t s (k:Nat)=(s',true)->(j:Int)∈l
 small:∀ (n:Nat) l,fr[n]? = some l->l.length<=i*11+m
theorem FromOK.snoc {t:GTable} {st:List GState} {fr:List (List Int)} {i m:Nat} (h:FromOK t st fr i m) {p:GState} (hp:p ∉ st) (hi:i<st.length):FromOK t (st++[p]) (fr++[[]]) i m:=by
 have hget:∀ (j:Nat) s,Taken i m j 0\/j<=i->(st++[p])[j]? = some s->st[j]? = some s:=λ j s hj hs=>by
  rcases Nat.lt_or_ge j st.length with hlt|hge
  ·rwa [List.getElem?_append_left hlt] at hs
  ·rcases hj with (h1|⟨h1,_⟩)|h1<;>omega
 have hle:∀ {j k},Taken i m j k->j<=i:=λ h=>by rcases h with h|⟨h,_⟩<;>omega
 refine ⟨by simp [h.len],λ j s k ht hs hk h2=>?_,λ n l hl x hx=>?_,λ n l hl j s k s' ht hs hk hs' he=>?_,λ n l hl=>?_⟩
 ·exact List.mem_append_left _ (h.cov j s k ht (hget j s (.inr (hle ht)) hs) hk h2)
 ·rcases Nat.lt_or_ge n fr.length with hlt|hge
  ·rw [List.getElem?_append_left hlt] at hl;obtain ⟨j,s,k,s',a1,a2,a3,a4,a5⟩:=h.sound n l hl x hx;exact ⟨j,s,k,s',a1,by rw [List.getElem?_append_left (getElem?_lt' a2)];exact a2,a3,by rw [List.getElem?_append_left (getElem?_lt' a4)];exact a4,a5⟩
  ·rw [List.getElem?_append_right hge] at hl;have:n-fr.length=0:=by have:=getElem?_lt' hl;simp at this;omega
   rw [this] at hl;simp at hl;subst hl;simp at hx
 ·have hs0:=hget j s (.inr (hle ht)) hs;have hmem:s'∈st:=by have:=h.cov j s k ht hs0 hk (by rw [he]);rwa [he] at this
  rcases Nat.lt_or_ge n fr.length with hlt|hge
  ·rw [List.getElem?_append_left hlt] at hl;rw [List.getElem?_append_left (by rw [← h.len];exact hlt)] at hs';exact h.compl n l hl j s k s' ht hs0 hk hs' he
  ·have hn:n=st.length:=by have:=getElem?_lt' hs';simp at this;rw [h.len] at hge;omega
   subst hn;simp at hs';subst hs';exact absurd hmem hp
 ·rcases Nat.lt_or_ge n fr.length with hlt|hge
  ·rw [List.getElem?_append_left hlt] at hl;exact h.small n l hl
  ·rw [List.getElem?_append_right hge] at hl;have:n-fr.length=0:=by have:=getElem?_lt' hl;simp at this;omega
   rw [this] at hl;simp at hl;subst hl;simp
theorem FromOK.put {t:GTable} {st:List GState} {fr:List (List Int)} {i m:Nat} (h:FromOK t st fr i m) (hnd:st.Nodup) {s p:GState} {q:Nat} {l:List Int} (hs:st[i]? = some s) (hm:m<t.Rules.length) (hst:stepS t s (m:Nat)=(p,true)) (hq:st[q]? = some p) (hl:fr[q]? = some l):FromOK t st (fr.set q (l++[(i:Int)])) i (m+1):=by
 have htk:∀ {j k},Taken i (m+1) j k->Taken i m j k\/(j=i/\k=m):=λ {j k} h=>by
  unfold Taken at *;omega
 have hql:=getElem?_lt' hl;refine ⟨by simp [h.len],λ j x k ht hx hk h2=>?_,λ n l' hl' x hx=>?_,λ n l' hl' j x k x' ht hx hk hx' he=>?_,λ n l' hl'=>?_⟩
 ·rcases htk ht with ht|⟨rfl,rfl⟩
  ·exact h.cov j x k ht hx hk h2
  ·rw [hs] at hx;cases hx;rw [hst];exact List.mem_of_getElem? hq
 ·by_cases e:n=q
  ·subst e;rw [List.getElem?_set_self hql] at hl';cases hl';simp only [List.mem_append,List.mem_singleton] at hx;rcases hx with hx|rfl
   ·exact h.sound n l hl x hx
   ·exact ⟨i,s,m,p,rfl,hs,hm,hq,hst⟩
  ·rw [List.getElem?_set_ne (Ne.symm e)] at hl';exact h.sound n l' hl' x hx
 ·rcases htk ht with ht|⟨rfl,rfl⟩
  ·by_cases e:n=q
   ·subst e;rw [List.getElem?_set_self hql] at hl';cases hl';exact List.mem_append_left _ (h.compl n l hl j x k x' ht hx hk hx' he)
   ·rw [List.getElem?_set_ne (Ne.symm e)] at hl';exact h.compl n l' hl' j x k x' ht hx hk hx' he
  ·rw [hs] at hx;cases hx;rw [hst] at he;cases he;have e:n=q:=by
    have h1:=getElem?_lt' hx';have h2:=getElem?_lt' hq;rw [List.getElem?_eq_getElem h1] at hx';rw [List.getElem?_eq_getElem h2] at hq;exact (List.getElem_inj (h₀:=h1) (h₁:=h2) hnd).1 ((Option.some.inj hx').trans (Option.some.inj hq).symm)
   subst e;rw [List.getElem?_set_self hql] at hl';cases hl';simp
 ·by_cases e:n=q
  ·subst e;rw [List.getElem?_set_self hql] at hl';cases hl';have:=h.small n l hl;simp;omega
  ·rw [List.getElem?_set_ne (Ne.symm e)] at hl';have:=h.small n l' hl';omega
theorem FromOK.skip {t:GTable} {st:List GState} {fr:List (List Int)} {i m:Nat} (h:FromOK t st fr i m) {s:GState} (hs:st[i]? = some s) (hst:(stepS t s (m:Nat)).2=false):FromOK t st fr i (m+1):=by
 have htk:∀ {j k},Taken i (m+1) j k->Taken i m j k\/(j=i/\k=m):=λ {j k} h=>by
  unfold Taken at *;omega
 refine ⟨h.len,λ j x k ht hx hk h2=>?_,h.sound,λ n l hl j x k x' ht hx hk hx' he=>?_,λ n l hl=>by have:=h.small n l hl;omega⟩
 ·rcases htk ht with ht|⟨rfl,rfl⟩
  ·exact h.cov j x k ht hx hk h2
  ·rw [hs] at hx;cases hx;rw [hst] at h2;cases h2
 ·rcases htk ht with ht|⟨rfl,rfl⟩
  ·exact h.compl n l hl j x k x' ht hx hk hx' he
  ·rw [hs] at hx;cases hx;rw [he] at hst;cases hst
end Go.AI
end
section
namespace Go.AI
theorem idx_nat {α:Type} {l:List α} {i:Nat} {x:α} (h:l[i]? = some x):idx l (i:Int)=some x:=by
 unfold idx;rw [if_pos (by omega)];simpa using h
theorem app_ok {α:Type} {eb:Nat} {xs ys:List α} (h:(xs.length+ys.length)*eb<=70368744177664):app eb xs ys=some (xs++ys):=by
 unfold app;rw [if_pos h]
theorem inner_round {t:GTable} (ht:TabOK t) {i m:Nat} {s:GState} {st:List GState} {fr:List (List Int)} {nb:List (GState×Int)} (hF:Found t st) (hi:st[i]? = some s) (hN:NumOK st nb) (hR:FromOK t st fr i m) (hm:m<t.Rules.length) :
  ∃ fr' nb',NumOK (addS t s st m) nb'/\FromOK t (addS t s st m) fr' i (m+1)/\∀ n,FAu_explore_L2 n t (i:Int) st fr nb (m:Int)=some (.inl (addS t s st m,fr',nb',((m+1:Nat):Int))):=by
 have hil:=getElem?_lt' hi;have hlen:=hF.len;have hrl:=ht.1;have hinc:iadd .i64 (m:Int) 1=((m+1:Nat):Int):=by rw [iadd64 (by omega) (by omega)];rfl
 have hcond:decide ((m:Int)<((t.Rules.length:Nat):Int))=true:=by simpa using hm
 cases hp:(stepS t s (m:Nat)).2 with
 | false=>
  have ha:addS t s st m=st:=by unfold addS;rw [if_neg (by rw [hp];simp)]
  refine ⟨fr,nb,by rw [ha];exact hN,by rw [ha];exact hR.skip hi hp,λ n=>?_⟩;unfold FAu_explore_L2;rw [if_pos hcond,idx_nat hi];simp only [Option.bind_some,step_eq ht.short,hp,Bool.not_false,if_true,FAu_explore_J1,hinc,ha]
 | true=>
  have hpe:stepS t s (m:Nat)=((stepS t s (m:Nat)).1,true):=Prod.ext rfl hp;generalize hpp:(stepS t s (m:Nat)).1=p at hpe;by_cases hmem:p∈st
  ·have ha:addS t s st m=st:=by unfold addS;rw [if_neg (by rw [hpp];exact λ hh=>hh.2 hmem)]
   obtain ⟨q,hq⟩:=List.mem_iff_getElem?.1 hmem;have hql:=getElem?_lt' hq;obtain ⟨lq,hfq⟩:∃ lq,fr[q]? = some lq:=⟨_,List.getElem?_eq_getElem (by rw [hR.len];exact hql)⟩;have hsm:=hR.small q _ hfq;have hget:mget p nb=some (q:Int):=by rw [hN p,findIdx_some hF.nodup hq];rfl
   have hiv:i<768:=by omega
   refine ⟨fr.set q (lq++[(i:Int)]),nb,by rw [ha];exact hN,by rw [ha];exact hR.put hF.nodup hi hm hpe hq hfq,λ n=>?_⟩;unfold FAu_explore_L2;rw [if_pos hcond,idx_nat hi];simp only [Option.bind_some,step_eq ht.short,hpe,hget,Option.isSome_some,Bool.not_true,Bool.false_eq_true,if_false,Option.getD_some,FAu_explore_J2];rw [idx_nat hfq];simp only [Option.bind_some];rw [app_ok (by simp;omega)];simp only [Option.bind_some,FAu_explore_J1,hinc,ha,Int.toNat_natCast]
  ·have ha:addS t s st m=st++[p]:=by unfold addS;rw [if_pos ⟨hp,by rw [hpp];exact hmem⟩,hpp]
   have hnd:(st++[p]).Nodup:=by have:=(hF.add ht hi hm).nodup;rwa [ha] at this
   have hget:mget p nb=none:=by rw [hN p,findIdx_none hmem];rfl
   have hR':=hR.snoc hmem hil;have hfq:(fr++[[]])[st.length]? = some ([]:List Int):=by rw [← hR.len];simp
   refine ⟨(fr++[[]]).set st.length ([]++[(i:Int)]),mput p (st.length:Nat) nb,by rw [ha];exact hN.snoc hF.nodup hmem,by rw [ha];exact hR'.put hnd (by rw [List.getElem?_append_left hil];exact hi) hm hpe (by simp) hfq,λ n=>?_⟩;unfold FAu_explore_L2;rw [if_pos hcond,idx_nat hi];simp only [Option.bind_some,step_eq ht.short,hpe,hget,Option.isSome_none,Bool.not_false,Bool.not_true,Bool.false_eq_true,if_true,if_false];rw [app_ok (by simp;omega),Option.bind_some,app_ok (by simp [hR.len];omega),Option.bind_some];simp only [FAu_explore_J2];rw [idx_nat hfq];simp only [Option.bind_some];rw [app_ok (by simp)];simp only [Option.bind_some,FAu_explore_J1,hinc,ha,Int.toNat_natCast]
theorem FromOK.next {t:GTable} {st:List GState} {fr:List (List Int)} {i:Nat} (h:FromOK t st fr i t.Rules.length) (hr:t.Rules.length<=11):FromOK t st fr (i+1) 0:=by
 have htk:∀ {j k},k<t.Rules.length->Taken (i+1) 0 j k->Taken i t.Rules.length j k:=λ {j k} hk h=>by
  unfold Taken at *;omega
 exact ⟨h.len,λ j s k ht hs hk=>h.cov j s k (htk hk ht) hs hk,h.sound,λ n l hl j s k s' ht hs hk=>h.compl n l hl j s k s' (htk hk ht) hs hk,λ n l hl=>by have:=h.small n l hl;omega⟩
theorem inner_ev {t:GTable} (ht:TabOK t) {i:Nat} {s:GState} {st:List GState} {fr:List (List Int)} {nb:List (GState×Int)} (hF:Found t st) (hi:st[i]? = some s) (hN:NumOK st nb) (hR:FromOK t st fr i 0) :
  ∃ r:List GState×List (List Int)×List (GState×Int),(r.1=expS t s t.Rules.length st/\NumOK r.1 r.2.2/\FromOK t r.1 r.2.1 (i+1) 0) /\
   Ev (λ n=>whl (λ (x:((List GState)×(List (List Int))×(List (GState×Int))×Int))=>FAu_explore_L2 n t (i:Int) x.1 x.2.1 x.2.2.1 x.2.2.2) n (st,fr,nb,0)) r:=by
 refine Ev.whlR (body:=λ n x=>FAu_explore_L2 n t (i:Int) x.1 x.2.1 x.2.2.1 x.2.2.2) (λ k x=>∃ m:Nat,m<=t.Rules.length/\k=t.Rules.length-m/\x.1=expS t s m st/\x.2.2.2=(m:Int)/\NumOK x.1 x.2.2.1/\FromOK t x.1 x.2.1 i m) ?_ t.Rules.length (st,fr,nb,0) ⟨0,by omega,by omega,rfl,rfl,hN,hR⟩;rintro k ⟨st',fr',nb',m'⟩ ⟨m,hm,rfl,h1,h2,h3,h4⟩;simp only at h1 h2 h3 h4;subst h1;subst h2;rcases Nat.lt_or_ge m t.Rules.length with hlt|hge
 ·left;have hi':(expS t s m st)[i]? = some s:=pre_get (expS_pre t s st m) hi;obtain ⟨fr2,nb2,g1,g2,g3⟩:=inner_round ht (hF.exp ht hi m hm) hi' h3 h4 hlt;exact ⟨_,t.Rules.length-(m+1),by omega,⟨m+1,hlt,rfl,(expS_succ t s m st).symm,rfl,g1,g2⟩,Ev.all g3⟩
 ·right;have e:m=t.Rules.length:=by omega
  subst e;refine ⟨(expS t s t.Rules.length st,fr',nb'),⟨rfl,h3,h4.next ht.1⟩,Ev.all λ n=>?_⟩;unfold FAu_explore_L2;rw [if_neg (by simp)]
theorem explore_ev {t:GTable} (ht:TabOK t):∃ fr,FromOK t (statesS t) fr (statesS t).length 0/\Ev (λ n=>FAu_explore n t) (statesS t,fr):=by
 have h0:Found t [startS]:=⟨by simp,λ s hs=>by simp at hs;subst hs;exact ⟨by decide,by decide,by decide,by decide,by decide,by decide⟩,rfl,λ j s hj h0=>by cases j with|zero=>omega|succ j=>simp at hj⟩;have loop:∃ r:List GState×List (List Int),(r.1=statesS t/\FromOK t r.1 r.2 r.1.length 0) /\
   Ev (λ n=>whl (λ (x:((List GState)×(List (List Int))×(List (GState×Int))×Int))=>FAu_explore_L1 n t x.1 x.2.1 x.2.2.1 x.2.2.2) n ([startS],([[]]:List (List Int)),(mput startS 0 []),0)) r:=by
  refine Ev.whlR (body:=λ n x=>FAu_explore_L1 n t x.1 x.2.1 x.2.2.1 x.2.2.2) (λ k x=>∃ i:Nat,i<=x.1.length/\k=800-i/\bfsS t (800-i) i x.1=statesS t/\x.2.2.2=(i:Int)/\Found t x.1/\NumOK x.1 x.2.2.1/\FromOK t x.1 x.2.1 i 0) ?_ 800 _ ⟨0,by simp,by omega,rfl,rfl,h0,?_,?_⟩
  ·rintro k ⟨st,fr,nb,i'⟩ ⟨i,hil,rfl,hb,hi',hF,hN,hR⟩;simp only at hil hb hi' hF hN hR;subst hi';have hlen:=hF.len;rcases Nat.lt_or_ge i st.length with hlt|hge
   ·left;have hi:st[i]? = some st[i]:=List.getElem?_eq_getElem hlt;obtain ⟨r,⟨g1,g2,g3⟩,g4⟩:=inner_ev ht hF hi hN hR;have hexp:=hF.exp ht hi _ (Nat.le_refl _);refine ⟨(r.1,r.2.1,r.2.2,((i+1:Nat):Int)),800-(i+1),by omega,⟨i+1,?_,rfl,?_,rfl,by rw [g1];exact hexp,g2,g3⟩,?_⟩
    ·simp only [g1];have:=(expS_pre t st[i] st t.Rules.length).length_le;omega
    ·simp only [g1];rw [← hb];have e:800-i=(800-(i+1))+1:=by omega
     rw [e];simp only [bfsS,hi]
    ·refine (Ev.bind g4 (g:=λ _ y2=>some (.inl (y2.1,y2.2.1,y2.2.2,((i+1:Nat):Int)))) Ev.const).congr λ n=>?_;unfold FAu_explore_L1;rw [if_pos (by simpa using hlt)];have hinc:iadd .i64 (i:Int) 1=((i+1:Nat):Int):=by rw [iadd64 (by omega) (by omega)];rfl
     rw [hinc]
   ·right;have e:i=st.length:=by omega
    subst e;have hst:st=statesS t:=by
     rw [← hb];have e:800-st.length=(800-(st.length+1))+1:=by omega
     rw [e];simp [bfsS]
    refine ⟨(st,fr),⟨hst,hR⟩,Ev.all λ n=>?_⟩;unfold FAu_explore_L1;rw [if_neg (by simp)]
  ·intro s;simp only [mput,mget];by_cases e:s=startS
   ·subst e;simp
   ·have:¬ startS=s:=λ h=>e h.symm;simp [e,this]
  ·refine ⟨rfl,λ j s k ht=>?_,λ n l hl x hx=>?_,λ n l hl j s k s' ht=>?_,λ n l hl=>?_⟩
   ·unfold Taken at ht;omega
   ·cases n with
    | zero=>simp at hl;subst hl;simp at hx
    | succ n=>simp at hl
   ·unfold Taken at ht;omega
   ·cases n with
    | zero=>simp at hl;subst hl;simp
    | succ n=>simp at hl
 obtain ⟨⟨st,fr⟩,⟨g1,g2⟩,g3⟩:=loop;simp only at g1 g2;subst g1;refine ⟨fr,g2,?_⟩;have hs:∀ n,FAu_Start n=some startS:=λ n=>rfl;refine (Ev.bind g3 (g:=λ _ y3=>some (y3.1,y3.2)) Ev.const).congr λ n=>?_;unfold FAu_explore;rw [hs,Option.bind_some]
theorem statesA_ev {t:GTable} (ht:TabOK t):Ev (λ n=>FAu_States n t) (statesS t):=by
 obtain ⟨fr,_,h⟩:=explore_ev ht;exact (Ev.bind h (g:=λ _ r=>some r.1) Ev.const).congr λ n=>rfl
end Go.AI
end
section
namespace Go.AI
def Tot {α:Type} (f:Nat->Option α) (P:α->Prop):Prop:=∃ z,P z/\Ev f z
def Rd2 {σ ρ:Type} (I:σ->Prop) (P:ρ->Prop):σ⊕ρ->Prop
 | .inl y=>I y
 | .inr r=>P r
variable {α β σ ρ:Type} {P R:α->Prop}
theorem Tot.ev {f:Nat->Option α} {z:α} (h:Tot f (λ x=>x=z)):Ev f z:=by obtain ⟨_,rfl,h⟩:=h;exact h
theorem Ev.tot {f:Nat->Option α} {z:α} (h:Ev f z) (hp:P z):Tot f P:=⟨z,hp,h⟩
theorem Tot.pure {z:α} (h:P z):Tot (λ _=>some z) P:=⟨z,h,Ev.const⟩
theorem Tot.mono {f:Nat->Option α} (h:Tot f R) (hp:∀ x,R x->P x):Tot f P:=by obtain ⟨z,hz,h⟩:=h;exact ⟨z,hp z hz,h⟩
theorem Tot.bind {f:Nat->Option β} {g:Nat->β->Option α} {R:β->Prop} (h:Tot f R) (k:∀ x,R x->Tot (λ n=>g n x) P):Tot (λ n=>(f n).bind (g n)) P:=by
 obtain ⟨x,hx,h⟩:=h;obtain ⟨z,hz,h'⟩:=k x hx;exact ⟨z,hz,Ev.bind h h'⟩
theorem Tot.bindE {f:Nat->Option β} {g:Nat->β->Option α} {x:β} (h:Ev f x) (k:Tot (λ n=>g n x) P):Tot (λ n=>(f n).bind (g n)) P:=by
 obtain ⟨z,hz,h'⟩:=k;exact ⟨z,hz,Ev.bind h h'⟩
theorem Tot.bindC {x:Option β} {y:β} {g:Nat->β->Option α} (h:x=some y) (k:Tot (λ n=>g n y) P):Tot (λ n=>x.bind (g n)) P:=by subst h;exact k
theorem Tot.bindA {f:Nat->Option β} {y:β} {g:Nat->β->Option α} (h:∀ n,f n=some y) (k:Tot (λ n=>g n y) P):Tot (λ n=>(f n).bind (g n)) P:=Tot.bindE (Ev.all h) k
theorem Tot.ite {c:Bool} {a b:Nat->Option α} (h1:c=true->Tot a P) (h2:c=false->Tot b P):Tot (λ n=>if c=true then a n else b n) P:=by
 cases c with
 | true=>exact h1 rfl
 | false=>exact h2 rfl
theorem Tot.iteT {c:Bool} {a b:Nat->Option α} (h:c=true) (k:Tot a P):Tot (λ n=>if c=true then a n else b n) P:=by subst h;exact k
theorem Tot.iteF {c:Bool} {a b:Nat->Option α} (h:c=false) (k:Tot b P):Tot (λ n=>if c=true then a n else b n) P:=by subst h;exact k
theorem Tot.guard {c:Bool} {f:Nat->Option β} {d:β} {g:Nat->β->Option α} {R:β->Prop} (h:c=true->Tot f R) (k:∀ x,(c=true->R x)->Tot (λ n=>g n x) P):Tot (λ n=>(if c=true then f n else some d).bind (g n)) P:=by
 cases c with
 | true=>exact Tot.bind (h rfl) λ x hx=>k x λ _=>hx
 | false=>exact k d λ h=>by cases h
theorem Tot.whl {body:Nat->σ->Option (σ⊕ρ)} {P:ρ->Prop} (I:Nat->σ->Prop) (h:∀ k x,I k x->Tot (λ n=>body n x) (Rd2 (λ y=>∃ j,j<k/\I j y) P)):∀ (k:Nat) (x:σ),I k x->Tot (λ n=>Go.AI.whl (body n) n x) P:=by
 have key:∀ (k:Nat) (x:σ),I k x->∃ r,P r/\∃ N c,∀ n fuel,N<=n->c<=fuel->Go.AI.whl (body n) fuel x=some r:=by
  intro k;induction k using Nat.strongRecOn with
  | _ k ih=>
   intro x hx;obtain ⟨z,hz,N1,h1⟩:=h k x hx;cases z with
   | inl y=>
    obtain ⟨j,hj,hy⟩:=hz;obtain ⟨r,hr,N2,c,h2⟩:=ih j hj y hy;refine ⟨r,hr,max N1 N2,c+1,λ n fuel hn hf=>?_⟩;cases fuel with
    | zero=>omega
    | succ fuel=>
     have e:=h1 n (by omega);simp only at e;simp only [Go.AI.whl,e];exact h2 n fuel (by omega) (by omega)
   | inr r=>
    refine ⟨r,hz,N1,1,λ n fuel hn hf=>?_⟩;cases fuel with
    | zero=>omega
    | succ fuel=>
     have e:=h1 n hn;simp only at e;simp only [Go.AI.whl,e]
 intro k x hx;obtain ⟨r,hr,N,c,hh⟩:=key k x hx;exact ⟨r,hr,max N c,λ m hm=>hh m m (by omega) (by omega)⟩
theorem Tot.upto {body:Nat->σ->Option (σ⊕ρ)} {P:ρ->Prop} (N:Nat) (I:Nat->σ->Prop)
  (step:∀ i x,i<N->I i x->Tot (λ n=>body n x) (Rd2 (I (i+1)) P))
  (last:∀ x,I N x->Tot (λ n=>body n x) (Rd2 (λ _=>False) P)) (x:σ) (h0:I 0 x):Tot (λ n=>Go.AI.whl (body n) n x) P:=by
 refine Tot.whl (body:=body) (λ k x=>∃ i,i<=N/\k=N-i/\I i x) ?_ N x ⟨0,by omega,by omega,h0⟩;rintro k x ⟨i,hi,rfl,hx⟩;rcases Nat.lt_or_ge i N with hlt|hge
 ·refine (step i x hlt hx).mono λ z hz=>?_;cases z with
  | inl y=>exact ⟨N-(i+1),by omega,i+1,by omega,rfl,hz⟩
  | inr r=>exact hz
 ·have:i=N:=by omega
  subst this;refine (last x hx).mono λ z hz=>?_;cases z with
  | inl y=>exact hz.elim
  | inr r=>exact hz
theorem idx_at {l:List α} {i:Nat} {x:α} (h:l[i]? = some x):idx l (i:Int)=some x:=by
 unfold idx;rw [if_pos (by omega)];simpa using h
theorem idx_lt {l:List α} {i:Nat} (h:i<l.length):idx l (i:Int)=some l[i]:=idx_at (List.getElem?_eq_getElem h)
theorem app_le {eb:Nat} {xs ys:List α} (h:(xs.length+ys.length)*eb<=70368744177664):app eb xs ys=some (xs++ys):=by
 unfold app;rw [if_pos h]
theorem put_at {l:List α} {i:Nat} {y:α} (h:i<l.length):put l (i:Int) y=some (l.set i y):=by
 unfold put;rw [if_pos (by omega),Int.toNat_natCast]
theorem cat_le {x y:List UInt8} (h:x.length+y.length<=9223372036854775807):cat x y=some (x++y):=by
 unfold cat;rw [if_pos h]
end Go.AI
end
section
namespace Go.AI
theorem w64_def (a:Int):IntKind.i64.wrap a=if decide (a % 18446744073709551616>=9223372036854775808)=true then a % 18446744073709551616-18446744073709551616 else a % 18446744073709551616:=rfl
theorem w64 {a:Int} (h:-9223372036854775808<=a) (h':a<9223372036854775808):IntKind.i64.wrap a=a:=by
 rw [w64_def];simp only [decide_eq_true_eq];split<;>omega
theorem add64 {a b:Int} (h:-9223372036854775808<=a+b) (h':a+b<9223372036854775808):iadd .i64 a b=a+b:=w64 h h'
theorem sub64 {a b:Int} (h:-9223372036854775808<=a-b) (h':a-b<9223372036854775808):isub .i64 a b=a-b:=w64 h h'
theorem succ64 {i:Nat} (h:i<9223372036854775807):iadd .i64 (i:Int) 1=((i+1:Nat):Int):=by rw [add64]<;>omega
theorem rem_range {a m:Int} (h:0<=a) (hm:0<m):irem a m=a % m/\0<=irem a m/\irem a m<m:=by
 have e:irem a m=a % m:=by unfold irem;rw [Int.tmod_eq_emod_of_nonneg h]
 rw [e];exact ⟨rfl,Int.emod_nonneg _ (by omega),Int.emod_lt_of_pos _ hm⟩
variable {α β σ ρ:Type}
theorem idx_d [Inhabited α] {l:List α} {i:Int} (h:0<=i) (h':i<l.length):idx l i=some (l.getD i.toNat default):=by
 unfold idx;rw [if_pos h,List.getD_eq_getElem?_getD,List.getElem?_eq_getElem (by omega)];rfl
theorem idx_nd [Inhabited α] {l:List α} {i:Nat} (h:i<l.length):idx l (i:Int)=some (l.getD i default):=by
 rw [idx_d (by omega) (by omega),Int.toNat_natCast]
theorem sub_d {l:List α} {a b:Int} (h:0<=a) (h1:a<=b) (h2:b<=l.length):sub l a b=some ((l.take b.toNat).drop a.toNat):=by
 unfold sub;rw [if_pos ⟨h,h1,h2⟩]
theorem sub_pre {l:List α} {k:Nat} (h:k<=l.length):sub l 0 (k:Int)=some (l.take k):=by
 rw [sub_d (by omega) (by omega) (by omega)];simp
theorem mkl_d {eb:Nat} {k:Int} {z:α} (h:0<=k) (h':k.toNat*eb<=70368744177664):mkl eb k z=some (List.replicate k.toNat z):=by
 unfold mkl;rw [if_pos ⟨h,h'⟩]
theorem guardB_of {b:Bool} (h:b=true):guardB b=some ():=by subst h;rfl
theorem Tot.gE {P:α->Prop} {c:Bool} {f:Nat->Option β} {d x:β} {g:Nat->β->Option α} (hc:c=true) (h:Ev f x) (k:Tot (λ n=>g n x) P):Tot (λ n=>(if c=true then f n else some d).bind (g n)) P:=by
 subst hc;exact Tot.bindE h k
theorem Tot.gF {P:α->Prop} {c:Bool} {f:Nat->Option β} {d:β} {g:Nat->β->Option α} (hc:c=false) (k:Tot (λ n=>g n d) P):Tot (λ n=>(if c=true then f n else some d).bind (g n)) P:=by
 subst hc;exact k
end Go.AI
end
section
namespace Go.AI
def scan {ρ:Type} (N:Nat) (stop:Nat->Option ρ):Unit⊕ρ:=match (List.range N).findSome? stop with
 | some r=>.inr r
 | none=>.inl ()
theorem ev_scan {ρ:Type} {body:Nat->Int->Option (Int⊕(Unit⊕ρ))} (N:Nat) (stop:Nat->Option ρ)
  (h:∀ i,i<N->Ev (λ n=>body n (i:Int)) (match stop i with|some r=>.inr (.inr r)|none=>.inl ((i+1:Nat):Int)))
  (h2:Ev (λ n=>body n (N:Int)) (.inr (.inl ()))):Ev (λ n=>whl (body n) n 0) (AI.scan N stop):=by
 have key:∀ (k i:Nat),i+k=N->(List.range N).findSome? stop=((List.range k).map (i+·)).findSome? stop->∃ M c,∀ n fuel,M<=n->c<=fuel->whl (body n) fuel (i:Int)=some (AI.scan N stop):=by
  intro k;induction k with
  | zero=>
   intro i hi hf;have:i=N:=by omega
   subst this;obtain ⟨M,hM⟩:=h2;refine ⟨M,1,λ n fuel hn hfu=>?_⟩;obtain ⟨fuel,rfl⟩:∃ f,fuel=f+1:=⟨fuel-1,by omega⟩;have e:=hM n hn;simp only at e;simp only [AI.whl,e];unfold AI.scan;rw [hf];rfl
  | succ k ih=>
   intro i hi hf;obtain ⟨M,hM⟩:=h i (by omega);have hs:(List.range (k+1)).map (i+·)=i::(List.range k).map ((i+1)+·):=by
    rw [List.range_succ_eq_map];simp only [List.map_cons,Nat.add_zero,List.map_map,List.cons.injEq,true_and];apply List.map_congr_left;intro a _;simp only [Function.comp];omega
   rw [hs,List.findSome?_cons] at hf;cases hst:stop i with
   | some r=>
    rw [hst] at hf hM;refine ⟨M,1,λ n fuel hn hfu=>?_⟩;obtain ⟨fuel,rfl⟩:∃ f,fuel=f+1:=⟨fuel-1,by omega⟩;have e:=hM n hn;simp only at e;simp only [AI.whl,e];unfold AI.scan;rw [hf]
   | none=>
    rw [hst] at hf hM;obtain ⟨M2,c,h3⟩:=ih (i+1) (by omega) hf;refine ⟨max M M2,c+1,λ n fuel hn hfu=>?_⟩;obtain ⟨fuel,rfl⟩:∃ f,fuel=f+1:=⟨fuel-1,by omega⟩;have e:=hM n (by omega);simp only at e;simp only [AI.whl,e];exact h3 n fuel (by omega) (by omega)
 obtain ⟨M,c,hh⟩:=key N 0 (by omega) (by simp);exact ⟨max M c,λ m hm=>hh m m (by omega) (by omega)⟩
theorem scan_none {ρ:Type} {N:Nat} {stop:Nat->Option ρ} (h:∀ i,i<N->stop i=none):scan N stop=.inl ():=by
 unfold scan;rw [List.findSome?_eq_none_iff.2 λ i hi=>h i (List.mem_range.1 hi)]
theorem scan_some {ρ:Type} {N:Nat} {stop:Nat->Option ρ} {i:Nat} (hi:i<N) (h:(stop i).isSome=true):∃ k r,k<N/\stop k=some r/\scan N stop=.inr r:=by
 unfold scan;cases hf:(List.range N).findSome? stop with
 | none=>rw [List.findSome?_eq_none_iff.1 hf i (List.mem_range.2 hi)] at h;cases h
 | some r=>
  obtain ⟨k,hk,hr⟩:=List.exists_of_findSome?_eq_some hf;exact ⟨k,r,List.mem_range.1 hk,hr,rfl⟩
def byteI (b:UInt8):Int:=(b.toNat:Int)
def charS (b:UInt8):Bool:=decide (iand .u8 (byteI b) 127>=32)&&decide (iand .u8 (byteI b) 127<=126)
def spaceS (b:UInt8):Bool:=iand .u8 (byteI b) 127==32
theorem sidx_get {s:List UInt8} {i:Nat} {b:UInt8} (h:s[i]? = some b):sidx s (i:Int)=some (byteI b):=by
 rw [sidx_eq (getElem?_lt' h)];unfold byteS byteI;rw [h];rfl
theorem lt_d {i n:Nat} (h:i<n):decide ((i:Int)<((n:Nat):Int))=true:=by simpa using h
theorem nlt_d (n:Nat):decide (((n:Nat):Int)<((n:Nat):Int))=false:=by simp
def textS (s:List UInt8):Int×Int:=match scan s.length (λ i=>if charS (s.getD i 0) then none else some ((i:Int),(60:Int))) with
 | .inl _=>(((s.length:Nat):Int),0)
 | .inr p=>p
theorem getD_at {α:Type} {l:List α} {i:Nat} {d:α} (h:i<l.length):l.getD i d=l[i]:=by
 rw [List.getD_eq_getElem?_getD,List.getElem?_eq_getElem h];rfl
theorem text_ev {s:List UInt8} (hl:s.length<9223372036854775807):Ev (λ n=>FTb_Text n s) (textS s):=by
 unfold FTb_Text textS;refine Ev.bind (ev_scan s.length (λ i=>if charS (s.getD i 0) then none else some ((i:Int),(60:Int))) (λ i hi=>Ev.all λ n=>?_) (Ev.all λ n=>?_)) ?_
 ·unfold FTb_Text_L1;have hg:s[i]? = some s[i]:=List.getElem?_eq_getElem hi;rw [if_pos (lt_d hi),sidx_get hg,getD_at hi];have hc:FTb_isCharacter n (byteI s[i])=some (charS s[i]):=rfl;simp only [Option.bind_some,hc];cases charS s[i] with
  | true=>simp [succ64 (show i<9223372036854775807 by omega)]
  | false=>simp
 ·unfold FTb_Text_L1;rw [if_neg (by simp)]
 ·generalize scan s.length _=z;cases z<;>exact Ev.const
theorem text2_ev {s:List UInt8} (hl:s.length<9223372036854775807):Ev (λ n=>FR2_Text n s) (textS s):=by
 unfold FR2_Text textS;refine Ev.bind (ev_scan s.length (λ i=>if charS (s.getD i 0) then none else some ((i:Int),(60:Int))) (λ i hi=>Ev.all λ n=>?_) (Ev.all λ n=>?_)) ?_
 ·unfold FR2_Text_L1;have hg:s[i]? = some s[i]:=List.getElem?_eq_getElem hi;rw [if_pos (lt_d hi),sidx_get hg,getD_at hi];have hc:FR2_Character n (byteI s[i])=some (charS s[i]):=rfl;simp only [Option.bind_some,hc];cases charS s[i] with
  | true=>simp [succ64 (show i<9223372036854775807 by omega)]
  | false=>simp
 ·unfold FR2_Text_L1;rw [if_neg (by simp)]
 ·generalize scan s.length _=z;cases z<;>exact Ev.const
theorem textS_ok {s:List UInt8} (h:s.all charS=true):textS s=(((s.length:Nat):Int),0):=by
 unfold textS;rw [scan_none λ i hi=>by rw [getD_at hi,List.all_eq_true.1 h _ (List.getElem_mem hi)];rfl]
theorem textS_bad {s:List UInt8} (h:s.all charS=false):(textS s).2=60:=by
 rw [List.all_eq_false] at h;obtain ⟨b,hb,hc⟩:=h;obtain ⟨i,hi,e⟩:=List.getElem_of_mem hb;unfold textS;obtain ⟨k,r,hk,hr,hs⟩:=scan_some (stop:=λ i=>if charS (s.getD i 0) then none else some ((i:Int),(60:Int))) hi (by
  rw [getD_at hi,e];simp only [Bool.not_eq_true] at hc;rw [hc];rfl)
 rw [hs];simp only at hr ⊢;split at hr
 ·cases hr
 ·cases hr;rfl
theorem isText_ev {s:List UInt8} (hl:s.length<9223372036854775807):Ev (λ n=>FR2_IsText n s) (s.all charS):=by
 unfold FR2_IsText;refine Ev.bind (text2_ev hl) ?_;cases h:s.all charS with
 | true=>rw [textS_ok h];exact Ev.const
 | false=>rw [textS_bad h];exact Ev.const
def soundS (r:GRule) (m:Int):Bool:=
 r.Print.all charS&&decide (r.Print.length<=4)&&decide (1<=r.Cells.length)&&decide (r.Cells.length<=4) &&
 (decide (1<=r.Left)&&decide (r.Left<=63)&&decide (1<=r.Right)&&decide (r.Right<=63)&&decide (0<=r.From)&&decide (r.From<m)&&decide (0<=r.To)&&decide (r.To<m)) &&
 r.Cells.all (λ c=>decide (c<63)) &&
 (bif r.Print.any spaceS then decide (r.Print.length=1)&&decide (r.Cells.length=1)&&r.Cells.any (λ c=>c==0) else !r.Cells.any (λ c=>c==0))
end Go.AI
end
section
namespace Go.AI
theorem sound1_ev {r:GRule} (hl:r.Print.length<9223372036854775807):Ev (λ n=>whl (λ (x:(Bool×Int))=>FR2_Sound_L1 n r x.1 x.2) n (false,0)) (r.Print.any spaceS):=by
 refine Ev.whl (body:=λ n x=>FR2_Sound_L1 n r x.1 x.2) (λ k x=>∃ i:Nat,x.2=(i:Int)/\i<=r.Print.length/\k=r.Print.length-i/\x.1=(r.Print.take i).any spaceS) ?_ r.Print.length (false,0) ⟨0,rfl,by omega,by omega,by simp⟩;rintro k ⟨b,i'⟩ ⟨i,h1,hi,rfl,h2⟩;simp only at h1 h2;subst h1;subst h2;rcases Nat.lt_or_ge i r.Print.length with hlt|hge
 ·left;have hg:r.Print[i]? = some r.Print[i]:=List.getElem?_eq_getElem hlt;have hcond:decide ((i:Int)<((r.Print.length:Nat):Int))=true:=by simpa using hlt
  refine ⟨((r.Print.take (i+1)).any spaceS,((i+1:Nat):Int)),r.Print.length-(i+1),by omega,⟨i+1,rfl,by omega,rfl,rfl⟩,Ev.all λ n=>?_⟩;unfold FR2_Sound_L1;rw [if_pos hcond];have ht:(r.Print.take (i+1)).any spaceS=((r.Print.take i).any spaceS||spaceS r.Print[i]):=by
   rw [List.take_add_one,hg];simp only [Option.toList_some,List.any_append,List.any_cons,List.any_nil,Bool.or_false]
  have hsp:∀ n,FR2_Space n (byteI r.Print[i])=some (spaceS r.Print[i]):=λ n=>rfl;rw [ht,iadd64 (by omega) (by omega),sidx_get hg];cases (r.Print.take i).any spaceS with
  | true=>simp
  | false=>simp [hsp]
 ·right;have e:i=r.Print.length:=by omega
  subst e;refine Ev.all λ n=>?_;unfold FR2_Sound_L1;rw [if_neg (by simp),List.take_length]
theorem Ev.upto {σ ρ:Type} {body:Nat->σ->Option (σ⊕ρ)} {R:ρ->Prop} (N:Nat) (I:Nat->σ->Prop)
  (step:∀ i x,i<N->I i x->(∃ y,I (i+1) y/\Ev (λ n=>body n x) (.inl y))\/∃ r,R r/\Ev (λ n=>body n x) (.inr r))
  (last:∀ x,I N x->∃ r,R r/\Ev (λ n=>body n x) (.inr r)) (x:σ) (h0:I 0 x):∃ r,R r/\Ev (λ n=>Go.AI.whl (body n) n x) r:=by
 refine Ev.whlR (body:=body) (λ k x=>∃ i,i<=N/\k=N-i/\I i x) ?_ N x ⟨0,by omega,by omega,h0⟩;rintro k x ⟨i,hi,rfl,hx⟩;rcases Nat.lt_or_ge i N with hlt|hge
 ·rcases step i x hlt hx with ⟨y,hy,hE⟩|h
  ·exact .inl ⟨y,N-(i+1),by omega,⟨i+1,by omega,rfl,hy⟩,hE⟩
  ·exact .inr h
 ·have:i=N:=by omega
  subst this;exact .inr (last x hx)
theorem sound2_ev {r:GRule} (hl:r.Cells.length<9223372036854775807) (y:Bool):∃ z:Bool⊕Bool,(if r.Cells.all (λ c=>decide (c<63))=true then z=.inl (r.Cells.any (λ c=>c==0)) else z=.inr false)/\Ev (λ n=>whl (λ (x:(Bool×Int))=>FR2_Sound_L2 n r y x.1 x.2) n (false,0)) z:=by
 refine Ev.upto (body:=λ n x=>FR2_Sound_L2 n r y x.1 x.2) r.Cells.length (λ i x=>x.2=(i:Int)/\x.1=(r.Cells.take i).any (λ c=>c==0)/\(r.Cells.take i).all (λ c=>decide (c<63))=true) ?_ ?_ (false,0) ⟨rfl,by simp,by simp⟩
 ·rintro i ⟨b,i'⟩ hlt ⟨h1,h2,h3⟩;simp only at h1 h2;subst h1;subst h2;have hg:r.Cells[i]? = some r.Cells[i]:=List.getElem?_eq_getElem hlt;have hcond:decide ((i:Int)<((r.Cells.length:Nat):Int))=true:=by simpa using hlt
  by_cases hc:r.Cells[i]<63
  ·left;refine ⟨((r.Cells.take (i+1)).any (λ c=>c==0),((i+1:Nat):Int)),⟨rfl,rfl,?_⟩,Ev.all λ n=>?_⟩
   ·rw [List.take_add_one,hg];simp only [Option.toList_some,List.all_append,h3,List.all_cons,decide_eq_true hc,List.all_nil,Bool.and_self]
   ·unfold FR2_Sound_L2;have ht:(r.Cells.take (i+1)).any (λ c=>c==0)=((r.Cells.take i).any (λ c=>c==0)||r.Cells[i]==0):=by
     rw [List.take_add_one,hg];simp only [Option.toList_some,List.any_append,List.any_cons,List.any_nil,Bool.or_false]
    rw [if_pos hcond,idx_nat hg,Option.bind_some,if_neg (by simpa using hc),ht,iadd64 (by omega) (by omega)];cases (r.Cells.take i).any (λ c=>c==0) with
    | true=>simp
    | false=>simp
  ·right;refine ⟨.inr false,?_,Ev.all λ n=>?_⟩
   ·rw [if_neg];intro h;rw [List.all_eq_true] at h;exact hc (by simpa using h r.Cells[i] (List.getElem_mem hlt))
   ·unfold FR2_Sound_L2;rw [if_pos hcond,idx_nat hg,Option.bind_some,if_pos (by simp;omega)]
 ·rintro ⟨b,i'⟩ ⟨h1,h2,h3⟩;simp only at h1 h2;subst h1;subst h2;rw [List.take_length] at h3 ⊢;refine ⟨.inl (r.Cells.any (λ c=>c==0)),by rw [if_pos h3],Ev.all λ n=>?_⟩;unfold FR2_Sound_L2;rw [if_neg (by simp)]
theorem sound_ev {r:GRule} (hp:r.Print.length<9223372036854775807) (hc:r.Cells.length<9223372036854775807) (m:Int):Ev (λ n=>FR2_Sound n r m) (soundS r m):=by
 obtain ⟨z,hz,hE⟩:=sound2_ev hc (r.Print.any spaceS);have h1:=isText_ev hp;have h2:=sound1_ev (r:=r) hp;unfold FR2_Sound;refine Ev.bind h1 ?_;unfold soundS;generalize r.Print.all charS=a;by_cases g1:((((!a)||(decide (((r.Print.length:Nat):Int)>4)))||(decide (((r.Cells.length:Nat):Int)<1)))||(decide (((r.Cells.length:Nat):Int)>4)))=true
 ·simp only [g1,if_true];have:(a&&decide (r.Print.length<=4)&&decide (1<=r.Cells.length)&&decide (r.Cells.length<=4))=false:=by
   rw [← Bool.not_eq_true];intro h;simp only [Bool.and_eq_true,decide_eq_true_eq] at h;simp only [Bool.or_eq_true,decide_eq_true_eq,Bool.not_eq_true'] at g1;rcases g1 with ((g|g)|g)|g
   ·rw [g] at h;simp at h
   all_goals omega
  rw [this];exact Ev.const
 ·simp only [g1];by_cases g2:((((((((decide (r.Left<1))||(decide (r.Left>63)))||(decide (r.Right<1)))||(decide (r.Right>63)))||(decide (r.From<0)))||(decide (r.From>=m)))||(decide (r.To<0)))||(decide (r.To>=m)))=true
  ·simp only [g2,if_true];have:(decide (1<=r.Left)&&decide (r.Left<=63)&&decide (1<=r.Right)&&decide (r.Right<=63)&&decide (0<=r.From)&&decide (r.From<m)&&decide (0<=r.To)&&decide (r.To<m))=false:=by
    rw [← Bool.not_eq_true];intro h;simp only [Bool.and_eq_true,decide_eq_true_eq] at h;simp only [Bool.or_eq_true,decide_eq_true_eq] at g2;omega
   rw [this,Bool.and_false];exact Ev.const
  ·have e1:(a&&decide (r.Print.length<=4)&&decide (1<=r.Cells.length)&&decide (r.Cells.length<=4))=true:=by
    simp only [Bool.or_eq_true,decide_eq_true_eq,Bool.not_eq_true',not_or] at g1;simp only [Bool.and_eq_true,decide_eq_true_eq];refine ⟨⟨⟨by simpa using g1.1.1.1,?_⟩,?_⟩,?_⟩<;>omega
   have e2:(decide (1<=r.Left)&&decide (r.Left<=63)&&decide (1<=r.Right)&&decide (r.Right<=63)&&decide (0<=r.From)&&decide (r.From<m)&&decide (0<=r.To)&&decide (r.To<m))=true:=by
    simp only [Bool.or_eq_true,decide_eq_true_eq,not_or] at g2;simp only [Bool.and_eq_true,decide_eq_true_eq];omega
   rw [e1,e2];simp only [g2,Bool.false_eq_true,if_false];refine Ev.bind h2 (Ev.bind hE ?_);split at hz
   ·rename_i h;subst hz;rw [h];generalize r.Print.any spaceS=b;cases b with
    | false=>exact Ev.const
    | true=>
     refine Ev.all λ n=>?_;simp only [Bool.not_true,Bool.false_eq_true,if_false,Bool.and_true,Bool.true_and,cond_true];congr 3<;>rw [Bool.eq_iff_iff]<;>simp<;>omega
   ·rename_i h;subst hz;rw [Bool.not_eq_true] at h;rw [h];exact Ev.const
end Go.AI
end
section
namespace Go.AI
theorem Ev.iteT {α:Type} {c:Bool} {a b:Nat->Option α} {z:α} (h:c=true) (k:Ev a z):Ev (λ n=>if c=true then a n else b n) z:=by subst h;exact k
theorem Ev.iteF {α:Type} {c:Bool} {a b:Nat->Option α} {z:α} (h:c=false) (k:Ev b z):Ev (λ n=>if c=true then a n else b n) z:=by subst h;exact k
theorem Ev.bindC {α β:Type} {x:Option β} {y:β} {g:Nat->β->Option α} {z:α} (h:x=some y) (k:Ev (λ n=>g n y) z):Ev (λ n=>x.bind (g n)) z:=by subst h;exact k
theorem Ev.guard {α β:Type} {c:Bool} {f:Nat->Option β} {d x:β} {g:Nat->β->Option α} {z:α} (h:c=true->Ev f x) (k:Ev (λ n=>g n (if c=true then x else d)) z):Ev (λ n=>(if c=true then f n else some d).bind (g n)) z:=by
 cases c with
 | true=>exact Ev.bind (h rfl) k
 | false=>exact k
theorem len_ne {α β:Type} {a:List α} {b:List β}:(((a.length:Nat):Int) != ((b.length:Nat):Int))=decide (a.length≠b.length):=by
 rw [Bool.eq_iff_iff];simp only [bne_iff_ne,ne_eq,decide_eq_true_eq];omega
theorem same_scan {α:Type} [DecidableEq α] [Inhabited α] (a b:List α) (h:a.length=b.length):scan a.length (λ i=>if a.getD i default=b.getD i default then none else some false)=if a=b then .inl () else .inr false:=by
 by_cases e:a=b
 ·subst e;rw [if_pos rfl];exact scan_none λ i _=>by rw [if_pos rfl]
 ·rw [if_neg e];have:∃ i,i<a.length/\a.getD i default≠b.getD i default:=by
   apply Classical.byContradiction;intro hn;refine e (List.ext_getElem h λ i h1 h2=>?_);have:=Classical.byContradiction λ hc=>hn ⟨i,h1,hc⟩;rwa [getD_at h1,getD_at h2] at this
  obtain ⟨i,hi,hne⟩:=this;obtain ⟨k,r,_,hr,hs⟩:=scan_some (stop:=λ i=>if a.getD i default=b.getD i default then none else some false) hi (by rw [if_neg hne];rfl)
  rw [hs];split at hr
  ·cases hr
  ·cases hr;rfl
theorem sameCells_ev (a b:List Int) (ha:a.length<9223372036854775807):Ev (λ n=>FR2_SameCells n a b) (decide (a=b)):=by
 unfold FR2_SameCells;rw [len_ne];by_cases h:a.length=b.length
 ·refine Ev.iteF (by simp [h]) ?_;refine Ev.bind (ev_scan a.length (λ i=>if a.getD i default=b.getD i default then none else some false) (λ i hi=>Ev.all λ n=>?_) (Ev.all λ n=>?_)) ?_
  ·unfold FR2_SameCells_L1;rw [if_pos (lt_d hi),idx_nd hi,idx_nd (by omega)];simp only [Option.bind_some];by_cases e:a.getD i default=b.getD i default
   ·rw [if_neg (by simp only [bne_iff_ne,ne_eq];exact λ hh=>hh e),if_pos e,succ64 (by omega)]
   ·rw [if_pos (by simp only [bne_iff_ne,ne_eq];exact e),if_neg e]
  ·unfold FR2_SameCells_L1;rw [if_neg (by simp)]
  ·rw [same_scan a b h];by_cases e:a=b
   ·rw [if_pos e,decide_eq_true e];exact Ev.const
   ·rw [if_neg e,decide_eq_false e];exact Ev.const
 ·refine Ev.iteT (by simp [h]) ?_;rw [decide_eq_false (λ e=>h (by rw [e]))];exact Ev.const
theorem apiCells_ev (a b:List Int) (ha:a.length<9223372036854775807):Ev (λ n=>FApi_Cell n a b) (decide (a=b)):=by
 unfold FApi_Cell;rw [len_ne];by_cases h:a.length=b.length
 ·refine Ev.iteF (by simp [h]) ?_;refine Ev.bind (ev_scan a.length (λ i=>if a.getD i default=b.getD i default then none else some false) (λ i hi=>Ev.all λ n=>?_) (Ev.all λ n=>?_)) ?_
  ·unfold FApi_Cell_L1;rw [if_pos (lt_d hi),idx_nd hi,idx_nd (by omega)];simp only [Option.bind_some];by_cases e:a.getD i default=b.getD i default
   ·rw [if_neg (by simp only [bne_iff_ne,ne_eq];exact λ hh=>hh e),if_pos e,succ64 (by omega)]
   ·rw [if_pos (by simp only [bne_iff_ne,ne_eq];exact e),if_neg e]
  ·unfold FApi_Cell_L1;rw [if_neg (by simp)]
  ·rw [same_scan a b h];by_cases e:a=b
   ·rw [if_pos e,decide_eq_true e];exact Ev.const
   ·rw [if_neg e,decide_eq_false e];exact Ev.const
 ·refine Ev.iteT (by simp [h]) ?_;rw [decide_eq_false (λ e=>h (by rw [e]))];exact Ev.const
theorem rule_eq (a b:GRule):decide (a=b)=(a.Print==b.Print&&decide (a.Cells=b.Cells)&&a.Left==b.Left&&a.Right==b.Right&&a.From==b.From&&a.To==b.To):=by
 rw [Bool.eq_iff_iff];cases a;cases b;simp only [decide_eq_true_eq,GRule.mk.injEq,Bool.and_eq_true,beq_iff_eq];exact ⟨λ ⟨h1,h2,h3,h4,h5,h6⟩=>⟨⟨⟨⟨⟨h1,h2⟩,h3⟩,h4⟩,h5⟩,h6⟩,λ ⟨⟨⟨⟨⟨h1,h2⟩,h3⟩,h4⟩,h5⟩,h6⟩=>⟨h1,h2,h3,h4,h5,h6⟩⟩
theorem sameRule_ev (a b:GRule) (ha:a.Cells.length<9223372036854775807):Ev (λ n=>FR2_SameRule n a b) (decide (a=b)):=by
 unfold FR2_SameRule;refine Ev.guard (λ _=>sameCells_ev a.Cells b.Cells ha) (Ev.all λ n=>?_);rw [rule_eq];cases h:(a.Print==b.Print)<;>simp
theorem equal_ev (a b:GRule) (ha:a.Cells.length<9223372036854775807):Ev (λ n=>FTb_equal n a b) (decide (a=b)):=by
 unfold FTb_equal;refine Ev.guard (λ _=>apiCells_ev a.Cells b.Cells ha) (Ev.all λ n=>?_);rw [rule_eq];cases (a.Print==b.Print)<;>cases (a.Left==b.Left)<;>cases (a.Right==b.Right)<;>cases (a.From==b.From)<;>cases (a.To==b.To)<;>simp
theorem class_space (b:UInt8):(classS (byteI b)==4)=spaceS b:=by
 have:∀ k:Nat,k<256->(classS (k:Int)==4)=(iand .u8 (k:Int) 127==32):=by decide +kernel
 exact this b.toNat b.toNat_lt
theorem any_scan {s:List UInt8} {f:UInt8->Bool}:scan s.length (λ i=>if f (s.getD i 0) then some true else none)=if s.any f then .inr true else .inl ():=by
 cases h:s.any f with
 | false=>
  rw [List.any_eq_false] at h;exact scan_none λ i hi=>by rw [getD_at hi,if_neg (h _ (List.getElem_mem hi))]
 | true=>
  rw [List.any_eq_true] at h;obtain ⟨b,hb,hf⟩:=h;obtain ⟨i,hi,e⟩:=List.getElem_of_mem hb;obtain ⟨k,r,_,hr,hs⟩:=scan_some (stop:=λ i=>if f (s.getD i 0) then some true else none) hi (by rw [getD_at hi,e,hf];rfl)
  rw [hs];split at hr
  ·cases hr;rfl
  ·cases hr
theorem hasSpace_ev {s:List UInt8} (hl:s.length<9223372036854775807):Ev (λ n=>FTb_hasSpace n s) (s.any spaceS):=by
 unfold FTb_hasSpace;refine Ev.bind (ev_scan s.length (λ i=>if spaceS (s.getD i 0) then some true else none) (λ i hi=>Ev.all λ n=>?_) (Ev.all λ n=>?_)) ?_
 ·unfold FTb_hasSpace_L1;have hg:s[i]? = some s[i]:=List.getElem?_eq_getElem hi;rw [if_pos (lt_d hi),sidx_get hg,getD_at hi];simp only [Option.bind_some,class_eq,class_space];cases spaceS s[i] with
  | true=>simp
  | false=>simp [succ64 (show i<9223372036854775807 by omega)]
 ·unfold FTb_hasSpace_L1;rw [if_neg (by simp)]
 ·rw [any_scan];cases s.any spaceS<;>exact Ev.const
theorem allc_scan {l:List Int} {f:Int->Bool}:scan l.length (λ i=>if f (l.getD i 0) then none else some false)=if l.all f then .inl () else .inr false:=by
 cases h:l.all f with
 | true=>
  rw [List.all_eq_true] at h;exact scan_none λ i hi=>by rw [getD_at hi,if_pos (h _ (List.getElem_mem hi))]
 | false=>
  rw [List.all_eq_false] at h;obtain ⟨b,hb,hf⟩:=h;obtain ⟨i,hi,e⟩:=List.getElem_of_mem hb;obtain ⟨k,r,_,hr,hs⟩:=scan_some (stop:=λ i=>if f (l.getD i 0) then none else some false) hi (by rw [getD_at hi,e,if_neg hf];rfl)
  rw [hs];split at hr
  ·cases hr
  ·cases hr;rfl
def goodC (c:Int):Bool:=decide (c<63)&&!(c==0)
theorem soundT_ev {r:GRule} (hp:r.Print.length<9223372036854775807) (hc:r.Cells.length<9223372036854775807) (m:Int):Ev (λ n=>FTb_sound n r m) (soundS r m):=by
 unfold FTb_sound;by_cases g1:(((decide (((r.Print.length:Nat):Int)>4))||(decide (((r.Cells.length:Nat):Int)<1)))||(decide (((r.Cells.length:Nat):Int)>4)))=true
 ·refine Ev.iteT g1 ?_;have:soundS r m=false:=by
   rw [← Bool.not_eq_true];intro h;simp only [soundS,Bool.and_eq_true,decide_eq_true_eq] at h;simp only [Bool.or_eq_true,decide_eq_true_eq] at g1;omega
  rw [this];exact Ev.const
 ·rw [Bool.not_eq_true] at g1;refine Ev.iteF g1 (Ev.bind (text_ev hp) ?_);cases ha:r.Print.all charS with
  | false=>
   refine Ev.iteT (by rw [textS_bad ha];rfl) ?_;have:soundS r m=false:=by simp [soundS,ha]
   rw [this];exact Ev.const
  | true=>
   refine Ev.iteF (by rw [textS_ok ha];rfl) ?_;by_cases g2:((((decide (r.Left<1))||(decide (r.Left>63)))||(decide (r.Right<1)))||(decide (r.Right>63)))=true
   ·refine Ev.iteT g2 ?_;have:soundS r m=false:=by
     rw [← Bool.not_eq_true];intro h;simp only [soundS,Bool.and_eq_true,decide_eq_true_eq] at h;simp only [Bool.or_eq_true,decide_eq_true_eq] at g2;omega
    rw [this];exact Ev.const
   ·rw [Bool.not_eq_true] at g2;refine Ev.iteF g2 ?_;by_cases g3:((((decide (r.From<0))||(decide (r.From>=m)))||(decide (r.To<0)))||(decide (r.To>=m)))=true
    ·refine Ev.iteT g3 ?_;have:soundS r m=false:=by
      rw [← Bool.not_eq_true];intro h;simp only [soundS,Bool.and_eq_true,decide_eq_true_eq] at h;simp only [Bool.or_eq_true,decide_eq_true_eq] at g3;omega
     rw [this];exact Ev.const
    ·rw [Bool.not_eq_true] at g3;refine Ev.iteF g3 (Ev.bind (hasSpace_ev hp) ?_);simp only [Bool.or_eq_false_iff,decide_eq_false_iff_not] at g1 g2 g3;have e1:soundS r m=(r.Cells.all (λ c=>decide (c<63))&&(bif r.Print.any spaceS then decide (r.Print.length=1)&&decide (r.Cells.length=1)&&r.Cells.any (λ c=>c==0) else !r.Cells.any (λ c=>c==0))):=by
      unfold soundS;rw [ha];have:(true&&decide (r.Print.length<=4)&&decide (1<=r.Cells.length)&&decide (r.Cells.length<=4)&&(decide (1<=r.Left)&&decide (r.Left<=63)&&decide (1<=r.Right)&&decide (r.Right<=63)&&decide (0<=r.From)&&decide (r.From<m)&&decide (0<=r.To)&&decide (r.To<m)))=true:=by
       simp only [Bool.and_eq_true,decide_eq_true_eq,true_and];omega
      rw [this,Bool.true_and]
     rw [e1];cases hsp:r.Print.any spaceS with
     | true=>
      refine Ev.iteT rfl ?_;by_cases g4:((((r.Print.length:Nat):Int)==1)&&(((r.Cells.length:Nat):Int)==1))=true
      ·have hl:r.Print.length=1/\r.Cells.length=1:=by
        simp only [Bool.and_eq_true,beq_iff_eq] at g4;omega
       obtain ⟨c,hcell⟩:=List.length_eq_one_iff.1 hl.2;have hi:idx r.Cells 0=some c:=by rw [hcell];rfl
       simp only [g4,if_true,hi,Option.bind_some];refine Ev.all λ n=>?_;rw [hcell];simp only [hl.1,List.all_cons,List.all_nil,List.any_cons,List.any_nil,List.length_cons,List.length_nil,Bool.and_true,Bool.or_false,decide_true,Bool.true_and,cond_true];cases h0:(c==0) with
       | false=>simp
       | true=>
        have:c=0:=by simpa using h0
        subst this;rfl
      ·rw [Bool.not_eq_true] at g4;simp only [g4,Bool.false_eq_true,if_false,Option.bind_some,Bool.false_and];refine Ev.all λ n=>?_;have:(decide (r.Print.length=1)&&decide (r.Cells.length=1))=false:=by
        rw [← Bool.not_eq_true];intro h;simp only [Bool.and_eq_true,decide_eq_true_eq] at h;rw [← Bool.not_eq_true] at g4;apply g4;simp [h.1,h.2]
       simp [this]
     | false=>
      refine Ev.iteF rfl ?_;refine Ev.bind (ev_scan r.Cells.length (λ i=>if goodC (r.Cells.getD i 0) then none else some false) (λ i hi=>Ev.all λ n=>?_) (Ev.all λ n=>?_)) ?_
      ·unfold FTb_sound_L1;rw [if_pos (lt_d hi),idx_nd hi,show r.Cells.getD i default=r.Cells.getD i 0 from rfl];generalize r.Cells.getD i 0=c;simp only [Option.bind_some,FCe_Valid];by_cases hcc:goodC c=true
       ·simp only [goodC,Bool.and_eq_true,decide_eq_true_eq,Bool.not_eq_true',beq_eq_false_iff_ne,ne_eq] at hcc;rw [if_neg (by simp;omega),if_pos (by simp [goodC];omega),succ64 (by omega)]
       ·rw [if_pos (by simp [goodC] at hcc ⊢;omega),if_neg hcc]
      ·unfold FTb_sound_L1;rw [if_neg (by simp)]
      ·rw [allc_scan];have e2:(r.Cells.all (λ c=>decide (c<63))&&!r.Cells.any (λ c=>c==0))=r.Cells.all goodC:=by
        rw [Bool.eq_iff_iff];simp only [goodC,Bool.and_eq_true,List.all_eq_true,Bool.not_eq_true',List.any_eq_false,Bool.not_eq_true];exact ⟨λ h x hx=>⟨h.1 x hx,h.2 x hx⟩,λ h=>⟨λ x hx=>(h x hx).1,λ x hx=>(h x hx).2⟩⟩
       simp only [cond_false];rw [e2];cases r.Cells.all goodC<;>exact Ev.const
end Go.AI
end
section
namespace Go.AI
def SmallR (r:GRule):Prop:=r.Print.length<9223372036854775807/\r.Cells.length<9223372036854775807
def SmallT (t:GTable):Prop:=t.Rules.length<9223372036854775807/\∀ r∈t.Rules,SmallR r
def dupS (t:GTable) (i:Nat):Unit⊕(Int×Int):=scan i (λ k=>if t.Rules.getD k default=t.Rules.getD i default then some ((i:Int),(20:Int)) else none)
def stopS (t:GTable) (i:Nat):Option (Int×Int):=if soundS (t.Rules.getD i default) t.Modes=true then (match dupS t i with | .inl _=>none | .inr p=>some p) else some ((i:Int),20)
def badS (t:GTable):Bool:=decide (t.Modes<1)||decide (t.Modes>8)||(t.Accept==0)||decide (IntKind.i64.wrap t.Accept>=ishl .i64 1 t.Modes)||decide (((t.Rules.length:Nat):Int)<1)||decide (((t.Rules.length:Nat):Int)>64)
def checkS (t:GTable):Int×Int:=if badS t=true then (-1,1) else match scan t.Rules.length (stopS t) with
 | .inl _=>(0,0)
 | .inr p=>p
theorem SmallT.get {t:GTable} (h:SmallT t) {i:Nat} (hi:i<t.Rules.length):SmallR (t.Rules.getD i default):=by
 rw [getD_at hi];exact h.2 _ (List.getElem_mem hi)
theorem check2_ev {t:GTable} (ht:SmallT t) {i:Nat} (hi:i<t.Rules.length):Ev (λ n=>whl (λ (x:Int)=>FR2_Check_L2 n t (i:Int) x) n 0) (dupS t i):=by
 refine ev_scan i _ (λ k hk=>?_) (Ev.all λ n=>?_)
 ·unfold FR2_Check_L2;refine Ev.iteT (by simpa using hk) (Ev.bindC (idx_nd (by omega)) (Ev.bindC (idx_nd hi) (Ev.bind (sameRule_ev _ _ (ht.get (by omega)).2) (Ev.all λ n=>?_))));by_cases e:t.Rules.getD k default=t.Rules.getD i default
  ·rw [if_pos (decide_eq_true e),if_pos e]
  ·rw [if_neg (by simpa using e),if_neg e,succ64 (by have:=ht.1;omega)]
 ·unfold FR2_Check_L2;rw [if_neg (by simp)]
theorem check2T_ev {t:GTable} (ht:SmallT t) {i:Nat} (hi:i<t.Rules.length):Ev (λ n=>whl (λ (x:Int)=>FTb_Check_L2 n t (i:Int) (t.Rules.getD i default) (t.Rules.take i) x) n 0) (dupS t i):=by
 refine ev_scan i _ (λ k hk=>?_) (Ev.all λ n=>?_)
 ·unfold FTb_Check_L2;have hk':k<(t.Rules.take i).length:=by rw [List.length_take];omega
  have hg:(t.Rules.take i).getD k default=t.Rules.getD k default:=by rw [getD_at hk',getD_at (by omega),List.getElem_take]
  refine Ev.iteT (lt_d hk') (Ev.bindC (idx_nd hk') ?_);rw [hg];refine Ev.bind (equal_ev _ _ (ht.get (by omega)).2) (Ev.all λ n=>?_);by_cases e:t.Rules.getD k default=t.Rules.getD i default
  ·rw [if_pos (decide_eq_true e),if_pos e]
  ·rw [if_neg (by simpa using e),if_neg e,succ64 (by have:=ht.1;omega)]
 ·unfold FTb_Check_L2;rw [if_neg (by simp;omega)]
theorem check1_ev {t:GTable} (ht:SmallT t):Ev (λ n=>whl (λ (x:Int)=>FR2_Check_L1 n t x) n 0) (scan t.Rules.length (stopS t)):=by
 refine ev_scan _ _ (λ i hi=>?_) (Ev.all λ n=>?_)
 ·unfold FR2_Check_L1;refine Ev.iteT (lt_d hi) (Ev.bindC (idx_nd hi) (Ev.bind (sound_ev (ht.get hi).1 (ht.get hi).2 t.Modes) ?_));unfold stopS;cases soundS (t.Rules.getD i default) t.Modes with
  | false=>exact Ev.iteT rfl Ev.const
  | true=>
   refine Ev.iteF rfl (Ev.bind (check2_ev ht hi) ?_);cases dupS t i with
   | inl u=>refine Ev.all λ n=>?_;simp [succ64 (show i<9223372036854775807 by have:=ht.1;omega)]
   | inr p=>exact Ev.const
 ·unfold FR2_Check_L1;rw [if_neg (by simp)]
theorem check1T_ev {t:GTable} (ht:SmallT t):Ev (λ n=>whl (λ (x:Int)=>FTb_Check_L1 n t x) n 0) (scan t.Rules.length (stopS t)):=by
 refine ev_scan _ _ (λ i hi=>?_) (Ev.all λ n=>?_)
 ·unfold FTb_Check_L1;refine Ev.iteT (lt_d hi) (Ev.bindC (idx_nd hi) (Ev.bind (soundT_ev (ht.get hi).1 (ht.get hi).2 t.Modes) ?_));unfold stopS;cases soundS (t.Rules.getD i default) t.Modes with
  | false=>exact Ev.iteT rfl Ev.const
  | true=>
   refine Ev.iteF rfl (Ev.bindC (sub_pre (by omega)) (Ev.bind (check2T_ev ht hi) ?_));cases dupS t i with
   | inl u=>refine Ev.all λ n=>?_;simp [succ64 (show i<9223372036854775807 by have:=ht.1;omega)]
   | inr p=>exact Ev.const
 ·unfold FTb_Check_L1;rw [if_neg (by simp)]
theorem check_ev {t:GTable} (ht:SmallT t):Ev (λ n=>FR2_Check n t) (checkS t):=by
 unfold FR2_Check checkS;refine Ev.bindC (y:=()) ?_ ?_
 ·split
  ·rename_i h;simp only [Bool.not_eq_true',Bool.or_eq_false_iff,decide_eq_false_iff_not] at h;exact guardB_of (by simp;omega)
  ·rfl
 ·show Ev (λ n=>if badS t=true then _ else _) _
  cases badS t with
  | true=>exact Ev.iteT rfl Ev.const
  | false=>
   refine Ev.iteF rfl (Ev.bind (check1_ev ht) ?_);generalize scan t.Rules.length _=z;cases z<;>exact Ev.const
theorem checkT_ev {t:GTable} (ht:SmallT t):Ev (λ n=>FTb_Check n t) (checkS t):=by
 unfold FTb_Check checkS badS;cases h1:((decide (t.Modes<1))||(decide (t.Modes>8))) with
 | true=>exact Ev.iteT rfl (by simp only [Bool.true_or,if_true];exact Ev.const)
 | false=>
  refine Ev.iteF rfl (Ev.bindC (y:=()) ?_ ?_)
  ·split
   ·simp only [Bool.or_eq_false_iff,decide_eq_false_iff_not] at h1;exact guardB_of (by simp;omega)
   ·rfl
  ·simp only [Bool.false_or];cases h2:((t.Accept==0)||(decide (IntKind.i64.wrap t.Accept>=ishl .i64 1 t.Modes))) with
   | true=>exact Ev.iteT rfl (by simp only [Bool.true_or,if_true];exact Ev.const)
   | false=>
    refine Ev.iteF rfl ?_;simp only [Bool.false_or];cases h3:((decide (((t.Rules.length:Nat):Int)<1))||(decide (((t.Rules.length:Nat):Int)>64))) with
    | true=>exact Ev.iteT rfl (by simp only [if_true];exact Ev.const)
    | false=>
     refine Ev.iteF rfl (Ev.bind (check1T_ev ht) ?_);simp only [Bool.false_eq_true,if_false];generalize scan t.Rules.length _=z;cases z<;>exact Ev.const
def validS (t:GTable):Bool:=!badS t&&t.Rules.all (λ r=>soundS r t.Modes)&&decide t.Rules.Nodup
theorem checkS_valid (t:GTable):((checkS t).2==0)=validS t:=by
 unfold checkS validS;cases badS t with
 | true=>rfl
 | false=>
  simp only [Bool.false_eq_true,if_false,Bool.not_false,Bool.true_and];have h20:∀ i p,stopS t i=some p->p.2=20:=by
   intro i p h;unfold stopS at h;split at h
   ·split at h
    ·cases h
    ·rename_i q hq;cases h;unfold dupS scan at hq;split at hq
     ·rename_i r hr;cases hq;obtain ⟨k,_,hk⟩:=List.exists_of_findSome?_eq_some hr;split at hk
      ·cases hk;rfl
      ·cases hk
     ·cases hq
   ·cases h;rfl
  have hiff:(∀ i,i<t.Rules.length->stopS t i=none)↔(t.Rules.all (λ r=>soundS r t.Modes)&&decide t.Rules.Nodup)=true:=by
   simp only [Bool.and_eq_true,List.all_eq_true,decide_eq_true_eq];constructor
   ·intro h;have hs:∀ i,i<t.Rules.length->soundS (t.Rules.getD i default) t.Modes=true:=by
     intro i hi;have:=h i hi;unfold stopS at this;split at this
     ·assumption
     ·cases this
    refine ⟨λ r hr=>?_,?_⟩
    ·obtain ⟨i,hi,e⟩:=List.getElem_of_mem hr;have:=hs i hi;rwa [getD_at hi,e] at this
    ·rw [List.Nodup,List.pairwise_iff_getElem];intro k i hk hi hlt e;have h0:=h i hi;unfold stopS at h0;rw [if_pos (hs i hi)] at h0;obtain ⟨_,r,_,_,hsc⟩:=scan_some (N:=i) (stop:=λ k=>if t.Rules.getD k default=t.Rules.getD i default then some ((i:Int),(20:Int)) else none) hlt (by rw [getD_at hk,getD_at hi,if_pos e];rfl)
     unfold dupS at h0;rw [hsc] at h0;cases h0
   ·rintro ⟨h1,h2⟩ i hi;unfold stopS;rw [if_pos (by rw [getD_at hi];exact h1 _ (List.getElem_mem hi))];have:dupS t i=.inl ():=scan_none λ k hk=>by
     rw [getD_at (show k<t.Rules.length by omega),getD_at hi,if_neg];rw [List.Nodup,List.pairwise_iff_getElem] at h2;exact h2 k i (by omega) hi hk
    rw [this]
  cases hv:(t.Rules.all (λ r=>soundS r t.Modes)&&decide t.Rules.Nodup) with
  | true=>rw [scan_none (hiff.2 hv)];rfl
  | false=>
   have:¬∀ i,i<t.Rules.length->stopS t i=none:=λ h=>by rw [hiff.1 h] at hv;cases hv
   have:∃ i,i<t.Rules.length/\stopS t i≠none:=Classical.byContradiction λ hn=>this λ i hi=>Classical.byContradiction λ hc=>hn ⟨i,hi,hc⟩;obtain ⟨i,hi,hne⟩:=this;obtain ⟨k,r,_,hr,hs⟩:=scan_some hi (Option.isSome_iff_ne_none.2 hne);rw [hs];show (r.2==0)=false;rw [h20 k r hr];rfl
theorem valid_ev {t:GTable} (ht:SmallT t):Ev (λ n=>FR2_Valid n t) (validS t):=by
 rw [← checkS_valid];exact Ev.bind (check_ev ht) Ev.const
theorem validT_ev {t:GTable} (ht:SmallT t):Ev (λ n=>FTb_Valid n t) (validS t):=by
 rw [← checkS_valid];exact Ev.bind (checkT_ev ht) Ev.const
theorem validS_sub {t:GTable} {l:List GRule} (h:validS t=true) (hl:l.Sublist t.Rules) (h1:1<=l.length):validS ⟨t.Modes,t.Accept,l⟩=true:=by
 unfold validS badS at h ⊢;simp only [Bool.and_eq_true,Bool.not_eq_true',Bool.or_eq_false_iff,decide_eq_false_iff_not,List.all_eq_true,decide_eq_true_eq] at h ⊢;have hle:=hl.length_le;exact ⟨⟨⟨⟨h.1.1.1.1,by omega⟩,by omega⟩,λ r hr=>h.1.2 r (hl.subset hr)⟩,hl.nodup h.2⟩
theorem validS_sound {t:GTable} (h:validS t=true):∀ r∈t.Rules,soundS r t.Modes=true:=by
 unfold validS at h;simp only [Bool.and_eq_true,List.all_eq_true] at h;exact h.1.2
end Go.AI
end
section
namespace Go.AI
def baseT (r:Int):GTable:=(FR2_Base 0 r).getD default
theorem base_eq (n:Nat) (k:Int) (h0:0<=k):FR2_Base n k=some (baseT (irem k 8))/\0<=irem k 8/\irem k 8<8:=by
 have e:irem k 8=k % 8:=by unfold irem;rw [Int.tmod_eq_emod_of_nonneg h0]
 have hr:irem k 8=0\/irem k 8=1\/irem k 8=2\/irem k 8=3\/irem k 8=4\/irem k 8=5\/irem k 8=6\/irem k 8=7:=by rw [e];omega
 rcases hr with h|h|h|h|h|h|h|h
 all_goals
  refine ⟨?_,by omega,by omega⟩;unfold FR2_Base;rw [h];rfl
def okRuleB (r:GRule):Bool:=decide (0<=r.To)&&decide (r.To<2)&&decide (0<=r.Right)&&decide (r.Right<=63)&&decide (r.Print.length<=3)
theorem okRuleB_ok {r:GRule} (h:okRuleB r=true):RuleOK r:=by
 simp only [okRuleB,Bool.and_eq_true,decide_eq_true_eq] at h;obtain ⟨⟨⟨⟨h1,h2⟩,h3⟩,h4⟩,h5⟩:=h;exact ⟨h1,h2,h3,h4,h5⟩
def okBaseB (t:GTable):Bool:=decide (t.Rules.length<=8)&&t.Rules.all okRuleB&&decide (1<=t.Modes)&&decide (t.Modes<=2)&&validS t
theorem base_ok {r:Int} (h:0<=r) (h':r<8):okBaseB (baseT r)=true:=by
 have:∀ k:Nat,k<8->okBaseB (baseT (k:Int))=true:=by decide +kernel
 have e:=this r.toNat (by omega);rwa [Int.toNat_of_nonneg h] at e
def U8 (n:Int):Prop:=0<=n/\n<256
def RawOK (x:GRawRule):Prop:=(∀ a∈x.P,U8 a)/\(∀ a∈x.C,U8 a)/\U8 x.L/\U8 x.R/\U8 x.W.a0/\U8 x.W.a1
theorem irem_range {a m:Int} (h:0<=a) (hm:0<m):0<=irem a m/\irem a m<m:=(rem_range h hm).2
theorem idx_in {α:Type} {l:List α} {i:Int} (h:0<=i) (h':i<l.length):∃ x,x∈l/\idx l i=some x:=by
 have hl:i.toNat<l.length:=by omega
 refine ⟨l[i.toNat],List.getElem_mem hl,?_⟩;unfold idx;rw [if_pos h];exact List.getElem?_eq_getElem hl
theorem sub_one {α:Type} {l:List α} {i:Int} (h:0<=i) (h':i<l.length):∃ z,z.length=1/\sub l i (i+1)=some z:=by
 refine ⟨(l.take (i+1).toNat).drop i.toNat,?_,?_⟩
 ·simp;omega
 ·unfold sub;rw [if_pos (by omega)]
def Alike (a b:GRule):Prop:=a.Left=b.Left/\a.Right=b.Right/\a.From=b.From/\a.To=b.To
theorem ruleP_ev (x:GRawRule) (hx:∀ a∈x.P,U8 a) (r0:GRule) (h0:r0.Print=[]):Tot (λ n=>whl (λ (y:(GRule×Int))=>FR2_Rule_L1 n x y.1 y.2) n (r0,0)) (λ r=>r.Print.length<=3/\Alike r r0):=by
 refine Tot.upto (body:=λ n y=>FR2_Rule_L1 n x y.1 y.2) (min x.P.length 3) (λ i y=>y.2=(i:Int)/\y.1.Print.length=i/\Alike y.1 r0) ?_ ?_ (r0,0) ⟨rfl,by simp [h0],rfl,rfl,rfl,rfl⟩
 ·rintro i ⟨r,i'⟩ hi ⟨h1,h2,h3⟩;simp only at h1 h2 h3;subst h1;obtain ⟨c,hcm,hci⟩:=idx_in (l:=x.P) (i:=(i:Int)) (by omega) (by omega);have hu:=hx c hcm;have hr:=irem_range (m:=9) hu.1 (by omega);have hw:IntKind.i64.wrap (irem c 9)=irem c 9:=wrap64 (by omega) (by omega);obtain ⟨z,hz1,hz⟩:=sub_one (l:=([97,98,99,65,66,49,50,45,46]:List UInt8)) (i:=irem c 9) hr.1 (by simpa using hr.2);unfold FR2_Rule_L1;refine Tot.iteT (by simp only [Bool.and_eq_true,decide_eq_true_eq];omega) (Tot.bindC hci ?_);simp only [hw];rw [add64 (by omega) (by omega)];refine Tot.bindC hz (Tot.bindC (cat_le (by omega)) (Tot.pure ⟨succ64 (by omega),by simp [h2,hz1],h3⟩))
 ·rintro ⟨r,i'⟩ ⟨h1,h2,h3⟩;simp only at h1 h2 h3;subst h1;unfold FR2_Rule_L1;exact Tot.iteF (by rw [← Bool.not_eq_true];simp only [Bool.and_eq_true,decide_eq_true_eq];omega) (Tot.pure ⟨by show r.Print.length<=3;omega,h3⟩)
theorem ruleC_ev (x:GRawRule) (hx:∀ a∈x.C,U8 a) (r0:GRule) (h0:r0.Cells.length=1):Tot (λ n=>whl (λ (y:(GRule×Int))=>FR2_Rule_L2 n x y.1 y.2) n (r0,0)) (λ r=>(r.Cells.length<=3/\1<=r.Cells.length)/\r.Print=r0.Print/\Alike r r0):=by
 refine Tot.upto (body:=λ n y=>FR2_Rule_L2 n x y.1 y.2) (min x.C.length 2) (λ i y=>y.2=(i:Int)/\y.1.Cells.length=i+1/\y.1.Print=r0.Print/\Alike y.1 r0) ?_ ?_ (r0,0) ⟨rfl,by simp [h0],rfl,rfl,rfl,rfl,rfl⟩
 ·rintro i ⟨r,i'⟩ hi ⟨h1,h2,h3,h4⟩;simp only at h1 h2 h3 h4;subst h1;obtain ⟨c,hcm,hci⟩:=idx_in (l:=x.C) (i:=(i:Int)) (by omega) (by omega);have hu:=hx c hcm;have hr:=irem_range (m:=8) hu.1 (by omega);obtain ⟨z,_,hz⟩:=idx_in (l:=([1,3,9,5,7,32,44,60]:List Int)) (i:=irem c 8) hr.1 (by simpa using hr.2);unfold FR2_Rule_L2;refine Tot.iteT (by simp only [Bool.and_eq_true,decide_eq_true_eq];omega) (Tot.bindC hci (Tot.bindC hz (Tot.bindC (app_le (by simp;omega)) (Tot.pure ⟨succ64 (by omega),by simp [h2],h3,h4⟩))))
 ·rintro ⟨r,i'⟩ ⟨h1,h2,h3,h4⟩;simp only at h1 h2 h3 h4;subst h1;unfold FR2_Rule_L2;exact Tot.iteF (by rw [← Bool.not_eq_true];simp only [Bool.and_eq_true,decide_eq_true_eq];omega) (Tot.pure ⟨by show r.Cells.length<=3/\1<=r.Cells.length;omega,h3,h4⟩)
theorem rule_ev {x:GRawRule} (hx:RawOK x) {m:Int} (hm:1<=m) (hm':m<=2):Tot (λ n=>FR2_Rule n x m) (λ r=>RuleOK r/\(r.Cells.length<=3/\1<=r.Cells.length)/\0<=r.From/\r.From<m/\0<=r.To/\r.To<m):=by
 obtain ⟨hP,hC,hL,hR,hW0,hW1⟩:=hx;have l8:=irem_range (m:=8) hL.1 (by omega);have r8:=irem_range (m:=8) hR.1 (by omega);obtain ⟨a,ham,ha⟩:=idx_in (l:=([63,63,2,8,17,62,4,1]:List Int)) (i:=irem x.L 8) l8.1 (by simpa using l8.2);obtain ⟨b,hbm,hb⟩:=idx_in (l:=([63,63,2,8,17,62,4,1]:List Int)) (i:=irem x.R 8) r8.1 (by simpa using r8.2);have hq:0<=iquo .u8 x.L 8:=by unfold iquo;exact (wrap8_range _).1
 have q8:=irem_range (m:=8) hq (by omega);obtain ⟨c,_,hc⟩:=idx_in (l:=([1,3,9,5,7,32,44,60]:List Int)) (i:=irem (iquo .u8 x.L 8) 8) q8.1 (by simpa using q8.2);have hg:guardB (!(m==0))=some ():=guardB_of (by simp;omega);have w0:IntKind.i64.wrap x.W.a0=x.W.a0:=wrap64 (by have:=hW0.1;omega) (by have:=hW0.2;omega);have w1:IntKind.i64.wrap x.W.a1=x.W.a1:=wrap64 (by have:=hW1.1;omega) (by have:=hW1.2;omega);have hfr:=irem_range (a:=x.W.a0) (m:=m) hW0.1 (by omega);have hto:=irem_range (a:=x.W.a1) (m:=m) hW1.1 (by omega);have hbr:0<=b/\b<=63:=by
  simp at hbm;omega
 unfold FR2_Rule;refine Tot.bindC ha (Tot.bindC hb (Tot.bindC hg (Tot.bindC hg (Tot.bind (ruleP_ev x hP _ rfl) ?_))));rintro r1 ⟨p1,p2,p3,p4,p5⟩;refine Tot.bindC hc (Tot.bind (ruleC_ev x hC _ rfl) ?_);rintro r2 ⟨q1,q2,q3,q4,q5,q6⟩;simp only at q2 q3 q4 q5 q6;rw [p3] at q4;rw [p4] at q5;rw [p5] at q6;simp only [w0,w1] at q5 q6 q4;refine Tot.pure ⟨⟨?_,?_,?_,?_,?_⟩,q1,?_,?_,?_,?_⟩
 all_goals first|(rw [q6];omega)|(rw [q4];omega)|(rw [q5];omega)|(rw [q2];exact p1)
def RawTabOK (x:GRaw):Prop:=0<=x.Base/\∀ r∈x.More,RawOK r
structure MadeOK (t:GTable):Prop where
 tab:TabOK t
 lo:1<=t.Modes
 hi:t.Modes<=2
 valid:validS t=true
theorem MadeOK.sound {t:GTable} (h:MadeOK t):∀ r∈t.Rules,soundS r t.Modes=true:=validS_sound h.valid
theorem soundS_len {r:GRule} {m:Int} (h:soundS r m=true):r.Print.length<=4/\1<=r.Cells.length/\r.Cells.length<=4:=by
 simp only [soundS,Bool.and_eq_true,decide_eq_true_eq] at h;omega
theorem MadeOK.small {t:GTable} (h:MadeOK t):SmallT t:=⟨by have:=h.tab.1;omega,λ r hr=>by have:=soundS_len (h.sound r hr);exact ⟨by omega,by omega⟩⟩
theorem made1_ev (x:GRaw) (b:GTable) (hb:b.Rules.length<=8):Tot (λ n=>whl (λ (y:(GTable×Int))=>FR2_Made_L1 n x b y.1 y.2) n (({ Modes:=b.Modes,Accept:=b.Accept,Rules:=[] }:GTable),0)) (λ t=>t.Modes=b.Modes/\t.Accept=b.Accept/\t.Rules.Sublist b.Rules):=by
 refine Tot.upto (body:=λ n y=>FR2_Made_L1 n x b y.1 y.2) b.Rules.length (λ i y=>y.2=(i:Int)/\y.1.Modes=b.Modes/\y.1.Accept=b.Accept/\y.1.Rules.Sublist (b.Rules.take i)) ?_ ?_ _ ⟨rfl,rfl,rfl,by simp⟩
 ·rintro i ⟨t,i'⟩ hi ⟨h1,h2,h3,h4⟩;simp only at h1 h2 h3 h4;subst h1;have ht:b.Rules.take (i+1)=b.Rules.take i++[b.Rules.getD i default]:=by rw [List.take_add_one,getD_at hi,List.getElem?_eq_getElem hi];rfl
  have hlen:=h4.length_le;rw [List.length_take] at hlen;unfold FR2_Made_L1;refine Tot.iteT (lt_d hi) (Tot.bindC (guardB_of (by simp)) (Tot.ite (λ _=>Tot.bindC (idx_nd hi) (Tot.bindC (app_le (by simp;omega)) ?_)) λ _=>?_))
  ·unfold FR2_Made_J1;exact Tot.pure ⟨succ64 (by omega),h2,h3,by rw [ht];exact h4.append (List.Sublist.refl _)⟩
  ·unfold FR2_Made_J1;exact Tot.pure ⟨succ64 (by omega),h2,h3,by rw [ht];exact h4.trans (List.sublist_append_left _ _)⟩
 ·rintro ⟨t,i'⟩ ⟨h1,h2,h3,h4⟩;simp only at h1 h2 h3 h4;subst h1;rw [List.take_length] at h4;unfold FR2_Made_L1;exact Tot.iteF (by simp) (Tot.pure ⟨h2,h3,h4⟩)
structure Half (b t:GTable):Prop where
 modes:t.Modes=b.Modes
 accept:t.Accept=b.Accept
 rules:∀ r∈t.Rules,RuleOK r/\r.Cells.length<=4
 valid:t.Rules=[]\/validS t=true
theorem smallT_of {t:GTable} (hl:t.Rules.length<=11) (h:∀ r∈t.Rules,RuleOK r/\r.Cells.length<=4):SmallT t:=⟨by omega,λ r hr=>⟨by have:=(h r hr).1.2.2.2.2;omega,by have:=(h r hr).2;omega⟩⟩
theorem made2_ev (x:GRaw) (hx:∀ r∈x.More,RawOK r) (b t0:GTable) (hlo:1<=b.Modes) (hhi:b.Modes<=2) (h0:Half b t0) (hl0:t0.Rules.length<=8):Tot (λ n=>whl (λ (y:(GTable×Int))=>FR2_Made_L2 n x b y.1 y.2) n (t0,0)) (λ t=>Half b t/\t.Rules.length<=10):=by
 refine Tot.upto (body:=λ n y=>FR2_Made_L2 n x b y.1 y.2) (min x.More.length 2) (λ i y=>y.2=(i:Int)/\Half b y.1/\y.1.Rules.length<=8+i) ?_ ?_ _ ⟨rfl,h0,by simpa using hl0⟩
 ·rintro i ⟨t,i'⟩ hi ⟨h1,h2,h3⟩;simp only at h1 h2 h3;subst h1;unfold FR2_Made_L2;refine Tot.iteT (by simp only [Bool.and_eq_true,decide_eq_true_eq];omega) (Tot.bindC (idx_lt (by omega)) ?_);rw [h2.modes];refine Tot.bind (rule_ev (hx _ (List.getElem_mem _)) hlo hhi) ?_;rintro r ⟨hr1,hr2,-⟩;refine Tot.bindC (app_le (by simp;omega)) ?_;have hall:∀ q∈t.Rules++[r],RuleOK q/\q.Cells.length<=4:=by
   intro q hq;simp only [List.mem_append,List.mem_singleton] at hq;rcases hq with hq|rfl
   ·exact h2.rules q hq
   ·exact ⟨hr1,by omega⟩
  refine Tot.bindE (valid_ev (smallT_of (t:=⟨b.Modes,t.Accept,t.Rules++[r]⟩) (by simp;omega) hall)) ?_;refine Tot.ite (λ _=>?_) λ hv=>?_
  ·have e:isub .i64 ((List.length (t.Rules++[r]):Nat):Int) 1=(t.Rules.length:Nat):=by
    rw [sub64 (by simp<;>omega) (by simp<;>omega)];simp
   rw [e];refine Tot.bindC (sub_pre (by simp)) ?_;unfold FR2_Made_J2;rw [List.take_left' rfl];exact Tot.pure ⟨succ64 (by omega),⟨rfl,h2.accept,h2.rules,by have:=h2.valid;have hm:=h2.modes;cases t;simp only at hm this ⊢;subst hm;exact this⟩,by simp only;omega⟩
  ·unfold FR2_Made_J2;exact Tot.pure ⟨succ64 (by omega),⟨rfl,h2.accept,hall,.inr (by simpa using hv)⟩,by simp;omega⟩
 ·rintro ⟨t,i'⟩ ⟨h1,h2,h3⟩;simp only at h1 h2 h3;subst h1;unfold FR2_Made_L2;exact Tot.iteF (by rw [← Bool.not_eq_true];simp only [Bool.and_eq_true,decide_eq_true_eq];omega) (Tot.pure ⟨h2,by show t.Rules.length<=10;omega⟩)
theorem made_ev10 {x:GRaw} (hx:RawTabOK x):∃ t,(MadeOK t/\1<=t.Rules.length/\t.Rules.length<=10)/\Ev (λ n=>FR2_Made n x) t:=by
 have hb:∀ n,FR2_Base n x.Base=some (baseT (irem x.Base 8)):=λ n=>(base_eq n x.Base hx.1).1;have hok:=base_ok (base_eq 0 x.Base hx.1).2.1 (base_eq 0 x.Base hx.1).2.2;generalize baseT (irem x.Base 8)=b at *;unfold okBaseB at hok;simp only [Bool.and_eq_true,decide_eq_true_eq,List.all_eq_true] at hok;obtain ⟨⟨⟨⟨o1,o2⟩,o3⟩,o4⟩,o5⟩:=hok;have gb:∀ r∈b.Rules,RuleOK r/\r.Cells.length<=4:=λ r hr=>⟨okRuleB_ok (o2 r hr),(soundS_len (validS_sound o5 r hr)).2.2⟩;have hne:∀ t:GTable,validS t=true->1<=t.Rules.length:=λ t h=>by
  unfold validS badS at h;simp only [Bool.and_eq_true,Bool.not_eq_true',Bool.or_eq_false_iff,decide_eq_false_iff_not] at h;omega
 have:Tot (λ n=>FR2_Made n x) (λ t=>MadeOK t/\1<=t.Rules.length/\t.Rules.length<=10):=by
  unfold FR2_Made;refine Tot.bindA hb (Tot.bind (made1_ev x b o1) ?_);rintro t1 ⟨a1,a2,a3⟩;refine Tot.bind (made2_ev x hx.2 b t1 o3 o4 ⟨a1,a2,λ r hr=>gb r (a3.subset hr),?_⟩ (by have:=a3.length_le;omega)) ?_
  ·rcases Nat.eq_zero_or_pos t1.Rules.length with h|h
   ·exact .inl (List.length_eq_zero_iff.1 h)
   ·right;have:=validS_sub o5 a3 h;cases t1;simp only at a1 a2 this ⊢;subst a1 a2;exact this
  rintro t2 ⟨b1,b2⟩;refine Tot.ite (λ h=>?_) λ h=>?_
  ·unfold FR2_Made_J3;have e:(⟨t2.Modes,t2.Accept,b.Rules⟩:GTable)=b:=by rw [b1.modes,b1.accept]
   rw [e];exact Tot.pure ⟨⟨⟨by omega,λ r hr=>(gb r hr).1⟩,o3,o4,o5⟩,hne b o5,by omega⟩
  ·unfold FR2_Made_J3;have hv:validS t2=true:=b1.valid.resolve_left λ e=>by rw [e] at h;cases h
   exact Tot.pure ⟨⟨⟨by omega,λ r hr=>(b1.rules r hr).1⟩,by rw [b1.modes];exact o3,by rw [b1.modes];exact o4,hv⟩,hne t2 hv,b2⟩
 obtain ⟨t,ht,hE⟩:=this;exact ⟨t,ht,hE⟩
end Go.AI
end
section
namespace Go.AI
def ruleAt (t:GTable) (k:Int):GRule:=t.Rules[k.toNat]?.getD default
theorem stepS_in {t:GTable} {s:GState} {k:Int} (h:(stepS t s k).2=true):0<=k/\k<t.Rules.length:=by
 unfold stepS at h;split at h
 ·cases h
 ·rename_i hk;simp only [Bool.or_eq_true,decide_eq_true_eq,not_or] at hk;omega
theorem idx_rule {t:GTable} {k:Int} (h:0<=k) (h':k<t.Rules.length):idx t.Rules k=some (ruleAt t k):=idx_getD h h'
theorem ruleAt_mem {t:GTable} {k:Int} (h:0<=k) (h':k<t.Rules.length):ruleAt t k∈t.Rules:=by
 unfold ruleAt;rw [List.getElem?_eq_getElem (by omega)];exact List.getElem_mem _
end Go.AI
end
section
namespace Go.AI
theorem indexS_get {st:List GState} (hn:st.Nodup) {i:Nat} {s:GState} (h:st[i]? = some s):indexS st s=(i:Int):=by
 unfold indexS;rw [findIdx_some hn h]
theorem get_inj {st:List GState} (hn:st.Nodup) {i j:Nat} {s:GState} (h:st[i]? = some s) (h':st[j]? = some s):i=j:=by
 have a:=findIdx_some hn h;rw [findIdx_some hn h'] at a;cases a;rfl
theorem inc64 {i:Nat} (h:i<9223372036854775807):iadd .i64 (i:Int) 1=((i+1:Nat):Int):=by
 rw [iadd64 (by omega) (by omega)];rfl
theorem indexS_in {st:List GState} {s:GState} (h:s∈st):∃ i:Nat,indexS st s=i/\st[i]? = some s:=by
 unfold indexS;cases hf:st.findIdx? (λ x=>decide (x=s)) with
 | none=>
  rw [List.findIdx?_eq_none_iff] at hf;have:=hf s h;simp at this
 | some i=>
  rw [List.findIdx?_eq_some_iff_getElem] at hf;obtain ⟨hi,h1,_⟩:=hf;refine ⟨i,rfl,?_⟩;rw [List.getElem?_eq_getElem hi];simpa using h1
theorem indexS_out {st:List GState} {s:GState} (h:s ∉ st):indexS st s=-1:=by
 unfold indexS;rw [findIdx_none h]
theorem indexS_neg {st:List GState} {s:GState}:indexS st s<0↔s ∉ st:=by
 constructor
 ·intro h hm;obtain ⟨i,e,_⟩:=indexS_in hm;omega
 ·intro h;rw [indexS_out h];omega
theorem states3i_ev {t:GTable} (ht:TabOK t) {st:List GState} (hF:Found t st) {i:Nat} {s:GState} (hi:st[i]? = some s):Tot (λ n=>whl (λ (x:((List GState)×Int))=>FR3_States_L2 n t (i:Int) x.1 x.2) n (st,0)) (λ r=>r=expS t s t.Rules.length st):=by
 have hr:=ht.1;refine Tot.upto (body:=λ n x=>FR3_States_L2 n t (i:Int) x.1 x.2) t.Rules.length (λ k x=>x.2=(k:Int)/\x.1=expS t s k st) ?_ ?_ _ ⟨rfl,rfl⟩
 ·rintro k ⟨l,k'⟩ hk ⟨e1,e2⟩;simp only at e1 e2;subst e1 e2;have hFk:=hF.exp ht hi k (by omega);have hik:=pre_get (expS_pre t s st k) hi;have hlen:=hFk.len;unfold FR3_States_L2;refine Tot.iteT (by simpa using hk) (Tot.bindC (idx_at hik) (Tot.bindA (λ n=>step3_eq ht.short n s k) (Tot.guard (R:=λ z=>z=indexS (expS t s k st) (stepS t s k).1) (λ _=>(index_ev (by dsimp only;omega)).tot rfl) (λ z hz=>?_))));have hJ:∀ l',l'=expS t s (k+1) st->Tot (λ n=>FR3_States_J1 n (k:Int) l') (Rd2 (λ x:List GState×Int=>x.2=((k+1:Nat):Int)/\x.1=expS t s (k+1) st) (λ r=>r=expS t s t.Rules.length st)):=by
   intro l' hl';unfold FR3_States_J1;exact Tot.pure ⟨inc64 (by omega),hl'⟩
  have hx:expS t s (k+1) st=addS t s (expS t s k st) k:=expS_succ t s k st;refine Tot.ite (λ hc=>?_) (λ hc=>?_)
  ·simp only [Bool.and_eq_true,decide_eq_true_eq] at hc;refine Tot.bindC (app_le (by simp;omega)) (hJ _ ?_);rw [hx];unfold addS;rw [if_pos ⟨hc.1,indexS_neg.1 (by rw [← hz hc.1];exact hc.2)⟩]
  ·refine hJ _ ?_;rw [hx];unfold addS;rw [if_neg];rintro ⟨h1,h2⟩;rw [h1,hz h1,decide_eq_true (indexS_neg.2 h2)] at hc;cases hc
 ·rintro ⟨l,k'⟩ ⟨e1,e2⟩;simp only at e1 e2;subst e1 e2;unfold FR3_States_L2;exact Tot.iteF (by simp) (Tot.pure rfl)
theorem found1 (t:GTable):Found t [startS]:=⟨by simp,λ s hs=>by simp at hs;subst hs;exact ⟨by decide,by decide,by decide,by decide,by decide,by decide⟩,rfl,λ j s hj h0=>by cases j with|zero=>omega|succ j=>simp at hj⟩
theorem states3_ev' {t:GTable} (ht:TabOK t):Ev (λ n=>FR3_States n t) (statesS t):=by
 have loop:Tot (λ n=>whl (λ (x:((List GState)×Int))=>FR3_States_L1 n t x.1 x.2) n ([startS],0)) (λ r=>r=statesS t):=by
  refine Tot.whl (body:=λ n x=>FR3_States_L1 n t x.1 x.2) (λ k x=>∃ i:Nat,i<=x.1.length/\k=800-i/\bfsS t (800-i) i x.1=statesS t/\x.2=(i:Int)/\Found t x.1) ?_ 800 _ ⟨0,by simp,by omega,rfl,rfl,found1 t⟩;rintro k ⟨st,i'⟩ ⟨i,hil,rfl,hb,hi',hF⟩;simp only at hil hb hi' hF;subst hi';have hlen:=hF.len;unfold FR3_States_L1;refine Tot.ite (λ hc=>?_) (λ hc=>?_)
  ·have hlt:i<st.length:=by simpa using hc
   have hi:st[i]? = some st[i]:=List.getElem?_eq_getElem hlt;have hexp:=hF.exp ht hi _ (Nat.le_refl _);refine Tot.bind (states3i_ev ht hF hi) ?_;rintro _ rfl;refine Tot.pure ⟨800-(i+1),by omega,i+1,?_,rfl,?_,?_,hexp⟩
   ·have:=(expS_pre t st[i] st t.Rules.length).length_le;dsimp only;omega
   ·dsimp only;rw [← hb];have e:800-i=(800-(i+1))+1:=by omega
    rw [e];simp only [bfsS,hi]
   ·exact inc64 (by omega)
  ·have hge:st.length<=i:=by simpa using hc
   have e:i=st.length:=by omega
   subst e;refine Tot.pure ?_;show st=statesS t;rw [← hb];have e:800-st.length=(800-(st.length+1))+1:=by omega
   rw [e];simp [bfsS]
 refine Tot.ev ?_;unfold FR3_States;exact Tot.bindA (y:=startS) (λ n=>rfl) (Tot.bind loop λ _ h=>Tot.pure h)
end Go.AI
end
section
namespace Go.AI
def Edge (t:GTable) (st:List GState) (i:Nat) (k:Nat) (j:Nat):Prop:=∃ s s',st[i]? = some s/\k<t.Rules.length/\st[j]? = some s'/\stepS t s (k:Nat)=(s',true)
def cntF (l:List Bool):Nat:=l.count false
theorem cntF_set {l:List Bool} {i:Nat} (h:l[i]? = some false):cntF (l.set i true)+1=cntF l:=by
 have hi:=getElem?_lt' h;rw [List.getElem?_eq_getElem hi] at h;have h':l[i]=false:=by simpa using h
 have hp:0<List.count false l:=List.count_pos_iff.2 (h'▸List.getElem_mem hi);unfold cntF;rw [List.count_set hi,h'];simp;omega
end Go.AI
end
section
namespace Go.AI
def Goes (t:GTable) (s:GState):List Int->GState->Prop
 | [],s'=>s=s'
 | k::p,s'=>(stepS t s k).2=true/\Goes t (stepS t s k).1 p s'
theorem Goes.snoc {t:GTable}:∀ {p:List Int} {s s':GState} {k:Int},Goes t s p s'->(stepS t s' k).2=true->Goes t s (p++[k]) (stepS t s' k).1
 | [],s,s',k,h,h'=>by
  unfold Goes at h;subst h;exact ⟨h',rfl⟩
 | a::p,s,s',k,h,h'=>⟨h.1,Goes.snoc h.2 h'⟩
theorem Goes.mem {t:GTable}:∀ {p:List Int} {s s':GState},Goes t s p s'->∀ k∈p,0<=k/\k<t.Rules.length
 | [],_,_,_,k,hk=>by cases hk
 | a::p,s,s',h,k,hk=>by
  rcases List.mem_cons.1 hk with rfl|hk
  ·exact stepS_in h.1
  ·exact Goes.mem h.2 k hk
def textOf (t:GTable) (p:List Int):List UInt8:=p.flatMap λ k=>(ruleAt t k).Print
def cellsOf (t:GTable) (p:List Int):List Int:=p.flatMap λ k=>(ruleAt t k).Cells
end Go.AI
end
section
namespace Go.AI
def Way (t:GTable) (q:GState) (x:List UInt8) (p:List Int):Prop:=(∃ q',Goes t q p q'/\acceptsS t q'=true)/\textOf t p=x
def lenK (t:GTable) (p:List Int):Nat:=(cellsOf t p).length
def IsCost (t:GTable) (q:GState) (x:List UInt8) (v:Int):Prop:=(v=-1/\∀ p,¬Way t q x p)\/∃ p,Way t q x p/\v=(lenK t p:Nat)/\∀ p',Way t q x p'->lenK t p<=lenK t p'
theorem cost_ex (t:GTable) (q:GState) (x:List UInt8):∃ v,IsCost t q x v:=by
 by_cases h:∃ p,Way t q x p
 ·obtain ⟨p,hp⟩:=h;have key:∀ (n:Nat) (p:List Int),lenK t p=n->Way t q x p->∃ v,IsCost t q x v:=by
   intro n;induction n using Nat.strongRecOn with
   | _ n ih=>
    intro p hn hp;by_cases hm:∃ p',Way t q x p'/\lenK t p'<n
    ·obtain ⟨p',h1,h2⟩:=hm;exact ih _ h2 p' rfl h1
    ·exact ⟨(lenK t p:Nat),.inr ⟨p,hp,rfl,λ p' hp'=>Nat.le_of_not_lt λ hlt=>hm ⟨p',hp',by omega⟩⟩⟩
  exact key _ p rfl hp
 ·exact ⟨-1,.inl ⟨rfl,λ p hp=>h ⟨p,hp⟩⟩⟩
theorem IsCost.uniq {t:GTable} {q:GState} {x:List UInt8} {v w:Int} (h:IsCost t q x v) (h':IsCost t q x w):v=w:=by
 rcases h with ⟨h1,h2⟩|⟨p,h1,h2,h3⟩
 ·rcases h' with ⟨g1,g2⟩|⟨p',g1,g2,g3⟩
  ·omega
  ·exact absurd g1 (h2 p')
 ·rcases h' with ⟨g1,g2⟩|⟨p',g1,g2,g3⟩
  ·exact absurd h1 (g2 p)
  ·have:=h3 p' g1;have:=g3 p h1;omega
noncomputable def costS (t:GTable) (q:GState) (x:List UInt8):Int:=Classical.choose (cost_ex t q x)
theorem costS_is (t:GTable) (q:GState) (x:List UInt8):IsCost t q x (costS t q x):=Classical.choose_spec (cost_ex t q x)
theorem costS_eq {t:GTable} {q:GState} {x:List UInt8} {v:Int} (h:IsCost t q x v):costS t q x=v:=(costS_is t q x).uniq h
theorem costS_le {t:GTable} {q:GState} {x:List UInt8} {p:List Int} (h:Way t q x p):0<=costS t q x/\costS t q x<=(lenK t p:Nat):=by
 rcases costS_is t q x with ⟨h1,h2⟩|⟨p',h1,h2,h3⟩
 ·exact absurd h (h2 p)
 ·have:=h3 p h;omega
theorem costS_way {t:GTable} {q:GState} {x:List UInt8} (h:0<=costS t q x):∃ p,Way t q x p/\costS t q x=(lenK t p:Nat):=by
 rcases costS_is t q x with ⟨h1,h2⟩|⟨p',h1,h2,h3⟩
 ·omega
 ·exact ⟨p',h1,h2⟩
theorem costS_ge (t:GTable) (q:GState) (x:List UInt8):-1<=costS t q x:=by
 rcases costS_is t q x with h1|⟨p',h1,h2,h3⟩<;>omega
abbrev prt (t:GTable) (k:Int):List UInt8:=(ruleAt t k).Print
abbrev cls (t:GTable) (k:Int):List Int:=(ruleAt t k).Cells
theorem textOf_cons (t:GTable) (k:Int) (p:List Int):textOf t (k::p)=prt t k++textOf t p:=by simp [textOf]
theorem lenC_cons (t:GTable) (k:Int) (p:List Int):lenK t (k::p)=(cls t k).length+lenK t p:=by simp [lenK,cellsOf]
theorem Way.cons {t:GTable} {q:GState} {x:List UInt8} {p:List Int} {k:Int} (hk:(stepS t q k).2=true) (h:Way t (stepS t q k).1 x p):Way t q (prt t k++x) (k::p):=by
 obtain ⟨⟨q',h1,h2⟩,h3⟩:=h;exact ⟨⟨q',⟨hk,h1⟩,h2⟩,by rw [textOf_cons,h3]⟩
theorem Way.uncons {t:GTable} {q:GState} {x:List UInt8} {p:List Int} {k:Int} (h:Way t q x (k::p)):(stepS t q k).2=true/\∃ y,x=prt t k++y/\Way t (stepS t q k).1 y p:=by
 obtain ⟨⟨q',h1,h2⟩,h3⟩:=h;exact ⟨h1.1,textOf t p,by rw [← h3,textOf_cons],⟨q',h1.2,h2⟩,rfl⟩
theorem Way.nil {t:GTable} {q:GState} {x:List UInt8} (h:Way t q x []):x=[]/\acceptsS t q=true:=by
 obtain ⟨⟨q',h1,h2⟩,h3⟩:=h;unfold Goes at h1;subst h1;exact ⟨h3.symm,h2⟩
noncomputable def nextKC (t:GTable) (q:GState) (x:List UInt8) (k:Int):Int:=
 if (stepS t q k).2=true/\prt t k <+: x/\0<=costS t (stepS t q k).1 (x.drop (prt t k).length) then costS t (stepS t q k).1 (x.drop (prt t k).length)+(cls t k).length else -1
theorem nextC_ge {t:GTable} {q:GState} {x:List UInt8} {k:Int} (h:0<=nextKC t q x k):0<=costS t q x/\costS t q x<=nextKC t q x k:=by
 unfold nextKC at h ⊢;split at h
 ·rename_i hc;rw [if_pos hc];obtain ⟨h1,⟨y,rfl⟩,h3⟩:=hc;rw [List.drop_left] at h3 h ⊢;obtain ⟨p,hp,he⟩:=costS_way h3;have:=costS_le (hp.cons h1);rw [lenC_cons] at this;omega
 ·omega
theorem fix_cost {t:GTable} {S:GState->Prop} {x:List UInt8} {f:GState->Int}
  (ach:∀ q,S q->f q=-1\/∃ p,Way t q x p/\f q=(lenK t p:Nat))
  (acc:∀ q,S q->x=[]->acceptsS t q=true->f q=0)
  (rel:∀ q k,S q->(stepS t q k).2=true->prt t k≠[]->∀ y,x=prt t k++y->0<=costS t (stepS t q k).1 y->0<=f q/\f q<=costS t (stepS t q k).1 y+(cls t k).length)
  (sil:∀ q k,S q->(stepS t q k).2=true->prt t k=[]->S (stepS t q k).1/\(0<=f (stepS t q k).1->0<=f q/\f q<=f (stepS t q k).1+(cls t k).length)) :
  ∀ q,S q->IsCost t q x (f q):=by
 have low:∀ (p:List Int) (q:GState),S q->Way t q x p->0<=f q/\f q<=(lenK t p:Nat):=by
  intro p;induction p with
  | nil=>
   intro q hq h;obtain ⟨h1,h2⟩:=h.nil;rw [acc q hq h1 h2];omega
  | cons k p ih=>
   intro q hq h;obtain ⟨h1,y,h2,h3⟩:=h.uncons;rw [lenC_cons];by_cases he:prt t k=[]
   ·obtain ⟨g1,g2⟩:=sil q k hq h1 he;rw [he,List.nil_append] at h2;subst h2;have h4:=ih _ g1 h3;have:=g2 h4.1;omega
   ·have h4:=costS_le h3;have:=rel q k hq h1 he y h2 h4.1;omega
 intro q hq;rcases ach q hq with h|⟨p,h1,h2⟩
 ·exact .inl ⟨h,λ p hp=>by have:=low p q hq hp;omega⟩
 ·exact .inr ⟨p,h1,h2,λ p' hp'=>by have:=low p' q hq hp';omega⟩
inductive Greedy (t:GTable):GState->List UInt8->List Int->Prop
 | nil {q:GState} {x:List UInt8} (h:costS t q x<=0):Greedy t q x []
 | cons {q:GState} {x:List UInt8} {k:Nat} {p:List Int} (h:0<costS t q x) (hk:nextKC t q x k=costS t q x) (hm:∀ j:Nat,j<k->nextKC t q x j≠costS t q x) (hp:Greedy t (stepS t q k).1 (x.drop (prt t k).length) p):Greedy t q x (k::p)
theorem Greedy.uniq {t:GTable} {q:GState} {x:List UInt8} {p p':List Int} (h:Greedy t q x p) (h':Greedy t q x p'):p=p':=by
 induction h generalizing p' with
 | nil h=>
  cases h' with
  | nil=>rfl
  | cons g=>omega
 | cons h hk hm _ ih=>
  cases h' with
  | nil g=>omega
  | cons g gk gm gp=>
   rename_i k _ _ k' _;have:k=k':=by
    rcases Nat.lt_trichotomy k k' with hlt|he|hgt
    ·exact absurd hk (gm _ hlt)
    ·exact he
    ·exact absurd gk (hm _ hgt)
   subst this;rw [ih gp]
theorem nextC_pos {t:GTable} {q:GState} {x:List UInt8} {k:Int} (h:0<=nextKC t q x k):(stepS t q k).2=true/\(∃ y,x=prt t k++y/\x.drop (prt t k).length=y)/\0<=costS t (stepS t q k).1 (x.drop (prt t k).length)/\nextKC t q x k=costS t (stepS t q k).1 (x.drop (prt t k).length)+(cls t k).length:=by
 unfold nextKC at h ⊢;split at h
 ·rename_i hc;rw [if_pos hc];obtain ⟨y,hy⟩:=hc.2.1;exact ⟨hc.1,⟨y,hy.symm,by rw [← hy,List.drop_left]⟩,hc.2.2,rfl⟩
 ·omega
theorem cost_zero {t:GTable} (hc:∀ r∈t.Rules,1<=r.Cells.length) {q:GState} {x:List UInt8} (h:costS t q x=0):Way t q x []:=by
 obtain ⟨p,hp,he⟩:=costS_way (t:=t) (q:=q) (x:=x) (by omega);cases p with
 | nil=>exact hp
 | cons k p=>
  obtain ⟨h1,_⟩:=hp.uncons;have hk:=stepS_in h1;have:=hc _ (ruleAt_mem hk.1 hk.2);rw [lenC_cons] at he;simp only [cls] at he;omega
theorem Greedy.way {t:GTable} (hc:∀ r∈t.Rules,1<=r.Cells.length) {q:GState} {x:List UInt8} {p:List Int} (h:Greedy t q x p) (h0:0<=costS t q x):Way t q x p/\costS t q x=(lenK t p:Nat):=by
 induction h with
 | nil h=>exact ⟨cost_zero hc (by omega),by simp [lenK,cellsOf];omega⟩
 | cons h hk hm _ ih=>
  obtain ⟨h1,⟨y,h2,h3⟩,h4,h5⟩:=nextC_pos (by rw [hk];omega);obtain ⟨i1,i2⟩:=ih h4;rw [h3] at i1 i2 h5;refine ⟨by rw [h2];exact i1.cons h1,?_⟩;rw [lenC_cons];omega
theorem cost_step {t:GTable} {q:GState} {x:List UInt8} (h:0<costS t q x):∃ k:Nat,k<t.Rules.length/\nextKC t q x k=costS t q x:=by
 obtain ⟨p,hp,he⟩:=costS_way (t:=t) (q:=q) (x:=x) (by omega);cases p with
 | nil=>simp [lenK,cellsOf] at he;omega
 | cons k p=>
  obtain ⟨h1,y,h2,h3⟩:=hp.uncons;have hk:=stepS_in h1;obtain ⟨k,rfl⟩:∃ n:Nat,k=n:=⟨k.toNat,by omega⟩;refine ⟨k,by omega,?_⟩;have h4:=costS_le h3;have hn:nextKC t q x k=costS t (stepS t q k).1 y+(cls t k).length:=by
   unfold nextKC;subst h2;rw [List.drop_left,if_pos ⟨h1,List.prefix_append _ _,h4.1⟩]
  have h5:=nextC_ge (t:=t) (q:=q) (x:=x) (k:=(k:Int)) (by omega);rw [lenC_cons] at he;omega
theorem greedy_ex {t:GTable} (hc:∀ r∈t.Rules,1<=r.Cells.length):∀ (n:Nat) (q:GState) (x:List UInt8),costS t q x<=n->∃ p,Greedy t q x p:=by
 intro n;induction n with
 | zero=>intro q x h;exact ⟨[],.nil h⟩
 | succ n ih=>
  intro q x h;rcases Int.lt_or_le 0 (costS t q x) with h0|h0
  ·have hex:=cost_step h0;have key:∀ m,(∃ k,k<m/\nextKC t q x (k:Nat)=costS t q x)->∃ k:Nat,nextKC t q x k=costS t q x/\∀ j:Nat,j<k->nextKC t q x j≠costS t q x:=by
    intro m;induction m with
    | zero=>rintro ⟨k,hk,_⟩;omega
    | succ m ihm=>
     rintro ⟨k,hk,h1⟩;by_cases hm:∃ k,k<m/\nextKC t q x (k:Nat)=costS t q x
     ·exact ihm hm
     ·exact ⟨k,h1,λ j hj hh=>hm ⟨j,by omega,hh⟩⟩
   obtain ⟨k,h1,h2⟩:=key _ hex;obtain ⟨g1,⟨y,g2,g3⟩,g4,g5⟩:=nextC_pos (by rw [h1];omega);have hk:=stepS_in g1;have:=hc _ (ruleAt_mem hk.1 hk.2);obtain ⟨p,hp⟩:=ih (stepS t q k).1 (x.drop (prt t k).length) (by simp only [cls] at g5;omega);exact ⟨k::p,.cons h0 h1 h2 hp⟩
  ·exact ⟨[],.nil h0⟩
end Go.AI
end
section
namespace Go.AI
def finC (l:List Int):Nat:=l.countP λ v=>decide (0<=v)
def phi (B:Nat) (l:List Int):Nat:=(l.map λ v=>if v<0 then B else v.toNat).sum
theorem phi_set {B:Nat} {l:List Int} {j:Nat} {v c:Int} (h:l[j]? = some v) (hc:0<=c) (hlt:c<if v<0 then (B:Int) else v):phi B (l.set j c)<phi B l:=by
 induction l generalizing j with
 | nil=>simp at h
 | cons a l ih=>
  cases j with
  | zero=>
   simp only [List.getElem?_cons_zero,Option.some.injEq] at h;subst h;simp only [phi,List.set_cons_zero,List.map_cons,List.sum_cons];split at hlt
   ·rename_i h1;rw [if_pos h1,if_neg (by omega)];omega
   ·rename_i h1;rw [if_neg h1,if_neg (by omega)];omega
  | succ j=>
   simp only [List.getElem?_cons_succ] at h;have:=ih h;simp only [phi,List.set_cons_succ,List.map_cons,List.sum_cons] at this ⊢;omega
theorem finC_set {l:List Int} {j:Nat} {v c:Int} (h:l[j]? = some v) (hc:0<=c):finC (l.set j c)=finC l+(if v<0 then 1 else 0):=by
 induction l generalizing j with
 | nil=>simp at h
 | cons a l ih=>
  cases j with
  | zero=>
   simp only [List.getElem?_cons_zero,Option.some.injEq] at h;subst h;simp only [finC,List.set_cons_zero,List.countP_cons,decide_eq_true_eq];rw [if_pos hc];by_cases h0:a<0
   ·rw [if_pos h0,if_neg (by omega)]
   ·rw [if_neg h0,if_pos (by omega)]
  | succ j=>
   simp only [List.getElem?_cons_succ] at h;have:=ih h;simp only [finC,List.set_cons_succ,List.countP_cons] at this ⊢;omega
theorem finC_le (l:List Int):finC l<=l.length:=List.countP_le_length
structure Col (t:GTable) (x:List UInt8) (D:Nat) (qs:List GState) (cur:List Int):Prop where
 len:cur.length=qs.length
 ach:∀ (j:Nat) q,qs[j]? = some q->∃ v,cur[j]? = some v/\(v=-1\/∃ p,Way t q x p/\v=(lenK t p:Nat))
 acc:∀ (j:Nat) q,qs[j]? = some q->x=[]->acceptsS t q=true->cur[j]? = some 0
 bnd:∀ (j:Nat) v,cur[j]? = some v->v<=((D+4*finC cur:Nat):Int)
theorem Col.top {t:GTable} {x:List UInt8} {D:Nat} {qs:List GState} {cur:List Int} (h:Col t x D qs cur) {j:Nat} {v:Int} (hv:cur[j]? = some v):-1<=v/\v<=((D+4*qs.length:Nat):Int):=by
 have h1:=h.bnd j v hv;have h2:=finC_le cur;rw [h.len] at h2;have hj:j<qs.length:=by rw [← h.len];exact getElem?_lt' hv
 obtain ⟨w,hw,hd⟩:=h.ach j _ (List.getElem?_eq_getElem hj);rw [hv] at hw;cases hw;refine ⟨?_,by omega⟩;rcases hd with rfl|⟨p,_,rfl⟩<;>omega
theorem Col.get {t:GTable} {x:List UInt8} {D:Nat} {qs:List GState} {cur:List Int} (h:Col t x D qs cur) {j:Nat} (hj:j<qs.length):∃ v,cur[j]? = some v:=⟨_,List.getElem?_eq_getElem (by rw [h.len];exact hj)⟩
theorem Col.lower {t:GTable} {x:List UInt8} {D:Nat} {qs:List GState} {cur:List Int} (h:Col t x D qs cur) {j:Nat} {q:GState} {v c:Int} (hq:qs[j]? = some q) (hv:cur[j]? = some v)
  (hp:∃ p,Way t q x p/\c=(lenK t p:Nat)) (hlt:v<0\/c<v) (hb:c<=((D+4*finC cur+4:Nat):Int)) {B:Nat} (hB:c<(B:Int)):Col t x D qs (cur.set j c)/\phi B (cur.set j c)<phi B cur:=by
 have hc:0<=c:=by obtain ⟨p,_,rfl⟩:=hp;omega
 have hjl:=getElem?_lt' hv;refine ⟨⟨by rw [List.length_set];exact h.len,λ i q' hi=>?_,λ i q' hi hx ha=>?_,λ i w hw=>?_⟩,phi_set hv hc (by split<;>omega)⟩
 ·by_cases e:j=i
  ·subst e;rw [hq] at hi;cases hi;exact ⟨c,List.getElem?_set_self hjl,.inr hp⟩
  ·rw [List.getElem?_set_ne e];exact h.ach i q' hi
 ·by_cases e:j=i
  ·subst e;rw [h.acc j q' hi hx ha] at hv;cases hv;omega
  ·rw [List.getElem?_set_ne e];exact h.acc i q' hi hx ha
 ·rw [finC_set hv hc];by_cases e:j=i
  ·subst e;rw [List.getElem?_set_self hjl] at hw;cases hw;have:=h.bnd j v hv;split<;>omega
  ·rw [List.getElem?_set_ne e] at hw;have:=h.bnd i w hw;omega
structure Done1 (t:GTable) (x:List UInt8) (qs:List GState) (cur:List Int):Prop where
 rel:∀ (j:Nat) q (k:Nat),qs[j]? = some q->(stepS t q k).2=true->prt t k≠[]->∀ y,x=prt t k++y->0<=costS t (stepS t q k).1 y->∃ v,cur[j]? = some v/\0<=v/\v<=costS t (stepS t q k).1 y+(cls t k).length
structure Done2 (t:GTable) (qs:List GState) (cur:List Int):Prop where
 sil:∀ (j:Nat) q (k:Nat),qs[j]? = some q->(stepS t q k).2=true->prt t k=[]->∃ (i:Nat) (w:Int),qs[i]? = some (stepS t q k).1/\cur[i]? = some w/\(0<=w->∃ v,cur[j]? = some v/\0<=v/\v<=w+(cls t k).length)
theorem Col.exact {t:GTable} {x:List UInt8} {D:Nat} {qs:List GState} {cur:List Int} (h:Col t x D qs cur) (hn:qs.Nodup) (h1:Done1 t x qs cur) (h2:Done2 t qs cur) {j:Nat} {q:GState} (hq:qs[j]? = some q):cur[j]? = some (costS t q x):=by
 let f:GState->Int:=λ q=>cur.getD ((qs.findIdx? λ x=>decide (x=q)).getD 0) (-1);have hf:∀ (j:Nat) q v,qs[j]? = some q->cur[j]? = some v->f q=v:=by
  intro j q v hj hv;show cur.getD ((qs.findIdx? λ x=>decide (x=q)).getD 0) (-1)=v;rw [findIdx_some hn hj,Option.getD_some,List.getD_eq_getElem?_getD,hv];rfl
 have key:=fix_cost (t:=t) (S:=λ q=>∃ j:Nat,qs[j]? = some q) (x:=x) (f:=f) ?_ ?_ ?_ ?_ q ⟨j,hq⟩
 ·obtain ⟨v,hv⟩:=h.get (getElem?_lt' hq);rw [hf j q v hq hv] at key;rw [hv,costS_eq key]
 ·rintro q ⟨j,hj⟩;obtain ⟨v,hv,hd⟩:=h.ach j q hj;rw [hf j q v hj hv];exact hd
 ·rintro q ⟨j,hj⟩ hx ha;exact hf j q 0 hj (h.acc j q hj hx ha)
 ·rintro q k ⟨j,hj⟩ hs hp y hy hc;obtain ⟨k,rfl⟩:∃ n:Nat,k=n:=⟨k.toNat,by have:=stepS_in hs;omega⟩;obtain ⟨v,hv,g1,g2⟩:=h1.rel j q k hj hs hp y hy hc;rw [hf j q v hj hv];exact ⟨g1,g2⟩
 ·rintro q k ⟨j,hj⟩ hs hp;obtain ⟨k,rfl⟩:∃ n:Nat,k=n:=⟨k.toNat,by have:=stepS_in hs;omega⟩;obtain ⟨i,w,hi,hw,hh⟩:=h2.sil j q k hj hs hp;refine ⟨⟨i,hi⟩,?_⟩;rw [hf i _ w hi hw];intro h0;obtain ⟨v,hv,g1,g2⟩:=hh h0;rw [hf j q v hj hv];exact ⟨g1,g2⟩
theorem way_next {t:GTable} {q:GState} {k:Int} {y:List UInt8} {c:Int} (hs:(stepS t q k).2=true) (h:∃ p,Way t (stepS t q k).1 y p/\c=(lenK t p:Nat)):∃ p,Way t q (prt t k++y) p/\c+((cls t k).length:Nat)=(lenK t p:Nat):=by
 obtain ⟨p,hp,rfl⟩:=h;exact ⟨k::p,hp.cons hs,by rw [lenC_cons];omega⟩
end Go.AI
end
section
namespace Go.AI
structure Tab6 (t:GTable):Prop where
 tab:TabOK t
 cl:∀ r∈t.Rules,1<=r.Cells.length/\r.Cells.length<=4
theorem Tab6.one {t:GTable} (h:Tab6 t):∀ r∈t.Rules,1<=r.Cells.length:=λ r hr=>(h.cl r hr).1
theorem Tab6.pr {t:GTable} (h:Tab6 t) {k:Int} {q:GState} (hk:(stepS t q k).2=true):(prt t k).length<=3/\1<=(cls t k).length/\(cls t k).length<=4:=by
 have h1:=stepS_in hk;have hm:=ruleAt_mem h1.1 h1.2;exact ⟨(h.tab.2 _ hm).2.2.2.2,h.cl _ hm⟩
theorem set_getD {α:Type} (l:List α) (i:Nat) (d:α):l.set i (l.getD i d)=l:=by
 apply List.ext_getElem?;intro j;rw [List.getElem?_set];split
 ·rename_i e;subst e;split
  ·rename_i hl;rw [List.getD_eq_getElem?_getD,List.getElem?_eq_getElem hl];rfl
  ·rename_i hl;rw [List.getElem?_eq_none (by omega)]
 ·rfl
theorem getD_set {α:Type} {l:List α} {i:Nat} (h:i<l.length) (y d:α):(l.set i y).getD i d=y:=by
 rw [List.getD_eq_getElem?_getD,List.getElem?_set_self h];rfl
theorem getD_set_ne {α:Type} {l:List α} {i j:Nat} (h:i≠j) (y d:α):(l.set i y).getD j d=l.getD j d:=by
 rw [List.getD_eq_getElem?_getD,List.getElem?_set_ne h,← List.getD_eq_getElem?_getD]
theorem idx_gd {α:Type} {l:List α} {i:Nat} (d:α) (h:i<l.length):idx l (i:Int)=some (l.getD i d):=by
 rw [idx_lt h,getD_at h]
theorem begins_eq {s pr:List UInt8} {i:Nat} (hi:i<=s.length) (hs:s.length<1000000) (hp:pr.length<1000000) (n:Nat):FR6_Begins n s (i:Int) pr=some (pr.isPrefixOf (s.drop i)):=by
 unfold FR6_Begins;have e:iadd .i64 (i:Int) ((pr.length:Nat):Int)=((i+pr.length:Nat):Int):=by rw [add64]<;>omega
 rw [e];by_cases h:i+pr.length<=s.length
 ·rw [if_pos (by simp;omega),sub_d (by omega) (by omega) (by omega),Option.bind_some];congr 1;rw [Bool.eq_iff_iff,Bool.and_eq_true,beq_iff_eq,List.isPrefixOf_iff_prefix];have e2:(s.take ((i+pr.length:Nat):Int).toNat).drop (i:Int).toNat=(s.drop i).take pr.length:=by
   rw [Int.toNat_natCast,Int.toNat_natCast,List.drop_take];congr 1;omega
  rw [e2];constructor
  ·rintro ⟨_,h2⟩;rw [← h2];exact List.take_prefix _ _
  ·intro h2;exact ⟨by simp;omega,(List.prefix_iff_eq_take.1 h2).symm⟩
 ·rw [if_neg (by simp;omega),Option.bind_some];congr 1;have:decide (((i+pr.length:Nat):Int)<=((s.length:Nat):Int))=false:=by simp;omega
  rw [this,Bool.false_and,eq_comm,← Bool.not_eq_true,List.isPrefixOf_iff_prefix];intro hp';have:=hp'.length_le;rw [List.length_drop] at this;omega
theorem prefix_drop {s pr:List UInt8} {i:Nat} (h:pr.isPrefixOf (s.drop i)=true):s.drop i=pr++s.drop (i+pr.length)/\(i<=s.length->i+pr.length<=s.length):=by
 rw [List.isPrefixOf_iff_prefix] at h;obtain ⟨y,hy⟩:=h;have:s.drop (i+pr.length)=y:=by rw [← List.drop_drop,← hy,List.drop_left]
 rw [this,hy];refine ⟨rfl,λ hi=>?_⟩;have:=congrArg List.length hy;rw [List.length_append,List.length_drop] at this;omega
def aftS (t:GTable) (s:List UInt8) (out:List (List Int)) (i:Nat) (q:GState) (k:Nat):Int:=
 if (stepS t q k).2=true/\(prt t k).isPrefixOf (s.drop i)=true then
  (if (out.getD (i+(prt t k).length) []).getD (indexS (statesS t) (stepS t q k).1).toNat 0<0 then -1 else (out.getD (i+(prt t k).length) []).getD (indexS (statesS t) (stepS t q k).1).toNat 0+(cls t k).length) else -1
structure RowOK (t:GTable) (s:List UInt8) (i:Nat) (row:List Int):Prop where
 len:row.length=(statesS t).length
 val:∀ (j:Nat) q,(statesS t)[j]? = some q->row[j]? = some (costS t q (s.drop i))
 bnd:∀ (j:Nat) v,row[j]? = some v->v<=((3072*(s.length-i+1):Nat):Int)
structure Suf (t:GTable) (s:List UInt8) (i:Nat) (out:List (List Int)):Prop where
 len:out.length=s.length+1
 rows:∀ i',i<i'->i'<=s.length->RowOK t s i' (out.getD i' [])
 col:Col t (s.drop i) (3072*(s.length-i)) (statesS t) (out.getD i [])
section
variable {t:GTable} (hT:Tab6 t) {s:List UInt8} (hs:s.length<=4000)
include hT
theorem closed6 {q:GState} (hq:q∈statesS t) {k:Nat} (hk:(stepS t q k).2=true):(stepS t q k).1∈statesS t:=by
 obtain ⟨j,hj,e⟩:=List.getElem_of_mem hq;have h:=stepS_in hk;exact (states_ok hT.tab).2 (j+1) j q (by omega) (by rw [← e];exact List.getElem?_eq_getElem hj) k (by omega) hk
theorem len6:(statesS t).length<=768:=(states_ok hT.tab).1.len
theorem nod6:(statesS t).Nodup:=(states_ok hT.tab).1.nodup
include hs
theorem after_core {i:Nat} (hi:i<=s.length) {out:List (List Int)} (hol:out.length=s.length+1) (hR:∀ i',i<=i'->i'<=s.length->(out.getD i' []).length=(statesS t).length/\∀ (j:Nat) v,(out.getD i' [])[j]? = some v->-1<=v/\v<=13000000) {q:GState} (hq:q∈statesS t) {k:Nat} (hk:k<t.Rules.length):Ev (λ n=>FR6_After n t ⟨s,i,q,statesS t⟩ k out) (aftS t s out i q k):=by
 have hlen:=len6 hT;unfold FR6_After aftS;refine Ev.bind (Ev.all λ n=>step3_eq hT.tab.short n q k) ?_;cases hst:(stepS t q k).2 with
 | false=>
  refine Ev.all λ n=>?_;simp
 | true=>
  obtain ⟨p1,p2,p3⟩:=hT.pr hst;have hr:=idx_rule (t:=t) (k:=(k:Int)) (by omega) (by omega);refine Ev.all (f:=λ n=>_) (λ n=>?_) |>.bind (x:=ruleAt t k) ?_
  ·simp [hr]
  refine Ev.bind (x:=(prt t k).isPrefixOf (s.drop i)) (Ev.all λ n=>?_) ?_
  ·rw [if_pos (by simp)];exact begins_eq hi (by omega) (by simp only [prt] at p1;omega) n
  cases hb:(prt t k).isPrefixOf (s.drop i) with
  | false=>exact Ev.iteT (by simp) (by simp;exact Ev.const)
  | true=>
   obtain ⟨q1,q2⟩:=prefix_drop hb;have q2:=q2 hi;refine Ev.iteF (by simp) (Ev.bindC hr ?_);have e:iadd .i64 (i:Int) ((List.length (ruleAt t k).Print:Nat):Int)=((i+(prt t k).length:Nat):Int):=by rw [add64]<;>simp only [prt] at*<;> omega
   rw [show (({ S:=s,I:=(i:Int),State:=q,L:=statesS t }:GPoint).I)=(i:Int) from rfl,e];refine Ev.bindC (idx_gd [] (by omega)) ?_;have hmem:=closed6 hT hq hst;obtain ⟨m,hm,hmg⟩:=indexS_in hmem;refine Ev.bind (index_ev (l:=statesS t) (s:=(stepS t q k).1) (by omega)) ?_;rw [hm];have hml:=getElem?_lt' hmg;obtain ⟨hrl,hrb⟩:=hR (i+(prt t k).length) (by omega) q2;refine Ev.bindC (idx_gd 0 (by rw [hrl];exact hml)) ?_;simp only [Int.toNat_natCast,and_self,if_true];generalize hv:(out.getD (i+(prt t k).length) []).getD m 0=v;have hvg:(out.getD (i+(prt t k).length) [])[m]? = some v:=by
    rw [← hv,List.getD_eq_getElem?_getD (l:=out.getD (i+(prt t k).length) []),List.getElem?_eq_getElem (by rw [hrl];exact hml)];rfl
   have hvb:=hrb m v hvg;by_cases hneg:v<0
   ·rw [if_pos hneg];exact Ev.iteT (by simpa using hneg) Ev.const
   ·rw [if_neg hneg];refine Ev.iteF (by simpa using hneg) (Ev.bindC hr (Ev.all λ n=>?_));rw [add64 (by simp only [cls] at *;omega) (by simp only [cls] at *;omega)]
theorem rows_top {i:Nat} {row:List Int} (h:RowOK t s i row):row.length=(statesS t).length/\∀ (j:Nat) v,row[j]? = some v->-1<=v/\v<=13000000:=by
 have _:=hT;refine ⟨h.len,λ j v hv=>?_⟩;have h1:=h.bnd j v hv;have hj:j<(statesS t).length:=by rw [← h.len];exact getElem?_lt' hv
 have h2:=h.val j _ (List.getElem?_eq_getElem hj);rw [hv] at h2;have:=costS_ge t (statesS t)[j] (s.drop i);simp only [Option.some.injEq] at h2;omega
theorem after_eq {i:Nat} (hi:i<=s.length) {out:List (List Int)} (ho:Suf t s i out) {q:GState} (hq:q∈statesS t) {k:Nat} (hk:k<t.Rules.length):Ev (λ n=>FR6_After n t ⟨s,i,q,statesS t⟩ k out) (aftS t s out i q k):=by
 refine after_core hT hs hi ho.len (λ i' h1 h2=>?_) hq hk;rcases Nat.eq_or_lt_of_le h1 with rfl|hlt
 ·refine ⟨ho.col.len,λ j v hv=>?_⟩;have h1:=ho.col.top hv;have:=len6 hT;omega
 ·exact rows_top hT hs (ho.rows i' hlt h2)
omit hs in
theorem aft_use {i:Nat} (hi:i<=s.length) {out:List (List Int)} (ho:Suf t s i out) {q:GState} (hq:q∈statesS t) {k:Nat} (h:0<=aftS t s out i q k) :
  (∃ p,Way t q (s.drop i) p/\aftS t s out i q k=(lenK t p:Nat))/\aftS t s out i q k<=((3072*(s.length-i)+4*finC (out.getD i [])+4:Nat):Int):=by
 unfold aftS at h ⊢;split at h
 ·rename_i hc;rw [if_pos hc];obtain ⟨hst,hb⟩:=hc;obtain ⟨p1,p2,p3⟩:=hT.pr hst;obtain ⟨q1,q2⟩:=prefix_drop hb;have q2:=q2 hi;obtain ⟨m,hm,hmg⟩:=indexS_in (closed6 hT hq hst);rw [hm,Int.toNat_natCast] at h ⊢;split at h
  ·omega
  ·rename_i hneg;rw [if_neg hneg];rcases Nat.eq_zero_or_pos (prt t k).length with h0|h0
   ·have hp0:prt t k=[]:=List.length_eq_zero_iff.1 h0;rw [h0,Nat.add_zero] at h hneg ⊢;obtain ⟨v,hv,hd⟩:=ho.col.ach m _ hmg;have hvv:(out.getD i []).getD m 0=v:=by rw [List.getD_eq_getElem?_getD (l:=out.getD i []),hv];rfl
    rw [hvv] at h hneg ⊢;have hbn:=ho.col.bnd m v hv;refine ⟨?_,by omega⟩;have:=way_next hst (hd.resolve_left (by omega));rw [hp0,List.nil_append] at this;exact this
   ·have hR:=ho.rows _ (show i<i+(prt t k).length by omega) q2;have hv:=hR.val m _ hmg;have hvv:(out.getD (i+(prt t k).length) []).getD m 0=costS t (stepS t q k).1 (s.drop (i+(prt t k).length)):=by
     rw [List.getD_eq_getElem?_getD (l:=out.getD (i+(prt t k).length) []),hv];rfl
    have hbn:=hR.bnd m _ hv;rw [hvv] at h hneg ⊢;refine ⟨?_,?_⟩
    ·have:=way_next hst (costS_way (x:=s.drop (i+(prt t k).length)) (by omega));rwa [← q1] at this
    ·have:3072*(s.length-(i+(prt t k).length)+1)<=3072*(s.length-i):=by omega
     omega
 ·omega
def Rel6 (t:GTable) (s:List UInt8) (i:Nat) (out:List (List Int)) (j k:Nat):Prop:=∀ q,(statesS t)[j]? = some q->0<=aftS t s out i q k->∃ v,(out.getD i [])[j]? = some v/\0<=v/\v<=aftS t s out i q k
omit hs in
theorem rel_done {i:Nat} (hi:i<=s.length) {out:List (List Int)} (ho:Suf t s i out) (h:∀ j k,j<(statesS t).length->k<t.Rules.length->Rel6 t s i out j k):RowOK t s i (out.getD i []):=by
 have hx:∀ (j:Nat) q,(statesS t)[j]? = some q->(out.getD i [])[j]? = some (costS t q (s.drop i)):=by
  intro j q hq;refine ho.col.exact (nod6 hT) ⟨λ j q k hj hst hp y hy hc=>?_⟩ ⟨λ j q k hj hst hp=>?_⟩ hq
  ·have hk:=stepS_in hst;have hb:(prt t k).isPrefixOf (s.drop i)=true:=by rw [List.isPrefixOf_iff_prefix,hy];exact List.prefix_append _ _
   obtain ⟨q1,q2⟩:=prefix_drop hb;have q2:=q2 hi;have hyy:s.drop (i+(prt t k).length)=y:=by rw [q1] at hy;exact List.append_cancel_left hy
   have hlp:0<(prt t k).length:=List.length_pos_iff.2 hp;obtain ⟨m,hm,hmg⟩:=indexS_in (closed6 hT (List.mem_of_getElem? hj) hst);have hv:=(ho.rows _ (show i<i+(prt t k).length by omega) q2).val m _ hmg;have ha:aftS t s out i q k=costS t (stepS t q k).1 y+(cls t k).length:=by
    unfold aftS;rw [if_pos ⟨hst,hb⟩,hm,Int.toNat_natCast,List.getD_eq_getElem?_getD (l:=out.getD (i+(prt t k).length) []),hv,Option.getD_some,hyy,if_neg (by omega)]
   have:=h j k (getElem?_lt' hj) (by omega) q hj (by omega);rwa [ha] at this
  ·have hk:=stepS_in hst;obtain ⟨m,hm,hmg⟩:=indexS_in (closed6 hT (List.mem_of_getElem? hj) hst);obtain ⟨w,hw,_⟩:=ho.col.ach m _ hmg;refine ⟨m,w,hmg,hw,λ h0=>?_⟩;have ha:aftS t s out i q k=w+(cls t k).length:=by
    unfold aftS;rw [if_pos ⟨hst,by rw [hp];rfl⟩,hm,Int.toNat_natCast,hp,List.length_nil,Nat.add_zero,List.getD_eq_getElem?_getD (l:=out.getD i []),hw,Option.getD_some,if_neg (by omega)]
   have:=h j k (getElem?_lt' hj) (by omega) q hj (by omega);rwa [ha] at this
 refine ⟨ho.col.len,hx,λ j v hv=>?_⟩;have h1:=(ho.col.top hv).2;have:=len6 hT;omega
end
end Go.AI
end
section
namespace Go.AI
section
variable {t:GTable} (hT:Tab6 t) {s:List UInt8} (hs:s.length<=4000)
include hT
def firstV (t:GTable) (x:List UInt8) (q:GState):Int:=if x=[]/\acceptsS t q=true then 0 else -1
omit hT in
theorem first_col (t:GTable) (x:List UInt8) (D:Nat) (qs:List GState):Col t x D qs (qs.map (firstV t x)):=by
 refine ⟨by simp,λ j q hj=>⟨firstV t x q,by simp [hj],?_⟩,λ j q hj hx ha=>by simp [hj,firstV,hx,ha],λ j v hv=>?_⟩
 ·unfold firstV;split
  ·rename_i h;exact .inr ⟨[],⟨⟨q,rfl,h.2⟩,by rw [h.1];rfl⟩,by simp [lenK,cellsOf]⟩
  ·exact .inl rfl
 ·rw [List.getElem?_map,Option.map_eq_some_iff] at hv;obtain ⟨q,_,rfl⟩:=hv;unfold firstV;split<;>omega
include hs
omit hT in
theorem drop_nil {i:Nat} (hi:i<=s.length):(((i:Nat):Int)==((s.length:Nat):Int))=decide (s.drop i=[]):=by
 have _:=hs;rw [Bool.eq_iff_iff];simp only [beq_iff_eq,decide_eq_true_eq,List.drop_eq_nil_iff];omega
theorem suf2_ev {i:Nat} (hi:i<=s.length) (out0:List (List Int)) (hl:out0.length=s.length+1) (hr:(out0.getD i []).length=(statesS t).length) :
  Tot (λ n=>whl (λ (x:((List (List Int))×Int))=>FR6_Suffixes_L2 n t s (statesS t) (i:Int) x.1 x.2) n (out0,0)) (λ out=>out=out0.set i ((statesS t).map (firstV t (s.drop i)))):=by
 have hlen:=len6 hT;refine Tot.upto (body:=λ n x=>FR6_Suffixes_L2 n t s (statesS t) (i:Int) x.1 x.2) (statesS t).length (λ k x=>x.2=(k:Int)/\∃ row,x.1=out0.set i row/\row.length=(statesS t).length/\∀ (j:Nat) q,j<k->(statesS t)[j]? = some q->row[j]? = some (firstV t (s.drop i) q)) ?_ ?_ _ ⟨rfl,out0.getD i [],(set_getD _ _ _).symm,hr,by omega⟩
 ·rintro k ⟨out,k'⟩ hk ⟨e1,row,e2,e3,e4⟩;simp only at e1 e2;subst e1 e2;have hJ:∀ v,v=firstV t (s.drop i) (statesS t)[k]->∀ out',out'=out0.set i (row.set k v)->Tot (λ n=>FR6_Suffixes_J1 n (k:Int) out') (Rd2 (λ x:List (List Int)×Int=>x.2=((k+1:Nat):Int)/\∃ row,x.1=out0.set i row/\row.length=(statesS t).length/\∀ (j:Nat) q,j<k+1->(statesS t)[j]? = some q->row[j]? = some (firstV t (s.drop i) q)) (λ out=>out=out0.set i ((statesS t).map (firstV t (s.drop i))))):=by
   intro v hv out' ho';unfold FR6_Suffixes_J1;refine Tot.pure ⟨inc64 (by omega),_,ho',by rw [List.length_set];exact e3,λ j q hj hq=>?_⟩;by_cases e:k=j
   ·subst e;rw [List.getElem?_set_self (by omega),hv];rw [List.getElem?_eq_getElem hk] at hq;cases hq;rfl
   ·rw [List.getElem?_set_ne e];exact e4 j q (by omega) hq
  unfold FR6_Suffixes_L2;have hil:i<(out0.set i row).length:=by rw [List.length_set];omega
  have hg:(out0.set i row).getD i []=row:=getD_set (by omega) _ _;refine Tot.iteT (lt_d hk) (Tot.bindC (idx_gd [] hil) ?_);rw [hg];refine Tot.bindC (idx_gd 0 (by omega)) (Tot.bindC (put_at (by omega)) ?_);rw [drop_nil hs hi,Int.toNat_natCast,List.set_set];by_cases hd:s.drop i=[]
  ·refine Tot.gE (decide_eq_true hd) (Ev.all λ n=>idx_lt hk) (Tot.gE (decide_eq_true hd) (Ev.all λ n=>accepts3_eq n t _) (Tot.ite (λ h=>?_) λ h=>?_))
   ·have ha:acceptsS t (statesS t)[k]=true:=by simpa [hd] using h
    refine Tot.bindC (idx_gd [] (by rw [List.length_set];omega)) ?_;rw [getD_set (by omega)];refine Tot.bindC (idx_gd 0 (by rw [List.length_set];omega)) (Tot.bindC (put_at (by rw [List.length_set];omega)) (hJ 0 ?_ _ ?_))
    ·unfold firstV;rw [if_pos ⟨hd,ha⟩]
    ·rw [List.set_set,List.set_set]
   ·have ha:acceptsS t (statesS t)[k]=false:=by simpa [hd] using h
    refine hJ (-1) ?_ _ rfl;unfold firstV;rw [if_neg (by rw [ha];simp)]
  ·refine Tot.gF (decide_eq_false hd) (Tot.gF (decide_eq_false hd) (Tot.iteF (by simp [hd]) (hJ (-1) ?_ _ rfl)));unfold firstV;rw [if_neg (λ h=>hd h.1)]
 ·rintro ⟨out,k'⟩ ⟨e1,row,e2,e3,e4⟩;simp only at e1 e2;subst e1 e2;unfold FR6_Suffixes_L2;refine Tot.iteF (by simp) (Tot.pure ?_);refine congrArg (out0.set i) (List.ext_getElem? λ j=>?_);rcases Nat.lt_or_ge j (statesS t).length with h|h
  ·rw [e4 j _ h (List.getElem?_eq_getElem h),List.getElem?_map,List.getElem?_eq_getElem h];rfl
  ·rw [List.getElem?_eq_none (by omega),List.getElem?_eq_none (by simpa using h)]
structure Pass6 (t:GTable) (s:List UInt8) (i:Nat) (B:Nat) (out0 out:List (List Int)) (ch:Bool) (k r:Nat):Prop where
 suf:Suf t s i out
 same:ch=false->out=out0/\∀ j m,(j<k\/(j=k/\m<r))->m<t.Rules.length->Rel6 t s i out0 j m
 less:ch=true->phi B (out.getD i [])<phi B (out0.getD i [])
omit hT hs in
theorem least_eq (n:Nat) (a c:Int) (hc:0<=c):FR6_least n a c=some (if a<0\/c<a then c else a):=by
 unfold FR6_least;by_cases h:a<0\/c<a
 ·rw [if_pos h,if_pos (by simp only [Bool.or_eq_true,Bool.and_eq_true,decide_eq_true_eq];omega)]
 ·rw [if_neg h,if_neg (by simp only [Bool.or_eq_true,Bool.and_eq_true,decide_eq_true_eq];omega)]
theorem suf5_ev {i:Nat} (hi:i<=s.length) {B:Nat} (hB:13000000<=B) {out0 out1:List (List Int)} {ch1:Bool} {k:Nat} (hk:k<(statesS t).length) (h1:Pass6 t s i B out0 out1 ch1 k 0) :
  Tot (λ n=>whl (λ (x:((List (List Int))×Bool×Int))=>FR6_Suffixes_L5 n t s (statesS t) (i:Int) (k:Int) x.1 x.2.1 x.2.2) n (out1,ch1,0)) (λ y=>Pass6 t s i B out0 y.1 y.2 k t.Rules.length):=by
 have hlen:=len6 hT;have hrl:=hT.tab.1;refine Tot.upto (body:=λ n x=>FR6_Suffixes_L5 n t s (statesS t) (i:Int) (k:Int) x.1 x.2.1 x.2.2) t.Rules.length (λ r x=>x.2.2=(r:Int)/\Pass6 t s i B out0 x.1 x.2.1 k r) ?_ ?_ _ ⟨rfl,h1⟩
 ·rintro r ⟨out,ch,r'⟩ hr ⟨e1,hP⟩;simp only at e1 hP;subst e1;have hq:(statesS t)[k]? = some (statesS t)[k]:=List.getElem?_eq_getElem hk;have hqm:(statesS t)[k]∈statesS t:=List.getElem_mem hk;have hA:=hP.suf;have hJ:∀ out' ch',Pass6 t s i B out0 out' ch' k (r+1)->Tot (λ n=>FR6_Suffixes_J2 n (r:Int) out' ch') (Rd2 (λ x:List (List Int)×Bool×Int=>x.2.2=((r+1:Nat):Int)/\Pass6 t s i B out0 x.1 x.2.1 k (r+1)) (λ y=>Pass6 t s i B out0 y.1 y.2 k t.Rules.length)):=by
   intro out' ch' h;unfold FR6_Suffixes_J2;exact Tot.pure ⟨inc64 (by omega),h⟩
  have hskip:Rel6 t s i out k r->Pass6 t s i B out0 out ch k (r+1):=by
   intro hrel;refine ⟨hA,λ hc=>⟨(hP.same hc).1,λ j m hjm hm=>?_⟩,hP.less⟩;by_cases e:j=k/\m=r
   ·obtain ⟨rfl,rfl⟩:=e;rw [← (hP.same hc).1];exact hrel
   ·exact (hP.same hc).2 j m (by omega) hm
  unfold FR6_Suffixes_L5;refine Tot.iteT (lt_d hr) (Tot.bindC (idx_at hq) (Tot.bindE (after_eq hT hs hi hA hqm hr) ?_));have hil:i<out.length:=by rw [hA.len];omega
  rw [Int.toNat_natCast];simp only [set_getD];have hcl:=hA.col.len;obtain ⟨v,hv⟩:=hA.col.get hk;have hvd:(out.getD i []).getD k 0=v:=by rw [List.getD_eq_getElem?_getD (l:=out.getD i []),hv];rfl
  by_cases hc:0<=aftS t s out i (statesS t)[k] r
  ·obtain ⟨u1,u2⟩:=aft_use hT hi hA hqm hc;have hgd:decide (aftS t s out i (statesS t)[k] r>=0)=true:=by simpa using hc
   refine Tot.gE hgd (Ev.all λ n=>idx_gd [] hil) (Tot.gE hgd (Ev.all λ n=>idx_gd 0 (by omega)) ?_);rw [hvd];refine Tot.gE hgd (Ev.all λ n=>least_eq n v _ hc) (Tot.gE hgd (Ev.all λ n=>idx_gd [] hil) (Tot.gE hgd (Ev.all λ n=>idx_gd 0 (by omega)) ?_));rw [hvd];by_cases hlt:v<0\/aftS t s out i (statesS t)[k] r<v
   ·rw [if_pos hlt];refine Tot.iteT (by simp only [Bool.and_eq_true,bne_iff_ne,ne_eq];exact ⟨hgd,by omega⟩) ?_;have hfin:=finC_le (out.getD i []);obtain ⟨g1,g2⟩:=hA.col.lower hq hv u1 (hlt.imp id id) u2 (B:=B) (by omega);refine Tot.bindC (idx_gd [] hil) (Tot.bindC (idx_gd 0 (by omega)) (Tot.bindC (put_at (by omega)) (hJ _ _ ?_)));have hgs:(out.set i ((out.getD i []).set k (aftS t s out i (statesS t)[k] r))).getD i []=(out.getD i []).set k (aftS t s out i (statesS t)[k] r):=getD_set hil _ _;refine ⟨⟨by rw [List.length_set];exact hA.len,λ i' h1 h2=>by rw [getD_set_ne (by omega)];exact hA.rows i' h1 h2,by rw [hgs];exact g1⟩,(λ h=>by cases h),λ _=>?_⟩;rw [hgs];cases hch:ch with
    | false=>rw [(hP.same hch).1] at g2 ⊢;exact g2
    | true=>have:=hP.less hch;omega
   ·rw [if_neg hlt];refine Tot.iteF (by simp) (hJ _ _ (hskip λ q hq' _=>?_));rw [hq] at hq';cases hq';exact ⟨v,hv,by omega,by omega⟩
  ·have hgd:decide (aftS t s out i (statesS t)[k] r>=0)=false:=by simpa using hc
   refine Tot.gF hgd (Tot.gF hgd (Tot.gF hgd (Tot.gF hgd (Tot.gF hgd (Tot.iteF (by rw [hgd];rfl) (hJ _ _ (hskip λ q hq' h0=>?_)))))));rw [hq] at hq';cases hq';exact absurd h0 hc
 ·rintro ⟨out,ch,r'⟩ ⟨e1,hP⟩;simp only at e1 hP;subst e1;unfold FR6_Suffixes_L5;exact Tot.iteF (by simp) (Tot.pure hP)
theorem suf4_ev {i:Nat} (hi:i<=s.length) {B:Nat} (hB:13000000<=B) {out0:List (List Int)} (h1:Suf t s i out0) :
  Tot (λ n=>whl (λ (x:((List (List Int))×Bool×Int))=>FR6_Suffixes_L4 n t s (statesS t) (i:Int) x.1 x.2.1 x.2.2) n (out0,false,0)) (λ y=>Pass6 t s i B out0 y.1 y.2 (statesS t).length 0):=by
 have hlen:=len6 hT;refine Tot.upto (body:=λ n x=>FR6_Suffixes_L4 n t s (statesS t) (i:Int) x.1 x.2.1 x.2.2) (statesS t).length (λ k x=>x.2.2=(k:Int)/\Pass6 t s i B out0 x.1 x.2.1 k 0) ?_ ?_ _ ⟨rfl,h1,λ _=>⟨rfl,λ j m h=>by omega⟩,λ h=>by cases h⟩
 ·rintro k ⟨out,ch,k'⟩ hk ⟨e1,hP⟩;simp only at e1 hP;subst e1;unfold FR6_Suffixes_L4;refine Tot.iteT (lt_d hk) (Tot.bind (suf5_ev hT hs hi hB hk hP) ?_);rintro ⟨out',ch'⟩ hP';exact Tot.pure ⟨inc64 (by omega),hP'.suf,λ hc=>⟨(hP'.same hc).1,λ j m hjm hm=>(hP'.same hc).2 j m (by omega) hm⟩,hP'.less⟩
 ·rintro ⟨out,ch,k'⟩ ⟨e1,hP⟩;simp only at e1 hP;subst e1;unfold FR6_Suffixes_L4;exact Tot.iteF (by simp) (Tot.pure hP)
theorem suf3_ev {i:Nat} (hi:i<=s.length) {out0:List (List Int)} (h1:Suf t s i out0) :
  Tot (λ n=>whl (λ (x:((List (List Int))×Bool))=>FR6_Suffixes_L3 n t s (statesS t) (i:Int) x.1 x.2) n (out0,true)) (λ out=>out.length=s.length+1/\∀ i',i<=i'->i'<=s.length->RowOK t s i' (out.getD i' [])):=by
 refine Tot.whl (body:=λ n x=>FR6_Suffixes_L3 n t s (statesS t) (i:Int) x.1 x.2) (λ m x=>Suf t s i x.1/\((x.2=true/\m=phi 13000000 (x.1.getD i [])+1)\/(x.2=false/\m=0/\RowOK t s i (x.1.getD i [])))) ?_ (phi 13000000 (out0.getD i [])+1) (out0,true) ⟨h1,.inl ⟨rfl,rfl⟩⟩;rintro m ⟨out,ch⟩ ⟨hS,hm⟩;simp only at hS hm;unfold FR6_Suffixes_L3;rcases hm with ⟨rfl,rfl⟩|⟨rfl,rfl,hR⟩
 ·refine Tot.iteT rfl (Tot.bind (suf4_ev hT hs hi (Nat.le_refl _) hS) ?_);rintro ⟨out',ch'⟩ hP;simp only at hP;cases ch' with
  | false=>
   obtain ⟨e,hrel⟩:=hP.same rfl;subst e;exact Tot.pure ⟨0,by omega,hS,.inr ⟨rfl,rfl,rel_done hT hi hS λ j k hj hk=>hrel j k (by omega) hk⟩⟩
  | true=>
   have:=hP.less rfl;exact Tot.pure ⟨phi 13000000 (out'.getD i [])+1,by omega,hP.suf,.inl ⟨rfl,rfl⟩⟩
 ·refine Tot.iteF rfl (Tot.pure ⟨hS.len,λ i' h1 h2=>?_⟩);rcases Nat.eq_or_lt_of_le h1 with rfl|h
  ·exact hR
  ·exact hS.rows i' h h2
theorem suffixes_ev:Tot (λ n=>FR6_Suffixes n t s) (λ out=>out.length=s.length+1/\∀ i,i<=s.length->RowOK t s i (out.getD i [])):=by
 have hlen:=len6 hT;unfold FR6_Suffixes;have e1:iadd .i64 ((s.length:Nat):Int) 1=((s.length+1:Nat):Int):=inc64 (by omega);refine Tot.bindE (states3_ev' hT.tab) ?_;rw [e1];refine Tot.bindC (mkl_d (by omega) (by omega)) ?_;rw [Int.toNat_natCast];refine Tot.bind (R:=λ out=>out.length=s.length+1/\∀ i,i<=s.length->RowOK t s i (out.getD i [])) ?_ (λ out h=>Tot.pure h);refine Tot.whl (body:=λ n x=>FR6_Suffixes_L1 n t s (statesS t) x.1 x.2) (λ m x=>x.2=(m:Int)-1/\x.1.length=s.length+1/\m<=s.length+1/\∀ i',m<=i'->i'<=s.length->RowOK t s i' (x.1.getD i' [])) ?_ (s.length+1) _ ⟨by simp,by simp,by omega,by omega⟩;rintro m ⟨out,i'⟩ ⟨e2,e3,e4,e5⟩;simp only at e2 e3 e5;subst e2;unfold FR6_Suffixes_L1;cases m with
 | zero=>exact Tot.iteF (by simp) (Tot.pure ⟨e3,λ i hi=>e5 i (by omega) hi⟩)
 | succ i=>
  have ei:((i+1:Nat):Int)-1=(i:Int):=by omega
  rw [ei];refine Tot.iteT (by simp) (Tot.bindC (idx_gd [] (show i<out.length by omega)) (Tot.bindC (mkl_d (by omega) (by omega)) ?_));rw [Int.toNat_natCast,Int.toNat_natCast];refine Tot.bind (suf2_ev hT hs (show i<=s.length by omega) (out.set i (List.replicate (statesS t).length 0)) (by rw [List.length_set];exact e3) (by rw [getD_set (by omega),List.length_replicate])) ?_;rintro out1 rfl;rw [List.set_set];refine Tot.bind (suf3_ev hT hs (show i<=s.length by omega) ⟨by rw [List.length_set];exact e3,λ i' h1 h2=>?_,?_⟩) ?_
  ·rw [getD_set_ne (by omega)];exact e5 i' (by omega) h2
  ·rw [getD_set (by omega)];exact first_col t _ _ _
  ·rintro out2 ⟨h1,h2⟩;refine Tot.pure ⟨i,by omega,?_,h1,by omega,h2⟩;show isub .i64 (i:Int) 1=(i:Int)-1;rw [sub64 (by omega) (by omega)]
end
end Go.AI
end
section
namespace Go.AI
def Rch (t:GTable) (s:List UInt8) (i:Nat) (q:GState):Prop:=i<=s.length/\∃ p,Goes t startS p q/\textOf t p=s.take i
theorem Rch.start (t:GTable) (s:List UInt8):Rch t s 0 startS:=⟨by omega,[],rfl,by simp [textOf]⟩
theorem textOf_snoc (t:GTable) (p:List Int) (k:Int):textOf t (p++[k])=textOf t p++prt t k:=by simp [textOf]
theorem Rch.next {t:GTable} {s:List UInt8} {i:Nat} {q:GState} {k:Int} (h:Rch t s i q) (hk:(stepS t q k).2=true) (hb:(prt t k).isPrefixOf (s.drop i)=true):Rch t s (i+(prt t k).length) (stepS t q k).1:=by
 obtain ⟨h1,p,h2,h3⟩:=h;obtain ⟨q1,q2⟩:=prefix_drop hb;refine ⟨q2 h1,p++[k],h2.snoc hk,?_⟩;rw [textOf_snoc,h3,List.take_add,q1,List.take_left' rfl]
theorem Rch.ind {t:GTable} {s:List UInt8} {A:Nat->GState->Prop} (h0:A 0 startS) (h1:∀ i q (k:Nat),i<=s.length->A i q->(stepS t q k).2=true->(prt t k).isPrefixOf (s.drop i)=true->A (i+(prt t k).length) (stepS t q k).1):∀ {i:Nat} {q:GState},Rch t s i q->A i q:=by
 have key:∀ (p:List Int) (i:Nat) (q q':GState),A i q->i<=s.length->Goes t q p q'->(∃ y,s.drop i=textOf t p++y)->A (i+(textOf t p).length) q':=by
  intro p;induction p with
  | nil=>
   intro i q q' hA _ hg _;unfold Goes at hg;subst hg;simpa [textOf] using hA
  | cons k p ih=>
   intro i q q' hA hi hg hy;obtain ⟨g1,g2⟩:=hg;obtain ⟨y,hy⟩:=hy;obtain ⟨k,rfl⟩:∃ n:Nat,k=n:=⟨k.toNat,by have:=stepS_in g1;omega⟩;rw [textOf_cons,List.append_assoc] at hy;have hb:(prt t k).isPrefixOf (s.drop i)=true:=by rw [List.isPrefixOf_iff_prefix];exact ⟨_,hy.symm⟩
   obtain ⟨q1,q2⟩:=prefix_drop hb;have:=ih _ _ q' (h1 i q k hi hA g1 hb) (q2 hi) g2 ⟨y,by rw [q1] at hy;exact List.append_cancel_left hy⟩;rw [textOf_cons,List.length_append,← Nat.add_assoc];exact this
 rintro i q ⟨hi,p,hg,ht⟩;have:=key p 0 startS q h0 (by omega) hg ⟨s.drop i,by rw [ht,List.drop_zero,List.take_append_drop]⟩;rw [ht,List.length_take,Nat.zero_add,Nat.min_eq_left hi] at this;exact this
def clsAt (s:List UInt8) (i:Nat):Int:=if i<s.length then classS (byteS s i) else 0
theorem clsAt_range (s:List UInt8) (i:Nat):0<=clsAt s i/\clsAt s i<=5:=by
 unfold clsAt;split
 ·have:=class_range (byteS s i);omega
 ·omega
def Stop (t:GTable) (s:List UInt8) (i:Nat):Prop:=∃ q,Rch t s i q/\hasS q.Need (clsAt s i)=true
def LastP (t:GTable) (s:List UInt8) (v:Int):Prop:=(∃ i:Nat,v=i/\Stop t s i)/\∀ i:Nat,Stop t s i->(i:Int)<=v
theorem LastP.uniq {t:GTable} {s:List UInt8} {v w:Int} (h:LastP t s v) (h':LastP t s w):v=w:=by
 obtain ⟨⟨i,e1,h1⟩,h2⟩:=h;obtain ⟨⟨j,e2,g1⟩,g2⟩:=h';have:=h2 j g1;have:=g2 i h1;omega
theorem stop0 (t:GTable) (s:List UInt8):Stop t s 0:=by
 refine ⟨startS,.start t s,?_⟩;have h:=clsAt_range s 0;generalize clsAt s 0=c at h;have:c=0\/c=1\/c=2\/c=3\/c=4\/c=5:=by omega
 rcases this with rfl|rfl|rfl|rfl|rfl|rfl<;>decide +kernel
def LastB (t:GTable) (s:List UInt8) (i:Nat) (v:Int):Prop:=(∃ j:Nat,v=j/\(j=0\/(j<i/\Stop t s j)))/\∀ j:Nat,j<i->Stop t s j->(j:Int)<=v
theorem LastB.stop {t:GTable} {s:List UInt8} {i:Nat} (hs:Stop t s i):LastB t s (i+1) (i:Nat):=⟨⟨i,rfl,.inr ⟨by omega,hs⟩⟩,λ j h _=>by omega⟩
theorem LastB.skip {t:GTable} {s:List UInt8} {i:Nat} {v:Int} (h:LastB t s i v) (hs:¬Stop t s i):LastB t s (i+1) v:=by
 obtain ⟨⟨j,e,h1⟩,h2⟩:=h;refine ⟨⟨j,e,h1.imp id λ h=>⟨by omega,h.2⟩⟩,λ k hk hS=>?_⟩;by_cases e:k=i
 ·subst e;exact absurd hS hs
 ·exact h2 k (by omega) hS
theorem LastB.all {t:GTable} {s:List UInt8} {v:Int} (h:LastB t s (s.length+1) v):LastP t s v:=by
 obtain ⟨⟨j,e,h1⟩,h2⟩:=h;refine ⟨⟨j,e,?_⟩,λ i hi=>h2 i ?_ hi⟩
 ·rcases h1 with rfl|h1
  ·exact stop0 t s
  ·exact h1.2
 ·obtain ⟨q,hq,_⟩:=hi;have:=hq.1;omega
section
variable {t:GTable} (hT:Tab6 t) {s:List UInt8} (hs:s.length<=4000)
def cntK (l:List (List Bool)):Nat:=(l.map λ r=>r.count false).sum
theorem cntM_set {l:List (List Bool)} {i j:Nat} {r:List Bool} (h:l[i]? = some r) (hj:r[j]? = some false):cntK (l.set i (r.set j true))+1=cntK l:=by
 induction l generalizing i with
 | nil=>simp at h
 | cons a l ih=>
  cases i with
  | zero=>
   simp only [List.getElem?_cons_zero,Option.some.injEq] at h;subst h;have:=cntF_set hj;unfold cntF at this;simp only [cntK,List.set_cons_zero,List.map_cons,List.sum_cons];omega
  | succ i=>
   simp only [List.getElem?_cons_succ] at h;have:=ih h;simp only [cntK,List.set_cons_succ,List.map_cons,List.sum_cons] at this ⊢;omega
def Mk (m:List (List Bool)) (i j:Nat):Prop:=(m.getD i [])[j]? = some true
structure Rea (t:GTable) (s:List UInt8) (i:Nat) (m:List (List Bool)):Prop where
 len:m.length=s.length+1
 rows:∀ i,i<=s.length->(m.getD i []).length=(statesS t).length
 sound:∀ i j,i<=s.length->Mk m i j->∃ q,(statesS t)[j]? = some q/\Rch t s i q
 first:Mk m 0 0
 done:∀ i',i'<i->∀ j k:Nat,∀ q,Mk m i' j->(statesS t)[j]? = some q->(stepS t q k).2=true->(prt t k).isPrefixOf (s.drop i')=true->∃ j',(statesS t)[j']? = some (stepS t q k).1/\Mk m (i'+(prt t k).length) j'
def RelR (t:GTable) (s:List UInt8) (i:Nat) (m:List (List Bool)) (j k:Nat):Prop:=∀ q,Mk m i j->(statesS t)[j]? = some q->(stepS t q k).2=true->(prt t k).isPrefixOf (s.drop i)=true->∃ j',(statesS t)[j']? = some (stepS t q k).1/\Mk m (i+(prt t k).length) j'
structure PassR (t:GTable) (s:List UInt8) (i:Nat) (m0 m:List (List Bool)) (ch:Bool) (k r:Nat):Prop where
 rea:Rea t s i m
 same:ch=false->m=m0/\∀ j x,(j<k\/(j=k/\x<r))->x<t.Rules.length->RelR t s i m0 j x
 less:ch=true->cntK m<cntK m0
theorem Mk.set {m:List (List Bool)} {i j:Nat} (hi:i<m.length) (hj:j<(m.getD i []).length) {i' j':Nat}:Mk (m.set i ((m.getD i []).set j true)) i' j'↔(i=i'/\j=j')\/Mk m i' j':=by
 unfold Mk;by_cases e:i=i'
 ·subst e;rw [getD_set hi];by_cases e2:j=j'
  ·subst e2;rw [List.getElem?_set_self hj];simp
  ·rw [List.getElem?_set_ne e2];simp [e2]
 ·rw [getD_set_ne e];simp [e]
include hT hs
theorem rea5_ev {i:Nat} (hi:i<=s.length) {m0 m1:List (List Bool)} {ch1:Bool} {k:Nat} (hk:k<(statesS t).length) (x0:Int) (h1:PassR t s i m0 m1 ch1 k 0) :
  Tot (λ n=>whl (λ (x:((List (List Bool))×Bool×Int))=>FR6_Reached_L5 n t s (statesS t) x0 (i:Int) (k:Int) x.1 x.2.1 x.2.2) n (m1,ch1,0)) (λ y=>PassR t s i m0 y.1 y.2 k t.Rules.length):=by
 have hlen:=len6 hT;have hrl:=hT.tab.1;refine Tot.upto (body:=λ n x=>FR6_Reached_L5 n t s (statesS t) x0 (i:Int) (k:Int) x.1 x.2.1 x.2.2) t.Rules.length (λ r x=>x.2.2=(r:Int)/\PassR t s i m0 x.1 x.2.1 k r) ?_ ?_ _ ⟨rfl,h1⟩
 ·rintro r ⟨m,ch,r'⟩ hr ⟨e1,hP⟩;simp only at e1 hP;subst e1;have hq:(statesS t)[k]? = some (statesS t)[k]:=List.getElem?_eq_getElem hk;have hqm:(statesS t)[k]∈statesS t:=List.getElem_mem hk;have hA:=hP.rea;have hrow:=hA.rows i hi;have hil:i<m.length:=by rw [hA.len];omega
  have hJ:∀ m' ch',PassR t s i m0 m' ch' k (r+1)->Tot (λ n=>FR6_Reached_J1 n (r:Int) m' ch') (Rd2 (λ x:List (List Bool)×Bool×Int=>x.2.2=((r+1:Nat):Int)/\PassR t s i m0 x.1 x.2.1 k (r+1)) (λ y=>PassR t s i m0 y.1 y.2 k t.Rules.length)):=by
   intro m' ch' h;unfold FR6_Reached_J1;exact Tot.pure ⟨inc64 (by omega),h⟩
  have hskip:∀ r1,r1<=t.Rules.length->(∀ x,r<=x->x<r1->RelR t s i m k x)->PassR t s i m0 m ch k r1:=by
   intro r1 _ hrel;refine ⟨hA,λ hc=>⟨(hP.same hc).1,λ j x hjx hx=>?_⟩,hP.less⟩;by_cases e:j=k/\r<=x
   ·obtain ⟨rfl,h2⟩:=e;rw [← (hP.same hc).1];exact hrel x h2 (by omega)
   ·exact (hP.same hc).2 j x (by omega) hx
  have hgr:decide ((r:Int)<((t.Rules.length:Nat):Int))=true:=lt_d hr;obtain ⟨b,hb⟩:∃ b,(m.getD i [])[k]? = some b:=⟨_,List.getElem?_eq_getElem (by omega)⟩;have hbd:(m.getD i []).getD k false=b:=by rw [List.getD_eq_getElem?_getD (l:=m.getD i []),hb];rfl
  unfold FR6_Reached_L5;simp only [Int.toNat_natCast,set_getD];refine Tot.gE hgr (Ev.all λ n=>idx_gd [] hil) (Tot.gE hgr (Ev.all λ n=>idx_gd false (by omega)) ?_);rw [hbd];cases b with
  | false=>
   refine Tot.iteF (by simp) (Tot.pure (hskip _ (Nat.le_refl _) λ x _ _ q hmk _ _ _=>?_));unfold Mk at hmk;rw [hb] at hmk;cases hmk
  | true=>
   have hRr:=idx_rule (t:=t) (k:=(r:Int)) (by omega) (by omega);refine Tot.iteT (by rw [hgr];rfl) (Tot.bindC (idx_at hq) (Tot.bindA (λ n=>step3_eq hT.tab.short n _ r) (Tot.bindC hRr ?_)));cases hst:(stepS t (statesS t)[k] r).2 with
   | false=>
    refine Tot.gF rfl (Tot.gF rfl (Tot.gF rfl (Tot.gF rfl (Tot.gF rfl (Tot.iteF rfl (hJ _ _ (hskip _ (by omega) λ x h1 h2 q _ hq' hs' _=>?_)))))));rw [hq] at hq';cases hq';have:x=r:=by omega
    subst this;rw [hst] at hs';cases hs'
   | true=>
    obtain ⟨p1,p2,p3⟩:=hT.pr hst;have hpl:(prt t r).length=(ruleAt t r).Print.length:=rfl;refine Tot.gE rfl (Ev.all λ n=>hRr) (Tot.gE rfl (Ev.all λ n=>begins_eq hi (by omega) (by omega) n) ?_);simp only [Bool.true_and];cases hpf:(ruleAt t r).Print.isPrefixOf (s.drop i) with
    | false=>
     refine Tot.gF rfl (Tot.gF rfl (Tot.gF rfl (Tot.iteF rfl (hJ _ _ (hskip _ (by omega) λ x h1 h2 q _ hq' _ hb'=>?_)))));have:x=r:=by omega
     subst this;rw [hpf] at hb';cases hb'
    | true=>
     obtain ⟨q1,q2⟩:=prefix_drop hpf;have q2:=q2 hi;have e:iadd .i64 (i:Int) ((List.length (ruleAt t r).Print:Nat):Int)=((i+(prt t r).length:Nat):Int):=by rw [add64 (by omega) (by omega)];omega
     rw [e];have hto:i+(prt t r).length<m.length:=by rw [hA.len];omega
     have hrow2:=hA.rows _ q2;have hrow3:(m.getD (i+(prt t r).length) []).length=(statesS t).length:=hrow2;obtain ⟨d,hd,hdg⟩:=indexS_in (closed6 hT hqm hst);have hdl:=getElem?_lt' hdg;refine Tot.gE rfl (Ev.all λ n=>idx_gd [] hto) (Tot.gE rfl (index_ev (by omega)) ?_);rw [hd];refine Tot.gE rfl (Ev.all λ n=>idx_gd false (by rw [Int.toNat_natCast];omega)) ?_;simp only [Int.toNat_natCast,set_getD];obtain ⟨b2,hb2⟩:∃ b,(m.getD (i+(prt t r).length) [])[d]? = some b:=⟨_,List.getElem?_eq_getElem (by omega)⟩;have hbd2:(m.getD (i+(prt t r).length) []).getD d false=b2:=by rw [List.getD_eq_getElem?_getD (l:=m.getD (i+(prt t r).length) []),hb2];rfl
     rw [hbd2];cases b2 with
     | true=>
      refine Tot.iteF rfl (hJ _ _ (hskip _ (by omega) λ x h1 h2 q _ hq' _ _=>?_));have:x=r:=by omega
      subst this;rw [hq] at hq';cases hq';exact ⟨d,hdg,hb2⟩
     | false=>
      refine Tot.iteT rfl (Tot.bindC (idx_gd [] hto) (Tot.bindE (index_ev (by omega)) ?_));rw [hd];refine Tot.bindC (idx_gd false (by omega)) (Tot.bindC (put_at (by omega)) (hJ _ _ ?_));have hmk:∀ {i' j':Nat},Mk (m.set (i+(prt t r).length) ((m.getD (i+(prt t r).length) []).set d true)) i' j'↔(i+(prt t r).length=i'/\d=j')\/Mk m i' j':=Mk.set hto (by omega);refine ⟨⟨by rw [List.length_set];exact hA.len,λ i' h=>?_,λ i' j h hm=>?_,hmk.2 (.inr hA.first),λ i' h j x q hm hq' hs' hb'=>?_⟩,(λ h=>by cases h),λ _=>?_⟩
      ·by_cases e2:i+(prt t r).length=i'
       ·subst e2;rw [getD_set hto,List.length_set];exact hrow2
       ·rw [getD_set_ne e2];exact hA.rows i' h
      ·rcases hmk.1 hm with ⟨rfl,rfl⟩|hm
       ·obtain ⟨q,g1,g2⟩:=hA.sound i k hi hb;rw [hq] at g1;cases g1;exact ⟨_,hdg,g2.next hst hpf⟩
       ·exact hA.sound i' j h hm
      ·rcases hmk.1 hm with ⟨h1,_⟩|hm
       ·omega
       ·obtain ⟨j',g1,g2⟩:=hA.done i' h j x q hm hq' hs' hb';exact ⟨j',g1,hmk.2 (.inr g2)⟩
      ·have:=cntM_set (l:=m) (i:=i+(prt t r).length) (j:=d) (r:=m.getD (i+(prt t r).length) []) (by rw [List.getD_eq_getElem?_getD,List.getElem?_eq_getElem hto];rfl) hb2;cases hch:ch with
       | false=>rw [(hP.same hch).1] at this ⊢;omega
       | true=>have:=hP.less hch;omega
 ·rintro ⟨m,ch,r'⟩ ⟨e1,hP⟩;simp only at e1 hP;subst e1;unfold FR6_Reached_L5;simp only [Int.toNat_natCast,set_getD];exact Tot.gF (nlt_d _) (Tot.gF (nlt_d _) (Tot.iteF (by rw [nlt_d];rfl) (Tot.pure hP)))
theorem rea4_ev {i:Nat} (hi:i<=s.length) {m0:List (List Bool)} (x0:Int) (h1:Rea t s i m0) :
  Tot (λ n=>whl (λ (x:((List (List Bool))×Bool×Int))=>FR6_Reached_L4 n t s (statesS t) x0 (i:Int) x.1 x.2.1 x.2.2) n (m0,false,0)) (λ y=>PassR t s i m0 y.1 y.2 (statesS t).length 0):=by
 have hlen:=len6 hT;refine Tot.upto (body:=λ n x=>FR6_Reached_L4 n t s (statesS t) x0 (i:Int) x.1 x.2.1 x.2.2) (statesS t).length (λ k x=>x.2.2=(k:Int)/\PassR t s i m0 x.1 x.2.1 k 0) ?_ ?_ _ ⟨rfl,h1,λ _=>⟨rfl,λ j m h=>by omega⟩,λ h=>by cases h⟩
 ·rintro k ⟨out,ch,k'⟩ hk ⟨e1,hP⟩;simp only at e1 hP;subst e1;unfold FR6_Reached_L4;refine Tot.iteT (lt_d hk) (Tot.bind (rea5_ev hT hs hi hk x0 hP) ?_);rintro ⟨out',ch'⟩ hP';exact Tot.pure ⟨inc64 (by omega),hP'.rea,λ hc=>⟨(hP'.same hc).1,λ j m hjm hm=>(hP'.same hc).2 j m (by omega) hm⟩,hP'.less⟩
 ·rintro ⟨out,ch,k'⟩ ⟨e1,hP⟩;simp only at e1 hP;subst e1;unfold FR6_Reached_L4;exact Tot.iteF (by simp) (Tot.pure hP)
theorem rea3_ev {i:Nat} (hi:i<=s.length) {m0:List (List Bool)} (x0:Int) (h1:Rea t s i m0) :
  Tot (λ n=>whl (λ (x:((List (List Bool))×Bool))=>FR6_Reached_L3 n t s (statesS t) x0 (i:Int) x.1 x.2) n (m0,true)) (Rea t s (i+1)):=by
 refine Tot.whl (body:=λ n x=>FR6_Reached_L3 n t s (statesS t) x0 (i:Int) x.1 x.2) (λ c x=>Rea t s i x.1/\((x.2=true/\c=cntK x.1+1)\/(x.2=false/\c=0/\Rea t s (i+1) x.1))) ?_ (cntK m0+1) (m0,true) ⟨h1,.inl ⟨rfl,rfl⟩⟩;rintro c ⟨m,ch⟩ ⟨hS,hm⟩;simp only at hS hm;unfold FR6_Reached_L3;rcases hm with ⟨rfl,rfl⟩|⟨rfl,rfl,hR⟩
 ·refine Tot.iteT rfl (Tot.bind (rea4_ev hT hs hi x0 hS) ?_);rintro ⟨m',ch'⟩ hP;simp only at hP;cases ch' with
  | false=>
   obtain ⟨e,hrel⟩:=hP.same rfl;subst e;refine Tot.pure ⟨0,by omega,hS,.inr ⟨rfl,rfl,hS.len,hS.rows,hS.sound,hS.first,λ i' hi' j k q hmk hq hst hpf=>?_⟩⟩;by_cases e:i'=i
   ·subst e;exact hrel j k (.inl (getElem?_lt' hq)) (by have:=stepS_in hst;omega) q hmk hq hst hpf
   ·exact hS.done i' (by omega) j k q hmk hq hst hpf
  | true=>
   have:=hP.less rfl;exact Tot.pure ⟨cntK m'+1,by omega,hP.rea,.inl ⟨rfl,rfl⟩⟩
 ·exact Tot.iteF rfl (Tot.pure hR)
omit hs in
theorem Rea.all {i:Nat} {m:List (List Bool)} (h:Rea t s (i+1) m) {j:Nat} {q:GState} (hq:(statesS t)[j]? = some q):Rch t s i q↔i<=s.length/\Mk m i j:=by
 constructor
 ·intro hr;refine ⟨hr.1,?_⟩;have key:∀ {i' q},Rch t s i' q->i'<=i->∃ j,(statesS t)[j]? = some q/\Mk m i' j:=λ {i' q} hr=>Rch.ind (A:=λ i' q=>i'<=i->∃ j,(statesS t)[j]? = some q/\Mk m i' j) (λ _=>⟨0,(states_ok hT.tab).1.first,h.first⟩) (λ i' q k hi' hA hst hpf hle=>by
   obtain ⟨j,h1,h2⟩:=hA (by omega);exact h.done i' (by omega) j k q h2 h1 hst hpf) hr
  obtain ⟨j',h1,h2⟩:=key hr (Nat.le_refl _);rwa [get_inj (nod6 hT) hq h1]
 ·rintro ⟨h1,h2⟩;obtain ⟨q',g1,g2⟩:=h.sound i j h1 h2;rw [hq] at g1;cases g1;exact g2
theorem rea6_ev {i:Nat} (hi:i<=s.length) {m:List (List Bool)} (h:Rea t s (i+1) m) {v0:Int} (h0:LastB t s i v0) :
  Tot (λ n=>whl (λ (x:((List (List Bool))×Int×Int))=>FR6_Reached_L6 n t s (statesS t) (i:Int) (clsAt s i) x.1 x.2.1 x.2.2) n (m,v0,0)) (λ y=>y.1=m/\LastB t s (i+1) y.2):=by
 have _:=hs;have hlen:=len6 hT;refine Tot.upto (body:=λ n x=>FR6_Reached_L6 n t s (statesS t) (i:Int) (clsAt s i) x.1 x.2.1 x.2.2) (statesS t).length (λ k x=>x.2.2=(k:Int)/\x.1=m/\(LastB t s (i+1) x.2.1/\Stop t s i\/(x.2.1=v0/\∀ j q,j<k->(statesS t)[j]? = some q->¬(Rch t s i q/\hasS q.Need (clsAt s i)=true)))) ?_ ?_ _ ⟨rfl,rfl,.inr ⟨rfl,λ j q h=>by omega⟩⟩
 ·rintro k ⟨m',v,k'⟩ hk ⟨e1,e2,hv⟩;simp only at e1 e2 hv;subst e1 e2;have hq:(statesS t)[k]? = some (statesS t)[k]:=List.getElem?_eq_getElem hk;have hil:i<m'.length:=by rw [h.len];omega
  have hrow:=h.rows i hi;obtain ⟨b,hb⟩:∃ b,(m'.getD i [])[k]? = some b:=⟨_,List.getElem?_eq_getElem (by omega)⟩;have hbd:(m'.getD i []).getD k false=b:=by rw [List.getD_eq_getElem?_getD (l:=m'.getD i []),hb];rfl
  have hJ:∀ v',(LastB t s (i+1) v'/\Stop t s i\/(v'=v0/\∀ j q,j<k+1->(statesS t)[j]? = some q->¬(Rch t s i q/\hasS q.Need (clsAt s i)=true)))->Tot (λ n=>FR6_Reached_J3 n (k:Int) m' v') (Rd2 (λ x:List (List Bool)×Int×Int=>x.2.2=((k+1:Nat):Int)/\x.1=m'/\(LastB t s (i+1) x.2.1/\Stop t s i\/(x.2.1=v0/\∀ j q,j<k+1->(statesS t)[j]? = some q->¬(Rch t s i q/\hasS q.Need (clsAt s i)=true)))) (λ y=>y.1=m'/\LastB t s (i+1) y.2)):=by
   intro v' hh;unfold FR6_Reached_J3;exact Tot.pure ⟨inc64 (by omega),rfl,hh⟩
  have hno:¬(Rch t s i (statesS t)[k]/\hasS (statesS t)[k].Need (clsAt s i)=true)->(LastB t s (i+1) v/\Stop t s i\/(v=v0/\∀ j q,j<k+1->(statesS t)[j]? = some q->¬(Rch t s i q/\hasS q.Need (clsAt s i)=true))):=by
   intro hn;refine hv.imp id λ ⟨g1,g2⟩=>⟨g1,λ j q hj hjq=>?_⟩;by_cases e:j=k
   ·subst e;rw [hq] at hjq;cases hjq;exact hn
   ·exact g2 j q (by omega) hjq
  unfold FR6_Reached_L6;simp only [Int.toNat_natCast];refine Tot.iteT (lt_d hk) (Tot.bindC (idx_gd [] hil) (Tot.bindC (idx_gd false (by omega)) ?_));rw [hbd];simp only [set_getD];cases b with
  | false=>
   refine Tot.gF rfl (Tot.gF rfl (Tot.iteF rfl (hJ v (hno λ hh=>?_))));have:=((Rea.all hT h hq).1 hh.1).2;unfold Mk at this;rw [hb] at this;cases this
  | true=>
   refine Tot.gE rfl (Ev.all λ n=>idx_at hq) (Tot.gE rfl (Ev.all λ n=>bit_eq n _ _) (Tot.ite (λ hc=>?_) λ hc=>?_))
   ·have hst:Stop t s i:=⟨_,(Rea.all hT h hq).2 ⟨hi,hb⟩,by simpa using hc⟩;exact hJ _ (.inl ⟨.stop hst,hst⟩)
   ·exact hJ v (hno λ hh=>by rw [hh.2] at hc;cases hc)
 ·rintro ⟨m',v,k'⟩ ⟨e1,e2,hv⟩;simp only at e1 e2 hv;subst e1 e2;unfold FR6_Reached_L6;refine Tot.iteF (by simp) (Tot.pure ⟨rfl,?_⟩);rcases hv with hv|⟨rfl,hv⟩
  ·exact hv.1
  ·refine h0.skip ?_;rintro ⟨q,h1,h2⟩;have hmem:q∈statesS t:=by
    obtain ⟨j,hj,_⟩:=Rch.ind (A:=λ _ q=>∃ j,(statesS t)[j]? = some q/\True) ⟨0,(states_ok hT.tab).1.first,trivial⟩ (λ i' q k _ hA hst _=>by
     obtain ⟨j,hj,_⟩:=hA;obtain ⟨d,_,hd⟩:=indexS_in (closed6 hT (List.mem_of_getElem? hj) hst);exact ⟨d,hd,trivial⟩) h1
    exact List.mem_of_getElem? hj
   obtain ⟨j,hj,e⟩:=List.getElem_of_mem hmem;exact hv j q hj (by rw [← e];exact List.getElem?_eq_getElem hj) ⟨h1,h2⟩
theorem reached_ev:Tot (λ n=>FR6_Reached n t s) (LastP t s):=by
 have hlen:=len6 hT;have hf:=(states_ok hT.tab).1.first;have hpos:=getElem?_lt' hf;unfold FR6_Reached;have e1:iadd .i64 ((s.length:Nat):Int) 1=((s.length+1:Nat):Int):=inc64 (by omega);refine Tot.bindE (states3_ev' hT.tab) ?_;rw [e1];refine Tot.bindC (mkl_d (by omega) (by omega)) ?_;rw [Int.toNat_natCast];refine Tot.bind (R:=λ m=>m.length=s.length+1/\∀ i,i<=s.length->m.getD i []=List.replicate (statesS t).length false) ?_ ?_
 ·refine Tot.upto (body:=λ n x=>FR6_Reached_L1 n t s (statesS t) x.1 x.2) (s.length+1) (λ k x=>x.2=(k:Int)/\x.1.length=s.length+1/\∀ i,i<k->x.1.getD i []=List.replicate (statesS t).length false) ?_ ?_ _ ⟨rfl,by simp,by omega⟩
  ·rintro k ⟨m,k'⟩ hk ⟨g1,g2,g3⟩;simp only at g1 g2 g3;subst g1;unfold FR6_Reached_L1;refine Tot.iteT (by simp;omega) (Tot.bindC (idx_gd [] (show k<m.length by omega)) (Tot.bindC (mkl_d (by omega) (by omega)) ?_));rw [Int.toNat_natCast,Int.toNat_natCast];refine Tot.pure ⟨inc64 (by omega),by rw [List.length_set];exact g2,λ i hi=>?_⟩;by_cases e:k=i
   ·subst e;exact getD_set (show k<m.length by omega) _ _
   ·show (m.set k _).getD i []=_;rw [getD_set_ne e];exact g3 i (by omega)
  ·rintro ⟨m,k'⟩ ⟨g1,g2,g3⟩;simp only at g1 g2 g3;subst g1;unfold FR6_Reached_L1;exact Tot.iteF (by simp;omega) (Tot.pure ⟨g2,λ i hi=>g3 i (by omega)⟩)
 ·rintro m ⟨g2,g3⟩;have g0:=g3 0 (by omega);have h0l:(m.getD 0 []).length=(statesS t).length:=by rw [g0,List.length_replicate]
  refine Tot.bindC (idx_gd (i:=0) [] (by omega)) (Tot.bindC (idx_gd (i:=0) false (by omega)) (Tot.bindC (put_at (i:=0) (by omega)) ?_));have hmk:∀ {i' j':Nat},Mk (m.set 0 ((m.getD 0 []).set 0 true)) i' j'↔(0=i'/\0=j')\/Mk m i' j':=Mk.set (by omega) (by omega);have hnm:∀ i j,i<=s.length->¬Mk m i j:=by
   intro i j hi hm;unfold Mk at hm;rw [g3 i hi,List.getElem?_replicate] at hm;split at hm<;>cases hm
  have hR:Rea t s 0 (m.set 0 ((m.getD 0 []).set 0 true)):=by
   refine ⟨by rw [List.length_set];exact g2,λ i hi=>?_,λ i j hi hm=>?_,hmk.2 (.inl ⟨rfl,rfl⟩),λ i' h=>by omega⟩
   ·by_cases e:0=i
    ·subst e;rw [getD_set (by omega),List.length_set];exact h0l
    ·rw [getD_set_ne e,g3 i hi,List.length_replicate]
   ·rcases hmk.1 hm with ⟨rfl,rfl⟩|hm
    ·exact ⟨_,hf,.start t s⟩
    ·exact absurd hm (hnm i j hi)
  refine Tot.bind (R:=LastP t s) ?_ (λ v hv=>Tot.pure hv);refine Tot.upto (body:=λ n x=>FR6_Reached_L2 n t s (statesS t) x.1 x.2.1 x.2.2) (s.length+1) (λ i x=>x.2.2=(i:Int)/\Rea t s i x.1/\LastB t s i x.2.1) ?_ ?_ _ ⟨rfl,hR,⟨0,rfl,.inl rfl⟩,by omega⟩
  ·rintro i ⟨m',v,i'⟩ hi ⟨k1,k2,k3⟩;simp only at k1 k2 k3;subst k1;unfold FR6_Reached_L2;refine Tot.iteT (by simp;omega) (Tot.bind (rea3_ev hT hs (show i<=s.length by omega) v k2) ?_);intro m2 hm2;have hJ:∀ c,c=clsAt s i->Tot (λ n=>FR6_Reached_J2 n t s (statesS t) v (i:Int) m2 c) (Rd2 (λ x:List (List Bool)×Int×Int=>x.2.2=((i+1:Nat):Int)/\Rea t s (i+1) x.1/\LastB t s (i+1) x.2.1) (LastP t s)):=by
    rintro c rfl;unfold FR6_Reached_J2;refine Tot.bind (rea6_ev hT hs (show i<=s.length by omega) hm2 k3) ?_;rintro ⟨m3,v3⟩ ⟨rfl,hv3⟩;exact Tot.pure ⟨inc64 (by omega),hm2,hv3⟩
   refine Tot.ite (λ h=>?_) λ h=>?_
   ·have hlt:i<s.length:=by simpa using h
    refine Tot.bindC (sidx_eq hlt) (Tot.bindA (λ n=>class2_eq n _) (hJ _ ?_));unfold clsAt;rw [if_pos hlt]
   ·have hlt:¬i<s.length:=by simpa using h
    refine hJ 0 ?_;unfold clsAt;rw [if_neg hlt]
  ·rintro ⟨m',v,i'⟩ ⟨k1,k2,k3⟩;simp only at k1 k2 k3;subst k1;unfold FR6_Reached_L2;exact Tot.iteF (by simp;omega) (Tot.pure k3.all)
end
end Go.AI
end
section
namespace Go.AI
def arcAt (t:GTable) (q:GState) (k:Nat):Option GTranslateArc:=if (stepS t q k).2=true then some ⟨k,indexS (statesS t) (stepS t q k).1⟩ else none
def arcsOf (t:GTable) (q:GState):List GTranslateArc:=(List.range t.Rules.length).filterMap (arcAt t q)
theorem mem_arcs {t:GTable} {q:GState} {a:GTranslateArc}:a∈arcsOf t q↔∃ k:Nat,k<t.Rules.length/\(stepS t q k).2=true/\a=⟨k,indexS (statesS t) (stepS t q k).1⟩:=by
 unfold arcsOf;rw [List.mem_filterMap];constructor
 ·rintro ⟨k,hk,h⟩;unfold arcAt at h;split at h
  ·rename_i hs;cases h;exact ⟨k,List.mem_range.1 hk,hs,rfl⟩
  ·cases h
 ·rintro ⟨k,hk,hs,rfl⟩;exact ⟨k,List.mem_range.2 hk,by unfold arcAt;rw [if_pos hs]⟩
structure WBase (t:GTable) (s:List UInt8) (w:GWriter):Prop where
 tt:w.T=t
 ss:w.S=s
 st:w.States=statesS t
 al:w.Arcs.length=(statesS t).length
 arc:∀ (j:Nat) q,(statesS t)[j]? = some q->w.Arcs[j]? = some (arcsOf t q)
section
variable {t:GTable} (hT:Tab6 t) {s:List UInt8} (hs:s.length<=4000)
include hT hs
theorem new1_ev (x:List GColumn):Tot (λ n=>whl (λ (x_1:((List (GState×Int))×Int))=>FTr_newWriter_L1 n t s (statesS t) x x_1.1 x_1.2) n ([],0)) (NumOK (statesS t)):=by
 have _:=hs;have hlen:=len6 hT;refine Tot.upto (body:=λ n y=>FTr_newWriter_L1 n t s (statesS t) x y.1 y.2) (statesS t).length (λ k y=>y.2=(k:Int)/\NumOK ((statesS t).take k) y.1) ?_ ?_ _ ⟨rfl,λ q=>rfl⟩
 ·rintro k ⟨nb,k'⟩ hk ⟨e1,hN⟩;simp only at e1 hN;subst e1;unfold FTr_newWriter_L1;refine Tot.iteT (lt_d hk) (Tot.bindC (idx_lt hk) (Tot.pure ⟨inc64 (by omega),?_⟩));have hn:=nod6 hT;have e:(statesS t).take (k+1)=(statesS t).take k++[(statesS t)[k]]:=by rw [List.take_add_one,List.getElem?_eq_getElem hk];rfl
  have hnd:((statesS t).take (k+1)).Nodup:=(List.take_sublist _ _).nodup hn;rw [e] at hnd;have hp:(statesS t)[k] ∉ (statesS t).take k:=by
   intro hm;exact (List.nodup_append.1 hnd).2.2 _ hm _ (by simp) rfl
  have:=NumOK.snoc hN ((List.take_sublist _ _).nodup hn) hp;rw [← e,List.length_take,Nat.min_eq_left (by omega)] at this;exact this
 ·rintro ⟨nb,k'⟩ ⟨e1,hN⟩;simp only at e1 hN;subst e1;rw [List.take_length] at hN;unfold FTr_newWriter_L1;exact Tot.iteF (by simp) (Tot.pure hN)
omit hs in
theorem num_get {nb:List (GState×Int)} (hN:NumOK (statesS t) nb) {q:GState} (hq:q∈statesS t):Option.getD (mget q nb) 0=indexS (statesS t) q:=by
 obtain ⟨j,hj,hg⟩:=indexS_in hq;rw [hN q,findIdx_some (nod6 hT) hg,hj];rfl
omit hs in
theorem new3_ev {nb:List (GState×Int)} (hN:NumOK (statesS t) nb) {j:Nat} {q:GState} (hq:(statesS t)[j]? = some q) (w0:GWriter) (hl:w0.Arcs.length=(statesS t).length) (h0:w0.Arcs[j]? = some []) :
  Tot (λ n=>whl (λ (x:(GWriter×Int))=>FTr_newWriter_L3 n t (statesS t) nb (j:Int) q x.1 x.2) n (w0,0)) (λ w=>w={ w0 with Arcs:=w0.Arcs.set j (arcsOf t q) }):=by
 have hrl:=hT.tab.1;have hjl:=getElem?_lt' hq;refine Tot.upto (body:=λ n x=>FTr_newWriter_L3 n t (statesS t) nb (j:Int) q x.1 x.2) t.Rules.length (λ k x=>x.2=(k:Int)/\x.1={ w0 with Arcs:=w0.Arcs.set j ((List.range k).filterMap (arcAt t q)) }/\((List.range k).filterMap (arcAt t q)).length<=k) ?_ ?_ _ ⟨rfl,?_,by simp⟩
 ·rintro k ⟨w,k'⟩ hk ⟨e1,e2,e3⟩;simp only at e1 e2 e3;subst e1;have hJ:∀ w',w'={ w0 with Arcs:=w0.Arcs.set j ((List.range (k+1)).filterMap (arcAt t q)) }->Tot (λ n=>FTr_newWriter_J1 n (k:Int) w') (Rd2 (λ x:GWriter×Int=>x.2=((k+1:Nat):Int)/\x.1={ w0 with Arcs:=w0.Arcs.set j ((List.range (k+1)).filterMap (arcAt t q)) }/\((List.range (k+1)).filterMap (arcAt t q)).length<=k+1) (λ w=>w={ w0 with Arcs:=w0.Arcs.set j (arcsOf t q) })):=by
   intro w' hw;unfold FTr_newWriter_J1;refine Tot.pure ⟨inc64 (by omega),hw,?_⟩;exact Nat.le_trans (List.length_filterMap_le _ _) (by simp)
  unfold FTr_newWriter_L3;refine Tot.iteT (lt_d hk) (Tot.bindA (λ n=>step_eq hT.tab.short n q k) (Tot.ite (λ h=>?_) λ h=>?_))
  ·subst e2;refine Tot.bindC (idx_gd [] (by rw [List.length_set];omega)) ?_;rw [getD_set (by omega)];refine Tot.bindC (app_le (by simp;omega)) (hJ _ ?_);rw [num_get hT hN (closed6 hT (List.mem_of_getElem? hq) h)];simp only [Int.toNat_natCast,List.set_set,List.range_succ,List.filterMap_append];have:(List.filterMap (arcAt t q) [k])=[⟨k,indexS (statesS t) (stepS t q k).1⟩]:=by
    simp only [List.filterMap_cons,arcAt,h,if_true,List.filterMap_nil]
   rw [this]
  ·refine hJ _ ?_;rw [e2];simp only [List.range_succ,List.filterMap_append];have:(List.filterMap (arcAt t q) [k])=[]:=by
    simp only [List.filterMap_cons,arcAt,h,Bool.false_eq_true,if_false,List.filterMap_nil]
   rw [this,List.append_nil]
 ·rintro ⟨w,k'⟩ ⟨e1,e2,e3⟩;simp only at e1 e2;subst e1;unfold FTr_newWriter_L3;exact Tot.iteF (by simp) (Tot.pure e2)
 ·show w0={ w0 with Arcs:=w0.Arcs.set j [] };have:w0.Arcs.set j []=w0.Arcs:=by
   have:=set_getD w0.Arcs j [];rwa [List.getD_eq_getElem?_getD,h0] at this
  rw [this]
theorem new_ev:Tot (λ n=>FTr_newWriter n t s) (λ w=>WBase t s w/\w.Columns=List.replicate (s.length+1) ⟨[],[]⟩/\w.Last=0):=by
 have hlen:=len6 hT;unfold FTr_newWriter;have e1:iadd .i64 ((s.length:Nat):Int) 1=((s.length+1:Nat):Int):=inc64 (by omega);refine Tot.bindE (statesA_ev hT.tab) ?_;rw [e1];refine Tot.bindC (mkl_d (by omega) (by omega)) (Tot.bind (new1_ev hT hs _) ?_);intro nb hN;refine Tot.bindC (mkl_d (by omega) (by omega)) ?_;simp only [Int.toNat_natCast];refine Tot.bind (R:=λ w=>WBase t s w/\w.Columns=List.replicate (s.length+1) ⟨[],[]⟩/\w.Last=0) ?_ (λ w h=>Tot.pure h);refine Tot.upto (body:=λ n x=>FTr_newWriter_L2 n t (statesS t) nb x.1 x.2) (statesS t).length (λ k x=>x.2=(k:Int)/\∃ A,x.1=({ T:=t,S:=s,States:=statesS t,Arcs:=A,Columns:=List.replicate (s.length+1) ⟨[],[]⟩,Last:=0 }:GWriter)/\A.length=(statesS t).length/\(∀ (j:Nat) q,j<k->(statesS t)[j]? = some q->A[j]? = some (arcsOf t q))/\∀ j,k<=j->j<(statesS t).length->A[j]? = some []) ?_ ?_ _ ⟨rfl,_,rfl,by simp,by omega,λ j _ h=>by rw [List.getElem?_replicate,if_pos h]⟩
 ·rintro k ⟨w,k'⟩ hk ⟨e1,A,e2,a1,a2,a3⟩;simp only at e1 e2;subst e1 e2;have hq:(statesS t)[k]? = some (statesS t)[k]:=List.getElem?_eq_getElem hk;unfold FTr_newWriter_L2;refine Tot.iteT (lt_d hk) (Tot.bindC (idx_at hq) (Tot.bind (new3_ev hT hN hq _ a1 (a3 k (Nat.le_refl _) hk)) ?_));rintro w' rfl;refine Tot.pure ⟨inc64 (by omega),_,rfl,by rw [List.length_set];exact a1,λ j q hj hjq=>?_,λ j h1 h2=>?_⟩
  ·by_cases e:k=j
   ·subst e;rw [hq] at hjq;cases hjq;exact List.getElem?_set_self (show k<A.length by omega)
   ·rw [List.getElem?_set_ne e];exact a2 j q (by omega) hjq
  ·rw [List.getElem?_set_ne (by omega)];exact a3 j (by omega) h2
 ·rintro ⟨w,k'⟩ ⟨e1,A,e2,a1,a2,a3⟩;simp only at e1 e2;subst e1 e2;unfold FTr_newWriter_L2;exact Tot.iteF (by simp) (Tot.pure ⟨⟨rfl,rfl,rfl,a1,λ j q hq=>a2 j q (getElem?_lt' hq) hq⟩,rfl,rfl⟩)
theorem prints_eq {w:GWriter} (hw:WBase t s w) {i:Nat} (hi:i<=s.length) {q:GState} {k:Nat} (hk:(stepS t q k).2=true) (n:Nat) :
  FTr_writer_printsx n (i:Int) (k:Int) w=some (((i+(prt t k).length:Nat):Int),(prt t k).isPrefixOf (s.drop i)):=by
 have h:=stepS_in hk;obtain ⟨p1,p2,p3⟩:=hT.pr hk;have hpl:(prt t k).length=(ruleAt t k).Print.length:=rfl;unfold FTr_writer_printsx FSt_HasPrefix FSl_HasPrefix;rw [hw.tt,hw.ss,idx_rule h.1 h.2,Option.bind_some,sub_d (by omega) (by omega) (by omega),Option.bind_some];simp only [Int.toNat_natCast,List.take_length];have e1:iadd .i64 (i:Int) ((List.length (ruleAt t k).Print:Nat):Int)=((i+(prt t k).length:Nat):Int):=by rw [add64 (by omega) (by omega)];omega
 rw [e1];by_cases hle:(prt t k).length<=(s.drop i).length
 ·have hd:decide (((List.length (s.drop i):Nat):Int)>=((List.length (ruleAt t k).Print:Nat):Int))=true:=by simp only [ge_iff_le,decide_eq_true_eq];omega
  rw [if_pos hd,sub_pre (by omega),Option.bind_some,hd,Bool.true_and,Option.bind_some,Option.bind_some];congr 2;rw [Bool.eq_iff_iff,beq_iff_eq,List.isPrefixOf_iff_prefix];constructor
  ·intro h2;have:=List.take_prefix (ruleAt t k).Print.length (s.drop i);rw [h2] at this;exact this
  ·intro h2;exact (List.prefix_iff_eq_take.1 h2).symm
 ·have hd:decide (((List.length (s.drop i):Nat):Int)>=((List.length (ruleAt t k).Print:Nat):Int))=false:=by simp only [ge_iff_le,decide_eq_false_iff_not];omega
  rw [if_neg (by rw [hd];simp),Option.bind_some,hd,Bool.false_and,Option.bind_some,Option.bind_some];congr 2;rw [eq_comm,← Bool.not_eq_true,List.isPrefixOf_iff_prefix];intro hp';exact hle hp'.length_le
end
end Go.AI
end
section
namespace Go.AI
def colS (w:GWriter) (p:Nat):List Int:=(w.Columns.getD p default).States
def InC (w:GWriter) (p:Nat) (v:Int):Prop:=v∈colS w p
structure Kn (t:GTable) (s:List UInt8) (place:Nat) (w:GWriter) (kn:List (List Bool)):Prop where
 base:WBase t s w
 clen:w.Columns.length=s.length+1
 cost:∀ p,(w.Columns.getD p default).Costs=[]
 klen:kn.length=5
 rows:∀ c,c<5->(kn.getD c []).length=(statesS t).length
 nod:∀ p,(colS w p).Nodup
 ok:∀ p v,InC w p v->∃ (j:Nat) (q:GState),v=(j:Int)/\(statesS t)[j]? = some q/\Rch t s p q
 row:∀ p,place<=p->p<place+5->∀ j:Nat,(kn.getD (p % 5) [])[j]? = some true↔InC w p (j:Int)
 far:∀ p,place+5<=p->colS w p=[]
structure ExtWr (w w':GWriter):Prop where
 last:w'.Last=w.Last
 pre:∀ p,colS w p <+: colS w' p
theorem ExtWr.refl (w:GWriter):ExtWr w w:=⟨rfl,λ _=>List.prefix_rfl⟩
theorem ExtWr.trans {w w' w'':GWriter} (h:ExtWr w w') (h':ExtWr w' w''):ExtWr w w'':=⟨h'.last.trans h.last,λ p=>(h.pre p).trans (h'.pre p)⟩
theorem ExtWr.inc {w w':GWriter} (h:ExtWr w w') {p:Nat} {v:Int} (hv:InC w p v):InC w' p v:=(h.pre p).subset hv
theorem colS_set {w:GWriter} {p:Nat} (hp:p<w.Columns.length) (c:GColumn) (p':Nat) (a b d:Int) (x:List GRule):((w.Columns.set p c).getD p' default)=if p=p' then c else w.Columns.getD p' default:=by
 split
 ·rename_i e;subst e;exact getD_set hp _ _
 ·rename_i e;exact getD_set_ne e _ _
section
variable {t:GTable} (hT:Tab6 t) {s:List UInt8} (hs:s.length<=4000)
include hT hs
omit hs in
theorem Kn.len {place:Nat} {w:GWriter} {kn:List (List Bool)} (h:Kn t s place w kn) (p:Nat):(colS w p).length<=(statesS t).length:=by
 have _:=hT;have hsub:∀ v∈colS w p,v∈(List.range (statesS t).length).map (λ j:Nat=>(j:Int)):=by
  intro v hv;obtain ⟨j,q,rfl,hq,_⟩:=h.ok p v hv;exact List.mem_map.2 ⟨j,List.mem_range.2 (getElem?_lt' hq),rfl⟩
 have:=(h.nod p).length_le_of_subset hsub;simpa using this
omit hs in
theorem add_ev {place:Nat} {w:GWriter} {kn:List (List Bool)} (h:Kn t s place w kn) {p:Nat} (h1:place<=p) (h2:p<place+5) (hp:p<=s.length) {j:Nat} {q:GState} (hq:(statesS t)[j]? = some q) (hr:Rch t s p q) :
  Tot (λ n=>FTr_writer_reach_1 n (p:Int) (j:Int) w kn) (λ y=>Kn t s place y.1 y.2/\ExtWr w y.1/\InC y.1 p (j:Int)):=by
 have hlen:=len6 hT;have hc5:p % 5<5:=Nat.mod_lt _ (by omega);have hjl:=getElem?_lt' hq;have hrl:=h.rows _ hc5;obtain ⟨b,hb⟩:∃ b,(kn.getD (p % 5) [])[j]? = some b:=⟨_,List.getElem?_eq_getElem (by omega)⟩;have hbd:(kn.getD (p % 5) []).getD j false=b:=by rw [List.getD_eq_getElem?_getD (l:=kn.getD (p % 5) []),hb];rfl
 have e5:irem (p:Int) 5=((p % 5:Nat):Int):=by
  have:=(rem_range (a:=(p:Int)) (m:=5) (by omega) (by omega)).1;rw [this];omega
 unfold FTr_writer_reach_1;rw [e5];simp only [Int.toNat_natCast];refine Tot.bindC (idx_gd [] (by rw [h.klen];exact hc5)) (Tot.bindC (guardB_of (by simp;omega)) (Tot.bindC (idx_gd false (by omega)) ?_));rw [hbd];cases b with
 | true=>
  refine Tot.iteF rfl (Tot.pure ?_);rw [set_getD];exact ⟨h,.refl w,(h.row p h1 h2 j).1 hb⟩
 | false=>
  have hcl:p<w.Columns.length:=by rw [h.clen];omega
  have hnl:=h.len hT p;refine Tot.iteT rfl (Tot.bindC (idx_gd false (by omega)) (Tot.bindC (put_at (by omega)) (Tot.bindC (idx_gd default hcl) (Tot.bindC (app_le (by show ((colS w p).length+1)*8<=70368744177664;omega)) (Tot.pure ?_)))));have hni:¬InC w p (j:Int):=λ hin=>by have:=(h.row p h1 h2 j).2 hin;rw [hb] at this;cases this
  generalize hw':(⟨w.T,w.S,w.States,w.Arcs,w.Columns.set p ⟨(w.Columns.getD p default).States++[(j:Int)],(w.Columns.getD p default).Costs⟩,w.Last⟩:GWriter)=w';have hcol:∀ p',w'.Columns.getD p' default=if p=p' then ⟨(w.Columns.getD p default).States++[(j:Int)],(w.Columns.getD p default).Costs⟩ else w.Columns.getD p' default:=by
   intro p';subst hw';exact colS_set hcl _ p' 0 0 0 []
  have hcS:∀ p',colS w' p'=if p=p' then colS w p++[(j:Int)] else colS w p':=by
   intro p';unfold colS;rw [hcol];split<;>rfl
  have hin:∀ p' v,InC w' p' v↔InC w p' v\/(p=p'/\v=(j:Int)):=by
   intro p' v;unfold InC;rw [hcS];by_cases e:p=p'
   ·subst e;rw [if_pos rfl,List.mem_append,List.mem_singleton];simp
   ·rw [if_neg e];simp [e]
  have hkn:∀ c,(kn.set (p % 5) ((kn.getD (p % 5) []).set j true)).getD c []=if p % 5=c then (kn.getD (p % 5) []).set j true else kn.getD c []:=by
   intro c;split
   ·rename_i e;subst e;exact getD_set (by rw [h.klen];exact hc5) _ _
   ·rename_i e;exact getD_set_ne e _ _
  refine ⟨⟨?_,?_,λ p'=>?_,by rw [List.length_set];exact h.klen,λ c hc=>?_,λ p'=>?_,λ p' v hv=>?_,λ p' g1 g2 j'=>?_,λ p' g=>?_⟩,⟨?_,λ p'=>?_⟩,(hin _ _).2 (.inr ⟨rfl,rfl⟩)⟩
  ·subst hw';exact ⟨h.base.tt,h.base.ss,h.base.st,h.base.al,h.base.arc⟩
  ·subst hw';simp only [List.length_set];exact h.clen
  ·rw [hcol];split
   ·exact h.cost p
   ·exact h.cost p'
  ·rw [hkn];split
   ·rw [List.length_set];exact hrl
   ·exact h.rows c hc
  ·rw [hcS];split
   ·rw [List.nodup_append];exact ⟨h.nod p,by simp,λ a ha b hb e=>by simp at hb;subst hb;subst e;exact hni ha⟩
   ·exact h.nod p'
  ·rcases (hin p' v).1 hv with hv|⟨rfl,rfl⟩
   ·exact h.ok p' v hv
   ·exact ⟨j,q,rfl,hq,hr⟩
  ·rw [hkn,hin];by_cases e:p=p'
   ·subst e;rw [if_pos rfl];by_cases e2:j=j'
    ·subst e2;rw [List.getElem?_set_self (by omega)];simp
    ·rw [List.getElem?_set_ne e2,h.row p h1 h2 j'];exact ⟨.inl,λ hh=>hh.resolve_right λ hh=>e2 (by have:=hh.2;omega)⟩
   ·rw [if_neg (by omega),h.row p' g1 g2 j'];exact ⟨.inl,λ hh=>hh.resolve_right λ hh=>e hh.1⟩
  ·rw [hcS,if_neg (by omega)];exact h.far p' g
  ·subst hw';rfl
  ·rw [hcS];split
   ·rename_i e;subst e;exact List.prefix_append _ _
   ·exact List.prefix_rfl
def Clo (t:GTable) (s:List UInt8) (w:GWriter) (p:Nat) (q:GState):Prop:=∀ k:Nat,(stepS t q k).2=true->(prt t k).isPrefixOf (s.drop p)=true->∃ j:Nat,(statesS t)[j]? = some (stepS t q k).1/\InC w (p+(prt t k).length) (j:Int)
theorem reach4_ev {place:Nat} (hpl:place<=s.length) {w:GWriter} {kn:List (List Bool)} (h:Kn t s place w kn) {j:Nat} {q:GState} (hq:(statesS t)[j]? = some q) (hr:Rch t s place q) (x0:GWriter×List (List Bool)) (x1 x2:Int) :
  Tot (λ n=>whl (λ (x:(GWriter×(List (List Bool))×Int))=>FTr_writer_reach_L4 n x0 (place:Int) x1 x2 (arcsOf t q) x.1 x.2.1 x.2.2) n (w,kn,0)) (λ y=>Kn t s place y.1 y.2/\ExtWr w y.1/\Clo t s y.1 place q):=by
 have hrl:=hT.tab.1;have hal:(arcsOf t q).length<=t.Rules.length:=by unfold arcsOf;exact Nat.le_trans (List.length_filterMap_le _ _) (by simp)
 refine Tot.upto (body:=λ n x=>FTr_writer_reach_L4 n x0 (place:Int) x1 x2 (arcsOf t q) x.1 x.2.1 x.2.2) (arcsOf t q).length (λ i x=>x.2.2=(i:Int)/\Kn t s place x.1 x.2.1/\ExtWr w x.1/\∀ (k:Nat) a,(∃ i',i'<i/\(arcsOf t q)[i']? = some a)->a.Rule=(k:Int)->(prt t k).isPrefixOf (s.drop place)=true->InC x.1 (place+(prt t k).length) a.To) ?_ ?_ _ ⟨rfl,h,.refl w,λ k a ⟨i',hi',_⟩=>by omega⟩
 ·rintro i ⟨w1,kn1,i'⟩ hi ⟨e1,hK,hE,hC⟩;simp only at e1 hK hE hC;subst e1;have ha:(arcsOf t q)[i]? = some (arcsOf t q)[i]:=List.getElem?_eq_getElem hi;obtain ⟨k,hk,hst,hae⟩:=mem_arcs.1 (List.getElem_mem hi);have hJ:∀ w2 kn2,Kn t s place w2 kn2->ExtWr w1 w2->((prt t k).isPrefixOf (s.drop place)=true->InC w2 (place+(prt t k).length) (indexS (statesS t) (stepS t q k).1))->Tot (λ n=>FTr_writer_reach_J3 n (i:Int) w2 kn2) (Rd2 (λ x:GWriter×(List (List Bool))×Int=>x.2.2=((i+1:Nat):Int)/\Kn t s place x.1 x.2.1/\ExtWr w x.1/\∀ (k:Nat) a,(∃ i',i'<i+1/\(arcsOf t q)[i']? = some a)->a.Rule=(k:Int)->(prt t k).isPrefixOf (s.drop place)=true->InC x.1 (place+(prt t k).length) a.To) (λ y=>Kn t s place y.1 y.2/\ExtWr w y.1/\Clo t s y.1 place q)):=by
   intro w2 kn2 g1 g2 g3;unfold FTr_writer_reach_J3;refine Tot.pure ⟨inc64 (by omega),g1,hE.trans g2,?_⟩;rintro k' a ⟨i',hi',hia⟩ hak hpf;by_cases e:i'=i
   ·subst e;rw [ha,hae] at hia;cases hia;simp only at hak;have:k=k':=by omega
    subst this;exact g3 hpf
   ·exact g2.inc (hC k' a ⟨i',by omega,hia⟩ hak hpf)
  unfold FTr_writer_reach_L4;refine Tot.iteT (lt_d hi) (Tot.bindC (idx_at ha) ?_);rw [hae];refine Tot.bindA (λ n=>prints_eq hT hs hK.base hpl hst n) (Tot.ite (λ hpf=>?_) λ hpf=>?_)
  ·obtain ⟨d,hd,hdg⟩:=indexS_in (closed6 hT (List.mem_of_getElem? hq) hst);obtain ⟨p1,_,_⟩:=hT.pr hst;have hle:=(prefix_drop hpf).2 hpl;simp only;rw [hd];refine Tot.bind (add_ev hT hK (p:=place+(prt t k).length) (by omega) (by omega) hle hdg (hr.next hst hpf)) ?_;rintro ⟨w2,kn2⟩ ⟨g1,g2,g3⟩;exact hJ w2 kn2 g1 g2 λ _=>by rw [hd];exact g3
  ·exact hJ w1 kn1 hK (.refl w1) λ hh=>by
    have:(prt t k).isPrefixOf (s.drop place)=false:=hpf;rw [hh] at this;cases this
 ·rintro ⟨w1,kn1,i'⟩ ⟨e1,hK,hE,hC⟩;simp only at e1 hK hE hC;subst e1;unfold FTr_writer_reach_L4;refine Tot.iteF (by simp) (Tot.pure ⟨hK,hE,λ k hst hpf=>?_⟩);obtain ⟨d,hd,hdg⟩:=indexS_in (closed6 hT (List.mem_of_getElem? hq) hst);have hm:(⟨k,indexS (statesS t) (stepS t q k).1⟩:GTranslateArc)∈arcsOf t q:=mem_arcs.2 ⟨k,by have:=stepS_in hst;omega,hst,rfl⟩;obtain ⟨i',hi',e⟩:=List.getElem_of_mem hm;have:=hC k _ ⟨i',hi',by rw [List.getElem?_eq_getElem hi',e]⟩ rfl hpf;simp only [hd] at this;exact ⟨d,hdg,this⟩
omit hT hs in
theorem hasS_low {m c:Int} (h:0<=c) (h':c<=5):((iand .u8 (ishr .u8 m c) 1)==1)=hasS m c:=by
 unfold hasS;rw [decide_eq_true h,decide_eq_true (show c<8 by omega)];rfl
omit hT hs in
theorem writer_same (w:GWriter) (p:Nat) (d:GColumn):(⟨w.T,w.S,w.States,w.Arcs,w.Columns.set p (w.Columns.getD p d),w.Last⟩:GWriter)=w:=by rw [set_getD]
omit hT hs in
theorem Kn.last {place:Nat} {w:GWriter} {kn:List (List Bool)} (h:Kn t s place w kn) (v:Int):Kn t s place { w with Last:=v } kn:=⟨⟨h.base.tt,h.base.ss,h.base.st,h.base.al,h.base.arc⟩,h.clen,h.cost,h.klen,h.rows,h.nod,h.ok,h.row,h.far⟩
structure R3 (t:GTable) (s:List UInt8) (place:Nat) (v0:Int) (w0 w:GWriter) (kn:List (List Bool)) (i:Nat):Prop where
 kn:Kn t s place w kn
 pre:∀ p,colS w0 p <+: colS w p
 le:i<=(colS w place).length
 clo:∀ i' v,i'<i->(colS w place)[i']? = some v->∀ (j:Nat) q,v=(j:Int)->(statesS t)[j]? = some q->Clo t s w place q
 last:(w.Last=(place:Int)/\Stop t s place)\/(w.Last=v0/\∀ i' v,i'<i->(colS w place)[i']? = some v->∀ (j:Nat) q,v=(j:Int)->(statesS t)[j]? = some q->hasS q.Need (clsAt s place)=false)
theorem reach3_ev {place:Nat} (hpl:place<=s.length) {w0:GWriter} {kn:List (List Bool)} (h:Kn t s place w0 kn) (x0:GWriter×List (List Bool)) :
  Tot (λ n=>whl (λ (x:(GWriter×(List (List Bool))×Int))=>FTr_writer_reach_L3 n x0 (place:Int) (clsAt s place) x.1 x.2.1 x.2.2) n (w0,kn,0)) (λ y=>R3 t s place w0.Last w0 y.1 y.2 (colS y.1 place).length):=by
 have hlen:=len6 hT;refine Tot.whl (body:=λ n x=>FTr_writer_reach_L3 n x0 (place:Int) (clsAt s place) x.1 x.2.1 x.2.2) (λ m x=>∃ i:Nat,m=1000-i/\x.2.2=(i:Int)/\R3 t s place w0.Last w0 x.1 x.2.1 i) ?_ 1000 _ ⟨0,rfl,rfl,h,λ _=>List.prefix_rfl,by omega,λ i' v h=>by omega,.inr ⟨rfl,λ i' v h=>by omega⟩⟩;rintro m ⟨w,kn,i'⟩ ⟨i,rfl,e1,hR⟩;simp only at e1 hR;subst e1;have hK:=hR.kn;have hcl:place<w.Columns.length:=by rw [hK.clen];omega
 have hll:=hK.len hT place;unfold FTr_writer_reach_L3;simp only [Int.toNat_natCast];refine Tot.bindC (idx_gd default hcl) ?_;simp only [writer_same,set_getD];rcases Nat.lt_or_ge i (colS w place).length with hi|hi
 ·refine Tot.iteT (lt_d hi) (Tot.bindC (idx_gd default hcl) ?_);simp only [set_getD];have hv:(colS w place)[i]? = some (colS w place)[i]:=List.getElem?_eq_getElem hi;obtain ⟨j,q,hvj,hq,hr⟩:=hK.ok place _ (List.mem_of_getElem? hv);refine Tot.bindC (idx_at hv) ?_;rw [hvj];have hcr:=clsAt_range s place;refine Tot.bindC (show idx w.States (j:Int)=some q by rw [hK.base.st];exact idx_at hq) (Tot.bindC (guardB_of (by simp;exact hcr.1)) ?_);rw [hasS_low hcr.1 hcr.2];have hJ:∀ w1,Kn t s place w1 kn->(∀ p,colS w1 p=colS w p)->((w1.Last=(place:Int)/\Stop t s place)\/(w1.Last=w0.Last/\(∀ i' v,i'<i->(colS w place)[i']? = some v->∀ (j:Nat) q,v=(j:Int)->(statesS t)[j]? = some q->hasS q.Need (clsAt s place)=false)/\hasS q.Need (clsAt s place)=false)) ->
    Tot (λ n=>FTr_writer_reach_J2 n x0 (place:Int) (clsAt s place) kn (i:Int) (j:Int) w1) (Rd2 (λ y:GWriter×(List (List Bool))×Int=>∃ m',m'<1000-i/\∃ i:Nat,m'=1000-i/\y.2.2=(i:Int)/\R3 t s place w0.Last w0 y.1 y.2.1 i) (λ y=>R3 t s place w0.Last w0 y.1 y.2 (colS y.1 place).length)):=by
   intro w1 hK1 hc1 hl1;unfold FTr_writer_reach_J2;refine Tot.bindC (idx_at (hK1.base.arc j q hq)) (Tot.bind (reach4_ev hT hs hpl hK1 hq hr x0 (clsAt s place) (i:Int)) ?_);rintro ⟨w2,kn2⟩ ⟨g1,g2,g3⟩;simp only at g1 g2 g3;have hpre:∀ p,colS w p <+: colS w2 p:=λ p=>by rw [← hc1 p];exact g2.pre p
   have hgetp:∀ i' v,i'<(colS w place).length->((colS w2 place)[i']? = some v↔(colS w place)[i']? = some v):=by
    intro i' v hi';have:=pre_get (hpre place) (List.getElem?_eq_getElem hi');rw [this,List.getElem?_eq_getElem hi']
   refine Tot.pure ⟨1000-(i+1),by omega,i+1,rfl,inc64 (by omega),g1,λ p=>(hR.pre p).trans (hpre p),Nat.le_trans hi (hpre place).length_le,λ i' v hi' hv' j' q' hj' hq'=>?_,?_⟩
   ·rw [hgetp i' v (by omega)] at hv';by_cases e:i'=i
    ·subst e;rw [hv] at hv';cases hv';have:j=j':=by omega
     subst this;rw [hq] at hq';cases hq';exact g3
    ·have:=hR.clo i' v (by omega) hv' j' q' hj' hq';exact λ k h1 h2=>by
      obtain ⟨d,d1,d2⟩:=this k h1 h2;exact ⟨d,d1,(hpre _).subset d2⟩
   ·rw [g2.last];refine hl1.imp id λ ⟨l1,l2,l3⟩=>⟨l1,λ i' v hi' hv' j' q' hj' hq'=>?_⟩;rw [hgetp i' v (by omega)] at hv';by_cases e:i'=i
    ·subst e;rw [hv] at hv';cases hv';have:j=j':=by omega
     subst this;rw [hq] at hq';cases hq';exact l3
    ·exact l2 i' v (by omega) hv' j' q' hj' hq'
  refine Tot.ite (λ hc=>?_) λ hc=>?_
  ·exact hJ { w with Last:=(place:Int) } (hK.last _) (λ p=>rfl) (.inl ⟨rfl,q,hr,hc⟩)
  ·exact hJ w hK (λ p=>rfl) (hR.last.imp id λ ⟨l1,l2⟩=>⟨l1,l2,hc⟩)
 ·have:i=(colS w place).length:=by have:=hR.le;omega
  refine Tot.iteF (by simp only [decide_eq_false_iff_not];show ¬((i:Int)<(((colS w place).length:Nat):Int));omega) (Tot.pure ?_);show R3 t s place w0.Last w0 w kn (colS w place).length;rw [← this];exact hR
end
end Go.AI
end
section
namespace Go.AI
structure WR (t:GTable) (s:List UInt8) (w:GWriter):Prop where
 base:WBase t s w
 clen:w.Columns.length=s.length+1
 cost:∀ p,(w.Columns.getD p default).Costs=[]
 nod:∀ p,(colS w p).Nodup
 ok:∀ p v,InC w p v->∃ (j:Nat) (q:GState),v=(j:Int)/\(statesS t)[j]? = some q/\Rch t s p q
 all:∀ p (j:Nat) q,(statesS t)[j]? = some q->Rch t s p q->InC w p (j:Int)
 sort:∀ p,p<=s.length->(colS w p).Pairwise (·<=·)
 last:LastP t s w.Last
structure R2 (t:GTable) (s:List UInt8) (place:Nat) (w:GWriter) (kn:List (List Bool)):Prop where
 kn:Kn t s place w kn
 sort:∀ p,p<place->(colS w p).Pairwise (·<=·)
 clo:∀ p,p<place->∀ v,InC w p v->∀ (j:Nat) q,v=(j:Int)->(statesS t)[j]? = some q->Clo t s w p q
 last:LastB t s place w.Last
 first:InC w 0 0
section
variable {t:GTable} (hT:Tab6 t) {s:List UInt8} (hs:s.length<=4000)
include hT hs
theorem reachJ_ev {place:Nat} (hpl:place<=s.length) {w:GWriter} {kn:List (List Bool)} (h:R2 t s place w kn) (x0:GWriter×List (List Bool)) :
  Tot (λ n=>FTr_writer_reach_J1 n x0 w kn (place:Int) (clsAt s place)) (Rd2 (λ y:GWriter×(List (List Bool))×Int=>y.2.2=((place+1:Nat):Int)/\R2 t s (place+1) y.1 y.2.1) (λ _=>False)):=by
 have hlen:=len6 hT;have e5:irem (place:Int) 5=((place % 5:Nat):Int):=by
  have:=(rem_range (a:=(place:Int)) (m:=5) (by omega) (by omega)).1;rw [this];omega
 have hc5:place % 5<5:=Nat.mod_lt _ (by omega);unfold FTr_writer_reach_J1;refine Tot.bind (reach3_ev hT hs hpl h.kn x0) ?_;rintro ⟨w1,kn1⟩ hR;simp only at hR;have hK:=hR.kn;have hcl:place<w1.Columns.length:=by rw [hK.clen];omega
 have hll:=hK.len hT place;refine Tot.bindC (idx_gd default hcl) ?_;have hsort:FSort 0 (w1.Columns.getD place default).States=some (isortI (colS w1 place)):=by
  unfold FSort sortI;rw [if_pos (show (w1.Columns.getD place default).States.length<4611686018427387904 from (show (colS w1 place).length<4611686018427387904 by omega))];rfl
 have hperm:=isortI_perm (colS w1 place);refine Tot.bindA (λ n=>hsort) (Tot.bindC (guardB_of (by rw [decide_eq_true_eq];exact hperm.length_eq.symm)) ?_);rw [e5];refine Tot.bindC (idx_gd [] (by rw [hK.klen];exact hc5)) (Tot.bindC (guardB_of (by simp;omega)) (Tot.pure ⟨inc64 (by omega),?_⟩));simp only [Int.toNat_natCast];generalize hw':(⟨w1.T,w1.S,w1.States,w1.Arcs,w1.Columns.set place ⟨isortI (colS w1 place),(w1.Columns.getD place default).Costs⟩,w1.Last⟩:GWriter)=w';have hcol:∀ p',w'.Columns.getD p' default=if place=p' then ⟨isortI (colS w1 place),(w1.Columns.getD place default).Costs⟩ else w1.Columns.getD p' default:=by
  intro p';subst hw';exact colS_set hcl _ p' 0 0 0 []
 have hcS:∀ p',colS w' p'=if place=p' then isortI (colS w1 place) else colS w1 p':=by
  intro p';show (w'.Columns.getD p' default).States=_;rw [hcol];split<;>rfl
 have hin:∀ p' v,InC w' p' v↔InC w1 p' v:=by
  intro p' v;unfold InC;rw [hcS];split
  ·rename_i e;subst e;exact hperm.mem_iff
  ·exact Iff.rfl
 have hkn:∀ c,(kn1.set (place % 5) (List.replicate (kn1.getD (place % 5) []).length false)).getD c []=if place % 5=c then List.replicate (kn1.getD (place % 5) []).length false else kn1.getD c []:=by
  intro c;split
  ·rename_i e;subst e;exact getD_set (by rw [hK.klen];exact hc5) _ _
  ·rename_i e;exact getD_set_ne e _ _
 have hclo:∀ {p q},Clo t s w1 p q->Clo t s w' p q:=λ {p q} hh k h1 h2=>by
  obtain ⟨j,g1,g2⟩:=hh k h1 h2;exact ⟨j,g1,(hin _ _).2 g2⟩
 refine ⟨⟨?_,?_,λ p'=>?_,by rw [List.length_set];exact hK.klen,λ c hc=>?_,λ p'=>?_,λ p' v hv=>hK.ok p' v ((hin _ _).1 hv),λ p' g1 g2 j'=>?_,λ p' g=>?_⟩,λ p' g=>?_,λ p' g v hv j q hj hq=>hclo ?_,?_,(hin _ _).2 ((hR.pre 0).subset h.first)⟩
 ·subst hw';exact ⟨hK.base.tt,hK.base.ss,hK.base.st,hK.base.al,hK.base.arc⟩
 ·subst hw';simp only [List.length_set];exact hK.clen
 ·rw [hcol];split
  ·exact hK.cost place
  ·exact hK.cost p'
 ·rw [hkn];split
  ·rename_i e;rw [List.length_replicate,e];exact hK.rows c hc
  ·exact hK.rows c hc
 ·rw [hcS];split
  ·exact hperm.nodup_iff.2 (hK.nod place)
  ·exact hK.nod p'
 ·rw [hkn,hin];by_cases e:place % 5=p' % 5
  ·rw [if_pos e];have hp5:p'=place+5:=by omega
   have hf:=hK.far p' (by omega);unfold InC;rw [hf,List.getElem?_replicate];constructor
   ·intro hh;split at hh<;>cases hh
   ·intro hh;cases hh
  ·rw [if_neg e,hK.row p' (by omega) (by omega) j']
 ·rw [hcS,if_neg (by omega)];exact hK.far p' (by omega)
 ·rw [hcS];split
  ·exact isortI_sorted _
  ·rename_i e;have:colS w1 p'=colS w p':=by
    have h1:=hR.pre p';obtain ⟨l,hl⟩:=h1;have hp':p'<place:=by omega
    cases l with
    | nil=>rw [← hl,List.append_nil]
    | cons a l=>
     exfalso;have ha:InC w1 p' a:=by unfold InC;rw [← hl];simp
     obtain ⟨j,q,e1,e2,e3⟩:=hK.ok p' a ha;have hin0:InC w p' a:=by
      have key:∀ {i' q},Rch t s i' q->i'<place->∃ j:Nat,(statesS t)[j]? = some q/\InC w i' (j:Int):=λ {i' q} hr=>Rch.ind (A:=λ i' q=>i'<place->∃ j:Nat,(statesS t)[j]? = some q/\InC w i' (j:Int)) (λ _=>⟨0,(states_ok hT.tab).1.first,h.first⟩) (λ i' q k hi' hA hst hpf hlt=>by
       obtain ⟨j,h1,h2⟩:=hA (by omega);exact h.clo i' (by omega) _ h2 j q rfl h1 k hst hpf) hr
      obtain ⟨j',g1,g2⟩:=key e3 hp';rw [e1,get_inj (nod6 hT) e2 g1];exact g2
     have hnd:=hK.nod p';rw [← hl,List.nodup_append] at hnd;exact hnd.2.2 a hin0 a (by simp) rfl
   rw [this];exact h.sort p' (by omega)
 ·by_cases e:p'=place
  ·subst e;obtain ⟨i',hi',e1⟩:=List.getElem_of_mem ((hin _ _).1 hv);exact hR.clo i' v hi' (by rw [← e1];exact List.getElem?_eq_getElem hi') j q hj hq
  ·have hp':p'<place:=by omega
   obtain ⟨j2,q2,e1,e2,e3⟩:=hK.ok p' v ((hin _ _).1 hv);have hin0:InC w p' v:=by
    have key:∀ {i' q},Rch t s i' q->i'<place->∃ j:Nat,(statesS t)[j]? = some q/\InC w i' (j:Int):=λ {i' q} hr=>Rch.ind (A:=λ i' q=>i'<place->∃ j:Nat,(statesS t)[j]? = some q/\InC w i' (j:Int)) (λ _=>⟨0,(states_ok hT.tab).1.first,h.first⟩) (λ i' q k hi' hA hst hpf hlt=>by
     obtain ⟨j,h1,h2⟩:=hA (by omega);exact h.clo i' (by omega) _ h2 j q rfl h1 k hst hpf) hr
    obtain ⟨j',g1,g2⟩:=key e3 hp';rw [e1,get_inj (nod6 hT) e2 g1];exact g2
   exact λ k h1 h2=>by
    obtain ⟨d,d1,d2⟩:=h.clo p' hp' v hin0 j q hj hq k h1 h2;exact ⟨d,d1,(hR.pre _).subset d2⟩
 ·have hl':w'.Last=w1.Last:=by subst hw';rfl
  rw [hl'];rcases hR.last with ⟨l1,l2⟩|⟨l1,l2⟩
  ·rw [l1];exact .stop l2
  ·rw [l1];refine h.last.skip ?_;rintro ⟨q,hr,hn⟩;have hA:∃ j:Nat,(statesS t)[j]? = some q/\InC w1 place (j:Int):=by
    have key:∀ {i' q},Rch t s i' q->i'<=place->∃ j:Nat,(statesS t)[j]? = some q/\InC w1 i' (j:Int):=λ {i' q} hr=>Rch.ind (A:=λ i' q=>i'<=place->∃ j:Nat,(statesS t)[j]? = some q/\InC w1 i' (j:Int)) (λ _=>⟨0,(states_ok hT.tab).1.first,(hR.pre 0).subset h.first⟩) (λ i' q k hi' hA hst hpf hle=>by
     obtain ⟨j,h1,h2⟩:=hA (by omega);by_cases e:i'=place
     ·subst e;obtain ⟨x,hx,e1⟩:=List.getElem_of_mem h2;exact hR.clo x _ hx (by rw [← e1];exact List.getElem?_eq_getElem hx) j q rfl h1 k hst hpf
     ·have hin0:InC w i' (j:Int):=by
       have key2:∀ {i' q},Rch t s i' q->i'<place->∃ j:Nat,(statesS t)[j]? = some q/\InC w i' (j:Int):=λ {i' q} hr=>Rch.ind (A:=λ i' q=>i'<place->∃ j:Nat,(statesS t)[j]? = some q/\InC w i' (j:Int)) (λ _=>⟨0,(states_ok hT.tab).1.first,h.first⟩) (λ i' q k hi' hA hst hpf hlt=>by
        obtain ⟨j,h1,h2⟩:=hA (by omega);exact h.clo i' (by omega) _ h2 j q rfl h1 k hst hpf) hr
       obtain ⟨j2,q2,e1,e2,e3⟩:=hK.ok i' _ h2;obtain ⟨j',g1,g2⟩:=key2 e3 (by omega);rw [e1,get_inj (nod6 hT) e2 g1];exact g2
      obtain ⟨d,d1,d2⟩:=h.clo i' (by omega) _ hin0 j q rfl h1 k hst hpf;exact ⟨d,d1,(hR.pre _).subset d2⟩) hr
    exact key hr (Nat.le_refl _)
   obtain ⟨j,h1,h2⟩:=hA;obtain ⟨x,hx,e1⟩:=List.getElem_of_mem h2;have:=l2 x _ hx (by rw [← e1];exact List.getElem?_eq_getElem hx) j q rfl h1;rw [hn] at this;cases this
theorem reach_ev {w:GWriter} (hw:WBase t s w) (hc:w.Columns=List.replicate (s.length+1) ⟨[],[]⟩) (hl:w.Last=0):Tot (λ n=>FTr_writer_reach n w) (WR t s):=by
 have hlen:=len6 hT;have hf:=(states_ok hT.tab).1.first;have hcg:∀ p,w.Columns.getD p default=⟨[],[]⟩:=by
  intro p;rw [hc,List.getD_eq_getElem?_getD,List.getElem?_replicate];split<;>rfl
 have hcS:∀ p,colS w p=[]:=λ p=>by show (w.Columns.getD p default).States=[];rw [hcg]
 unfold FTr_writer_reach;refine Tot.bind (R:=λ kn=>kn.length=5/\∀ c,c<5->kn.getD c []=List.replicate (statesS t).length false) ?_ ?_
 ·refine Tot.upto (body:=λ n x=>FTr_writer_reach_L1 n w x.1 x.2) 5 (λ k x=>x.2=(k:Int)/\x.1.length=5/\∀ c,c<k->x.1.getD c []=List.replicate (statesS t).length false) ?_ ?_ _ ⟨rfl,rfl,by omega⟩
  ·rintro k ⟨m,k'⟩ hk ⟨g1,g2,g3⟩;simp only at g1 g2 g3;subst g1;unfold FTr_writer_reach_L1;refine Tot.iteT (by simp;omega) (Tot.bindC (idx_gd [] (show k<m.length by omega)) (Tot.bindC (mkl_d (by omega) (by rw [hw.st];omega)) (Tot.bindC (guardB_of (by simp;omega)) ?_)));rw [hw.st,Int.toNat_natCast,Int.toNat_natCast];refine Tot.pure ⟨inc64 (by omega),by rw [List.length_set];exact g2,λ c hc=>?_⟩;by_cases e:k=c
   ·subst e;exact getD_set (show k<m.length by omega) _ _
   ·show (m.set k _).getD c []=_;rw [getD_set_ne e];exact g3 c (by omega)
  ·rintro ⟨m,k'⟩ ⟨g1,g2,g3⟩;simp only at g1 g2 g3;subst g1;unfold FTr_writer_reach_L1;exact Tot.iteF (by simp) (Tot.pure ⟨g2,g3⟩)
 ·rintro kn ⟨k1,k2⟩;have hK:Kn t s 0 w kn:=by
   refine ⟨hw,by rw [hc,List.length_replicate],λ p=>by rw [hcg],k1,λ c hc=>by rw [k2 c hc,List.length_replicate],λ p=>by rw [hcS];exact List.nodup_nil,λ p v hv=>?_,λ p _ h2 j=>?_,λ p _=>hcS p⟩
   ·unfold InC at hv;rw [hcS] at hv;cases hv
   ·unfold InC;rw [hcS,k2 _ (Nat.mod_lt _ (by omega)),List.getElem?_replicate];constructor
    ·intro hh;split at hh<;>cases hh
    ·intro hh;cases hh
  refine Tot.bind (add_ev hT hK (p:=0) (j:=0) (by omega) (by omega) (by omega) hf (.start t s)) ?_;rintro ⟨w1,kn1⟩ ⟨g1,g2,g3⟩;simp only at g1 g2 g3 ⊢;have hR:R2 t s 0 w1 kn1:=⟨g1,by omega,by omega,by rw [g2.last,hl];exact ⟨⟨0,rfl,.inl rfl⟩,by omega⟩,g3⟩;refine Tot.bind (R:=WR t s) ?_ (λ w h=>Tot.pure h);refine Tot.upto (body:=λ n x=>FTr_writer_reach_L2 n (w1,kn1) x.1 x.2.1 x.2.2) (s.length+1) (λ i x=>x.2.2=(i:Int)/\R2 t s i x.1 x.2.1) ?_ ?_ _ ⟨rfl,hR⟩
  ·rintro i ⟨w2,kn2,i'⟩ hi ⟨e1,h2⟩;simp only at e1 h2;subst e1;unfold FTr_writer_reach_L2;refine Tot.iteT (by simp only [decide_eq_true_eq];rw [g1.clen];omega) ?_;have hJ:=reachJ_ev hT hs (show i<=s.length by omega) h2 (w1,kn1);have hJ':∀ c,c=clsAt s i->Tot (λ n=>FTr_writer_reach_J1 n (w1,kn1) w2 kn2 (i:Int) c) (Rd2 (λ x:GWriter×(List (List Bool))×Int=>x.2.2=((i+1:Nat):Int)/\R2 t s (i+1) x.1 x.2.1) (WR t s)):=by
    rintro c rfl;exact hJ.mono λ z hz=>by
     cases z with
     | inl y=>exact hz
     | inr y=>exact hz.elim
   rw [h2.kn.base.ss];refine Tot.ite (λ h=>?_) λ h=>?_
   ·have hlt:i<s.length:=by simpa using h
    refine Tot.bindC (sidx_eq hlt) (Tot.bindA (λ n=>class_eq n _) (hJ' _ ?_));unfold clsAt;rw [if_pos hlt]
   ·have hlt:¬i<s.length:=by simpa using h
    refine hJ' 0 ?_;unfold clsAt;rw [if_neg hlt]
  ·rintro ⟨w2,kn2,i'⟩ ⟨e1,h2⟩;simp only at e1 h2;subst e1;unfold FTr_writer_reach_L2;refine Tot.iteF (by simp only [decide_eq_false_iff_not];rw [g1.clen];omega) (Tot.pure ⟨h2.kn.base,h2.kn.clen,h2.kn.cost,h2.kn.nod,h2.kn.ok,λ p j q hq hr=>?_,λ p hp=>h2.sort p (by omega),h2.last.all⟩);have key:∀ {i' q},Rch t s i' q->∃ j:Nat,(statesS t)[j]? = some q/\InC w2 i' (j:Int):=λ {i' q} hr=>Rch.ind (A:=λ i' q=>∃ j:Nat,(statesS t)[j]? = some q/\InC w2 i' (j:Int)) ⟨0,hf,h2.first⟩ (λ i' q k hi' hA hst hpf=>by
    obtain ⟨j,h1,h3⟩:=hA;exact h2.clo i' (by omega) _ h3 j q rfl h1 k hst hpf) hr
   obtain ⟨j',g4,g5⟩:=key hr;rw [get_inj (nod6 hT) hq g4];exact g5
end
end Go.AI
end
section
namespace Go.AI
theorem nodup_at {α:Type} {l:List α} (h:l.Nodup) {a b:Nat} {x:α} (ha:l[a]? = some x) (hb:l[b]? = some x):a=b:=by
 have ha':=getElem?_lt' ha;have hb':=getElem?_lt' hb;rw [List.getElem?_eq_getElem ha'] at ha;rw [List.getElem?_eq_getElem hb'] at hb;have e:l[a]=l[b]:=by injection ha with ha;injection hb with hb;rw [ha,hb]
 rw [List.Nodup,List.pairwise_iff_getElem] at h;rcases Nat.lt_trichotomy a b with hlt|he|hgt
 ·exact absurd e (h a b ha' hb' hlt)
 ·exact he
 ·exact absurd e.symm (h b a hb' ha' hgt)
theorem mid_eq {i j:Nat} (h:i+j<1000000):IntKind.i64.wrap (ishr .u64 (IntKind.u64.wrap (iadd .i64 (i:Int) (j:Int))) 1)=(((i+j) / 2:Nat):Int):=by
 rw [add64 (by omega) (by omega)];have h1:IntKind.u64.wrap ((i:Int)+(j:Int))=(i:Int)+(j:Int):=by
  have:IntKind.u64.wrap ((i:Int)+(j:Int))=((i:Int)+(j:Int)) % 18446744073709551616:=rfl;rw [this];omega
 have h2:∀ a:Int,ishr .u64 a 1=a.fdiv 2:=λ a=>rfl;rw [h1,h2,Int.fdiv_eq_ediv_of_nonneg _ (by omega),w64 (by omega) (by omega)];omega
theorem less_eq (n:Nat) (a b:Int):FCmp_Less_int n a b=some (decide (a<b)):=by
 unfold FCmp_Less_int FCmp_isNaN_int;simp
theorem bin_ev {l:List Int} (hl:l.length<=1000) (hs:l.Pairwise (·<=·)) (hn:l.Nodup) {d:Nat} {v:Int} (hd:l[d]? = some v):Ev (λ n=>FSl_BinarySearch_int_int n l v) ((d:Int),true):=by
 have hdl:=getElem?_lt' hd;have hmono:∀ a b:Nat,a<=b->∀ x y,l[a]? = some x->l[b]? = some y->x<=y:=by
  intro a b hab x y hx hy;rcases Nat.eq_or_lt_of_le hab with rfl|hlt
  ·rw [hx] at hy;cases hy;omega
  ·have ha:=getElem?_lt' hx;have hb:=getElem?_lt' hy;have:=(List.pairwise_iff_getElem.1 hs) a b ha hb hlt;rw [List.getElem?_eq_getElem ha] at hx;rw [List.getElem?_eq_getElem hb] at hy;cases hx;cases hy;exact this
 refine Tot.ev ?_;unfold FSl_BinarySearch_int_int;refine Tot.bind (R:=λ i=>i=(d:Int)) ?_ ?_
 ·refine Tot.whl (body:=λ n x=>FSl_BinarySearch_int_int_L1 n l v x.1 x.2) (λ m x=>∃ i j:Nat,x=((i:Int),(j:Int))/\m=j-i/\i<=d/\d<=j/\j<=l.length/\(∀ k x,k<i->l[k]? = some x->x<v)/\∀ k x,j<=k->l[k]? = some x->v<=x) ?_ l.length _ ⟨0,l.length,rfl,by omega,by omega,by omega,by omega,by omega,λ k x h1 h2=>by have:=getElem?_lt' h2;omega⟩;rintro m x ⟨i,j,rfl,rfl,h1,h2,h3,h4,h5⟩;unfold FSl_BinarySearch_int_int_L1;simp only;rw [mid_eq (by omega)];rcases Nat.lt_or_ge i j with hij|hij
  ·have hm:(i+j) / 2<l.length:=by omega
   refine Tot.iteT (by simpa using hij) (Tot.bindC (idx_lt hm) (Tot.bindA (λ n=>less_eq n _ _) (Tot.ite (λ hc=>?_) λ hc=>?_)))
   ·have hlt:l[(i+j) / 2]<v:=by simpa using hc
    refine Tot.pure ⟨j-((i+j) / 2+1),by omega,(i+j) / 2+1,j,by rw [inc64 (by omega)],rfl,?_,h2,h3,λ k x hk hx=>?_,h5⟩
    ·apply Classical.byContradiction;intro hh;have:=hmono d ((i+j) / 2) (by omega) _ _ hd (List.getElem?_eq_getElem hm);omega
    ·have:=hmono k ((i+j) / 2) (by omega) _ _ hx (List.getElem?_eq_getElem hm);omega
   ·have hge:v<=l[(i+j) / 2]:=by simpa using hc
    refine Tot.pure ⟨(i+j) / 2-i,by omega,i,(i+j) / 2,rfl,rfl,h1,?_,by omega,h4,λ k x hk hx=>?_⟩
    ·apply Classical.byContradiction;intro hh;have h6:=hmono ((i+j) / 2) d (by omega) _ _ (List.getElem?_eq_getElem hm) hd;have:=nodup_at hn (show l[(i+j) / 2]? = some v by rw [List.getElem?_eq_getElem hm];congr 1;omega) hd;omega
    ·have:=hmono ((i+j) / 2) k hk _ _ (List.getElem?_eq_getElem hm) hx;omega
  ·refine Tot.iteF (by simp;omega) (Tot.pure ?_);show (i:Int)=(d:Int);omega
 ·rintro i rfl;have hg:decide ((d:Int)<((l.length:Nat):Int))=true:=lt_d hdl;refine Tot.gE hg (Ev.all λ n=>idx_at hd) ?_;have hf:((decide ((d:Int)<((l.length:Nat):Int)))&&!(v==v))=false:=by simp
  refine Tot.gF hf (Tot.gF hf (Tot.gF (by rw [hf];rfl) (Tot.pure ?_)));rw [hg];simp
theorem find_ev {c:GColumn} (hl:c.States.length<=1000) (hs:c.States.Pairwise (·<=·)) (hn:c.States.Nodup) {d:Nat} {v x:Int} (hd:c.States[d]? = some v) (hx:c.Costs[d]? = some x):Ev (λ n=>FTr_column_find n c v) x:=by
 unfold FTr_column_find;refine Ev.bind (bin_ev hl hs hn hd) (Ev.iteF rfl (Ev.bindC (idx_at hx) Ev.const))
def qsAt (t:GTable) (w:GWriter) (p:Nat):List GState:=(colS w p).map λ v=>(statesS t).getD v.toNat default
abbrev costL (w:GWriter) (p:Nat):List Int:=(w.Columns.getD p default).Costs
structure PI (t:GTable) (s:List UInt8) (place:Nat) (w:GWriter):Prop where
 base:WBase t s w
 clen:w.Columns.length=s.length+1
 nod:∀ p,(colS w p).Nodup
 ok:∀ p v,InC w p v->∃ (j:Nat) (q:GState),v=(j:Int)/\(statesS t)[j]? = some q/\Rch t s p q
 all:∀ p (j:Nat) q,(statesS t)[j]? = some q->Rch t s p q->InC w p (j:Int)
 sort:∀ p,p<=s.length->(colS w p).Pairwise (·<=·)
 later:∀ p,place<p->p<=s.length->(∀ (i:Nat) q,(qsAt t w p)[i]? = some q->(costL w p)[i]? = some (costS t q (s.drop p)))/\∀ (i:Nat) v,(costL w p)[i]? = some v->v<=((3072*(s.length-p+1):Nat):Int)
 col:Col t (s.drop place) (3072*(s.length-place)) (qsAt t w place) (costL w place)
section
variable {t:GTable} (hT:Tab6 t) {s:List UInt8} (hs:s.length<=4000)
include hT
omit hT in
theorem qs_get {w:GWriter} {p:Nat} (hok:∀ v,InC w p v->∃ (j:Nat) (q:GState),v=(j:Int)/\(statesS t)[j]? = some q/\Rch t s p q) {i:Nat} {q:GState}:(qsAt t w p)[i]? = some q↔∃ j:Nat,(colS w p)[i]? = some (j:Int)/\(statesS t)[j]? = some q:=by
 unfold qsAt;rw [List.getElem?_map,Option.map_eq_some_iff];constructor
 ·rintro ⟨v,hv,rfl⟩;obtain ⟨j,q,rfl,hq,_⟩:=hok v (List.mem_of_getElem? hv);refine ⟨j,hv,?_⟩;rw [Int.toNat_natCast,List.getD_eq_getElem?_getD,hq];rfl
 ·rintro ⟨j,hv,hq⟩;refine ⟨_,hv,?_⟩;rw [Int.toNat_natCast,List.getD_eq_getElem?_getD,hq];rfl
theorem PI.qn {place:Nat} {w:GWriter} (h:PI t s place w) (p:Nat):(qsAt t w p).Nodup:=by
 rw [List.nodup_iff_pairwise_ne,List.pairwise_iff_getElem];intro a b ha hb hlt he;have h1:=List.getElem?_eq_getElem ha;have h2:=List.getElem?_eq_getElem hb;rw [he] at h1;obtain ⟨j,e1,g1⟩:=(qs_get (h.ok p)).1 h1;obtain ⟨j',e2,g2⟩:=(qs_get (h.ok p)).1 h2;have:=get_inj (nod6 hT) g1 g2;subst this;have:=nodup_at (h.nod p) e1 e2;omega
theorem PI.qlen {place:Nat} {w:GWriter} (h:PI t s place w) (p:Nat):(qsAt t w p).length=(colS w p).length/\(colS w p).length<=768:=by
 refine ⟨by simp [qsAt],?_⟩;have hsub:∀ v∈colS w p,v∈(List.range (statesS t).length).map (λ j:Nat=>(j:Int)):=by
  intro v hv;obtain ⟨j,q,rfl,hq,_⟩:=h.ok p v hv;exact List.mem_map.2 ⟨j,List.mem_range.2 (getElem?_lt' hq),rfl⟩
 have:=(h.nod p).length_le_of_subset hsub;have:=len6 hT;simp at *;omega
theorem PI.pos {place:Nat} {w:GWriter} (h:PI t s place w) {p:Nat} {q:GState} (hr:Rch t s p q) (hq:q∈statesS t):∃ d:Nat,(colS w p)[d]? = some (indexS (statesS t) q)/\(qsAt t w p)[d]? = some q:=by
 have _:=hT;obtain ⟨j,hj,hg⟩:=indexS_in hq;obtain ⟨d,hd,e⟩:=List.getElem_of_mem (h.all p j q hg hr);have:(colS w p)[d]? = some (j:Int):=by rw [← e];exact List.getElem?_eq_getElem hd
 exact ⟨d,by rw [hj];exact this,(qs_get (h.ok p)).2 ⟨j,this,hg⟩⟩
include hs in
theorem PI.find {place:Nat} (hpl:place<=s.length) {w:GWriter} (h:PI t s place w) {p:Nat} (h1:place<=p) (h2:p<=s.length) {q:GState} (hr:Rch t s p q) (hq:q∈statesS t):∃ (d:Nat) (x:Int),(qsAt t w p)[d]? = some q/\(costL w p)[d]? = some x/\Ev (λ n=>FTr_column_find n (w.Columns.getD p default) (indexS (statesS t) q)) x/\(-1<=x/\x<=13000000)/\(place<p->x=costS t q (s.drop p)/\x<=((3072*(s.length-p+1):Nat):Int)):=by
 obtain ⟨d,g1,g2⟩:=h.pos hT hr hq;have hql:=h.qlen hT p;rcases Nat.eq_or_lt_of_le h1 with rfl|hlt
 ·obtain ⟨x,hx⟩:=h.col.get (getElem?_lt' g2);have hb:=h.col.top hx;exact ⟨d,x,g2,hx,find_ev (by show (colS w place).length<=1000;omega) (h.sort place hpl) (h.nod place) g1 hx,⟨hb.1,by omega⟩,by omega⟩
 ·obtain ⟨k1,k2⟩:=h.later p hlt h2;have hx:=k1 d q g2;have hb:=k2 d _ hx;exact ⟨d,_,g2,hx,find_ev (by show (colS w p).length<=1000;omega) (h.sort p h2) (h.nod p) g1 hx,⟨costS_ge _ _ _,by omega⟩,λ _=>⟨rfl,hb⟩⟩
end
end Go.AI
end
section
namespace Go.AI
def setC (w:GWriter) (p:Nat) (cs:List Int):GWriter:={ w with Columns:=w.Columns.set p ⟨(w.Columns.getD p default).States,cs⟩ }
theorem setC_col {w:GWriter} {p:Nat} (hp:p<w.Columns.length) (cs:List Int) (p':Nat):colS (setC w p cs) p'=colS w p'/\costL (setC w p cs) p'=if p=p' then cs else costL w p':=by
 have h:=colS_set hp ⟨(w.Columns.getD p default).States,cs⟩ p' 0 0 0 [];unfold colS costL setC;simp only;rw [h];split
 ·rename_i e;subst e;exact ⟨rfl,rfl⟩
 ·exact ⟨rfl,rfl⟩
theorem setC_qs {t:GTable} {w:GWriter} {p:Nat} (hp:p<w.Columns.length) (cs:List Int) (p':Nat):qsAt t (setC w p cs) p'=qsAt t w p':=by
 unfold qsAt;rw [(setC_col hp cs p').1]
theorem PI.set {t:GTable} {s:List UInt8} {place:Nat} {w:GWriter} (h:PI t s place w) (hpl:place<=s.length) {cs:List Int} (hc:Col t (s.drop place) (3072*(s.length-place)) (qsAt t w place) cs):PI t s place (setC w place cs):=by
 have hp:place<w.Columns.length:=by rw [h.clen];omega
 refine ⟨⟨h.base.tt,h.base.ss,h.base.st,h.base.al,h.base.arc⟩,?_,λ p=>?_,λ p v hv=>?_,λ p j q h1 h2=>?_,λ p hp'=>?_,λ p h1 h2=>?_,?_⟩
 ·show (w.Columns.set _ _).length=_;rw [List.length_set];exact h.clen
 ·rw [(setC_col hp cs p).1];exact h.nod p
 ·unfold InC at hv;rw [(setC_col hp cs p).1] at hv;exact h.ok p v hv
 ·unfold InC;rw [(setC_col hp cs p).1];exact h.all p j q h1 h2
 ·rw [(setC_col hp cs p).1];exact h.sort p hp'
 ·rw [setC_qs hp,(setC_col hp cs p).2,if_neg (by omega)];exact h.later p h1 h2
 ·rw [setC_qs hp,(setC_col hp cs place).2,if_pos rfl];exact hc
structure Imp (t:GTable) (s:List UInt8) (place:Nat) (sl:Bool) (B:Nat) (i:Nat) (q:GState) (P:Nat->Prop) (w1 w2:GWriter) (b:Bool):Prop where
 pi:PI t s place w2
 cols:∀ p,colS w2 p=colS w1 p
 last:w2.Last=w1.Last
 low:∀ (j:Nat) v,(costL w1 place)[j]? = some v->0<=v->∃ v',(costL w2 place)[j]? = some v'/\0<=v'/\v'<=v
 fls:b=false->w2=w1
 less:b=true->phi B (costL w2 place)<phi B (costL w1 place)
 rel:sl=false->∀ k:Nat,P k->(stepS t q k).2=true->prt t k≠[]->∀ y,s.drop place=prt t k++y->0<=costS t (stepS t q k).1 y->∃ v,(costL w2 place)[i]? = some v/\0<=v/\v<=costS t (stepS t q k).1 y+(cls t k).length
 sil:sl=true->b=false->∀ k:Nat,P k->(stepS t q k).2=true->prt t k=[]->∃ (i':Nat) (w':Int),(qsAt t w1 place)[i']? = some (stepS t q k).1/\(costL w1 place)[i']? = some w'/\(0<=w'->∃ v,(costL w1 place)[i]? = some v/\0<=v/\v<=w'+(cls t k).length)
section
variable {t:GTable} (hT:Tab6 t) {s:List UInt8} (hs:s.length<=4000)
include hT hs
theorem price1L_ev (sl:Bool) {place:Nat} (hpl:place<=s.length) {B:Nat} (hB:13000000<=B) {w1:GWriter} (h:PI t s place w1) {i:Nat} {q:GState} (hq:(qsAt t w1 place)[i]? = some q) :
  Tot (λ n=>whl (λ (x:(GWriter×Bool×Int))=>FTr_writer_price_1_L1 n (i:Int) sl (place:Int) (place:Int) (arcsOf t q) x.1 x.2.1 x.2.2) n (w1,false,0)) (λ y=>Imp t s place sl B i q (λ _=>True) w1 y.1 y.2):=by
 have hrl:=hT.tab.1;have hal:(arcsOf t q).length<=t.Rules.length:=by unfold arcsOf;exact Nat.le_trans (List.length_filterMap_le _ _) (by simp)
 obtain ⟨jq,hjq1,hjq2⟩:=(qs_get (h.ok place)).1 hq;obtain ⟨j2,qq,e1,e2,hr⟩:=h.ok place _ (List.mem_of_getElem? hjq1);have e3:j2=jq:=by omega
 subst e3;rw [hjq2] at e2;cases e2;have hqm:q∈statesS t:=List.mem_of_getElem? hjq2;refine Tot.upto (body:=λ n x=>FTr_writer_price_1_L1 n (i:Int) sl (place:Int) (place:Int) (arcsOf t q) x.1 x.2.1 x.2.2) (arcsOf t q).length (λ m x=>x.2.2=(m:Int)/\Imp t s place sl B i q (λ k=>∃ (m':Nat) (a:GTranslateArc),m'<m/\(arcsOf t q)[m']? = some a/\a.Rule=(k:Int)) w1 x.1 x.2.1) ?_ ?_ _ ⟨rfl,h,λ _=>rfl,rfl,λ j v hv h0=>⟨v,hv,h0,Int.le_refl v⟩,λ _=>rfl,(λ h=>by cases h),λ _ k ⟨m',_,hm,_⟩=>by omega,λ _ _ k ⟨m',_,hm,_⟩=>by omega⟩
 ·rintro m ⟨w,b,m'⟩ hm ⟨e1,hI⟩;simp only at e1 hI;subst e1;have ha:(arcsOf t q)[m]? = some (arcsOf t q)[m]:=List.getElem?_eq_getElem hm;obtain ⟨k,hk,hst,hae⟩:=mem_arcs.1 (List.getElem_mem hm);have hW:=hI.pi;have hqs:qsAt t w place=qsAt t w1 place:=by unfold qsAt;rw [hI.cols]
  have hq':(qsAt t w place)[i]? = some q:=by rw [hqs];exact hq
  obtain ⟨p1,p2,p3⟩:=hT.pr hst;have hcl:place<w.Columns.length:=by rw [hW.clen];omega
  obtain ⟨v,hv⟩:=hW.col.get (getElem?_lt' hq');have hvd:(w.Columns.getD place default).Costs.getD i 0=v:=by rw [List.getD_eq_getElem?_getD (l:=(w.Columns.getD place default).Costs),show (w.Columns.getD place default).Costs[i]? = some v from hv];rfl
  have hil:i<(w.Columns.getD place default).Costs.length:=getElem?_lt' (show (w.Columns.getD place default).Costs[i]? = some v from hv);have hP:∀ k':Nat,(∃ (m':Nat) (a:GTranslateArc),m'<m+1/\(arcsOf t q)[m']? = some a/\a.Rule=(k':Int))->k'=k\/∃ (m':Nat) (a:GTranslateArc),m'<m/\(arcsOf t q)[m']? = some a/\a.Rule=(k':Int):=by
   rintro k' ⟨m',a,h1,h2,h3⟩;by_cases e:m'=m
   ·subst e;rw [ha,hae] at h2;cases h2;simp only at h3;left;omega
   ·exact .inr ⟨m',a,by omega,h2,h3⟩
  have hJ:∀ w2 b2,Imp t s place sl B i q (λ k=>∃ (m':Nat) (a:GTranslateArc),m'<m+1/\(arcsOf t q)[m']? = some a/\a.Rule=(k:Int)) w1 w2 b2->Tot (λ n=>FTr_writer_price_1_J1 n (m:Int) w2 b2) (Rd2 (λ x:GWriter×Bool×Int=>x.2.2=((m+1:Nat):Int)/\Imp t s place sl B i q (λ k=>∃ (m':Nat) (a:GTranslateArc),m'<m+1/\(arcsOf t q)[m']? = some a/\a.Rule=(k:Int)) w1 x.1 x.2.1) (λ y=>Imp t s place sl B i q (λ _=>True) w1 y.1 y.2)):=by
   intro w2 b2 h2;unfold FTr_writer_price_1_J1;exact Tot.pure ⟨inc64 (by omega),h2⟩
  have hskip:(sl=false->prt t k≠[]->∀ y,s.drop place=prt t k++y->0<=costS t (stepS t q k).1 y->∃ v,(costL w place)[i]? = some v/\0<=v/\v<=costS t (stepS t q k).1 y+(cls t k).length) ->
    (sl=true->prt t k=[]->∃ (i':Nat) (w':Int),(qsAt t w place)[i']? = some (stepS t q k).1/\(costL w place)[i']? = some w'/\(0<=w'->∃ v,(costL w place)[i]? = some v/\0<=v/\v<=w'+(cls t k).length)) ->
    Imp t s place sl B i q (λ k=>∃ (m':Nat) (a:GTranslateArc),m'<m+1/\(arcsOf t q)[m']? = some a/\a.Rule=(k:Int)) w1 w b:=by
   intro g1 g2;refine ⟨hI.pi,hI.cols,hI.last,hI.low,hI.fls,hI.less,λ hsl k' hk' hst' hp' y hy hc=>?_,λ hsl hb k' hk' hst' hp'=>?_⟩
   ·rcases hP k' hk' with rfl|hk'
    ·exact g1 hsl hp' y hy hc
    ·exact hI.rel hsl k' hk' hst' hp' y hy hc
   ·rcases hP k' hk' with rfl|hk'
    ·have:=g2 hsl hp';rw [hI.fls hb] at this;exact this
    ·exact hI.sil hsl hb k' hk' hst' hp'
  unfold FTr_writer_price_1_L1;refine Tot.iteT (lt_d hm) (Tot.bindC (idx_at ha) ?_);rw [hae];refine Tot.bindA (λ n=>prints_eq hT hs hW.base hpl hst n) (Tot.ite (λ hc=>?_) λ hc=>?_)
  ·
   have hcc:(prt t k).isPrefixOf (s.drop place)=false\/(((((place+(prt t k).length:Nat):Int))==(place:Int))==sl)=false:=by
    simp only [Bool.or_eq_true,Bool.not_eq_true'] at hc;exact hc
   have hz:((((place+(prt t k).length:Nat):Int))==(place:Int))=decide (prt t k=[]):=by
    rw [Bool.eq_iff_iff,beq_iff_eq,decide_eq_true_eq,← List.length_eq_zero_iff];omega
   rw [hz] at hcc;refine hJ w b (hskip (λ hsl hp y hy _=>?_) (λ hsl hp=>?_))
   ·exfalso;rcases hcc with h1|h1
    ·rw [← Bool.not_eq_true,List.isPrefixOf_iff_prefix,hy] at h1;exact h1 (List.prefix_append _ _)
    ·rw [hsl,decide_eq_false hp] at h1;cases h1
   ·exfalso;rcases hcc with h1|h1
    ·rw [hp] at h1;cases h1
    ·rw [hsl,decide_eq_true hp] at h1;cases h1
  ·have hcc:(prt t k).isPrefixOf (s.drop place)=true/\(((((place+(prt t k).length:Nat):Int))==(place:Int))==sl)=true:=by
    simp only [Bool.or_eq_false_iff,Bool.not_eq_false'] at hc;exact hc
   obtain ⟨hpf,hsl⟩:=hcc;have hz:((((place+(prt t k).length:Nat):Int))==(place:Int))=decide (prt t k=[]):=by
    rw [Bool.eq_iff_iff,beq_iff_eq,decide_eq_true_eq,← List.length_eq_zero_iff];omega
   rw [hz,beq_iff_eq] at hsl;obtain ⟨q1,q2⟩:=prefix_drop hpf;have q2:=q2 hpl;have hnm:=closed6 hT hqm hst;obtain ⟨d,x,f1,f2,f3,f4,f5⟩:=hW.find hT hs hpl (p:=place+(prt t k).length) (by omega) q2 (hr.next hst hpf) hnm;have hrule:=idx_rule (t:=t) (k:=(k:Int)) (by omega) (by omega);refine Tot.bindC (idx_gd default (by rw [hW.clen];omega)) (Tot.bindE f3 ?_);rw [hW.base.tt];refine Tot.bindC hrule (Tot.bindC (idx_gd default hcl) ?_);simp only [Int.toNat_natCast,set_getD];have hclen:(cls t k).length=(ruleAt t k).Cells.length:=rfl;have hsum:iadd .i64 x ((List.length (ruleAt t k).Cells:Nat):Int)=x+((cls t k).length:Nat):=by rw [add64 (by omega) (by omega)]
   rw [hsum];have hway:0<=x->(∃ p,Way t q (s.drop place) p/\x+((cls t k).length:Nat)=(lenK t p:Nat))/\x+((cls t k).length:Nat)<=((3072*(s.length-place)+4*finC (costL w place)+4:Nat):Int):=by
    intro h0;rcases Nat.eq_zero_or_pos (prt t k).length with hz|hz
    ·have hp0:prt t k=[]:=List.length_eq_zero_iff.1 hz;rw [hz,Nat.add_zero] at f1 f2;obtain ⟨v',hv',hd⟩:=hW.col.ach d _ f1;rw [f2] at hv';cases hv';have hb:=hW.col.bnd d x f2;refine ⟨?_,by omega⟩;have:=way_next hst (hd.resolve_left (by omega));rwa [hp0,List.nil_append] at this
    ·obtain ⟨g1,g2⟩:=f5 (by omega);refine ⟨?_,?_⟩
     ·have:=way_next hst (costS_way (t:=t) (q:=(stepS t q k).1) (x:=s.drop (place+(prt t k).length)) (by omega));rw [g1];rwa [← q1] at this
     ·have:3072*(s.length-(place+(prt t k).length)+1)<=3072*(s.length-place):=by omega
      omega
   by_cases h0:0<=x
   ·have hg:decide (x>=0)=true:=by simpa using h0
    obtain ⟨u1,u2⟩:=hway h0;refine Tot.gE hg (Ev.all λ n=>idx_gd 0 hil) ?_;rw [hvd];have hv2:∀ (c:Bool),(if ((decide (x>=0))&&c)=true then idx (w.Columns.getD place default).Costs (i:Int) else some default)=some (if c=true then v else default):=by
     intro c;rw [hg,Bool.true_and,idx_gd 0 hil,hvd];cases c<;>rfl
    refine Tot.bindC (hv2 _) ?_;by_cases hlt:v<0\/x+((cls t k).length:Nat)<v
    ·refine Tot.iteT ?_ ?_
     ·rw [hg,Bool.true_and,Bool.or_eq_true,decide_eq_true_eq,decide_eq_true_eq];by_cases hv0:v<0
      ·exact .inl hv0
      ·right;rw [if_pos (by simpa using hv0)];exact hlt.resolve_left hv0
     ·have hfin:=finC_le (costL w place);rw [hW.col.len] at hfin
      have hql:=hW.qlen hT place;obtain ⟨g1,g2⟩:=hW.col.lower hq' hv u1 hlt u2 (B:=B) (by omega);refine Tot.bindC (idx_gd default hcl) (Tot.bindC (idx_gd 0 hil) (Tot.bindC (put_at hil) (hJ _ _ ?_)));have hw2:(⟨t,w.S,w.States,w.Arcs,w.Columns.set place ⟨(w.Columns.getD place default).States,(w.Columns.getD place default).Costs.set i (x+((cls t k).length:Nat))⟩,w.Last⟩:GWriter)=setC w place ((costL w place).set i (x+((cls t k).length:Nat))):=by
       unfold setC costL;rw [← hW.base.tt]
      rw [hw2];have hc0:=λ p=>setC_col hcl ((costL w place).set i (x+((cls t k).length:Nat))) p;have hcp:costL (setC w place ((costL w place).set i (x+((cls t k).length:Nat)))) place=(costL w place).set i (x+((cls t k).length:Nat)):=by rw [(hc0 place).2,if_pos rfl]
      have hlow:∀ (j:Nat) v0,(costL w place)[j]? = some v0->0<=v0->∃ v',((costL w place).set i (x+((cls t k).length:Nat)))[j]? = some v'/\0<=v'/\v'<=v0:=by
       intro j v0 hv0 h00;by_cases e:i=j
       ·subst e;rw [hv] at hv0;cases hv0;exact ⟨_,List.getElem?_set_self hil,by omega,by omega⟩
       ·exact ⟨v0,by rw [List.getElem?_set_ne e];exact hv0,h00,Int.le_refl _⟩
      refine ⟨hW.set hpl g1,λ p=>(hc0 p).1.trans (hI.cols p),hI.last,λ j v0 hv0 h00=>?_,(λ hb=>by cases hb),λ _=>?_,λ hsl' k' hk' hst' hp' y hy hc=>?_,(λ _ hb=>by cases hb)⟩
      ·obtain ⟨v1,a1,a2,a3⟩:=hI.low j v0 hv0 h00;obtain ⟨v2,b1,b2,b3⟩:=hlow j v1 a1 a2;rw [hcp];exact ⟨v2,b1,b2,by omega⟩
      ·rw [hcp];cases hb:b with
       | false=>rw [hI.fls hb] at g2 ⊢;exact g2
       | true=>have:=hI.less hb;omega
      ·rw [hcp];rcases hP k' hk' with rfl|hk'
       ·have hyy:s.drop (place+(prt t k').length)=y:=by rw [q1] at hy;exact List.append_cancel_left hy
        have hlp:0<(prt t k').length:=List.length_pos_iff.2 hp';obtain ⟨g3,_⟩:=f5 (by omega);rw [hyy] at g3;exact ⟨_,List.getElem?_set_self hil,by omega,by omega⟩
       ·obtain ⟨v1,a1,a2,a3⟩:=hI.rel hsl' k' hk' hst' hp' y hy hc;obtain ⟨v2,b1,b2,b3⟩:=hlow i v1 a1 a2;exact ⟨v2,b1,b2,by omega⟩
    ·refine Tot.iteF ?_ ?_
     ·rw [hg,Bool.true_and,← Bool.not_eq_true,Bool.or_eq_true,decide_eq_true_eq,decide_eq_true_eq];have hv0:¬v<0:=λ hh=>hlt (.inl hh);rw [if_pos (by simpa using hv0)];exact hlt
     ·have hws:(⟨t,w.S,w.States,w.Arcs,w.Columns,w.Last⟩:GWriter)=w:=by rw [← hW.base.tt]
      rw [hws];refine hJ w b (hskip (λ _ hp' y hy hc=>?_) λ _ hp'=>?_)
      ·have hyy:s.drop (place+(prt t k).length)=y:=by rw [q1] at hy;exact List.append_cancel_left hy
       have hlp:0<(prt t k).length:=List.length_pos_iff.2 hp';obtain ⟨g3,_⟩:=f5 (by omega);rw [hyy] at g3;exact ⟨v,hv,by omega,by omega⟩
      ·rw [hp',List.length_nil,Nat.add_zero] at f1 f2;exact ⟨d,x,f1,f2,λ _=>⟨v,hv,by omega,by omega⟩⟩
   ·have hg:decide (x>=0)=false:=by simpa using h0
    refine Tot.gF hg (Tot.gF (by rw [hg];rfl) (Tot.iteF (by rw [hg];rfl) ?_));have hws:(⟨t,w.S,w.States,w.Arcs,w.Columns,w.Last⟩:GWriter)=w:=by rw [← hW.base.tt]
    rw [hws];refine hJ w b (hskip (λ _ hp' y hy hc=>?_) λ _ hp'=>?_)
    ·have hyy:s.drop (place+(prt t k).length)=y:=by rw [q1] at hy;exact List.append_cancel_left hy
     have hlp:0<(prt t k).length:=List.length_pos_iff.2 hp';obtain ⟨g3,_⟩:=f5 (by omega);rw [hyy] at g3;omega
    ·rw [hp',List.length_nil,Nat.add_zero] at f1 f2;exact ⟨d,x,f1,f2,λ h1=>absurd h1 h0⟩
 ·rintro ⟨w,b,m'⟩ ⟨e1,hI⟩;simp only at e1 hI;subst e1;have hall:∀ k:Nat,(stepS t q k).2=true->∃ (m':Nat) (a:GTranslateArc),m'<(arcsOf t q).length/\(arcsOf t q)[m']? = some a/\a.Rule=(k:Int):=by
   intro k hst;obtain ⟨m',hm',e⟩:=List.getElem_of_mem (mem_arcs.2 ⟨k,by have:=stepS_in hst;omega,hst,rfl⟩:(⟨k,indexS (statesS t) (stepS t q k).1⟩:GTranslateArc)∈arcsOf t q);exact ⟨m',_,hm',by rw [List.getElem?_eq_getElem hm',e],rfl⟩
  unfold FTr_writer_price_1_L1;exact Tot.iteF (by simp) (Tot.pure ⟨hI.pi,hI.cols,hI.last,hI.low,hI.fls,hI.less,λ hsl k _ hst=>hI.rel hsl k (hall k hst) hst,λ hsl hb k _ hst=>hI.sil hsl hb k (hall k hst) hst⟩)
theorem price1_ev (sl:Bool) {place:Nat} (hpl:place<=s.length) {B:Nat} (hB:13000000<=B) {w1:GWriter} (h:PI t s place w1) {i:Nat} {q:GState} (hq:(qsAt t w1 place)[i]? = some q) :
  Tot (λ n=>FTr_writer_price_1 n (i:Int) sl (place:Int) (place:Int) w1) (λ y=>Imp t s place sl B i q (λ _=>True) w1 y.1 y.2):=by
 have hcl:place<w1.Columns.length:=by rw [h.clen];omega
 obtain ⟨j,g1,g2⟩:=(qs_get (h.ok place)).1 hq;unfold FTr_writer_price_1;refine Tot.bindC (idx_gd default hcl) (Tot.bindC (idx_at g1) (Tot.bindC (idx_at (h.base.arc j q g2)) ?_));simp only [Int.toNat_natCast,writer_same];exact Tot.bind (price1L_ev hT hs sl hpl hB h hq) (λ y hy=>Tot.pure hy)
end
end Go.AI
end
section
namespace Go.AI
structure PB (t:GTable) (s:List UInt8) (m:Nat) (w:GWriter):Prop where
 base:WBase t s w
 clen:w.Columns.length=s.length+1
 nod:∀ p,(colS w p).Nodup
 ok:∀ p v,InC w p v->∃ (j:Nat) (q:GState),v=(j:Int)/\(statesS t)[j]? = some q/\Rch t s p q
 all:∀ p (j:Nat) q,(statesS t)[j]? = some q->Rch t s p q->InC w p (j:Int)
 sort:∀ p,p<=s.length->(colS w p).Pairwise (·<=·)
 later:∀ p,m<=p->p<=s.length->(∀ (i:Nat) q,(qsAt t w p)[i]? = some q->(costL w p)[i]? = some (costS t q (s.drop p)))/\∀ (i:Nat) v,(costL w p)[i]? = some v->v<=((3072*(s.length-p+1):Nat):Int)
theorem WR.pb {t:GTable} {s:List UInt8} {w:GWriter} (h:WR t s w):PB t s (s.length+1) w:=⟨h.base,h.clen,h.nod,h.ok,h.all,h.sort,λ p hp hp'=>by omega⟩
theorem PB.set {t:GTable} {s:List UInt8} {place:Nat} {w:GWriter} (h:PB t s (place+1) w) (hpl:place<=s.length) {cs:List Int} (hc:Col t (s.drop place) (3072*(s.length-place)) (qsAt t w place) cs):PI t s place (setC w place cs):=by
 have hp:place<w.Columns.length:=by rw [h.clen];omega
 refine ⟨⟨h.base.tt,h.base.ss,h.base.st,h.base.al,h.base.arc⟩,?_,λ p=>?_,λ p v hv=>?_,λ p j q h1 h2=>?_,λ p hp'=>?_,λ p h1 h2=>?_,?_⟩
 ·show (w.Columns.set _ _).length=_;rw [List.length_set];exact h.clen
 ·rw [(setC_col hp cs p).1];exact h.nod p
 ·unfold InC at hv;rw [(setC_col hp cs p).1] at hv;exact h.ok p v hv
 ·unfold InC;rw [(setC_col hp cs p).1];exact h.all p j q h1 h2
 ·rw [(setC_col hp cs p).1];exact h.sort p hp'
 ·rw [setC_qs hp,(setC_col hp cs p).2,if_neg (by omega)];exact h.later p (by omega) h2
 ·rw [setC_qs hp,(setC_col hp cs place).2,if_pos rfl];exact hc
section
variable {t:GTable} (hT:Tab6 t) {s:List UInt8} (hs:s.length<=4000)
include hT hs
omit hT in
theorem price2_ev {place:Nat} (hpl:place<=s.length) {w:GWriter} (h:PB t s (place+1) w) (hl7:(colS w place).length<=768) (l0:List Int) (hl0:l0.length=(colS w place).length) :
  Tot (λ n=>whl (λ (x:((List Int)×Int))=>FTr_writer_price_L2 n w (place:Int) (w.Columns.getD place default) l0 ⟨colS w place,l0⟩ x.1 x.2) n (l0,0)) (λ w'=>w'=setC w place ((qsAt t w place).map (firstV t (s.drop place)))):=by
 have hcl:place<w.Columns.length:=by rw [h.clen];omega
 refine Tot.upto (body:=λ n x=>FTr_writer_price_L2 n w (place:Int) (w.Columns.getD place default) l0 ⟨colS w place,l0⟩ x.1 x.2) (colS w place).length (λ k x=>x.2=(k:Int)/\x.1.length=(colS w place).length/\∀ (j:Nat) q,j<k->(qsAt t w place)[j]? = some q->x.1[j]? = some (firstV t (s.drop place) q)) ?_ ?_ _ ⟨rfl,hl0,by omega⟩
 ·rintro k ⟨r,k'⟩ hk ⟨e1,e2,e3⟩;simp only at e1 e2 e3;subst e1;have hv:(colS w place)[k]? = some (colS w place)[k]:=List.getElem?_eq_getElem hk;obtain ⟨j,q,hvj,hq,hr⟩:=h.ok place _ (List.mem_of_getElem? hv);have hqk:(qsAt t w place)[k]? = some q:=(qs_get (h.ok place)).2 ⟨j,by rw [← hvj];exact hv,hq⟩;have hJ:∀ v,v=firstV t (s.drop place) q->∀ r',r'=r.set k v->Tot (λ n=>FTr_writer_price_J1 n (k:Int) r') (Rd2 (λ x:List Int×Int=>x.2=((k+1:Nat):Int)/\x.1.length=(colS w place).length/\∀ (j:Nat) q,j<k+1->(qsAt t w place)[j]? = some q->x.1[j]? = some (firstV t (s.drop place) q)) (λ w'=>w'=setC w place ((qsAt t w place).map (firstV t (s.drop place))))):=by
   rintro v rfl r' rfl;unfold FTr_writer_price_J1;refine Tot.pure ⟨inc64 (by omega),by rw [List.length_set];exact e2,λ j' q' hj' hq'=>?_⟩;by_cases e:k=j'
   ·subst e;rw [hqk] at hq';cases hq';exact List.getElem?_set_self (by omega)
   ·show (r.set k _)[j']? = _;rw [List.getElem?_set_ne e];exact e3 j' q' (by omega) hq'
  unfold FTr_writer_price_L2;refine Tot.iteT (lt_d hk) (Tot.bindC (idx_at hv) (Tot.bindC (idx_gd default (by rw [Int.toNat_natCast,List.length_set];exact hcl)) (Tot.bindC (idx_gd 0 (show k<r.length by omega)) (Tot.bindC (put_at (show k<r.length by omega)) ?_))));rw [h.base.ss,h.base.st,h.base.tt,drop_nil hs hpl,hvj];by_cases hd:s.drop place=[]
  ·refine Tot.gE (decide_eq_true hd) (Ev.all λ n=>idx_at hq) (Tot.gE (decide_eq_true hd) (Ev.all λ n=>accepts_eq n t _) (Tot.ite (λ h=>?_) λ h=>?_))
   ·have ha:acceptsS t q=true:=by simpa [hd] using h
    refine Tot.bindC (idx_gd 0 (by rw [List.length_set];show k<r.length;omega)) (Tot.bindC (put_at (by rw [List.length_set];show k<r.length;omega)) (hJ 0 ?_ _ ?_))
    ·unfold firstV;rw [if_pos ⟨hd,ha⟩]
    ·rw [List.set_set]
   ·have ha:acceptsS t q=false:=by simpa [hd] using h
    refine hJ (-1) ?_ _ rfl;unfold firstV;rw [if_neg (by rw [ha];simp)]
  ·refine Tot.gF (decide_eq_false hd) (Tot.gF (decide_eq_false hd) (Tot.iteF (by simp [hd]) (hJ (-1) ?_ _ rfl)));unfold firstV;rw [if_neg (λ h=>hd h.1)]
 ·rintro ⟨r,k'⟩ ⟨e1,e2,e3⟩;simp only at e1 e2 e3;subst e1;unfold FTr_writer_price_L2;refine Tot.iteF (by simp) (Tot.pure ?_);have hr:r=(qsAt t w place).map (firstV t (s.drop place)):=by
   have hq:(qsAt t w place).length=(colS w place).length:=by simp [qsAt]
   refine List.ext_getElem? λ j=>?_;rcases Nat.lt_or_ge j (colS w place).length with hj|hj
   ·have hg:(qsAt t w place)[j]? = some (qsAt t w place)[j]:=List.getElem?_eq_getElem (by omega);rw [e3 j _ hj hg,List.getElem?_map,hg];rfl
   ·rw [List.getElem?_eq_none (by omega),List.getElem?_eq_none (by rw [List.length_map];omega)]
  subst hr;unfold setC;simp only [Int.toNat_natCast,List.set_set];rfl
theorem price3_ev {place:Nat} (hpl:place<=s.length) {w1:GWriter} (h:PI t s place w1) :
  Tot (λ n=>whl (λ (x:(GWriter×Int))=>FTr_writer_price_L3 n (place:Int) (w1.Columns.getD place default) x.1 x.2) n (w1,0)) (λ w=>PI t s place w/\(∀ p,colS w p=colS w1 p)/\w.Last=w1.Last/\Done1 t (s.drop place) (qsAt t w place) (costL w place)):=by
 have hql:=h.qlen hT place;refine Tot.upto (body:=λ n x=>FTr_writer_price_L3 n (place:Int) (w1.Columns.getD place default) x.1 x.2) (colS w1 place).length (λ i x=>x.2=(i:Int)/\PI t s place x.1/\(∀ p,colS x.1 p=colS w1 p)/\x.1.Last=w1.Last/\∀ (j:Nat) q (k:Nat),j<i->(qsAt t w1 place)[j]? = some q->(stepS t q k).2=true->prt t k≠[]->∀ y,s.drop place=prt t k++y->0<=costS t (stepS t q k).1 y->∃ v,(costL x.1 place)[j]? = some v/\0<=v/\v<=costS t (stepS t q k).1 y+(cls t k).length) ?_ ?_ _ ⟨rfl,h,λ _=>rfl,rfl,λ j q k h=>by omega⟩
 ·rintro i ⟨w,i'⟩ hi ⟨e1,hP,hC,hL,hR⟩;simp only at e1 hP hC hL hR;subst e1;have hqs:qsAt t w place=qsAt t w1 place:=by unfold qsAt;rw [hC]
  obtain ⟨q0,hq⟩:∃ q0,(qsAt t w place)[i]? = some q0:=⟨_,List.getElem?_eq_getElem (by rw [hqs,hql.1];exact hi)⟩;unfold FTr_writer_price_L3;refine Tot.iteT (lt_d hi) (Tot.bind (price1_ev hT hs false hpl (Nat.le_refl 13000000) hP hq) ?_);rintro ⟨w2,b⟩ hI;refine Tot.pure ⟨inc64 (by omega),hI.pi,λ p=>(hI.cols p).trans (hC p),hI.last.trans hL,λ j q k hj hjq hst hp y hy hc=>?_⟩;by_cases e:j=i
  ·subst e;rw [← hqs,hq] at hjq;cases hjq;exact hI.rel rfl k trivial hst hp y hy hc
  ·obtain ⟨v,a1,a2,a3⟩:=hR j q k (by omega) hjq hst hp y hy hc;obtain ⟨v',b1,b2,b3⟩:=hI.low j v a1 a2;exact ⟨v',b1,b2,by omega⟩
 ·rintro ⟨w,i'⟩ ⟨e1,hP,hC,hL,hR⟩;simp only at e1 hP hC hL hR;subst e1;have hqs:qsAt t w place=qsAt t w1 place:=by unfold qsAt;rw [hC]
  unfold FTr_writer_price_L3;refine Tot.iteF (nlt_d _) (Tot.pure ⟨hP,hC,hL,⟨λ j q k hj hst hp y hy hc=>?_⟩⟩);rw [hqs] at hj;exact hR j q k (by have:=getElem?_lt' hj;omega) hj hst hp y hy hc
theorem price5_ev {place:Nat} (hpl:place<=s.length) {w1:GWriter} (h:PI t s place w1) :
  Tot (λ n=>whl (λ (x:(GWriter×Bool×Int))=>FTr_writer_price_L5 n (place:Int) (w1.Columns.getD place default) x.1 x.2.1 x.2.2) n (w1,false,0)) (λ y=>PI t s place y.1/\(∀ p,colS y.1 p=colS w1 p)/\y.1.Last=w1.Last/\(∀ (j:Nat) v,(costL w1 place)[j]? = some v->0<=v->∃ v',(costL y.1 place)[j]? = some v'/\0<=v'/\v'<=v)/\(y.2=false->y.1=w1/\Done2 t (qsAt t w1 place) (costL w1 place))/\(y.2=true->phi 13000000 (costL y.1 place)<phi 13000000 (costL w1 place))):=by
 have hql:=h.qlen hT place;refine Tot.upto (body:=λ n x=>FTr_writer_price_L5 n (place:Int) (w1.Columns.getD place default) x.1 x.2.1 x.2.2) (colS w1 place).length (λ i x=>x.2.2=(i:Int)/\PI t s place x.1/\(∀ p,colS x.1 p=colS w1 p)/\x.1.Last=w1.Last/\(∀ (j:Nat) v,(costL w1 place)[j]? = some v->0<=v->∃ v',(costL x.1 place)[j]? = some v'/\0<=v'/\v'<=v)/\(x.2.1=false->x.1=w1/\∀ (j:Nat) q (k:Nat),j<i->(qsAt t w1 place)[j]? = some q->(stepS t q k).2=true->prt t k=[]->∃ (i':Nat) (w':Int),(qsAt t w1 place)[i']? = some (stepS t q k).1/\(costL w1 place)[i']? = some w'/\(0<=w'->∃ v,(costL w1 place)[j]? = some v/\0<=v/\v<=w'+(cls t k).length))/\(x.2.1=true->phi 13000000 (costL x.1 place)<phi 13000000 (costL w1 place))) ?_ ?_ _ ⟨rfl,h,λ _=>rfl,rfl,λ j v hv h0=>⟨v,hv,h0,Int.le_refl v⟩,λ _=>⟨rfl,λ j q k h=>by omega⟩,(λ h=>by cases h)⟩
 ·rintro i ⟨w,b,i'⟩ hi ⟨e1,hP,hC,hL,hlow,hfl,hle⟩;simp only at e1 hP hC hL hlow hfl hle;subst e1;have hqs:qsAt t w place=qsAt t w1 place:=by unfold qsAt;rw [hC]
  obtain ⟨q0,hq⟩:∃ q0,(qsAt t w place)[i]? = some q0:=⟨_,List.getElem?_eq_getElem (by rw [hqs,hql.1];exact hi)⟩;unfold FTr_writer_price_L5;refine Tot.iteT (lt_d hi) (Tot.bind (price1_ev hT hs true hpl (Nat.le_refl 13000000) hP hq) ?_);rintro ⟨w2,b2⟩ hI;simp only at hI;refine Tot.pure ⟨inc64 (by omega),hI.pi,λ p=>(hI.cols p).trans (hC p),hI.last.trans hL,λ j v hv h0=>?_,λ hb=>?_,λ hb=>?_⟩
  ·obtain ⟨v1,a1,a2,a3⟩:=hlow j v hv h0;obtain ⟨v2,b1,b2,b3⟩:=hI.low j v1 a1 a2;exact ⟨v2,b1,b2,by omega⟩
  ·simp only [Bool.or_eq_false_iff] at hb;obtain ⟨e2,hR⟩:=hfl hb.2;refine ⟨(hI.fls hb.1).trans e2,λ j q k hj hjq hst hp=>?_⟩;by_cases e:j=i
   ·subst e;rw [← hqs,hq] at hjq;cases hjq;have:=hI.sil rfl hb.1 k trivial hst hp;rw [e2] at this;exact this
   ·exact hR j q k (by omega) hjq hst hp
  ·simp only [Bool.or_eq_true] at hb;cases hb2:b2 with
   | true=>
    have h1:=hI.less hb2;cases hbb:b with
    | true=>have:=hle hbb;show phi 13000000 (costL w2 place)<_;omega
    | false=>rw [(hfl hbb).1] at h1;exact h1
   | false=>
    rw [hI.fls hb2];exact hle (hb.resolve_left (by rw [hb2];simp))
 ·rintro ⟨w,b,i'⟩ ⟨e1,hP,hC,hL,hlow,hfl,hle⟩;simp only at e1 hP hC hL hlow hfl hle;subst e1;unfold FTr_writer_price_L5;refine Tot.iteF (nlt_d _) (Tot.pure ⟨hP,hC,hL,hlow,λ hb=>⟨(hfl hb).1,⟨λ j q k hj hst hp=>(hfl hb).2 j q k (by have:=getElem?_lt' hj;omega) hj hst hp⟩⟩,hle⟩)
theorem price4_ev {place:Nat} (hpl:place<=s.length) {w1:GWriter} (h:PI t s place w1) (h1:Done1 t (s.drop place) (qsAt t w1 place) (costL w1 place)) :
  Tot (λ n=>whl (λ (x:GWriter)=>FTr_writer_price_L4 n (place:Int) x) n w1) (λ w=>PB t s place w/\(∀ p,colS w p=colS w1 p)/\w.Last=w1.Last):=by
 refine Tot.whl (body:=λ n x=>FTr_writer_price_L4 n (place:Int) x) (λ m x=>m=phi 13000000 (costL x place)/\PI t s place x/\(∀ p,colS x p=colS w1 p)/\x.Last=w1.Last/\Done1 t (s.drop place) (qsAt t x place) (costL x place)) ?_ _ w1 ⟨rfl,h,λ _=>rfl,rfl,h1⟩;rintro m w ⟨rfl,hP,hC,hL,hD⟩;have hcl:place<w.Columns.length:=by rw [hP.clen];omega
 unfold FTr_writer_price_L4;refine Tot.bindC (idx_gd default hcl) ?_;simp only [Int.toNat_natCast,writer_same];refine Tot.bind (price5_ev hT hs hpl hP) ?_;rintro ⟨w2,b⟩ ⟨g1,g2,g3,g4,g5,g6⟩;simp only at g1 g2 g3 g4 g5 g6 ⊢;cases b with
 | false=>
  obtain ⟨e,hD2⟩:=g5 rfl;subst e;refine Tot.iteT rfl (Tot.pure ⟨⟨hP.base,hP.clen,hP.nod,hP.ok,hP.all,hP.sort,λ p h1 h2=>?_⟩,hC,hL⟩);rcases Nat.eq_or_lt_of_le h1 with rfl|hlt
  ·refine ⟨λ i q hq=>hP.col.exact (hP.qn hT place) hD hD2 hq,λ i v hv=>?_⟩;have hb:=(hP.col.top hv).2;have:=hP.qlen hT place;omega
  ·exact hP.later p hlt h2
 | true=>
  have hqs:qsAt t w2 place=qsAt t w place:=by unfold qsAt;rw [g2]
  refine Tot.iteF rfl (Tot.pure ⟨_,g6 rfl,rfl,g1,λ p=>(g2 p).trans (hC p),g3.trans hL,⟨λ j q k hj hst hp y hy hc=>?_⟩⟩);rw [hqs] at hj;obtain ⟨v,a1,a2,a3⟩:=hD.rel j q k hj hst hp y hy hc;obtain ⟨v',b1,b2,b3⟩:=g4 j v a1 a2;exact ⟨v',b1,b2,by omega⟩
theorem price_ev {w1:GWriter} (h:WR t s w1):Tot (λ n=>FTr_writer_price n w1) (λ w=>PB t s 0 w/\w.Last=w1.Last):=by
 have hlen:=len6 hT;unfold FTr_writer_price;rw [h.base.ss];refine Tot.bind (R:=λ w=>PB t s 0 w/\w.Last=w1.Last) ?_ (λ w h=>Tot.pure h);refine Tot.whl (body:=λ n x=>FTr_writer_price_L1 n x.1 x.2) (λ m x=>x.2=(m:Int)-1/\m<=s.length+1/\PB t s m x.1/\x.1.Last=w1.Last) ?_ (s.length+1) _ ⟨by simp,by omega,h.pb,rfl⟩;rintro m ⟨w,i'⟩ ⟨e2,e4,e5,e6⟩;simp only at e2 e5 e6;subst e2;unfold FTr_writer_price_L1;cases m with
 | zero=>exact Tot.iteF (by simp) (Tot.pure ⟨e5,e6⟩)
 | succ i=>
  have ei:((i+1:Nat):Int)-1=(i:Int):=by omega
  rw [ei];have hcl:i<w.Columns.length:=by rw [e5.clen];omega
  have hll:(colS w i).length<=768:=by
   have hsub:∀ v∈colS w i,v∈(List.range (statesS t).length).map (λ j:Nat=>(j:Int)):=by
    intro v hv;obtain ⟨j,q,rfl,hq,_⟩:=e5.ok i v hv;exact List.mem_map.2 ⟨j,List.mem_range.2 (getElem?_lt' hq),rfl⟩
   have:=(e5.nod i).length_le_of_subset hsub;rw [List.length_map,List.length_range] at this;omega
  refine Tot.iteT (by simp) (Tot.bindC (idx_gd default hcl) (Tot.bindC (idx_gd default hcl) (Tot.bindC (mkl_d (by omega) (by show ((colS w i).length:Int).toNat*8<=_;omega)) ?_)));rw [show (w.Columns.getD i default).States=colS w i from rfl,Int.toNat_natCast,Int.toNat_natCast];refine Tot.bindC (idx_gd default (by rw [List.length_set];exact hcl)) ?_;rw [getD_set hcl];refine Tot.bind (price2_ev hs (show i<=s.length by omega) e5 hll (List.replicate (colS w i).length 0) (by simp)) ?_;rintro w2 rfl;have hPI:=e5.set (show i<=s.length by omega) (first_col t (s.drop i) _ (qsAt t w i));have hcl2:i<(setC w i ((qsAt t w i).map (firstV t (s.drop i)))).Columns.length:=by rw [hPI.clen];omega
  refine Tot.bindC (idx_gd default hcl2) ?_;simp only [writer_same];refine Tot.bind (price3_ev hT hs (show i<=s.length by omega) hPI) ?_;rintro w3 ⟨g1,g2,g3,g4⟩;refine Tot.bind (price4_ev hT hs (show i<=s.length by omega) g1 g4) ?_;rintro w4 ⟨k1,k2,k3⟩;refine Tot.pure ⟨i,by omega,?_,by omega,k1,?_⟩
  ·show isub .i64 (i:Int) 1=(i:Int)-1;rw [sub64 (by omega) (by omega)]
  ·rw [k3,g3];exact e6
end
end Go.AI
end
section
namespace Go.AI
structure WrOK (t:GTable) (s:List UInt8) (w:GWriting) (a e:Int):Prop where
 bad:(textS s).2≠0->w=⟨[],[]⟩/\a=(textS s).1/\e=(textS s).2
 none:(textS s).2=0->costS t startS s<0->w=⟨[],[]⟩/\LastP t s a/\e=61
 path:(textS s).2=0->0<=costS t startS s->e=0/\a=(s.length:Int)/\∃ p,Greedy t startS s p/\w=⟨cellsOf t p,p⟩
theorem WrOK.uniq {t:GTable} {s:List UInt8} {w w':GWriting} {a a' e e':Int} (h:WrOK t s w a e) (h':WrOK t s w' a' e'):w=w'/\a=a'/\e=e':=by
 by_cases h1:(textS s).2=0
 ·by_cases h2:costS t startS s<0
  ·obtain ⟨g1,g2,g3⟩:=h.none h1 h2;obtain ⟨k1,k2,k3⟩:=h'.none h1 h2;exact ⟨g1.trans k1.symm,g2.uniq k2,g3.trans k3.symm⟩
  ·obtain ⟨g1,g2,p,g3,g4⟩:=h.path h1 (by omega);obtain ⟨k1,k2,p',k3,k4⟩:=h'.path h1 (by omega);have:=g3.uniq k3;subst this;exact ⟨g4.trans k4.symm,g2.trans k2.symm,g1.trans k1.symm⟩
 ·obtain ⟨g1,g2,g3⟩:=h.bad h1;obtain ⟨k1,k2,k3⟩:=h'.bad h1;exact ⟨g1.trans k1.symm,g2.trans k2.symm,g3.trans k3.symm⟩
theorem arcs_sorted (t:GTable) (q:GState):(arcsOf t q).Pairwise (λ a b=>a.Rule<b.Rule):=by
 unfold arcsOf;refine List.Pairwise.filterMap _ (R:=λ a b=>a<b) (λ a a' hlt b hb b' hb'=>?_) List.pairwise_lt_range;unfold arcAt at hb hb';split at hb
 ·split at hb'
  ·cases hb;cases hb';simp only;omega
  ·cases hb'
 ·cases hb
theorem cellsOf_snoc (t:GTable) (p:List Int) (k:Int):cellsOf t (p++[k])=cellsOf t p++cls t k:=by simp [cellsOf]
theorem lenC_snoc (t:GTable) (p:List Int) (k:Int):lenK t (p++[k])=lenK t p+(cls t k).length:=by simp [lenK,cellsOf]
section
variable {t:GTable} (hT:Tab6 t) {s:List UInt8} (hs:s.length<=4000)
include hT
omit hT in
theorem PB.pi0 {w:GWriter} {t:GTable} {s:List UInt8} (h:PB t s 0 w) (p:Nat) (hp:p<=s.length):(∀ (i:Nat) q,(qsAt t w p)[i]? = some q->(costL w p)[i]? = some (costS t q (s.drop p)))/\∀ (i:Nat) v,(costL w p)[i]? = some v->v<=((3072*(s.length-p+1):Nat):Int):=h.later p (by omega) hp
theorem PB.find {w:GWriter} (h:PB t s 0 w) {p:Nat} (hp:p<=s.length) {q:GState} (hr:Rch t s p q) (hq:q∈statesS t):Ev (λ n=>FTr_column_find n (w.Columns.getD p default) (indexS (statesS t) q)) (costS t q (s.drop p))/\costS t q (s.drop p)<=((3072*(s.length-p+1):Nat):Int):=by
 obtain ⟨j,hj,hg⟩:=indexS_in hq;obtain ⟨d,hd,e⟩:=List.getElem_of_mem (h.all p j q hg hr);have hd':(colS w p)[d]? = some (j:Int):=by rw [← e];exact List.getElem?_eq_getElem hd
 have hqs:(qsAt t w p)[d]? = some q:=(qs_get (h.ok p)).2 ⟨j,hd',hg⟩;obtain ⟨k1,k2⟩:=h.pi0 p hp;have hx:=k1 d q hqs;have hll:(colS w p).length<=768:=by
  have hsub:∀ v∈colS w p,v∈(List.range (statesS t).length).map (λ j:Nat=>(j:Int)):=by
   intro v hv;obtain ⟨j,q,rfl,hq,_⟩:=h.ok p v hv;exact List.mem_map.2 ⟨j,List.mem_range.2 (getElem?_lt' hq),rfl⟩
  have:=(h.nod p).length_le_of_subset hsub;have:=len6 hT;simp at *;omega
 refine ⟨?_,k2 d _ hx⟩;rw [hj];exact find_ev (by show (colS w p).length<=1000;omega) (h.sort p hp) (h.nod p) hd' hx
include hs
theorem write2_ev {w:GWriter} (h:PB t s 0 w) {place:Nat} (hpl:place<=s.length) {q:GState} (hr:Rch t s place q) (hq:q∈statesS t) (hc:0<costS t q (s.drop place)) (r0:GWriting) (h1:r0.Cells.length<=13000000) (h2:r0.Path.length<=13000000) :
  Tot (λ n=>whl (λ (x:Int)=>FTr_writer_writingx_L2 n w r0 (place:Int) (costS t q (s.drop place)) (arcsOf t q) x) n 0) (λ y=>∃ k:Nat,nextKC t q (s.drop place) k=costS t q (s.drop place)/\(∀ j:Nat,j<k->nextKC t q (s.drop place) j≠costS t q (s.drop place))/\y=.inl (⟨r0.Cells++cls t k,r0.Path++[(k:Int)]⟩,((place+(prt t k).length:Nat):Int),indexS (statesS t) (stepS t q k).1,costS t (stepS t q k).1 (s.drop (place+(prt t k).length)))):=by
 have hrl:=hT.tab.1;have hal:(arcsOf t q).length<=t.Rules.length:=by unfold arcsOf;exact Nat.le_trans (List.length_filterMap_le _ _) (by simp)
 refine Tot.upto (body:=λ n x=>FTr_writer_writingx_L2 n w r0 (place:Int) (costS t q (s.drop place)) (arcsOf t q) x) (arcsOf t q).length (λ i x=>x=(i:Int)/\∀ (i':Nat) a (k:Nat),i'<i->(arcsOf t q)[i']? = some a->a.Rule=(k:Int)->nextKC t q (s.drop place) k≠costS t q (s.drop place)) ?_ ?_ _ ⟨rfl,λ i' a k h=>by omega⟩
 ·rintro i x hi ⟨rfl,hI⟩;have ha:(arcsOf t q)[i]? = some (arcsOf t q)[i]:=List.getElem?_eq_getElem hi;obtain ⟨k,hk,hst,hae⟩:=mem_arcs.1 (List.getElem_mem hi);obtain ⟨p1,p2,p3⟩:=hT.pr hst;have hJ:nextKC t q (s.drop place) k≠costS t q (s.drop place)->Tot (λ n=>FTr_writer_writingx_J1 n (i:Int)) (Rd2 (λ x=>x=((i+1:Nat):Int)/\∀ (i':Nat) a (k:Nat),i'<i+1->(arcsOf t q)[i']? = some a->a.Rule=(k:Int)->nextKC t q (s.drop place) k≠costS t q (s.drop place)) (λ y:(GWriting×Int×Int×Int)⊕Unit=>∃ k:Nat,nextKC t q (s.drop place) k=costS t q (s.drop place)/\(∀ j:Nat,j<k->nextKC t q (s.drop place) j≠costS t q (s.drop place))/\y=.inl (⟨r0.Cells++cls t k,r0.Path++[(k:Int)]⟩,((place+(prt t k).length:Nat):Int),indexS (statesS t) (stepS t q k).1,costS t (stepS t q k).1 (s.drop (place+(prt t k).length))))):=by
   intro hne;unfold FTr_writer_writingx_J1;refine Tot.pure ⟨inc64 (by omega),λ i' a k' hi' hia hak=>?_⟩;by_cases e:i'=i
   ·subst e;rw [ha,hae] at hia;cases hia;simp only at hak;have:k=k':=by omega
    subst this;exact hne
   ·exact hI i' a k' (by omega) hia hak
  unfold FTr_writer_writingx_L2;refine Tot.iteT (lt_d hi) (Tot.bindC (idx_at ha) ?_);rw [hae];refine Tot.bindA (λ n=>prints_eq hT hs h.base hpl hst n) (Tot.ite (λ hpf=>?_) λ hpf=>?_)
  ·refine hJ λ he=>?_;have hpf':(prt t k).isPrefixOf (s.drop place)=false:=by simpa using hpf
   obtain ⟨_,⟨y,hy,_⟩,_⟩:=nextC_pos (t:=t) (q:=q) (x:=s.drop place) (k:=(k:Int)) (by omega);rw [← Bool.not_eq_true,List.isPrefixOf_iff_prefix,hy] at hpf';exact hpf' (List.prefix_append _ _)
  ·have hpf':(prt t k).isPrefixOf (s.drop place)=true:=by simpa using hpf
   have q2:=(prefix_drop hpf').2 hpl;obtain ⟨f1,f2⟩:=h.find hT q2 (hr.next hst hpf') (closed6 hT hq hst);have f3:=costS_ge t (stepS t q k).1 (s.drop (place+(prt t k).length));have hrule:=idx_rule (t:=t) (k:=(k:Int)) (by omega) (by omega);have hclen:(cls t k).length=(ruleAt t k).Cells.length:=rfl;have hcb:=(h.find hT hpl hr hq).2;have hn:nextKC t q (s.drop place) k=if 0<=costS t (stepS t q k).1 (s.drop (place+(prt t k).length)) then costS t (stepS t q k).1 (s.drop (place+(prt t k).length))+(cls t k).length else -1:=by
    unfold nextKC;rw [List.drop_drop];have hpp:prt t k <+: s.drop place:=List.isPrefixOf_iff_prefix.1 hpf';by_cases h0:0<=costS t (stepS t q k).1 (s.drop (place+(prt t k).length))
    ·rw [if_pos ⟨hst,hpp,h0⟩,if_pos h0]
    ·rw [if_neg (λ hh=>h0 hh.2.2),if_neg h0]
   rw [h.base.tt];refine Tot.bindC hrule (Tot.bindC (idx_gd default (by rw [h.clen];omega)) (Tot.bindE f1 ?_));have hsub:isub .i64 (costS t q (s.drop place)) ((List.length (ruleAt t k).Cells:Nat):Int)=costS t q (s.drop place)-((cls t k).length:Nat):=by rw [sub64 (by omega) (by omega)]
   rw [hsub];refine Tot.ite (λ hcond=>hJ λ he=>?_) λ hcond=>?_
   ·simp only [Bool.or_eq_true,decide_eq_true_eq,bne_iff_ne,ne_eq] at hcond;rw [hn] at he;split at he<;>omega
   ·simp only [Bool.or_eq_false_iff,decide_eq_false_iff_not,bne_eq_false_iff_eq] at hcond;refine Tot.bindC (app_le (by omega)) (Tot.bindC (app_le (by simp;omega)) (Tot.pure ⟨k,?_,λ j hj hje=>?_,?_⟩))
    ·rw [hn,if_pos (by omega)];omega
    ·obtain ⟨hsj,_⟩:=nextC_pos (t:=t) (q:=q) (x:=s.drop place) (k:=(j:Int)) (by omega);obtain ⟨i',hi',e⟩:=List.getElem_of_mem (mem_arcs.2 ⟨j,by have:=stepS_in hsj;omega,hsj,rfl⟩:(⟨j,indexS (statesS t) (stepS t q j).1⟩:GTranslateArc)∈arcsOf t q);have hlt:i'<i:=by
      apply Classical.byContradiction;intro hge;rcases Nat.eq_or_lt_of_le (Nat.le_of_not_lt hge) with rfl|hgt
      ·rw [hae] at e;have:=congrArg GTranslateArc.Rule e;simp only at this;omega
      ·have:=(List.pairwise_iff_getElem.1 (arcs_sorted t q)) i i' hi hi' hgt;rw [hae,e] at this;simp only at this;omega
     exact hI i' _ j hlt (by rw [List.getElem?_eq_getElem hi',e]) rfl hje
    ·rw [← hcond.2]
 ·rintro x ⟨rfl,hI⟩;exfalso;obtain ⟨k,hk,he⟩:=cost_step hc;obtain ⟨hst,_⟩:=nextC_pos (t:=t) (q:=q) (x:=s.drop place) (k:=(k:Int)) (by omega);obtain ⟨i',hi',e⟩:=List.getElem_of_mem (mem_arcs.2 ⟨k,hk,hst,rfl⟩:(⟨k,indexS (statesS t) (stepS t q k).1⟩:GTranslateArc)∈arcsOf t q);exact hI i' _ k hi' (by rw [List.getElem?_eq_getElem hi',e]) rfl he
structure Way1 (t:GTable) (s:List UInt8) (p0:List Int) (place:Nat) (q:GState):Prop where
 goes:Goes t startS p0 q
 text:textOf t p0=s.take place
 le:place<=s.length
 greedy:∀ p1,Greedy t q (s.drop place) p1->Greedy t startS s (p0++p1)
 len:lenK t p0+(costS t q (s.drop place)).toNat<=(costS t startS s).toNat
 plen:p0.length<=lenK t p0
 pos:0<=costS t q (s.drop place)
omit hs in
theorem Way1.next {p0:List Int} {place:Nat} {q:GState} (h:Way1 t s p0 place q) {k:Nat} (hc:0<costS t q (s.drop place)) (hk:nextKC t q (s.drop place) k=costS t q (s.drop place)) (hm:∀ j:Nat,j<k->nextKC t q (s.drop place) j≠costS t q (s.drop place)):Way1 t s (p0++[(k:Int)]) (place+(prt t k).length) (stepS t q k).1:=by
 obtain ⟨g1,⟨y,g2,g3⟩,g4,g5⟩:=nextC_pos (t:=t) (q:=q) (x:=s.drop place) (k:=(k:Int)) (by omega);rw [List.drop_drop] at g3 g4 g5;have hpf:(prt t k).isPrefixOf (s.drop place)=true:=by rw [List.isPrefixOf_iff_prefix,g2];exact List.prefix_append _ _
 obtain ⟨q1,q2⟩:=prefix_drop hpf;obtain ⟨p1,p2,p3⟩:=hT.pr g1;refine ⟨h.goes.snoc g1,?_,q2 h.le,λ p' hp'=>?_,?_,?_,g4⟩
 ·rw [textOf_snoc,h.text,List.take_add,q1,List.take_left' rfl]
 ·rw [List.append_assoc];exact h.greedy _ (.cons hc hk hm (by rw [List.drop_drop];exact hp'))
 ·rw [lenC_snoc];have:=h.len;omega
 ·rw [lenC_snoc,List.length_append];have:=h.plen;simp only [List.length_cons,List.length_nil];omega
omit hT hs in
theorem Way1.start {t:GTable} {s:List UInt8} (h:0<=costS t startS s):Way1 t s [] 0 startS:=⟨rfl,by simp [textOf],by omega,λ p hp=>by simpa using hp,by simp [lenK,cellsOf],by simp,h⟩
omit hT hs in
theorem Way1.rch {t:GTable} {s:List UInt8} {p0:List Int} {place:Nat} {q:GState} (h:Way1 t s p0 place q):Rch t s place q:=⟨h.le,p0,h.goes,h.text⟩
omit hs in
theorem Rch.mem {i:Nat} {q:GState} (h:Rch t s i q):q∈statesS t:=by
 obtain ⟨j,hj⟩:=Rch.ind (A:=λ _ q=>∃ j:Nat,(statesS t)[j]? = some q) ⟨0,(states_ok hT.tab).1.first⟩ (λ i' q k _ hA hst _=>by
  obtain ⟨j,hj⟩:=hA;obtain ⟨d,_,hd⟩:=indexS_in (closed6 hT (List.mem_of_getElem? hj) hst);exact ⟨d,hd⟩) h
 exact List.mem_of_getElem? hj
theorem write1_ev {w:GWriter} (h:PB t s 0 w) (h0:0<=costS t startS s):Tot (λ n=>FTr_writer_writingx n w) (λ r=>∃ p,Greedy t startS s p/\r=⟨cellsOf t p,p⟩):=by
 have hf:=(states_ok hT.tab).1.first;have hi0:indexS (statesS t) startS=0:=indexS_get (nod6 hT) hf;have hS:startS∈statesS t:=List.mem_of_getElem? hf;obtain ⟨f1,f2⟩:=h.find hT (p:=0) (by omega) (.start t s) hS;rw [hi0,List.drop_zero] at f1;rw [List.drop_zero] at f2;unfold FTr_writer_writingx;refine Tot.bindC (idx_gd (i:=0) default (by rw [h.clen];omega)) (Tot.bindE f1 ?_);refine Tot.bind (R:=λ r=>∃ p,Greedy t startS s p/\r=(⟨cellsOf t p,p⟩:GWriting)) ?_ (λ r hr=>Tot.pure hr);refine Tot.whl (body:=λ n x=>FTr_writer_writingx_L1 n w x.1 x.2.1 x.2.2.1 x.2.2.2) (λ m x=>∃ (p0:List Int) (place:Nat) (q:GState),Way1 t s p0 place q/\x=(⟨cellsOf t p0,p0⟩,(place:Int),indexS (statesS t) q,costS t q (s.drop place))/\m=(costS t q (s.drop place)).toNat) ?_ (costS t startS s).toNat _ ⟨[],0,startS,.start h0,by rw [hi0,List.drop_zero];rfl,by rw [List.drop_zero]⟩;rintro m x ⟨p0,place,q,hW,rfl,rfl⟩;have hq:=hW.rch.mem hT;unfold FTr_writer_writingx_L1;simp only;by_cases hc:0<costS t q (s.drop place)
 ·obtain ⟨j,hj,hg⟩:=indexS_in hq;have hlen:=hW.len;have hpl:=hW.plen;rw [hj];refine Tot.iteT (by simpa using hc) (Tot.bindC (idx_at (h.base.arc j q hg)) (Tot.bind (write2_ev hT hs h hW.le hW.rch hq hc ⟨cellsOf t p0,p0⟩ (by show lenK t p0<=_;omega) (by show p0.length<=_;omega)) ?_));rintro y ⟨k,g1,g2,rfl⟩;have hW2:=hW.next hT hc g1 g2;obtain ⟨e1,⟨y,e2,e3⟩,e4,e5⟩:=nextC_pos (t:=t) (q:=q) (x:=s.drop place) (k:=(k:Int)) (by omega);rw [List.drop_drop] at e5;obtain ⟨p1,p2,p3⟩:=hT.pr e1;refine Tot.pure ⟨(costS t (stepS t q k).1 (s.drop (place+(prt t k).length))).toNat,by have:=hW2.pos;omega,p0++[(k:Int)],place+(prt t k).length,(stepS t q k).1,hW2,?_,rfl⟩;simp only [cellsOf_snoc]
 ·refine Tot.iteF (by simpa using hc) (Tot.pure ⟨p0,?_,rfl⟩);have:=hW.greedy [] (.nil (by omega));rwa [List.append_nil] at this
theorem writeT_ev (hv:Ev (λ n=>FTb_Valid n t) true):Tot (λ n=>FTr_Write n t s) (λ y=>WrOK t s y.1 y.2.1 y.2.2):=by
 have hf:=(states_ok hT.tab).1.first;have hi0:indexS (statesS t) startS=0:=indexS_get (nod6 hT) hf;unfold FTr_Write;refine Tot.bindE (text_ev (by omega)) ?_;by_cases hb:(textS s).2=0
 ·refine Tot.iteF (by rw [hb];rfl) (Tot.bindE hv (Tot.iteF rfl (Tot.bind (new_ev hT hs) ?_)));rintro w1 ⟨h1,h2,h3⟩;refine Tot.bind (reach_ev hT hs h1 h2 h3) λ w2 hR=>Tot.bind (price_ev hT hs hR) ?_;rintro w3 ⟨hP,hL⟩;have hcol:∀ v,InC w3 0 v->∃ (j:Nat) (q:GState),v=(j:Int)/\(statesS t)[j]? = some q/\Rch t s 0 q:=hP.ok 0;have hin0:InC w3 0 (0:Nat):=hP.all 0 0 startS hf (.start t s);have hfirst:(colS w3 0)[0]? = some ((0:Nat):Int):=by
   obtain ⟨d,hd,e⟩:=List.getElem_of_mem hin0;cases d with
   | zero=>rw [← e];exact List.getElem?_eq_getElem hd
   | succ d=>
    exfalso;have h4:=(List.pairwise_iff_getElem.1 (hP.sort 0 (by omega))) 0 (d+1) (by omega) hd (by omega);obtain ⟨j,q,e1,_,_⟩:=hcol _ (List.getElem_mem (show 0<(colS w3 0).length by omega));have h5:=nodup_at (hP.nod 0) (a:=0) (b:=d+1) (x:=((0:Nat):Int)) (by rw [List.getElem?_eq_getElem (by omega)];congr 1;omega) (by rw [List.getElem?_eq_getElem hd,e]);omega
  have hqs:(qsAt t w3 0)[0]? = some startS:=(qs_get hcol).2 ⟨0,hfirst,hf⟩;have hx:=(hP.pi0 0 (by omega)).1 0 startS hqs;rw [List.drop_zero] at hx;refine Tot.bindC (idx_gd (i:=0) default (by rw [hP.clen];omega)) (Tot.bindC (idx_at (i:=0) hx) (Tot.ite (λ hc=>?_) λ hc=>?_))
  ·have hneg:costS t startS s<0:=by simpa using hc
   refine Tot.pure ⟨λ h=>absurd hb h,λ _ _=>⟨rfl,?_,rfl⟩,λ _ h=>by omega⟩;show LastP t s w3.Last;rw [hL];exact hR.last
  ·have hpos:0<=costS t startS s:=by simpa using hc
   have e0:(⟨w3.T,w3.S,w3.States,w3.Arcs,w3.Columns.set (Int.toNat 0) (w3.Columns.getD 0 default),w3.Last⟩:GWriter)=w3:=writer_same w3 0 default;rw [e0];refine Tot.bind (write1_ev hT hs hP hpos) ?_;rintro r ⟨p,hp,rfl⟩;exact Tot.pure ⟨λ h=>absurd hb h,λ _ h=>by omega,λ _ _=>⟨rfl,rfl,p,hp,rfl⟩⟩
 ·refine Tot.iteT (by simpa using hb) (Tot.pure ⟨λ _=>⟨rfl,rfl,rfl⟩,λ h=>absurd h hb,λ h=>absurd h hb⟩)
end
end Go.AI
end
