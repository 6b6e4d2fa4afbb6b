/- Part 6 of 7 of the proof: lemmas about the model and the program's functions, with no condition beyond those that each states. -/
import Derived.Test.YtjaogfjfamffnaaLE
import Derived.ChangeArms
import Derived.WalkKit
import Derived.ProofKit
import Derived.OpenShut
import Derived.Carry
import Derived.WideKeyArgs
import Derived.ChangeSame
import Derived.KernelRfl
section
namespace Go.AI
def CRd (F:Nat->Option Obj) (l:List D) (cs:List Value):Prop:=l.length=cs.length∧∀ (i:Nat) (y:D) (v:Value),l[i]? = some y->cs[i]? = some v->Bv F y v
def IT {α:Type} (P:Program) (t:TypeId) (enc:α->List D) (ok:α->Prop):Prop:=
 ∀ (H:Type) (e:TypeId×Value->H) (w:World) (base:Nat) (spare:Nat->Bool) (held:Bool) (fuel:Nat) (cs:List Value) (x:DataW H×List MemPlace),DataW.trod e P w base spare held fuel t cs=some x->∃ a:α,ok a∧CRd (λ b=>w.heap[b]?) (enc a) cs
theorem Vk {F:Nat->Option Obj} {y:D} {v:Value} (h:Bv F y v):CRd F [y] [v]:=by
 refine ⟨rfl,λ i a b ha hb=>?_⟩
 cases i with
 | zero=>simp at ha hb;subst ha;subst hb;exact h
 | succ i=>simp at ha
theorem ZZ {P:Program} {t:TypeId} {k:IntKind} (ht:P.underlying t=some (.int k)):IT P t (λ n=>[.int k n]) (λ n=>(Lit.int k n).wf=true):=by
 intro H e w base spare held fuel cs x h
 obtain ⟨n,rfl,_,hw⟩:=DataW.trod_int ht h
 exact ⟨n,hw,Vk (.int k n)⟩
theorem WT {α:Type} {Q:Nat->α->Prop}:∀ n,(∀ i,i<n->∃ a,Q i a)->∃ l:List α,l.length=n∧∀ i a,l[i]? = some a->Q i a:=by
 intro n
 induction n with
 | zero=>intro _;exact ⟨[],rfl,λ i a h=>by simp at h⟩
 | succ n ih=>
  intro h
  obtain ⟨l,hl,hq⟩:=ih λ i hi=>h i (by omega)
  obtain ⟨a,ha⟩:=h n (by omega)
  refine ⟨l++[a],by simp [hl],λ i b hb=>?_⟩
  rcases Nat.lt_or_ge i l.length with hlt|hge
  ·rw [List.getElem?_append_left hlt] at hb;exact hq i b hb
  ·rw [List.getElem?_append_right hge] at hb
   have:i-l.length=0:=by have:=Ag hb;simp at this;omega
   rw [this] at hb
   simp at hb
   subst hb
   have:i=n:=by omega
   subst this
   exact ha
theorem WU {α β:Type} {f:α->Option β}:∀ {l:List α} {r:List β},l.mapM f=some r->r.length=l.length∧∀ (i:Nat) (a:α),l[i]? = some a->r[i]? = f a:=by
 intro l
 induction l with
 | nil=>intro r h;simp at h;subst h;exact ⟨rfl,λ i a h=>by simp at h⟩
 | cons a l ih=>
  intro r h
  rw [List.mapM_cons] at h
  simp only [Option.bind_eq_bind,Option.bind_eq_some_iff,Option.pure_def,Option.some.injEq] at h
  obtain ⟨b,hb,r',hr',rfl⟩:=h
  obtain ⟨h1,h2⟩:=ih hr'
  refine ⟨by simp [h1],λ i x hx=>?_⟩
  cases i with
  | zero=>simp at hx;subst hx;simp [hb]
  | succ i=>simpa using h2 i x (by simpa using hx)
theorem QD {α:Type} {P:Program} {t e:TypeId} {enc:α->List D} {ok:α->Prop} {sz:Nat} (ht:P.underlying t=some (.slice e)) (hsz:P.cellsOf e=sz) (h1:Nat.ble 1 sz=true) (hl:∀ a,(enc a).length=sz) (he:IT P e enc ok):IT P t (eL enc) (λ l=>∀ a∈l,ok a):=by
 intro H en w base spare held fuel cs x h
 have h1:=Nat.le_of_ble_eq_true h1
 rcases DataW.trod_slice ht h with ⟨rfl,_⟩|⟨a,len,cap,elems,rest,n,_,rfl,_,_,hcap,_,hel,hget,_,_⟩
 ·exact ⟨[],λ a h=>by simp at h,Vk (.sl0 _ _)⟩
 ·rw [hsz] at hget
  have hex:∀ i,i<len->∃ y:α,ok y∧∃ ci,w.cells? base (a.add (i*sz)) sz=some ci∧CRd (λ b=>w.heap[b]?) (enc y) ci:=λ i hi=>by
   have hg:=hget i hi
   rw [List.getElem?_eq_getElem (show i<elems.length by omega)] at hg
   simp only [Option.bind_eq_some_iff] at hg
   obtain ⟨ci,hc,htr⟩:=hg
   obtain ⟨y,hy,hcr⟩:=he H en w base spare held n ci _ htr
   exact ⟨y,hy,ci,hc,hcr⟩
  obtain ⟨l,hll,hq⟩:=WT len hex
  refine ⟨l,λ y hy=>?_,Vk ?_⟩
  ·obtain ⟨i,hi⟩:=List.mem_iff_getElem?.1 hy
   exact (hq i y hi).1
  ·rcases Nat.eq_zero_or_pos len with h0|hpos
   ·have:l=[]:=List.length_eq_zero_iff.1 (by omega)
    subst this;subst h0
    exact .sl0 _ _
   ·
    have hcell:∀ i y,l[i]? = some y->∀ j,j<sz->∃ v,w.cell? ((a.add (i*sz)).add j)=some v∧∀ d,(enc y)[j]? = some d->Bv (λ b=>w.heap[b]?) d v:=λ i y hy j hj=>by
     obtain ⟨_,ci,hc,hcr⟩:=hq i y hy
     unfold World.cells? at hc
     split at hc
     ·obtain ⟨g1,g2⟩:=WU hc
      have:=g2 j j (by simp [hj])
      have hjc:j<ci.length:=by rw [g1];simpa using hj
      rw [List.getElem?_eq_getElem hjc] at this
      exact ⟨ci[j],this.symm,λ d hd=>hcr.2 j d _ hd (List.getElem?_eq_getElem hjc)⟩
     ·cases hc
    have h0:l[0]? = some l[0]:=List.getElem?_eq_getElem (by omega)
    obtain ⟨v0,hv0,_⟩:=hcell 0 _ h0 0 (by omega)
    have ha0:(a.add (0*sz)).add 0=a:=by simp [Addr.add]
    rw [ha0] at hv0
    obtain ⟨b,off,spot⟩:=a
    unfold World.cell? at hv0
    simp only at hv0
    split at hv0
    ·rename_i c ty fr hblk
     cases spot with
     | some s=>simp at hv0
     | none=>
      have hcell':∀ i y,l[i]? = some y->∀ j d,(enc y)[j]? = some d->∃ v,c[off+i*sz+j]? = some v∧Bv (λ b=>w.heap[b]?) d v:=λ i y hy j d hd=>by
       have hj:j<sz:=by rw [← hl y];exact Ag hd
       obtain ⟨v,hv,hr⟩:=hcell i y hy j hj
       rw [Cd,Cd,LA hblk] at hv
       exact ⟨v,hv,hr d hd⟩
      have hlen:(l.map enc).length=len:=by simp [hll]
      have:=Bv.sl (F:=λ b=>w.heap[b]?) (l.map enc) b off cap sz c ty fr (λ i j=>(c[off+i*sz+j]?).getD undef) hblk (λ e he=>by
        simp only [List.mem_map] at he
        obtain ⟨y,_,rfl⟩:=he
        exact hl y) (by omega) (λ i e hi j d hd=>by
        simp only [List.getElem?_map,Option.map_eq_some_iff] at hi
        obtain ⟨y,hy,rfl⟩:=hi
        obtain ⟨v,hv,_⟩:=hcell' i y hy j d hd
        simp only [hv,Option.getD_some]) (λ i e hi j d hd=>by
        simp only [List.getElem?_map,Option.map_eq_some_iff] at hi
        obtain ⟨y,hy,rfl⟩:=hi
        obtain ⟨v,hv,hr⟩:=hcell' i y hy j d hd
        simp only [hv,Option.getD_some]
        exact hr)
      rw [hlen] at this
      exact this
    ·cases hv0
theorem Ds {F:Nat->Option Obj} {l m:List D} {cs:List Value} {o n:Nat} (h:CRd F l ((cs.drop o).take n)) (hn:Nat.beq l.length n=true) (h':CRd F m (cs.drop (o+n))):CRd F (l++m) (cs.drop o):=by
 have hn:=Nat.eq_of_beq_eq_true hn
 have e:cs.drop o=(cs.drop o).take n++cs.drop (o+n):=by rw [← List.drop_drop,List.take_append_drop]
 rw [e]
 refine ⟨by simp only [List.length_append,h.1,h'.1],λ i y v hy hv=>?_⟩
 rcases Nat.lt_or_ge i l.length with hlt|hge
 ·rw [List.getElem?_append_left hlt] at hy
  rw [List.getElem?_append_left (by rw [← h.1];exact hlt)] at hv
  exact h.2 i y v hy hv
 ·rw [List.getElem?_append_right hge] at hy
  rw [List.getElem?_append_right (by rw [← h.1];exact hge),← h.1] at hv
  exact h'.2 _ y v hy hv
theorem Re {F:Nat->Option Obj} {cs:List Value} {o:Nat} (h:cs.length≤o):CRd F [] (cs.drop o):=by
 rw [List.drop_eq_nil_of_le h];exact ⟨rfl,λ i y v hy=>by simp at hy⟩
theorem X5 {H:Type} {enc:TypeId×Value->H} {P:Program} {w:World} {base:Nat} {spare:Nat->Bool} {held:Bool} {fuel:Nat} {t e:TypeId} {n:Nat} {cs:List Value} {x:DataW H×List MemPlace} (ht:P.underlying t=some (.array n e)) (h:DataW.trod enc P w base spare held fuel t cs=some x) :
  ∃ m,cs.length=P.cellsOf t∧∀ i,i<n->∃ y,DataW.trod enc P w base spare held m e ((cs.drop (i*P.cellsOf e)).take (P.cellsOf e))=some y:=by
 cases fuel with
 | zero=>simp [DataW.trod] at h
 | succ m=>
  unfold DataW.trod at h
  rw [ht] at h
  split at h<;>simp_all
  obtain ⟨xs,hp,_⟩:=h.2
  refine ⟨m,λ i hi=>?_⟩
  obtain ⟨g1,g2⟩:=WU hp
  have:=g2 i i (by simp [hi])
  have hlt:i<xs.length:=by rw [g1];simpa using hi
  rw [List.getElem?_eq_getElem hlt] at this
  exact ⟨_,_,this.symm⟩
end Go.AI
end
section
namespace Go.AI
open Go.ChangeShapes Go.WideShapes Go.ChangeAt Go.RowKit
variable {P:Program} {H:Type} {en:TypeId×Value->H} {W W':World} {base:Nat} {spare:Nat->Bool} {held:Bool} {t e:TypeId} {v:Value} {d:DataW H} {ps:List MemPlace} {α:Type} {enc:α->List D} {ok:α->Prop}
theorem YP {cs:Array Value} (hv:v=.agg cs) (hd:DataW.Trod en P W base spare held t v d ps) (hr:IT P t enc ok):∃ a,ok a∧Ah (λ b=>W.heap[b]?) noR (.agg ((enc a).map .d)) v:=by
 subst hv
 obtain ⟨fuel,hf⟩:=hd
 obtain ⟨a,h1,h2,h3⟩:=hr H en W base spare held fuel _ _ hf
 refine ⟨a,h1,.agg _ _ (by simpa [Value.cells] using h2) λ i x u hx hu=>?_⟩
 simp only [List.getElem?_map,Option.map_eq_some_iff] at hx
 obtain ⟨y,hy,rfl⟩:=hx
 exact .d _ _ (h3 i y u hy (by simpa [Value.cells] using hu))
theorem JeT {y:α->D} (hc:v.cells=#[v]) (hd:DataW.Trod en P W base spare held t v d ps) (hr:IT P t enc ok) (he:∀ a,enc a=[y a]):∃ a,ok a∧Ah (λ b=>W.heap[b]?) noR (.d (y a)) v:=by
 obtain ⟨fuel,hf⟩:=hd
 obtain ⟨a,h1,h2,h3⟩:=hr H en W base spare held fuel _ _ hf
 refine ⟨a,h1,.d _ _ (h3 0 (y a) v (by rw [he];rfl) (by rw [hc];rfl))⟩
theorem JiQ {F:Nat->Option Obj} {ρ:Nat->Option Loc}:CR F ρ [] []:=⟨rfl,λ i a v h=>by simp at h⟩
theorem Vl {F:Nat->Option Obj} {ρ:Nat->Option Loc} {a:AV} {v:Value} {l:List AV} {vs:List Value} (h:Ah F ρ a v) (h':CR F ρ l vs):CR F ρ (a::l) (v::vs):=by
 refine ⟨by simp [h'.1],λ i x u hx hu=>?_⟩
 cases i with
 | zero=>simp at hx hu;subst hx;subst hu;exact h
 | succ i=>exact h'.2 i x u (by simpa using hx) (by simpa using hu)
theorem fld {w:World} {fuel:Nat} {cs:List Value} {fs:Array Field} {xs:List (DataW H×List MemPlace)} (hg:∀ (i:Nat) (f:Field),fs[i]? = some f->DataW.trod en P w base spare held fuel f.type ((cs.drop f.offset).take (P.cellsOf f.type))=xs[i]?) (hxl:xs.length=fs.size) (i:Nat) {f:Field} (hf:fs[i]? = some f) (u o n:Nat) (hu:f.type=u) (ho:f.offset=o) (hn:P.cellsOf u=n) (hr:IT P u enc ok) :
  ∃ a,ok a∧CRd (λ b=>w.heap[b]?) (enc a) ((cs.drop o).take n):=by
 have:=hg i f hf
 have hi:i<xs.length:=by rw [hxl];exact Ao hf
 rw [List.getElem?_eq_getElem hi,hu,ho,hn] at this
 exact hr H en w base spare held fuel _ _ this
theorem Jkl {w:World} {fuel:Nat} {cs:List Value} {m:Nat} (hg:∀ i,i<m->∃ y,DataW.trod en P w base spare held fuel e ((cs.drop (i*P.cellsOf e)).take (P.cellsOf e))=some y) (i:Nat) (hi:Nat.ble (i+1) m=true) (o n:Nat) (hn:P.cellsOf e=n) (ho:i*n=o) (hr:IT P e enc ok) :
  ∃ a,ok a∧CRd (λ b=>w.heap[b]?) (enc a) ((cs.drop o).take n):=by
 obtain ⟨y,hy⟩:=hg i (Nat.le_of_ble_eq_true hi)
 rw [hn,ho] at hy
 exact hr H en w base spare held fuel _ _ hy
theorem Jc6 {f:FuncId} {args:List AV} {vs:Array Value} (hc:AF P f args (.d (.bool true))) (hcr:CR (λ b=>W.heap[b]?) noR args vs.toList):Calls P f vs W λ e W'=>e=.returned (.bool true)∧(∀ before:List MemPlace,W.keptBut W' (·∈before))∧∀ b,b<W.heap.size->W'.heap[b]? = W.heap[b]? := by
 refine (hc.2 (λ b=>W.heap[b]?) W vs hcr λ b o h=>h).mono λ e W' h=>?_
 obtain ⟨v,F',ρ,rfl,hS,hr,hmu⟩:=h
 have hv:v=.bool true:=by
  have:(BS true 0 (.d (.bool true))).1=.d (.bool true):=rfl
  rw [this] at hr
  exact hr.bool
 subst hv
 have hold:∀ b,b<W.heap.size->W'.heap[b]? = W.heap[b]? := λ b hb=>hS.old b (by omega)
 refine ⟨rfl,λ before=>World.keptBut_mono (λ p hp=>hp.elim) (?_:W.keptBut W' λ _=>False),hold⟩
 refine ⟨hmu.1,hmu.2.1,λ i hi=>?_⟩
 rw [hold i hi]
 cases hh:W.heap[i]? with
 | none=>rfl
 | some o=>cases o<;>first|exact ⟨rfl,rfl,rfl,λ _ _=>rfl⟩|exact .inr ⟨rfl,rfl⟩|rfl
theorem Z0 {f:Func} {s:ChangeSpec} {apart fresh handsOn again:Bool} {args:Array Value} {ds gs:List (DataW H)} {before pa pv:List MemPlace}
  (hW:DataW.Whole en P f.params.toList s.vars apart W args.toList ds gs before)
  (hres:∀ (b:Nat) (sp:Nat->Bool) (hd:Bool),DataW.TrodAll en P W' b sp hd f.resultTypes.toList (v.resultList f.resultTypes.size) (s.fn H (ds++gs)).results [])
  (hargs:∀ sp:Nat->Bool,(∀ p∈before,sp p.block=true)->DataW.TrodAll en P W' 0 sp true f.params.toList args.toList (s.fn H (ds++gs)).args pa)
  (hvars:∀ sp:Nat->Bool,(∀ p∈before,sp p.block=true)->DataW.TrodVars en P W' sp s.vars (s.fn H (ds++gs)).vars pv)
  (hps:before=pa++pv) (hk:W.keptBut W' (·∈before)) (hold:∀ b,b<W.heap.size->W'.heap[b]? = W.heap[b]?)
  (hok:∀ (j:Nat) (t:TypeId) (r:Value),f.resultTypes[j]? = some t->(v.resultList f.resultTypes.size)[j]? = some r->Value.okWide P W' .any 0 t r) :
  s.post en P f apart fresh handsOn again W args v W':=by
 have hin:∀ p∈before,(λ b=>decide (b<W.heap.size)) p.block=true:=λ p hp=>by simpa using hW.lt p hp
 have hlt:=hW.lt
 refine ⟨ds,gs,before,[],pa,pv,hW,hres _ _ _,hargs _ hin,hvars _ hin,World.keptBut_mono (λ p hp=>⟨hp,?_⟩) hk,λ _=>?_⟩
 ·rw [hps,List.mem_append] at hp
  exact Or.inr hp
 ·obtain ⟨_,_,_,_,_,hz,hn⟩:=hW
  refine ⟨hok,_,_,([]++pa)++pv,⟨[]++pa,pv,trodAll_append (hargs _ (λ _ _=>rfl)) (hres _ _ _),hvars _ (λ _ _=>rfl),rfl,?_,?_⟩,?_⟩
  ·intro b off hp
   have hp:MemPlace.cell b off∈before:=by rw [hps];simpa using hp
   have:=hz b off hp
   simp only [World.frozen?,hold b (hlt _ hp)] at this ⊢
   exact this
  ·intro ha
   have:=hn ha
   rw [hps] at this
   simpa using this
  ·intro p hp _
   rw [hps]
   simpa using hp
theorem Jc7 (hl:laidOutB P=true) (hr:P.readableRec t=true) (hrow:t<P.types.size) (h:DataW.Trod en P W 0 (λ _=>true) true t v d ps) (hb:∀ p∈ps,p.block<W.heap.size) {sp:Nat->Bool} (hs:∀ p∈ps,sp p.block=true) (hold:∀ b,b<W.heap.size->W'.heap[b]? = W.heap[b]?):DataW.Trod en P W' 0 sp true t v d ps:=by
 refine WideElems.Trod_stays hl hr hrow h (λ p hp=>?_) hs
 have:=hb p hp
 cases p with
 | cell b o=>exact World.cell?_of_block (w:=W) (hold b this)
 | map b=>exact hold b this
end Go.AI
end
section
namespace Go.AI
open Go.Proofs Go.ChangeShapes Go.WideShapes Go.ChangeAt Go.RowKit
def okI (k:IntKind) (n:Int):Prop:=(Lit.int k n).wf=true
theorem rd5:IT Try.prog 5 eU8 (okI .u8):=ZZ Try.underlying5
theorem JeU:IT Try.prog 25 (eL eU8) (λ l=>∀ a∈l,okI .u8 a):=QD (sz:=1) Try.underlying25 (by kernel_rfl) rfl (λ _=>rfl) rd5
theorem JkX:IT Try.prog 69 (Jj2 eU8) (λ x=>okI .u8 x.a0∧okI .u8 x.a1):=by
 intro H e w base spare held fuel cs x h
 obtain ⟨m,hcl,hg⟩:=X5 Try.underlying69 h
 have hcl:cs.length=2:=hcl.trans (by kernel_rfl)
 obtain ⟨a0,k0,c0⟩:=Jkl hg 0 rfl 0 1 (by kernel_rfl) rfl rd5
 obtain ⟨a1,k1,c1⟩:=Jkl hg 1 rfl 1 1 (by kernel_rfl) rfl rd5
 refine ⟨⟨a0,a1⟩,⟨k0,k1⟩,?_⟩
 have:=Ds c0 rfl (Ds c1 rfl (Re (Nat.le_of_eq hcl)))
 exact this
def Kw (x:Dp):Prop:=(∀ a∈x.P,okI .u8 a)∧(∀ a∈x.C,okI .u8 a)∧okI .u8 x.L∧okI .u8 x.R∧(okI .u8 x.W.a0∧okI .u8 x.W.a1)
theorem JkY:IT Try.prog 71 FB Kw:=by
 intro H e w base spare held fuel cs x h
 obtain ⟨xs,n,_,_,hcl,hxl,hg⟩:=DataW.trod_struct Try.underlying71 h
 have hcl:cs.length=6:=hcl.trans (by kernel_rfl)
 obtain ⟨a0,k0,c0⟩:=fld hg hxl 0 rfl 25 0 1 rfl rfl (by kernel_rfl) JeU
 obtain ⟨a1,k1,c1⟩:=fld hg hxl 1 rfl 25 1 1 rfl rfl (by kernel_rfl) JeU
 obtain ⟨a2,k2,c2⟩:=fld hg hxl 2 rfl 5 2 1 rfl rfl (by kernel_rfl) rd5
 obtain ⟨a3,k3,c3⟩:=fld hg hxl 3 rfl 5 3 1 rfl rfl (by kernel_rfl) rd5
 obtain ⟨a4,k4,c4⟩:=fld hg hxl 4 rfl 69 4 2 rfl rfl (by kernel_rfl) JkX
 refine ⟨⟨a0,a1,a2,a3,a4⟩,⟨k0,k1,k2,k3,k4⟩,?_⟩
 have:=Ds c0 rfl (Ds c1 rfl (Ds c2 rfl (Ds c3 rfl (Ds c4 rfl (Re (Nat.le_of_eq hcl))))))
 exact this
theorem JkZ:IT Try.prog 22 (eL FB) (λ l=>∀ a∈l,Kw a):=QD (sz:=6) Try.underlying22 (by kernel_rfl) rfl (λ _=>rfl) JkY
def X6 (x:MX):Prop:=okI .u8 x.Base∧okI .u8 x.Drop∧(∀ a∈x.More,Kw a)
theorem Jk0:IT Try.prog 24 Jj3 X6:=by
 intro H e w base spare held fuel cs x h
 obtain ⟨xs,n,_,_,hcl,hxl,hg⟩:=DataW.trod_struct Try.underlying24 h
 have hcl:cs.length=3:=hcl.trans (by kernel_rfl)
 obtain ⟨a0,k0,c0⟩:=fld hg hxl 0 rfl 5 0 1 rfl rfl (by kernel_rfl) rd5
 obtain ⟨a1,k1,c1⟩:=fld hg hxl 1 rfl 5 1 1 rfl rfl (by kernel_rfl) rd5
 obtain ⟨a2,k2,c2⟩:=fld hg hxl 2 rfl 22 2 1 rfl rfl (by kernel_rfl) JkZ
 refine ⟨⟨a0,a1,a2⟩,⟨k0,k1,k2⟩,?_⟩
 have:=Ds c0 rfl (Ds c1 rfl (Ds c2 rfl (Re (Nat.le_of_eq hcl))))
 exact this
def IU (x:BK):Prop:=okI .u8 x.At∧okI .u8 x.Cut∧(∀ a∈x.L,okI .u8 a)
theorem Jk1:IT Try.prog 54 PG IU:=by
 intro H e w base spare held fuel cs x h
 obtain ⟨xs,n,_,_,hcl,hxl,hg⟩:=DataW.trod_struct Try.underlying54 h
 have hcl:cs.length=3:=hcl.trans (by kernel_rfl)
 obtain ⟨a0,k0,c0⟩:=fld hg hxl 0 rfl 5 0 1 rfl rfl (by kernel_rfl) rd5
 obtain ⟨a1,k1,c1⟩:=fld hg hxl 1 rfl 5 1 1 rfl rfl (by kernel_rfl) rd5
 obtain ⟨a2,k2,c2⟩:=fld hg hxl 2 rfl 25 2 1 rfl rfl (by kernel_rfl) JeU
 refine ⟨⟨a0,a1,a2⟩,⟨k0,k1,k2⟩,?_⟩
 have:=Ds c0 rfl (Ds c1 rfl (Ds c2 rfl (Re (Nat.le_of_eq hcl))))
 exact this
end Go.AI
end
section
namespace Go.AI
def Le {α:Type} (a b:Option α):Prop:=∀ z,a=some z->b=some z
theorem Le.refl {α:Type} (a:Option α):Le a a:=λ _ h=>h
theorem Le.bind {α β:Type} {a a':Option α} {f f':α->Option β} (h:Le a a') (hf:∀ x,Le (f x) (f' x)):Le (a.bind f) (a'.bind f'):=by
 intro z hz
 obtain ⟨x,h1,h2⟩:=bind_some hz
 rw [h x h1]
 exact hf x z h2
theorem Le.ite {α:Type} {c:Prop} [Decidable c] {a a' b b':Option α} (h:Le a a') (h':Le b b'):Le (if c then a else b) (if c then a' else b'):=by
 split
 ·exact h
 ·exact h'
theorem Le.whl {σ ρ:Type} {body body':σ->Option (σ⊕ρ)} (hb:∀ x,Le (body x) (body' x)):∀ {n m:Nat},n≤m->∀ x,Le (whl body n x) (whl body' m x):=by
 intro n
 induction n with
 | zero=>intro m _ x z hz;cases hz
 | succ n ih=>
  intro m hm x z hz
  cases m with
  | zero=>omega
  | succ m=>
   simp only [Go.AI.whl] at hz ⊢
   cases hx:body x with
   | none=>rw [hx] at hz;cases hz
   | some y=>
    rw [hb x y hx]
    rw [hx] at hz
    cases y with
    | inl y=>exact ih (by omega) y z hz
    | inr r=>exact hz
theorem Le.sum {α β γ:Type} {y:α⊕β} {f f':α->Option γ} {g g':β->Option γ} (hf:∀ a,Le (f a) (f' a)) (hg:∀ b,Le (g b) (g' b)):Le (match y with | .inl a=>f a | .inr b=>g b) (match y with | .inl a=>f' a | .inr b=>g' b):=by
 cases y with
 | inl a=>exact hf a
 | inr b=>exact hg b
def Ev {α:Type} (f:Nat->Option α) (z:α):Prop:=∃ n,∀ m,n≤m->f m=some z
theorem Ev.const {α:Type} {z:α}:Ev (λ _=>some z) z:=⟨0,λ _ _=>rfl⟩
theorem Ev.of {α:Type} {f:Nat->Option α} {z:α} (hm:∀ n m,n≤m->Le (f n) (f m)) {n:Nat} (h:f n=some z):Ev f z:=⟨n,λ m hnm=>hm n m hnm z h⟩
theorem Ev.all {α:Type} {f:Nat->Option α} {z:α} (h:∀ n,f n=some z):Ev f z:=⟨0,λ m _=>h m⟩
theorem Ev.bind {α β:Type} {f:Nat->Option α} {g:Nat->α->Option β} {x:α} {z:β} (h:Ev f x) (hg:Ev (λ n=>g n x) z):Ev (λ n=>(f n).bind (g n)) z:=by
 obtain ⟨n,hn⟩:=h
 obtain ⟨m,hm⟩:=hg
 refine ⟨max n m,λ k hk=>?_⟩
 show (f k).bind (g k)=_
 rw [hn k (by omega)]
 exact hm k (by omega)
theorem Ev.out {α:Type} {f:Nat->Option α} {z:α} (h:Ev f z):∃ n,f n=some z:=by
 obtain ⟨n,hn⟩:=h
 exact ⟨n,hn n (Nat.le_refl n)⟩
theorem Ev.congr {α:Type} {f g:Nat->Option α} {z:α} (h:Ev f z) (e:∀ n,g n=f n):Ev g z:=by
 obtain ⟨n,hn⟩:=h
 exact ⟨n,λ m hm=>by rw [e m];exact hn m hm⟩
theorem Ev.whl {σ ρ:Type} {body:Nat->σ->Option (σ⊕ρ)} {r:ρ} (I:Nat->σ->Prop) (h:∀ k x,I k x->(∃ y j,j<k∧I j y∧Ev (λ n=>body n x) (.inl y))∨Ev (λ n=>body n x) (.inr r)):∀ (k:Nat) (x:σ),I k x->Ev (λ n=>Go.AI.whl (body n) n x) r:=by
 have key:∀ (k:Nat) (x:σ),I k x->∃ N c,∀ n fuel,N≤n->c≤fuel->Go.AI.whl (body n) fuel x=some r:=by
  intro k
  induction k using Nat.strongRecOn with
  | _ k ih=>
   intro x hx
   rcases h k x hx with ⟨y,j,hj,hy,N1,h1⟩|⟨N1,h1⟩
   ·obtain ⟨N2,c,h2⟩:=ih j hj y hy
    refine ⟨max N1 N2,c+1,λ n fuel hn hf=>?_⟩
    cases fuel with
    | zero=>omega
    | succ fuel=>
     have e:=h1 n (by omega)
     simp only at e
     simp only [Go.AI.whl,e]
     exact h2 n fuel (by omega) (by omega)
   ·refine ⟨N1,1,λ n fuel hn hf=>?_⟩
    cases fuel with
    | zero=>omega
    | succ fuel=>
     have e:=h1 n hn
     simp only at e
     simp only [Go.AI.whl,e]
 intro k x hx
 obtain ⟨N,c,hh⟩:=key k x hx
 exact ⟨max N c,λ m hm=>hh m m (by omega) (by omega)⟩
end Go.AI
end
section
namespace Go.AI
theorem lr {α:Type} {x:Option α}:Le x x:=Le.refl x
theorem PY {n m} (_:n≤m) (a b):Le (GJ n a b) (GJ m a b):=.ite (.bind lr λ _=>.bind lr λ _=>.bind lr λ _=>lr) lr
theorem TB {n m} (h:n≤m):Le (Kc n) (Kc m):=.bind (Le.whl (λ _=>PY h _ _) h _) λ _=>lr
theorem NZ {n m} (_:n≤m) (a):Le (DL n a) (DL m a):=lr
theorem SP {n m} (h:n≤m) (a b):Le (Fq n a b) (Fq m a b):=.ite (.bind lr λ _=>.bind (NZ h _) λ _=>.ite lr lr) lr
theorem IV {n m} (h:n≤m) (a):Le (FO n a) (FO m a):=.bind (Le.whl (λ _=>SP h _ _) h _) λ y2=>by rcases y2 with _|_;exact lr;exact lr
theorem Vm {n m} (_:n≤m):Le (JA n) (JA m):=lr
theorem Kx {n m} (_:n≤m) (a b):Le (Hr n a b) (Hr m a b):=.bind (Le.ite (lr) (lr)) λ _=>lr
theorem HD {n m} (_:n≤m) (a):Le (Eo n a) (Eo m a):=.ite lr (.ite lr (.ite lr (.ite lr lr)))
theorem Mh {n m} (h:n≤m) (a b c):Le (GV n a b c) (GV m a b c):=.ite lr (.bind lr λ _=>.bind (Le.ite (Kx h _ _) (lr)) λ _=>.ite lr (.ite (.ite lr lr) (.bind lr λ _=>.bind (HD h _) λ _=>.bind (Kx h _ _) λ _=>.ite lr (.bind lr λ _=>.bind (HD h _) λ _=>lr))))
theorem IW {n m} (_:n≤m) (a b c d):Le (Ci n a b c d) (Ci m a b c d):=lr
theorem IX {n m} (h:n≤m) (a b c d e f):Le (CL n a b c d e f) (CL m a b c d e f):=.bind lr λ _=>.bind lr λ _=>IW h _ _ _ _
theorem O6 {n m} (h:n≤m) (a b c d e f):Le (Bx n a b c d e f) (Bx m a b c d e f):=.ite (.bind lr λ _=>.bind (Mh h _ _ _) λ _=>.ite (IW h _ _ _ _) (.ite (.bind lr λ _=>.bind lr λ _=>IX h _ _ _ _ _ _) (IX h _ _ _ _ _ _))) lr
theorem O7 {n m} (h:n≤m) (a b c d e):Le (Cj n a b c d e) (Cj m a b c d e):=.ite (.bind (Le.whl (λ _=>O6 h _ _ _ _ _ _) h _) λ _=>lr) lr
theorem SQ {n m} (h:n≤m) (a):Le (Fr n a) (Fr m a):=.bind (Vm h) λ _=>.bind (Le.whl (λ _=>O7 h _ _ _ _ _) h _) λ _=>lr
theorem Ny {n m} (h:n≤m) (a):Le (Gx n a) (Gx m a):=.bind (SQ h _) λ _=>lr
theorem Mi {n m} (h:n≤m) (a b):Le (Ea n a b) (Ea m a b):=.bind (Le.ite (Kx h _ _) (lr)) λ _=>.bind (Le.ite (Kx h _ _) (lr)) λ _=>lr
theorem PZ {n m} (_:n≤m) (a b):Le (EK n a b) (EK m a b):=.bind (Le.ite (lr) (lr)) λ _=>lr
theorem JO {n m} (h:n≤m) (a b):Le (DS n a b) (DS m a b):=.bind (PZ h _ _) λ _=>lr
theorem N0 {n m} (_:n≤m) (a b c d):Le (BY n a b c d) (BY m a b c d):=.ite (.bind lr λ _=>lr) lr
theorem H1 {n m} (_:n≤m) (a b):Le (Cp n a b) (Cp m a b):=lr
theorem N3 {n m} (h:n≤m) (a b c d e f g):Le (BZ n a b c d e f g) (BZ m a b c d e f g):=.ite (.bind lr λ _=>.bind (Mh h _ _ _) λ _=>.ite (.bind lr λ _=>.bind lr λ _=>H1 h _ _) (H1 h _ _)) lr
theorem N4 {n m} (h:n≤m) (a b c d e):Le (Cq n a b c d e) (Cq m a b c d e):=.ite (.bind lr λ _=>.bind (Mi h _ _) λ _=>.bind lr λ _=>.bind lr λ _=>.bind (Le.whl (λ _=>N3 h _ _ _ _ _ _ _) h _) λ _=>lr) lr
theorem Lg {n m} (h:n≤m) (a):Le (DD n a) (DD m a):=.bind (Ny h _) λ _=>.bind (Le.whl (λ _=>N0 h _ _ _ _) h _) λ _=>.bind lr λ _=>.bind lr λ _=>.bind (Le.whl (λ _=>N4 h _ _ _ _ _) h _) λ _=>lr
theorem Ky {n m} (_:n≤m) (a b c d e f):Le (BD n a b c d e f) (BD m a b c d e f):=.ite (.bind lr λ _=>.bind lr λ _=>.bind lr λ _=>lr) lr
theorem Hm {n m} (h:n≤m) (a b):Le (B7 n a b) (B7 m a b):=.bind lr λ _=>.bind lr λ _=>.bind lr λ _=>.bind (Le.whl (λ _=>Ky h _ _ _ _ _ _) h _) λ _=>lr
theorem G8 {n m} (_:n≤m) (a b c d e):Le (C3 n a b c d e) (C3 m a b c d e):=lr
theorem SR {n m} (_:n≤m) (a b c d e f):Le (Fs n a b c d e f) (Fs m a b c d e f):=.bind lr λ _=>.bind lr λ _=>.ite lr (.bind lr λ _=>.bind lr λ _=>.bind lr λ _=>lr)
theorem EZ {n m} (_:n≤m) (a b c d e):Le (Br n a b c d e) (Br m a b c d e):=.bind (Le.ite (lr) (lr)) λ _=>.bind (Le.ite (lr) (lr)) λ _=>.ite lr (.bind lr λ _=>.bind lr λ _=>lr)
theorem JP {n m} (_:n≤m) (a b):Le (C6 n a b) (C6 m a b):=lr
theorem P0 {n m} (h:n≤m) (a b c d):Le (CD n a b c d) (CD m a b c d):=.ite (.bind lr λ _=>.ite (JP h _ _) (JP h _ _)) lr
theorem JQ {n m} (_:n≤m) (a b):Le (C7 n a b) (C7 m a b):=lr
theorem P1 {n m} (h:n≤m) (a b c d):Le (CE n a b c d) (CE m a b c d):=.ite (.bind lr λ _=>.ite (.bind lr λ _=>.bind lr λ _=>JQ h _ _) (JQ h _ _)) lr
theorem TC {n m} (h:n≤m) (a b):Le (HR n a b) (HR m a b):=.bind (Le.whl (λ _=>P0 h _ _ _ _) h _) λ _=>.bind (Le.whl (λ _=>P1 h _ _ _ _) h _) λ _=>lr
theorem EC {n m} (_:n≤m) (a b):Le (Bn n a b) (Bn m a b):=lr
theorem Ii {n m} (h:n≤m) (a b c d e f g i):Le (A9 n a b c d e f g i) (A9 m a b c d e f g i):=.ite (.bind lr λ _=>.bind lr λ _=>.bind (Le.ite (lr) (lr)) λ _=>.ite (.bind lr λ _=>.bind lr λ _=>EC h _ _) (EC h _ _)) lr
theorem ED {n m} (_:n≤m) (a b):Le (Bo n a b) (Bo m a b):=lr
theorem Ij {n m} (h:n≤m) (a b c d e f g i j k):Le (Ba n a b c d e f g i j k) (Ba m a b c d e f g i j k):=.ite (.bind lr λ _=>.bind (Le.ite (lr) (lr)) λ _=>.bind (Le.ite (JO h _ _) (lr)) λ _=>.ite (.bind (SR h _ _ _ _ _ _) λ _=>.bind (EZ h _ _ _ _ _) λ _=>ED h _ _) (ED h _ _)) lr
theorem Ik {n m} (h:n≤m) (a b c d e f g i):Le (Bb n a b c d e f g i) (Bb m a b c d e f g i):=.ite (.bind lr λ _=>.bind (Le.whl (λ _=>Ij h _ _ _ _ _ _ _ _ _ _) h _) λ _=>lr) lr
theorem B5 {n m} (_:n≤m) (a b c):Le (A5 n a b c) (A5 m a b c):=lr
theorem Il {n m} (h:n≤m) (a b c d e f g i j k):Le (Bc n a b c d e f g i j k) (Bc m a b c d e f g i j k):=.ite (.bind lr λ _=>.bind (Le.ite (lr) (lr)) λ _=>.ite (.bind (EZ h _ _ _ _ _) λ _=>.ite (B5 h _ _ _) (B5 h _ _ _)) (.ite (B5 h _ _ _) (B5 h _ _ _))) lr
theorem Im {n m} (h:n≤m) (a b c d e f g i):Le (Bd n a b c d e f g i) (Bd m a b c d e f g i):=.ite (.bind lr λ _=>.bind (Le.whl (λ _=>Il h _ _ _ _ _ _ _ _ _ _) h _) λ _=>lr) lr
theorem Io {n m} (h:n≤m) (a b c d e f g):Le (Bp n a b c d e f g) (Bp m a b c d e f g):=.ite (.bind (Le.whl (λ _=>Im h _ _ _ _ _ _ _ _) h _) λ _=>lr) lr
theorem FV {n m} (h:n≤m) (a b c d e f):Le (BE n a b c d e f) (BE m a b c d e f):=.bind lr λ _=>.bind (Le.whl (λ _=>Ii h _ _ _ _ _ _ _ _) h _) λ _=>.bind (Le.whl (λ _=>Ik h _ _ _ _ _ _ _ _) h _) λ _=>.bind (Le.whl (λ _=>Io h _ _ _ _ _ _ _) h _) λ _=>.bind (TC h _ _) λ _=>lr
theorem QY {n m} (h:n≤m) (a b c d e f):Le (Hs n a b c d e f) (Hs m a b c d e f):=.ite (.bind (FV h _ _ _ _ _ _) λ _=>.bind lr λ _=>.bind lr λ _=>lr) lr
theorem Kz {n m} (h:n≤m) (a b):Le (HI n a b) (HI m a b):=.bind (IV h _) λ _=>.ite lr (.bind (Lg h _) λ _=>.bind (Hm h _ _) λ _=>.bind (G8 h _ _ _ _ _) λ _=>.bind (Le.whl (λ _=>QY h _ _ _ _ _ _) h _) λ _=>.bind lr λ _=>lr)
theorem Mj {n m} (_:n≤m) (a b c):Le (BV n a b c) (BV m a b c):=.ite (.bind lr λ _=>.ite lr lr) lr
theorem O8 {n m} (h:n≤m) (a b):Le (Dq n a b) (Dq m a b):=.ite lr (.bind (Le.whl (λ _=>Mj h _ _ _) h _) λ y30=>by rcases y30 with _|_;exact lr;exact lr)
theorem Jj {n m} (_:n≤m) (a b c d):Le (Bs n a b c d) (Bs m a b c d):=.ite (.bind lr λ _=>.bind lr λ _=>.ite lr lr) lr
theorem Lu {n m} (h:n≤m) (a b c):Le (B8 n a b c) (B8 m a b c):=.ite lr (.bind (Le.whl (λ _=>Jj h _ _ _ _) h _) λ y33=>by rcases y33 with _|_;exact lr;exact lr)
theorem H2 {n m} (_:n≤m) (a b c):Le (Cr n a b c) (Cr m a b c):=lr
theorem N5 {n m} (h:n≤m) (a b c d e f g i j):Le (Cs n a b c d e f g i j) (Cs m a b c d e f g i j):=.ite (.bind lr λ _=>.bind lr λ _=>.bind (Lu h _ _ _) λ _=>.ite lr (.bind lr λ _=>.bind (Le.ite (lr) (lr)) λ _=>.ite (H2 h _ _ _) (.bind lr λ _=>.bind lr λ _=>.ite lr (H2 h _ _ _)))) lr
theorem QZ {n m} (h:n≤m) (a b c d e f):Le (Ep n a b c d e f) (Ep m a b c d e f):=.bind (Le.whl (λ _=>N5 h _ _ _ _ _ _ _ _ _) h _) λ y36=>by rcases y36 with _|_;exact lr;exact lr
theorem P2 {n m} (_:n≤m) (a b c d e f g i):Le (CF n a b c d e f g i) (CF m a b c d e f g i):=.ite (.bind lr λ _=>.bind lr λ _=>.bind lr λ _=>.bind lr λ _=>.bind lr λ _=>.bind lr λ _=>lr) lr
theorem JR {n m} (_:n≤m) (a b c d):Le (C8 n a b c d) (C8 m a b c d):=lr
theorem P3 {n m} (h:n≤m) (a b c d e f g i j):Le (C9 n a b c d e f g i j) (C9 m a b c d e f g i j):=.ite (.bind (FV h _ _ _ _ _ _) λ _=>.bind lr λ _=>.bind lr λ _=>.ite (JR h _ _ _ _) (.bind (QZ h _ _ _ _ _ _) λ _=>.ite lr (JR h _ _ _ _))) lr
theorem JS {n m} (_:n≤m) (a b c):Le (Da n a b c) (Da m a b c):=lr
theorem P4 {n m} (h:n≤m) (a b c d e f g):Le (CG n a b c d e f g) (CG m a b c d e f g):=.ite (.bind lr λ _=>.bind lr λ _=>.bind lr λ _=>.bind lr λ _=>.bind lr λ _=>.bind lr λ _=>.bind lr λ _=>.ite (.bind lr λ _=>.bind lr λ _=>.bind lr λ _=>JS h _ _ _) (JS h _ _ _)) lr
theorem Jk {n m} (h:n≤m) (a b c):Le (CM n a b c) (CM m a b c):=.ite lr (.bind lr λ _=>.bind lr λ _=>.bind lr λ _=>.bind lr λ _=>.bind (IV h _) λ _=>.ite lr (.bind (Lg h _) λ _=>.bind (O8 h _ _) λ _=>.ite lr (.bind (Hm h _ _) λ _=>.bind (Le.whl (λ _=>P2 h _ _ _ _ _ _ _ _) h _) λ _=>.bind (G8 h _ _ _ _ _) λ _=>.bind (Le.whl (λ _=>P3 h _ _ _ _ _ _ _ _ _) h _) λ _=>.bind (Le.whl (λ _=>P4 h _ _ _ _ _ _ _) h _) λ _=>.bind lr λ _=>lr)))
theorem N6 {n m} (h:n≤m) (a b):Le (E6 n a b) (E6 m a b):=.ite (.bind lr λ _=>.bind (HD h _) λ _=>.ite lr lr) lr
theorem Q0 {n m} (h:n≤m) (a):Le (Ht n a) (Ht m a):=.bind (Le.whl (λ _=>N6 h _ _) h _) λ y42=>by rcases y42 with _|_;exact lr;exact lr
theorem Vn {n m} (_:n≤m) (a):Le (Mz n a) (Mz m a):=lr
theorem Q1 {n m} (h:n≤m) (a b):Le (Hu n a b) (Hu m a b):=.ite (.bind lr λ _=>.bind (Vn h _) λ _=>.ite lr lr) lr
theorem Vo {n m} (h:n≤m) (a b):Le (MA n a b) (MA m a b):=.ite lr (.bind (IV h _) λ _=>.ite lr (.ite lr (.ite lr (.bind (Q0 h _) λ _=>.ite (.bind (Le.ite (lr) (lr)) λ _=>lr) (.bind (Le.whl (λ _=>Q1 h _ _) h _) λ y45=>by rcases y45 with _|_;exact lr;exact lr)))))
theorem Q2 {n m} (_:n≤m) (a b c):Le (Hv n a b c) (Hv m a b c):=.ite (.bind lr λ _=>.bind lr λ _=>.ite lr lr) lr
theorem Vp {n m} (h:n≤m) (a b):Le (MB n a b) (MB m a b):=.ite lr (.bind (Le.whl (λ _=>Q2 h _ _ _) h _) λ y48=>by rcases y48 with _|_;exact lr;exact lr)
theorem Vq {n m} (h:n≤m) (a b):Le (MC n a b) (MC m a b):=.bind (Le.ite (Vp h _ _) (lr)) λ _=>lr
theorem Q3 {n m} (h:n≤m) (a b c d e):Le (Hw n a b c d e) (Hw m a b c d e):=.ite (.bind lr λ _=>.bind (Vq h _ _) λ _=>.ite lr lr) lr
theorem Q4 {n m} (h:n≤m) (a b):Le (Hx n a b) (Hx m a b):=.ite (.bind lr λ _=>.bind (Vo h _ _) λ _=>.ite lr (.bind lr λ _=>.bind (Le.whl (λ _=>Q3 h _ _ _ _ _) h _) λ y51=>by rcases y51 with _|_;exact lr;exact lr)) lr
theorem Vr {n m} (h:n≤m) (a):Le (MD n a) (MD m a):=.ite lr (.bind (Le.ite (lr) (lr)) λ _=>.ite lr (.ite lr (.bind (Le.whl (λ _=>Q4 h _ _) h _) λ y54=>by rcases y54 with _|_;exact lr;exact lr)))
theorem Vs {n m} (h:n≤m) (a):Le (ME n a) (ME m a):=.bind (Vr h _) λ _=>lr
theorem IY {n m} (_:n≤m) (a):Le (Eb n a) (Eb m a):=lr
theorem P5 {n m} (h:n≤m) (a b):Le (GK n a b) (GK m a b):=.bind (IY h _) λ _=>.bind (Le.ite (IY h _) (lr)) λ _=>lr
theorem JT {n m} (_:n≤m) (a):Le (EL n a) (EL m a):=lr
theorem GA {n m} (h:n≤m) (a b c d):Le (BQ n a b c d) (BQ m a b c d):=.ite (.bind lr λ _=>.bind (P5 h _ _) λ _=>.ite lr lr) lr
theorem HE {n m} (h:n≤m) (a b):Le (Cc n a b) (Cc m a b):=.bind (Le.whl (λ _=>GA h _ _ _ _) h _) λ _=>.bind (Le.ite (lr) (lr)) λ _=>.bind (Le.ite (lr) (lr)) λ _=>.bind (Le.ite (JT h _) (lr)) λ _=>.bind (Le.ite (JT h _) (lr)) λ _=>lr
theorem Ff {n m} (h:n≤m) (a b):Le (CV n a b) (CV m a b):=.bind (HE h _ _) λ _=>.ite lr (.bind lr λ _=>lr)
theorem M6 {n m} (_:n≤m) (a b c d e f):Le (Er n a b c d e f) (Er m a b c d e f):=.ite (.bind lr λ _=>lr) lr
theorem Hn {n m} (_:n≤m) (a b):Le (Dr n a b) (Dr m a b):=lr
theorem M7 {n m} (h:n≤m) (a b c d e f g):Le (Es n a b c d e f g) (Es m a b c d e f g):=.ite (.bind (Mh h _ _ _) λ _=>.ite (.bind lr λ _=>.bind lr λ _=>Hn h _ _) (Hn h _ _)) lr
theorem M8 {n m} (h:n≤m) (a b c d e):Le (Et n a b c d e) (Et m a b c d e):=.ite (.bind lr λ _=>.bind (Le.whl (λ _=>M7 h _ _ _ _ _ _ _) h _) λ _=>lr) lr
theorem P6 {n m} (h:n≤m) (a b):Le (GL n a b) (GL m a b):=.bind (Ny h _) λ _=>.bind lr λ _=>.bind (Le.whl (λ _=>M6 h _ _ _ _ _ _) h _) λ _=>.bind lr λ _=>.bind (Le.whl (λ _=>M8 h _ _ _ _ _) h _) λ _=>lr
theorem Gj {n m} (_:n≤m) (a b c d):Le (CN n a b c d) (CN m a b c d):=.bind lr λ _=>.bind lr λ _=>.bind lr λ _=>.ite (.bind lr λ _=>.bind lr λ _=>.bind lr λ _=>.bind lr λ _=>lr) lr
theorem D0 {n m} (h:n≤m) (a b c):Le (B9 n a b c) (B9 m a b c):=.bind lr λ _=>.bind lr λ _=>.bind (JO h _ _) λ _=>lr
theorem Jc8 {n m} (_:n≤m) (a):Le (YO n a) (YO m a):=lr
theorem KA {n m} (_:n≤m) (a b c):Le (De n a b c) (De m a b c):=.ite (.bind lr λ _=>.bind lr λ _=>.bind lr λ _=>lr) lr
theorem FW {n m} (_:n≤m) (a b c):Le (Cu n a b c) (Cu m a b c):=lr
theorem KB {n m} (h:n≤m) (a b c d e f g i):Le (Df n a b c d e f g i) (Df m a b c d e f g i):=.ite (.bind lr λ _=>.bind (D0 h _ _ _) λ _=>.ite (.bind (Gj h _ _ _ _) λ _=>FW h _ _ _) (FW h _ _ _)) lr
theorem FX {n m} (h:n≤m) (a b c d e f g):Le (Cv n a b c d e f g) (Cv m a b c d e f g):=.bind lr λ _=>.bind (Le.whl (λ _=>KB h _ _ _ _ _ _ _ _) h _) λ _=>lr
theorem KC {n m} (h:n≤m) (a b c d e f):Le (Dg n a b c d e f) (Dg m a b c d e f):=.bind lr λ _=>.ite (.bind lr λ _=>.bind lr λ _=>.bind lr λ _=>.bind lr λ _=>.ite (FX h _ _ _ _ _ _ _) (FX h _ _ _ _ _ _ _)) lr
theorem FY {n m} (h:n≤m) (a b c d e):Le (Cw n a b c d e) (Cw m a b c d e):=.bind (Le.whl (λ _=>KC h _ _ _ _ _ _) h _) λ _=>.bind lr λ _=>.bind (Jc8 h _) λ _=>.bind lr λ _=>.bind lr λ _=>.bind lr λ _=>lr
theorem KD {n m} (h:n≤m) (a b c d):Le (Dh n a b c d) (Dh m a b c d):=.ite (.ite (.bind lr λ _=>.bind (HD h _) λ _=>FY h _ _ _ _ _) (FY h _ _ _ _ _)) lr
theorem M9 {n m} (h:n≤m) (a):Le (Eu n a) (Eu m a):=.bind (Le.whl (λ _=>KA h _ _ _) h _) λ _=>.bind (Gj h _ _ _ _) λ _=>.bind (Le.whl (λ _=>KD h _ _ _ _) h _) λ _=>lr
theorem Dc {n m} (_:n≤m) (a b c):Le (BG n a b c) (BG m a b c):=lr
theorem Jl {n m} (h:n≤m) (a b c d e f g i):Le (CQ n a b c d e f g i) (CQ m a b c d e f g i):=.ite (.bind lr λ _=>.bind (D0 h _ _ _) λ _=>.ite (Dc h _ _ _) (.bind lr λ _=>.bind (Ff h _ _) λ _=>.bind lr λ _=>.bind lr λ _=>.bind (Le.ite (lr) (lr)) λ _=>.bind (Le.ite (lr) (lr)) λ _=>.ite (.bind lr λ _=>.bind lr λ _=>.bind lr λ _=>Dc h _ _ _) (Dc h _ _ _))) lr
theorem Gk {n m} (h:n≤m) (a b c d e):Le (CO n a b c d e) (CO m a b c d e):=.bind lr λ _=>.bind lr λ _=>.bind lr λ _=>.bind (Le.whl (λ _=>Jl h _ _ _ _ _ _ _ _) h _) λ _=>lr
theorem FZ {n m} (_:n≤m) (a b):Le (Cy n a b) (Cy m a b):=lr
theorem KE {n m} (h:n≤m) (a b c d e f g):Le (Di n a b c d e f g) (Di m a b c d e f g):=.ite (.bind lr λ _=>.bind lr λ _=>.bind lr λ _=>.bind lr λ _=>.bind (Le.ite (lr) (lr)) λ _=>.bind (Le.ite (Mi h _ _) (lr)) λ _=>.ite (.bind lr λ _=>.bind lr λ _=>FZ h _ _) (FZ h _ _)) lr
theorem KF {n m} (h:n≤m) (a b c d):Le (Dj n a b c d) (Dj m a b c d):=.ite (.bind (Gk h _ _ _ _ _) λ _=>lr) lr
theorem KG {n m} (h:n≤m) (a b c d e):Le (Dk n a b c d e) (Dk m a b c d e):=.ite (.bind (Gk h _ _ _ _ _) λ _=>lr) lr
theorem KH {n m} (h:n≤m) (a b):Le (Dl n a b) (Dl m a b):=.bind lr λ _=>.bind (Le.whl (λ _=>KG h _ _ _ _ _) h _) λ _=>.ite lr lr
theorem KI {n m} (h:n≤m) (a b):Le (Dm n a b) (Dm m a b):=.ite (.bind lr λ _=>.bind lr λ _=>.bind lr λ _=>.bind lr λ _=>.bind (Le.whl (λ _=>KE h _ _ _ _ _ _ _) h _) λ _=>.bind lr λ _=>.bind (Le.whl (λ _=>KF h _ _ _ _) h _) λ _=>.bind (Le.whl (λ _=>KH h _ _) h _) λ _=>lr) lr
theorem Na {n m} (h:n≤m) (a):Le (Ew n a) (Ew m a):=.bind (Le.whl (λ _=>KI h _ _) h _) λ _=>lr
theorem EE {n m} (_:n≤m) (a):Le (BW n a) (BW m a):=lr
theorem Ip {n m} (h:n≤m) (a b c d e f):Le (CA n a b c d e f) (CA m a b c d e f):=.ite (.bind lr λ _=>.bind (D0 h _ _ _) λ _=>.ite (EE h _) (.bind lr λ _=>.bind lr λ _=>.bind (Ff h _ _) λ _=>.ite (EE h _) (.bind lr λ _=>.bind lr λ _=>lr))) lr
theorem Iq {n m} (h:n≤m) (a b c d e):Le (CB n a b c d e) (CB m a b c d e):=.ite (.bind lr λ _=>.bind (Le.whl (λ _=>Ip h _ _ _ _ _ _) h _) λ y75=>by rcases y75 with _|_;exact lr;exact lr) lr
theorem KJ {n m} (h:n≤m) (a):Le (Dn n a) (Dn m a):=.bind lr λ _=>.bind (Ff h _ _) λ _=>.bind (Le.whl (λ _=>Iq h _ _ _ _ _) h _) λ _=>lr
theorem Vt {n m} (h:n≤m) (a b):Le (MF n a b) (MF m a b):=.bind (IV h _) λ _=>.ite lr (.bind (Vs h _) λ _=>.ite lr (.bind (P6 h _ _) λ _=>.bind (M9 h _) λ _=>.bind (Na h _) λ _=>.bind lr λ _=>.bind lr λ _=>.ite lr (.bind (KJ h _) λ _=>lr)))
theorem Nz {n m} (h:n≤m) (a b):Le (HS n a b) (HS m a b):=.bind (Vt h _ _) λ _=>.ite lr lr
theorem SS {n m} (_:n≤m) (a b c):Le (Ft n a b c) (Ft m a b c):=.ite (.bind lr λ _=>.bind lr λ _=>.ite lr lr) lr
theorem IZ {n m} (h:n≤m) (a b):Le (Ec n a b) (Ec m a b):=.ite lr (.bind (Le.whl (λ _=>SS h _ _ _) h _) λ y79=>by rcases y79 with _|_;exact lr;exact lr)
theorem Nb {n m} (_:n≤m) (a b c):Le (CI n a b c) (CI m a b c):=.ite (.bind lr λ _=>.bind lr λ _=>.ite lr lr) lr
theorem P7 {n m} (h:n≤m) (a b):Le (Db n a b) (Db m a b):=.ite lr (.bind (Le.whl (λ _=>Nb h _ _ _) h _) λ y82=>by rcases y82 with _|_;exact lr;exact lr)
theorem WV {n m} (h:n≤m) (a b):Le (OG n a b) (OG m a b):=.bind (P7 h _ _) λ _=>.bind (Le.ite (IZ h _ _) (lr)) λ _=>lr
theorem TD {n m} (h:n≤m):Le (HT n) (HT m):=.bind (TB h) λ _=>.bind (Kz h _ _) λ _=>.bind (Kz h _ _) λ _=>.bind (Jk h _ _ _) λ _=>.bind (Jk h _ _ _) λ _=>.bind (Jk h _ _ _) λ _=>.bind (Nz h _ _) λ _=>.bind (Kz h _ _) λ _=>.bind (Nz h _ _) λ _=>.bind (Le.ite (IZ h _ _) (lr)) λ _=>.bind (Le.ite (IZ h _ _) (lr)) λ _=>.bind (Le.ite (WV h _ _) (lr)) λ _=>.bind (Le.ite (IZ h _ _) (lr)) λ _=>lr
end Go.AI
end
section
namespace Go.AI
theorem X7 (a:Int):IntKind.i64.wrap a=if decide (a % 18446744073709551616≥9223372036854775808)=true then a % 18446744073709551616-18446744073709551616 else a % 18446744073709551616:=rfl
theorem Uh (a:Int):IntKind.u8.wrap a=a % 256:=rfl
theorem ST {a:Int} (h:-9223372036854775808≤a) (h':a<9223372036854775808):IntKind.i64.wrap a=a:=by
 rw [X7]
 split
 ·rename_i hc;simp at hc;omega
 ·rename_i hc;simp at hc;omega
theorem P8 {a b:Int} (h:-9223372036854775808≤a+b) (h':a+b<9223372036854775808):Au .i64 a b=a+b:=ST h h'
theorem Jc9 {a b:Int} (h:-9223372036854775808≤a-b) (h':a-b<9223372036854775808):Dw .i64 a b=a-b:=ST h h'
theorem Jkm {a:Int} (h:0≤a) (h':a<256):IntKind.u8.wrap a=a:=by
 rw [Uh];omega
theorem WW (a:Int):0≤IntKind.u8.wrap a∧IntKind.u8.wrap a<256:=by
 rw [Uh];omega
def Lv (m k:Int):Bool:=decide (0≤k)&&decide (k<8)&&(Cg .u8 (WB .u8 m k) 1==1)
theorem Jda (n:Nat) (m k:Int):Hr n m k=some (Lv m k):=by
 unfold Hr Lv
 by_cases h:0≤k
 ·by_cases h':k<8<;>simp [h,h',Bm]
 ·simp [h]
theorem Jdb (n:Nat) (m k:Int):Ke n m k=some (Lv m k):=by
 unfold Ke Lv
 by_cases h:0≤k
 ·by_cases h':k<8<;>simp [h,h',Bm]
 ·simp [h]
def F3 (b:Int):Int:=
 if (decide (97≤Cg .u8 b 127)&&decide (Cg .u8 b 127≤122))=true then 1
 else if (decide (65≤Cg .u8 b 127)&&decide (Cg .u8 b 127≤90))=true then 2
 else if (decide (48≤Cg .u8 b 127)&&decide (Cg .u8 b 127≤57))=true then 3
 else if (Cg .u8 b 127==32)=true then 4 else 5
theorem Jdc (n:Nat) (b:Int):Eo n b=some (F3 b):=by
 unfold Eo F3
 split
 ·rfl
 ·split
  ·rfl
  ·split
   ·rfl
   ·split<;>rfl
theorem Z1 (n:Nat) (b:Int):JD n b=some (F3 b):=by
 unfold JD F3
 simp only [ge_iff_le]
 split
 ·rfl
 ·split
  ·rfl
  ·split
   ·rfl
   ·split<;>rfl
theorem I0 (b:Int):1≤F3 b∧F3 b≤5:=by
 unfold F3
 split
 ·omega
 ·split
  ·omega
  ·split
   ·omega
   ·split<;>omega
def NA (s:List UInt8) (i:Nat):Int:=(s[i]?.getD 0).toNat
theorem O9 {s:List UInt8} {i:Nat} (h:i<s.length):NI s (i:Int)=some (NA s i):=by
 unfold NI NA
 rw [if_pos (by omega)]
 simp
def YQ:Ab:=⟨0,0,0⟩
def SU (r:Ax) (s:Ab):Ab×Bool:=
 if ((r.From != s.Mode)||!Lv r.Left s.Last)=true then (YQ,false)
 else if (r.Print==[])=true then
  (if (Cg .u8 s.Need r.Right==0)=true then (YQ,false) else (⟨r.To,s.Last,Cg .u8 s.Need r.Right⟩,true))
 else if (!Lv s.Need (F3 (NA r.Print 0)))=true then (YQ,false)
 else (⟨r.To,F3 (NA r.Print (r.Print.length-1)),r.Right⟩,true)
def AH (t:Ad) (s:Ab) (k:Int):Ab×Bool:=
 if (decide (k<0)||decide (k≥(t.Rules.length:Int)))=true then (YQ,false) else SU (t.Rules[k.toNat]?.getD default) s
def Jdd (t:Ad):Prop:=∀ r∈t.Rules,r.Print.length<9223372036854775808
theorem SV {α:Type} [Inhabited α] {l:List α} {k:Int} (h:0≤k) (h':k<l.length):idx l k=some (l[k.toNat]?.getD default):=by
 unfold idx
 rw [if_pos h]
 have:k.toNat<l.length:=by omega
 simp [this]
theorem Rf {t:Ad} (ht:Jdd t) (n:Nat) (s:Ab) (k:Int):GV n t s k=some (AH t s k):=by
 unfold GV AH
 by_cases hk:(decide (k<0)||decide (k≥(t.Rules.length:Int)))=true
 ·rw [if_pos hk,if_pos hk];rfl
 ·rw [if_neg hk,if_neg hk]
  simp only [Bool.or_eq_true,decide_eq_true_eq,not_or,Int.not_lt,ge_iff_le,Int.not_le] at hk
  rw [SV hk.1 hk.2]
  have hmem:(t.Rules[k.toNat]?.getD default)∈t.Rules:=by
   have:k.toNat<t.Rules.length:=by omega
   simp [this]
  have hlen:=ht _ hmem
  generalize t.Rules[k.toNat]?.getD default=r at hlen ⊢
  simp only [Option.bind_some,Jda,Jdc]
  unfold SU
  by_cases h1:r.From=s.Mode
  ·simp only [h1,bne_self_eq_false,Bool.not_false,if_true,Option.bind_some,Bool.false_or]
   by_cases h2:Lv r.Left s.Last=true
   ·simp only [h2,Bool.not_true,Bool.false_eq_true,if_false]
    by_cases h3:r.Print=[]
    ·simp only [h3,beq_self_eq_true,if_true]
     split<;>rfl
    ·have h3':(r.Print==[])=false:=by simpa using h3
     have hpos:0<r.Print.length:=List.length_pos_iff.2 h3
     simp only [h3',Bool.false_eq_true,if_false]
     have e0:=O9 (s:=r.Print) (i:=0) hpos
     simp only [Int.natCast_zero] at e0
     rw [e0]
     have e1:Dw .i64 ((r.Print.length:Nat):Int) 1=((r.Print.length-1:Nat):Int):=by rw [Jc9 (by omega) (by omega)];omega
     rw [e1,O9 (by omega)]
     simp only [Option.bind_some]
     split<;>rfl
   ·have h2:Lv r.Left s.Last=false:=by simpa using h2
    simp only [h2,Bool.not_false,if_true];rfl
  ·have h1':(r.From != s.Mode)=true:=by simpa using h1
   simp only [h1',Bool.not_true,Bool.false_eq_true,if_false,Option.bind_some,Bool.true_or,if_true];rfl
end Go.AI
end
section
namespace Go.AI
theorem Ap {α:Type} {l:List α} {i:Nat} {x:α} (h:l[i]? = some x):i<l.length:=(List.getElem?_eq_some_iff.1 h).1
theorem WX {t:Ad} (ht:Jdd t) (n:Nat) (s:Ab) (k:Int):LT n t s k=some (AH t s k):=by
 unfold LT AH
 by_cases hk:(decide (k<0)||decide (k≥(t.Rules.length:Int)))=true
 ·rw [if_pos hk,if_pos hk];rfl
 ·rw [if_neg hk,if_neg hk]
  simp only [Bool.or_eq_true,decide_eq_true_eq,not_or,Int.not_lt,ge_iff_le,Int.not_le] at hk
  rw [SV hk.1 hk.2]
  have hmem:(t.Rules[k.toNat]?.getD default)∈t.Rules:=by
   have:k.toNat<t.Rules.length:=by omega
   simp [this]
  have hlen:=ht _ hmem
  generalize t.Rules[k.toNat]?.getD default=r at hlen ⊢
  simp only [Option.bind_some,Jdb,Z1]
  unfold SU
  by_cases h1:r.From=s.Mode
  ·simp only [h1,bne_self_eq_false,Bool.not_false,if_true,Option.bind_some,Bool.false_or]
   by_cases h2:Lv r.Left s.Last=true
   ·simp only [h2,Bool.not_true,Bool.false_eq_true,if_false]
    by_cases h3:r.Print=[]
    ·simp only [h3,List.length_nil,Int.natCast_zero,beq_self_eq_true,Bool.true_and,if_true]
     split<;>rfl
    ·have h3':(r.Print==[])=false:=by simpa using h3
     have hpos:0<r.Print.length:=List.length_pos_iff.2 h3
     have h4:(((r.Print.length:Nat):Int)==0)=false:=by simp;omega
     simp only [h3',h4,Bool.false_and,Bool.false_eq_true,if_false]
     have e0:=O9 (s:=r.Print) (i:=0) hpos
     simp only [Int.natCast_zero] at e0
     rw [e0]
     have e1:Dw .i64 ((r.Print.length:Nat):Int) 1=((r.Print.length-1:Nat):Int):=by rw [Jc9 (by omega) (by omega)];omega
     rw [e1,O9 (by omega)]
     simp only [Option.bind_some]
     split<;>rfl
   ·have h2:Lv r.Left s.Last=false:=by simpa using h2
    simp only [h2,Bool.not_false,if_true];rfl
  ·have h1':(r.From != s.Mode)=true:=by simpa using h1
   simp only [h1',Bool.not_true,Bool.false_eq_true,if_false,Option.bind_some,Bool.true_or,if_true];rfl
def By (t:Ad) (s:Ab):Bool:=decide (s.Mode<t.Modes)&&Lv t.Accept s.Mode&&Lv s.Need 0
theorem X8 (n:Nat) (t:Ad) (s:Ab):Ea n t s=some (By t s):=by
 unfold Ea By
 simp only [Jda]
 by_cases h1:s.Mode<t.Modes
 ·cases h2:Lv t.Accept s.Mode<;>simp [h1]
 ·simp [h1]
theorem WY (n:Nat) (t:Ad) (s:Ab):ID n t s=some (By t s):=by
 unfold ID By
 simp only [Jdb]
 have h0:¬ (0≤s.Mode)->Lv t.Accept s.Mode=false:=λ h=>by simp [Lv,h]
 by_cases h:0≤s.Mode
 ·by_cases h1:s.Mode<t.Modes
  ·cases h2:Lv t.Accept s.Mode<;>simp [h,h1]
  ·simp [h1]
 ·simp [h,h0 h]
theorem eqS (a b:Ab):((a.Mode==b.Mode)&&((a.Last==b.Last)&&((a.Need==b.Need)&&true)))=decide (a=b):=by
 cases a;cases b
 simp [Bool.decide_and]
 rfl
def Ef (l:List Ab) (s:Ab):Int:=match l.findIdx? (λ x=>decide (x=s)) with
 | some i=>i
 | none=>-1
theorem WZ {l:List Ab} {s:Ab} (hl:l.length<9223372036854775807):Ev (λ n=>MI n l s) (Ef l s):=by
 have loop:Ev (λ n=>whl (λ x=>DF n l s x) n (0:Int)) (match l.findIdx? (λ x=>decide (x=s)) with|some i=>(.inr (i:Int):Unit⊕Int)|none=>.inl ()):=by
  refine Ev.whl (body:=λ n x=>DF n l s x) (λ k x=>∃ i:Nat,x=i∧i≤l.length∧k=l.length-i∧∀ j,j<i->∀ y,l[j]? = some y->y≠s) ?_ l.length 0 ⟨0,rfl,by omega,by omega,λ j hj=>by omega⟩
  rintro k x ⟨i,rfl,hi,rfl,hbefore⟩
  by_cases hlt:i<l.length
  ·have hg:l[i]? = some l[i]:=List.getElem?_eq_getElem hlt
   have hidx:idx l (i:Int)=some l[i]:=by
    unfold idx
    rw [if_pos (by omega)]
    simp
   by_cases he:l[i]=s
   ·right
    refine Ev.all λ n=>?_
    unfold DF
    rw [if_pos (by simpa using hlt),hidx]
    simp only [Option.bind_some,eqS,he,decide_true,if_true]
    have:l.findIdx? (λ x=>decide (x=s))=some i:=by
     rw [List.findIdx?_eq_some_iff_getElem]
     refine ⟨hlt,by simpa using he,λ j hj=>?_⟩
     have hj':j<l.length:=by omega
     have:=hbefore j hj l[j] (List.getElem?_eq_getElem hj')
     simpa using this
    rw [this]
   ·left
    refine ⟨((i+1:Nat):Int),l.length-(i+1),by omega,⟨i+1,rfl,by omega,rfl,λ j hj y hy=>?_⟩,Ev.all λ n=>?_⟩
    ·by_cases hji:j=i
     ·subst hji;rw [hg] at hy;cases hy;exact he
     ·exact hbefore j (by omega) y hy
    ·unfold DF
     rw [if_pos (by simpa using hlt),hidx]
     simp only [Option.bind_some,eqS,he,decide_false,Bool.false_eq_true,if_false]
     rw [P8 (by omega) (by omega)]
     rfl
  ·right
   have hi':i=l.length:=by omega
   subst hi'
   refine Ev.all λ n=>?_
   unfold DF
   rw [if_neg (by simp)]
   have:l.findIdx? (λ x=>decide (x=s))=none:=by
    rw [List.findIdx?_eq_none_iff]
    intro y hy
    obtain ⟨j,hj⟩:=List.mem_iff_getElem?.1 hy
    have:=hbefore j (Ap hj) y hj
    simpa using this
   rw [this]
 refine (Ev.bind loop (g:=λ _ y=>match y with|Sum.inl _=>some (-1)|Sum.inr z=>some z) (z:=Ef l s) ?_).congr λ n=>?_
 ·unfold Ef
  cases l.findIdx? (λ x=>decide (x=s)) with
  | none=>exact Ev.const
  | some i=>exact Ev.const
 ·rfl
end Go.AI
end
section
namespace Go.AI
theorem X9 (a b:Int) (h:0≤b) (h':b<256):0≤Cg .u8 a b∧Cg .u8 a b≤b:=by
 unfold Cg
 have hb:(BitVec.ofInt 8 b).toNat=b.toNat:=by
  rw [BitVec.toNat_ofInt]
  omega
 have hle:(BitVec.ofInt 8 a &&& BitVec.ofInt 8 b).toNat≤b.toNat:=by
  rw [BitVec.toNat_and,hb];exact Nat.and_le_right
 have e:(BitVec.ofInt IntKind.u8.bits a &&& BitVec.ofInt IntKind.u8.bits b).toNat=(BitVec.ofInt 8 a &&& BitVec.ofInt 8 b).toNat:=rfl
 rw [e,Jkm (by omega) (by omega)]
 omega
def N7 (r:Ax):Prop:=0≤r.To∧r.To<2∧0≤r.Right∧r.Right≤63∧r.Print.length≤3
def Ho (t:Ad):Prop:=t.Rules.length≤11∧∀ r∈t.Rules,N7 r
theorem Ho.short {t:Ad} (h:Ho t):Jdd t:=λ r hr=>by have:=(h.2 r hr).2.2.2.2;omega
def InU (s:Ab):Prop:=0≤s.Mode∧s.Mode<2∧0≤s.Last∧s.Last≤5∧0≤s.Need∧s.Need≤63
def JiR:List Ab:=(List.range 768).map λ i=>⟨(i / 384:Nat),(i / 64 % 6:Nat),(i % 64:Nat)⟩
theorem Jde {s:Ab} (h:InU s):s∈JiR:=by
 obtain ⟨h1,h2,h3,h4,h5,h6⟩:=h
 obtain ⟨m,l,d⟩:=s
 simp only at h1 h2 h3 h4 h5 h6
 simp only [JiR,List.mem_map,List.mem_range]
 refine ⟨m.toNat*384+l.toNat*64+d.toNat,by omega,?_⟩
 have e1:(m.toNat*384+l.toNat*64+d.toNat) / 384=m.toNat:=by omega
 have e2:(m.toNat*384+l.toNat*64+d.toNat) / 64 % 6=l.toNat:=by omega
 have e3:(m.toNat*384+l.toNat*64+d.toNat) % 64=d.toNat:=by omega
 rw [e1,e2,e3]
 congr 1<;>omega
theorem Jdf {l m:List Ab} (h:l.Nodup) (hs:∀ x∈l,x∈m):l.length≤m.length:=by
 induction l generalizing m with
 | nil=>simp
 | cons a l ih=>
  rw [List.nodup_cons] at h
  have ha:=hs a (by simp)
  have hlen:(m.erase a).length=m.length-1:=List.length_erase_of_mem ha
  have hpos:0<m.length:=List.length_pos_of_mem ha
  have:=ih (m:=m.erase a) h.2 λ x hx=>by
   have hne:x≠a:=λ e=>h.1 (e▸hx)
   exact (List.mem_erase_of_ne hne).2 (hs x (by simp [hx]))
  simp
  omega
theorem Jdg {l:List Ab} (h:l.Nodup) (hs:∀ x∈l,InU x):l.length≤768:=by
 have:=Jdf h λ x hx=>Jde (hs x hx)
 simpa [JiR] using this
theorem Jdh {t:Ad} (ht:Ho t) {s:Ab} (hs:InU s) {k:Int} (h:(AH t s k).2=true):InU (AH t s k).1:=by
 unfold AH at h ⊢
 split at h
 ·cases h
 ·rename_i hk
  rw [if_neg hk]
  simp only [Bool.or_eq_true,decide_eq_true_eq,not_or,Int.not_lt,ge_iff_le,Int.not_le] at hk
  have hmem:(t.Rules[k.toNat]?.getD default)∈t.Rules:=by
   have:k.toNat<t.Rules.length:=by omega
   simp [this]
  have hr:=ht.2 _ hmem
  generalize t.Rules[k.toNat]?.getD default=r at hr h ⊢
  obtain ⟨a1,a2,a3,a4,a5⟩:=hr
  obtain ⟨b1,b2,b3,b4,b5,b6⟩:=hs
  unfold SU at h ⊢
  split at h
  ·cases h
  ·rename_i h1
   rw [if_neg h1]
   split at h
   ·rename_i h2
    rw [if_pos h2]
    split at h
    ·cases h
    ·rename_i h3
     rw [if_neg h3]
     have:=X9 s.Need r.Right a3 (by omega)
     exact ⟨a1,a2,b3,b4,this.1,by show Cg .u8 s.Need r.Right≤63;omega⟩
   ·rename_i h2
    rw [if_neg h2]
    split at h
    ·cases h
    ·rename_i h3
     rw [if_neg h3]
     have:=I0 (NA r.Print (r.Print.length-1))
     exact ⟨a1,a2,by show 0≤F3 _;omega,by show F3 _≤5;omega,a3,a4⟩
def BP:Ab:=⟨0,0,63⟩
def KK (t:Ad) (s:Ab) (st:List Ab) (k:Nat):List Ab:=if (AH t s k).2=true∧(AH t s k).1 ∉ st then st++[(AH t s k).1] else st
def JU (t:Ad) (s:Ab) (m:Nat) (st:List Ab):List Ab:=(List.range m).foldl (KK t s) st
theorem JV (t:Ad) (s:Ab) (m:Nat) (st:List Ab):JU t s (m+1) st=KK t s (JU t s m st) m:=by
 simp [JU,List.range_succ]
def SW (t:Ad):Nat->Nat->List Ab->List Ab
 | 0,_,st=>st
 | f+1,i,st=>match st[i]? with
  | some s=>SW t f (i+1) (JU t s t.Rules.length st)
  | none=>st
def Aa (t:Ad):List Ab:=SW t 800 0 [BP]
structure Gl (t:Ad) (st:List Ab):Prop where
 nodup:st.Nodup
 inU:∀ s∈st,InU s
 first:st[0]? = some BP
 origin:∀ (j:Nat) (s:Ab),st[j]? = some s->0<j->∃ (i:Nat) (s':Ab) (k:Nat),i<j∧st[i]? = some s'∧k<t.Rules.length∧AH t s' k=(s,true)
theorem Gl.len {t:Ad} {st:List Ab} (h:Gl t st):st.length≤768:=Jdg h.nodup h.inU
theorem Gl.add {t:Ad} (ht:Ho t) {st:List Ab} (h:Gl t st) {i:Nat} {s:Ab} (hi:st[i]? = some s) {k:Nat} (hk:k<t.Rules.length):Gl t (KK t s st k):=by
 unfold KK
 split
 ·rename_i hc
  have hil:=Ap hi
  refine ⟨?_,λ x hx=>?_,?_,λ j x hj h0=>?_⟩
  ·rw [List.nodup_append]
   refine ⟨h.nodup,by simp,λ a ha b hb=>?_⟩
   simp at hb
   subst hb
   exact λ e=>hc.2 (e▸ha)
  ·simp only [List.mem_append,List.mem_singleton] at hx
   rcases hx with hx|rfl
   ·exact h.inU x hx
   ·exact Jdh ht (h.inU s (List.mem_of_getElem? hi)) hc.1
  ·rw [List.getElem?_append_left (by omega)];exact h.first
  ·rcases Nat.lt_or_ge j st.length with hlt|hge
   ·rw [List.getElem?_append_left hlt] at hj
    obtain ⟨i',s',k',a1,a2,a3,a4⟩:=h.origin j x hj h0
    exact ⟨i',s',k',a1,by rw [List.getElem?_append_left (by omega)];exact a2,a3,a4⟩
   ·rw [List.getElem?_append_right hge] at hj
    have:j-st.length=0:=by have:=Ap hj;simp at this;omega
    rw [this] at hj
    simp at hj
    subst hj
    refine ⟨i,s,k,by omega,by rw [List.getElem?_append_left hil];exact hi,hk,?_⟩
    exact Prod.ext rfl hc.1
 ·exact h
theorem W2 (t:Ad) (s:Ab) (st:List Ab) (k:Nat):st <+: KK t s st k:=by
 unfold KK
 split
 ·exact List.prefix_append _ _
 ·exact List.prefix_refl _
theorem G9 (t:Ad) (s:Ab) (st:List Ab):∀ m,st <+: JU t s m st:=by
 intro m
 induction m with
 | zero=>exact List.prefix_refl _
 | succ m ih=>rw [JV];exact ih.trans (W2 _ _ _ _)
theorem Pa {α:Type} {l m:List α} (h:l <+: m) {i:Nat} {x:α} (hi:l[i]? = some x):m[i]? = some x:=by
 obtain ⟨r,rfl⟩:=h
 rw [List.getElem?_append_left (Ap hi)];exact hi
theorem Gl.exp {t:Ad} (ht:Ho t) {st:List Ab} (h:Gl t st) {i:Nat} {s:Ab} (hi:st[i]? = some s):∀ m,m≤t.Rules.length->Gl t (JU t s m st):=by
 intro m
 induction m with
 | zero=>intro _;exact h
 | succ m ih=>
  intro hm
  rw [JV]
  exact (ih (by omega)).add ht (Pa (G9 t s st m) hi) (by omega)
theorem Jdi (t:Ad) (s:Ab) (st:List Ab):∀ m k:Nat,k<m->(AH t s k).2=true->(AH t s k).1∈JU t s m st:=by
 intro m
 induction m with
 | zero=>intro k hk;omega
 | succ m ih=>
  intro k hk h
  rw [JV]
  by_cases e:k=m
  ·subst e
   unfold KK
   by_cases hc:(AH t s k).1∈JU t s k st
   ·rw [if_neg (λ hh=>hh.2 hc)];exact hc
   ·rw [if_pos ⟨h,hc⟩];simp
  ·exact (W2 t s _ m).subset (ih k (by omega) h)
def JiS (t:Ad) (i:Nat) (st:List Ab):Prop:=∀ (j:Nat) (s:Ab),j<i->st[j]? = some s->∀ k:Nat,k<t.Rules.length->(AH t s k).2=true->(AH t s k).1∈st
theorem JiT {t:Ad} (ht:Ho t):∀ (f i:Nat) (st:List Ab),Gl t st->JiS t i st->768<f+i->Gl t (SW t f i st)∧∀ i',JiS t i' (SW t f i st):=by
 intro f
 induction f with
 | zero=>
  intro i st h hd hf
  have:=h.len
  refine ⟨h,λ i' j s hj hs=>?_⟩
  have hs:st[j]? = some s:=hs
  exact hd j s (by have:=Ap hs;omega) hs
 | succ f ih=>
  intro i st h hd hf
  simp only [SW]
  cases hi:st[i]? with
  | none=>
   refine ⟨h,λ i' j s hj hs=>?_⟩
   have hs:st[j]? = some s:=hs
   exact hd j s (by have:=Ap hs;rw [List.getElem?_eq_none_iff] at hi;omega) hs
  | some s=>
   refine ih (i+1) _ (h.exp ht hi _ (Nat.le_refl _)) (λ j x hj hx k hk hk2=>?_) (by omega)
   by_cases e:j=i
   ·subst e
    have:=Pa (G9 t s st t.Rules.length) hi
    rw [this] at hx
    cases hx
    exact Jdi t s st _ k hk hk2
   ·have hjl:j<st.length:=by have:=Ap hi;omega
    have hxx:st[j]? = some st[j]:=List.getElem?_eq_getElem hjl
    have:=Pa (G9 t s st t.Rules.length) hxx
    rw [this] at hx
    cases hx
    exact (G9 t s st t.Rules.length).subset (hd j _ (by omega) hxx k hk hk2)
theorem HJ {t:Ad} (ht:Ho t):Gl t (Aa t)∧∀ i,JiS t i (Aa t):=by
 refine JiT ht 800 0 [BP] ⟨by simp,λ s hs=>?_,rfl,λ j s hj h0=>?_⟩ (λ j s hj=>by omega) (by omega)
 ·simp at hs;subst hs;exact ⟨by decide,by decide,by decide,by decide,by decide,by decide⟩
 ·cases j with
  | zero=>omega
  | succ j=>simp at hj
end Go.AI
end
section
namespace Go.AI
theorem Ev.whlR {σ ρ:Type} {body:Nat->σ->Option (σ⊕ρ)} {R:ρ->Prop} (I:Nat->σ->Prop) (h:∀ k x,I k x->(∃ y j,j<k∧I j y∧Ev (λ n=>body n x) (.inl y))∨∃ r,R r∧Ev (λ n=>body n x) (.inr r)):∀ (k:Nat) (x:σ),I k x->∃ r,R r∧Ev (λ n=>Go.AI.whl (body n) n x) r:=by
 have key:∀ (k:Nat) (x:σ),I k x->∃ r,R r∧∃ N c,∀ n fuel,N≤n->c≤fuel->Go.AI.whl (body n) fuel x=some r:=by
  intro k
  induction k using Nat.strongRecOn with
  | _ k ih=>
   intro x hx
   rcases h k x hx with ⟨y,j,hj,hy,N1,h1⟩|⟨r,hr,N1,h1⟩
   ·obtain ⟨r,hr,N2,c,h2⟩:=ih j hj y hy
    refine ⟨r,hr,max N1 N2,c+1,λ n fuel hn hf=>?_⟩
    cases fuel with
    | zero=>omega
    | succ fuel=>
     have e:=h1 n (by omega)
     simp only at e
     simp only [Go.AI.whl,e]
     exact h2 n fuel (by omega) (by omega)
   ·refine ⟨r,hr,N1,1,λ n fuel hn hf=>?_⟩
    cases fuel with
    | zero=>omega
    | succ fuel=>
     have e:=h1 n hn
     simp only at e
     simp only [Go.AI.whl,e]
 intro k x hx
 obtain ⟨r,hr,N,c,hh⟩:=key k x hx
 exact ⟨r,hr,max N c,λ m hm=>hh m m (by omega) (by omega)⟩
def I1 (st:List Ab) (nb:List (Ab×Int)):Prop:=∀ s,F5 s nb=(st.findIdx? λ x=>decide (x=s)).map λ i=>(i:Int)
theorem C4 {st:List Ab} {s:Ab} {i:Nat} (hn:st.Nodup) (h:st[i]? = some s):(st.findIdx? λ x=>decide (x=s))=some i:=by
 have hi:=Ap h
 rw [List.findIdx?_eq_some_iff_getElem]
 have he:st[i]=s:=by rw [List.getElem?_eq_getElem hi] at h;exact Option.some.inj h
 refine ⟨hi,by simpa using he,λ j hj=>?_⟩
 simp only [Bool.not_eq_true,decide_eq_false_iff_not]
 intro e
 have:=(List.getElem_inj (i:=j) (j:=i) (h₀:=by omega) (h₁:=hi) hn).1 (by rw [e,he])
 omega
theorem HF {st:List Ab} {s:Ab} (h:s ∉ st):(st.findIdx? λ x=>decide (x=s))=none:=by
 rw [List.findIdx?_eq_none_iff]
 intro y hy
 simp only [decide_eq_false_iff_not]
 exact λ e=>h (e▸hy)
theorem Z2 {κ α:Type} [DecidableEq κ] (k k':κ) (v:α) (m:List (κ×α)):F5 k' (LI k v m)=if k'=k then some v else F5 k' m:=by
 induction m with
 | nil=>simp [LI,F5]
 | cons p m ih=>
  simp only [LI]
  by_cases h:k=p.1
  ·rw [if_pos h]
   simp only [F5]
   by_cases h':k'=k
   ·simp [h']
   ·have:k'≠p.1:=λ e=>h' (e.trans h.symm)
    simp [h',this]
  ·rw [if_neg h]
   simp only [F5]
   by_cases h':k'=p.1
   ·have:k'≠k:=λ e=>h (e▸h')
    rw [if_pos h',if_neg this,if_pos h']
   ·rw [if_neg h',if_neg h',ih]
theorem I1.snoc {st:List Ab} {nb:List (Ab×Int)} (h:I1 st nb) (hn:st.Nodup) {p:Ab} (hp:p ∉ st):I1 (st++[p]) (LI p (st.length:Nat) nb):=by
 intro s
 rw [Z2]
 have hnd:(st++[p]).Nodup:=by
  rw [List.nodup_append]
  exact ⟨hn,by simp,λ a ha b hb=>by simp at hb;subst hb;exact λ e=>hp (e▸ha)⟩
 by_cases e:s=p
 ·subst e
  rw [if_pos rfl,C4 hnd (i:=st.length) (by simp)]
  rfl
 ·rw [if_neg e,h s]
  by_cases hs:s∈st
  ·obtain ⟨i,hi⟩:=List.mem_iff_getElem?.1 hs
   rw [C4 hn hi,C4 hnd (i:=i) (by rw [List.getElem?_append_left (Ap hi)];exact hi)]
  ·rw [HF hs,HF (by simp [hs,e])]
def H3 (i m j k:Nat):Prop:=j<i∨(j=i∧k<m)
structure Dt (t:Ad) (st:List Ab) (fr:List (List Int)) (i m:Nat):Prop where
 len:fr.length=st.length
 cov:∀ j s k,H3 i m j k->st[j]? = some s->k<t.Rules.length->(AH t s (k:Nat)).2=true->(AH t s (k:Nat)).1∈st
 sound:∀ (n:Nat) l,fr[n]? = some l->∀ x∈l,∃ (j:Nat) (s:Ab) (k:Nat) (s':Ab),x=(j:Int)∧st[j]? = some s∧k<t.Rules.length∧st[n]? = some s'∧AH t s (k:Nat)=(s',true)
 compl:∀ (n:Nat) l,fr[n]? = some l->∀ (j:Nat) (s:Ab) (k:Nat) (s':Ab),H3 i m j k->st[j]? = some s->k<t.Rules.length->st[n]? = some s'->AH t s (k:Nat)=(s',true)->(j:Int)∈l
 small:∀ (n:Nat) l,fr[n]? = some l->l.length≤i*11+m
theorem Dt.snoc {t:Ad} {st:List Ab} {fr:List (List Int)} {i m:Nat} (h:Dt t st fr i m) {p:Ab} (hp:p ∉ st) (hi:i<st.length):Dt t (st++[p]) (fr++[[]]) i m:=by
 have hget:∀ (j:Nat) s,H3 i m j 0∨j≤i->(st++[p])[j]? = some s->st[j]? = some s:=λ j s hj hs=>by
  rcases Nat.lt_or_ge j st.length with hlt|hge
  ·rwa [List.getElem?_append_left hlt] at hs
  ·rcases hj with (h1|⟨h1,_⟩)|h1<;>omega
 have hle:∀ {j k},H3 i m j k->j≤i:=λ h=>by rcases h with h|⟨h,_⟩<;>omega
 refine ⟨by simp [h.len],λ j s k ht hs hk h2=>?_,λ n l hl x hx=>?_,λ n l hl j s k s' ht hs hk hs' he=>?_,λ n l hl=>?_⟩
 ·exact List.mem_append_left _ (h.cov j s k ht (hget j s (.inr (hle ht)) hs) hk h2)
 ·rcases Nat.lt_or_ge n fr.length with hlt|hge
  ·rw [List.getElem?_append_left hlt] at hl
   obtain ⟨j,s,k,s',a1,a2,a3,a4,a5⟩:=h.sound n l hl x hx
   exact ⟨j,s,k,s',a1,by rw [List.getElem?_append_left (Ap a2)];exact a2,a3,by rw [List.getElem?_append_left (Ap a4)];exact a4,a5⟩
  ·rw [List.getElem?_append_right hge] at hl
   have:n-fr.length=0:=by have:=Ap hl;simp at this;omega
   rw [this] at hl;simp at hl;subst hl;simp at hx
 ·have hs0:=hget j s (.inr (hle ht)) hs
  have hmem:s'∈st:=by have:=h.cov j s k ht hs0 hk (by rw [he]);rwa [he] at this
  rcases Nat.lt_or_ge n fr.length with hlt|hge
  ·rw [List.getElem?_append_left hlt] at hl
   rw [List.getElem?_append_left (by rw [← h.len];exact hlt)] at hs'
   exact h.compl n l hl j s k s' ht hs0 hk hs' he
  ·have hn:n=st.length:=by have:=Ap hs';simp at this;rw [h.len] at hge;omega
   subst hn
   simp at hs'
   subst hs'
   exact absurd hmem hp
 ·rcases Nat.lt_or_ge n fr.length with hlt|hge
  ·rw [List.getElem?_append_left hlt] at hl;exact h.small n l hl
  ·rw [List.getElem?_append_right hge] at hl
   have:n-fr.length=0:=by have:=Ap hl;simp at this;omega
   rw [this] at hl;simp at hl;subst hl;simp
theorem Dt.put {t:Ad} {st:List Ab} {fr:List (List Int)} {i m:Nat} (h:Dt t st fr i m) (hnd:st.Nodup) {s p:Ab} {q:Nat} {l:List Int} (hs:st[i]? = some s) (hm:m<t.Rules.length) (hst:AH t s (m:Nat)=(p,true)) (hq:st[q]? = some p) (hl:fr[q]? = some l):Dt t st (fr.set q (l++[(i:Int)])) i (m+1):=by
 have htk:∀ {j k},H3 i (m+1) j k->H3 i m j k∨(j=i∧k=m):=λ {j k} h=>by
  unfold H3 at *
  omega
 have hql:=Ap hl
 refine ⟨by simp [h.len],λ j x k ht hx hk h2=>?_,λ n l' hl' x hx=>?_,λ n l' hl' j x k x' ht hx hk hx' he=>?_,λ n l' hl'=>?_⟩
 ·rcases htk ht with ht|⟨rfl,rfl⟩
  ·exact h.cov j x k ht hx hk h2
  ·rw [hs] at hx;cases hx;rw [hst];exact List.mem_of_getElem? hq
 ·by_cases e:n=q
  ·subst e
   rw [List.getElem?_set_self hql] at hl'
   cases hl'
   simp only [List.mem_append,List.mem_singleton] at hx
   rcases hx with hx|rfl
   ·exact h.sound n l hl x hx
   ·exact ⟨i,s,m,p,rfl,hs,hm,hq,hst⟩
  ·rw [List.getElem?_set_ne (Ne.symm e)] at hl';exact h.sound n l' hl' x hx
 ·rcases htk ht with ht|⟨rfl,rfl⟩
  ·by_cases e:n=q
   ·subst e
    rw [List.getElem?_set_self hql] at hl'
    cases hl'
    exact List.mem_append_left _ (h.compl n l hl j x k x' ht hx hk hx' he)
   ·rw [List.getElem?_set_ne (Ne.symm e)] at hl';exact h.compl n l' hl' j x k x' ht hx hk hx' he
  ·rw [hs] at hx;cases hx
   rw [hst] at he;cases he
   have e:n=q:=by
    have h1:=Ap hx'
    have h2:=Ap hq
    rw [List.getElem?_eq_getElem h1] at hx'
    rw [List.getElem?_eq_getElem h2] at hq
    exact (List.getElem_inj (h₀:=h1) (h₁:=h2) hnd).1 ((Option.some.inj hx').trans (Option.some.inj hq).symm)
   subst e
   rw [List.getElem?_set_self hql] at hl'
   cases hl'
   simp
 ·by_cases e:n=q
  ·subst e
   rw [List.getElem?_set_self hql] at hl'
   cases hl'
   have:=h.small n l hl
   simp;omega
  ·rw [List.getElem?_set_ne (Ne.symm e)] at hl'
   have:=h.small n l' hl'
   omega
theorem Dt.skip {t:Ad} {st:List Ab} {fr:List (List Int)} {i m:Nat} (h:Dt t st fr i m) {s:Ab} (hs:st[i]? = some s) (hst:(AH t s (m:Nat)).2=false):Dt t st fr i (m+1):=by
 have htk:∀ {j k},H3 i (m+1) j k->H3 i m j k∨(j=i∧k=m):=λ {j k} h=>by
  unfold H3 at *
  omega
 refine ⟨h.len,λ j x k ht hx hk h2=>?_,h.sound,λ n l hl j x k x' ht hx hk hx' he=>?_,λ n l hl=>by have:=h.small n l hl;omega⟩
 ·rcases htk ht with ht|⟨rfl,rfl⟩
  ·exact h.cov j x k ht hx hk h2
  ·rw [hs] at hx;cases hx;rw [hst] at h2;cases h2
 ·rcases htk ht with ht|⟨rfl,rfl⟩
  ·exact h.compl n l hl j x k x' ht hx hk hx' he
  ·rw [hs] at hx;cases hx;rw [he] at hst;cases hst
end Go.AI
end
section
namespace Go.AI
theorem KL {α:Type} {l:List α} {i:Nat} {x:α} (h:l[i]? = some x):idx l (i:Int)=some x:=by
 unfold idx
 rw [if_pos (by omega)]
 simpa using h
theorem Vu {α:Type} {eb:Nat} {xs ys:List α} (h:(xs.length+ys.length)*eb≤70368744177664):app eb xs ys=some (xs++ys):=by
 unfold app;rw [if_pos h]
theorem W3 {t:Ad} (ht:Ho t) {i m:Nat} {s:Ab} {st:List Ab} {fr:List (List Int)} {nb:List (Ab×Int)} (hF:Gl t st) (hi:st[i]? = some s) (hN:I1 st nb) (hR:Dt t st fr i m) (hm:m<t.Rules.length) :
  ∃ fr' nb',I1 (KK t s st m) nb'∧Dt t (KK t s st m) fr' i (m+1)∧∀ n,Bx n t (i:Int) st fr nb (m:Int)=some (.inl (KK t s st m,fr',nb',((m+1:Nat):Int))):=by
 have hil:=Ap hi
 have hlen:=hF.len
 have hrl:=ht.1
 have hinc:Au .i64 (m:Int) 1=((m+1:Nat):Int):=by rw [P8 (by omega) (by omega)];rfl
 have hcond:decide ((m:Int)<((List.length t.Rules:Nat):Int))=true:=by simpa using hm
 cases hp:(AH t s (m:Nat)).2 with
 | false=>
  have ha:KK t s st m=st:=by unfold KK;rw [if_neg (by rw [hp];simp)]
  refine ⟨fr,nb,by rw [ha];exact hN,by rw [ha];exact hR.skip hi hp,λ n=>?_⟩
  unfold Bx
  rw [if_pos hcond,KL hi]
  simp only [Option.bind_some,Rf ht.short,hp,Bool.not_false,if_true,Ci,hinc,ha]
 | true=>
  have hpe:AH t s (m:Nat)=((AH t s (m:Nat)).1,true):=Prod.ext rfl hp
  generalize hpp:(AH t s (m:Nat)).1=p at hpe
  by_cases hmem:p∈st
  ·have ha:KK t s st m=st:=by unfold KK;rw [if_neg (by rw [hpp];exact λ hh=>hh.2 hmem)]
   obtain ⟨q,hq⟩:=List.mem_iff_getElem?.1 hmem
   have hql:=Ap hq
   obtain ⟨lq,hfq⟩:∃ lq,fr[q]? = some lq:=⟨_,List.getElem?_eq_getElem (by rw [hR.len];exact hql)⟩
   have hsm:=hR.small q _ hfq
   have hget:F5 p nb=some (q:Int):=by rw [hN p,C4 hF.nodup hq];rfl
   have hiv:i<768:=by omega
   refine ⟨fr.set q (lq++[(i:Int)]),nb,by rw [ha];exact hN,by rw [ha];exact hR.put hF.nodup hi hm hpe hq hfq,λ n=>?_⟩
   unfold Bx
   rw [if_pos hcond,KL hi]
   simp only [Option.bind_some,Rf ht.short,hpe,hget,Option.isSome_some,Bool.not_true,Bool.false_eq_true,if_false,Option.getD_some,CL]
   rw [KL hfq]
   simp only [Option.bind_some]
   rw [Vu (by simp;omega)]
   simp only [Option.bind_some,Ci,hinc,ha,Int.toNat_natCast]
  ·have ha:KK t s st m=st++[p]:=by unfold KK;rw [if_pos ⟨hp,by rw [hpp];exact hmem⟩,hpp]
   have hnd:(st++[p]).Nodup:=by have:=(hF.add ht hi hm).nodup;rwa [ha] at this
   have hget:F5 p nb=none:=by rw [hN p,HF hmem];rfl
   have hR':=hR.snoc hmem hil
   have hfq:(fr++[[]])[st.length]? = some ([]:List Int):=by rw [← hR.len];simp
   refine ⟨(fr++[[]]).set st.length ([]++[(i:Int)]),LI p (st.length:Nat) nb,by rw [ha];exact hN.snoc hF.nodup hmem,by rw [ha];exact hR'.put hnd (by rw [List.getElem?_append_left hil];exact hi) hm hpe (by simp) hfq,λ n=>?_⟩
   unfold Bx
   rw [if_pos hcond,KL hi]
   simp only [Option.bind_some,Rf ht.short,hpe,hget,Option.isSome_none,Bool.not_false,Bool.not_true,Bool.false_eq_true,if_true,if_false]
   rw [Vu (by simp;omega),Option.bind_some,Vu (by simp [hR.len];omega),Option.bind_some]
   simp only [CL]
   rw [KL hfq]
   simp only [Option.bind_some]
   rw [Vu (by simp)]
   simp only [Option.bind_some,Ci,hinc,ha,Int.toNat_natCast]
theorem Dt.next {t:Ad} {st:List Ab} {fr:List (List Int)} {i:Nat} (h:Dt t st fr i t.Rules.length) (hr:t.Rules.length≤11):Dt t st fr (i+1) 0:=by
 have htk:∀ {j k},k<t.Rules.length->H3 (i+1) 0 j k->H3 i t.Rules.length j k:=λ {j k} hk h=>by
  unfold H3 at *
  omega
 exact ⟨h.len,λ j s k ht hs hk=>h.cov j s k (htk hk ht) hs hk,h.sound,λ n l hl j s k s' ht hs hk=>h.compl n l hl j s k s' (htk hk ht) hs hk,λ n l hl=>by have:=h.small n l hl;omega⟩
theorem Jdj {t:Ad} (ht:Ho t) {i:Nat} {s:Ab} {st:List Ab} {fr:List (List Int)} {nb:List (Ab×Int)} (hF:Gl t st) (hi:st[i]? = some s) (hN:I1 st nb) (hR:Dt t st fr i 0) :
  ∃ r:List Ab×List (List Int)×List (Ab×Int),(r.1=JU t s t.Rules.length st∧I1 r.1 r.2.2∧Dt t r.1 r.2.1 (i+1) 0) ∧
   Ev (λ n=>whl (λ (x:((List Ab)×(List (List Int))×(List (Ab×Int))×Int))=>Bx n t (i:Int) x.1 x.2.1 x.2.2.1 x.2.2.2) n (st,fr,nb,0)) r:=by
 refine Ev.whlR (body:=λ n x=>Bx n t (i:Int) x.1 x.2.1 x.2.2.1 x.2.2.2) (λ k x=>∃ m:Nat,m≤t.Rules.length∧k=t.Rules.length-m∧x.1=JU t s m st∧x.2.2.2=(m:Int)∧I1 x.1 x.2.2.1∧Dt t x.1 x.2.1 i m) ?_ t.Rules.length (st,fr,nb,0) ⟨0,by omega,by omega,rfl,rfl,hN,hR⟩
 rintro k ⟨st',fr',nb',m'⟩ ⟨m,hm,rfl,h1,h2,h3,h4⟩
 simp only at h1 h2 h3 h4
 subst h1
 subst h2
 rcases Nat.lt_or_ge m t.Rules.length with hlt|hge
 ·left
  have hi':(JU t s m st)[i]? = some s:=Pa (G9 t s st m) hi
  obtain ⟨fr2,nb2,g1,g2,g3⟩:=W3 ht (hF.exp ht hi m hm) hi' h3 h4 hlt
  exact ⟨_,t.Rules.length-(m+1),by omega,⟨m+1,hlt,rfl,(JV t s m st).symm,rfl,g1,g2⟩,Ev.all g3⟩
 ·right
  have e:m=t.Rules.length:=by omega
  subst e
  refine ⟨(JU t s t.Rules.length st,fr',nb'),⟨rfl,h3,h4.next ht.1⟩,Ev.all λ n=>?_⟩
  unfold Bx
  rw [if_neg (by simp)]
theorem Ya {t:Ad} (ht:Ho t):∃ fr,Dt t (Aa t) fr (Aa t).length 0∧Ev (λ n=>Fr n t) (Aa t,fr):=by
 have h0:Gl t [BP]:=⟨by simp,λ s hs=>by simp at hs;subst hs;exact ⟨by decide,by decide,by decide,by decide,by decide,by decide⟩,rfl,λ j s hj h0=>by cases j with|zero=>omega|succ j=>simp at hj⟩
 have loop:∃ r:List Ab×List (List Int),(r.1=Aa t∧Dt t r.1 r.2 r.1.length 0) ∧
   Ev (λ n=>whl (λ (x:((List Ab)×(List (List Int))×(List (Ab×Int))×Int))=>Cj n t x.1 x.2.1 x.2.2.1 x.2.2.2) n ([BP],([[]]:List (List Int)),(LI BP 0 []),0)) r:=by
  refine Ev.whlR (body:=λ n x=>Cj n t x.1 x.2.1 x.2.2.1 x.2.2.2) (λ k x=>∃ i:Nat,i≤x.1.length∧k=800-i∧SW t (800-i) i x.1=Aa t∧x.2.2.2=(i:Int)∧Gl t x.1∧I1 x.1 x.2.2.1∧Dt t x.1 x.2.1 i 0) ?_ 800 _ ⟨0,by simp,by omega,rfl,rfl,h0,?_,?_⟩
  ·rintro k ⟨st,fr,nb,i'⟩ ⟨i,hil,rfl,hb,hi',hF,hN,hR⟩
   simp only at hil hb hi' hF hN hR
   subst hi'
   have hlen:=hF.len
   rcases Nat.lt_or_ge i st.length with hlt|hge
   ·left
    have hi:st[i]? = some st[i]:=List.getElem?_eq_getElem hlt
    obtain ⟨r,⟨g1,g2,g3⟩,g4⟩:=Jdj ht hF hi hN hR
    have hexp:=hF.exp ht hi _ (Nat.le_refl _)
    refine ⟨(r.1,r.2.1,r.2.2,((i+1:Nat):Int)),800-(i+1),by omega,⟨i+1,?_,rfl,?_,rfl,by rw [g1];exact hexp,g2,g3⟩,?_⟩
    ·simp only [g1]
     have:=(G9 t st[i] st t.Rules.length).length_le
     omega
    ·simp only [g1]
     rw [← hb]
     have e:800-i=(800-(i+1))+1:=by omega
     rw [e]
     simp only [SW,hi]
    ·refine (Ev.bind g4 (g:=λ _ y2=>some (Sum.inl (y2.1,y2.2.1,y2.2.2,((i+1:Nat):Int)))) Ev.const).congr λ n=>?_
     unfold Cj
     rw [if_pos (by simpa using hlt)]
     have hinc:Au .i64 (i:Int) 1=((i+1:Nat):Int):=by rw [P8 (by omega) (by omega)];rfl
     rw [hinc]
   ·right
    have e:i=st.length:=by omega
    subst e
    have hst:st=Aa t:=by
     rw [← hb]
     have e:800-st.length=(800-(st.length+1))+1:=by omega
     rw [e]
     simp [SW]
    refine ⟨(st,fr),⟨hst,hR⟩,Ev.all λ n=>?_⟩
    unfold Cj
    rw [if_neg (by simp)]
  ·intro s
   simp only [LI,F5]
   by_cases e:s=BP
   ·subst e;simp
   ·have:¬ BP=s:=λ h=>e h.symm
    simp [e,this]
  ·refine ⟨rfl,λ j s k ht=>?_,λ n l hl x hx=>?_,λ n l hl j s k s' ht=>?_,λ n l hl=>?_⟩
   ·unfold H3 at ht;omega
   ·cases n with
    | zero=>simp at hl;subst hl;simp at hx
    | succ n=>simp at hl
   ·unfold H3 at ht;omega
   ·cases n with
    | zero=>simp at hl;subst hl;simp
    | succ n=>simp at hl
 obtain ⟨⟨st,fr⟩,⟨g1,g2⟩,g3⟩:=loop
 simp only at g1 g2
 subst g1
 refine ⟨fr,g2,?_⟩
 have hs:∀ n,JA n=some BP:=λ n=>rfl
 refine (Ev.bind g3 (g:=λ _ y3=>some (y3.1,y3.2)) Ev.const).congr λ n=>?_
 unfold Fr
 rw [hs,Option.bind_some]
theorem Yb {t:Ad} (ht:Ho t):Ev (λ n=>Gx n t) (Aa t):=by
 obtain ⟨fr,_,h⟩:=Ya ht
 exact (Ev.bind h (g:=λ _ r=>some r.1) Ev.const).congr λ n=>rfl
end Go.AI
end
section
namespace Go.AI
def Tot {α:Type} (f:Nat->Option α) (P:α->Prop):Prop:=∃ z,P z∧Ev f z
def Rd2 {σ ρ:Type} (I:σ->Prop) (P:ρ->Prop):σ⊕ρ->Prop
 | .inl y=>I y
 | .inr r=>P r
variable {α β σ ρ:Type} {P R:α->Prop}
theorem Tot.ev {f:Nat->Option α} {z:α} (h:Tot f (λ x=>x=z)):Ev f z:=by obtain ⟨_,rfl,h⟩:=h;exact h
theorem Ev.tot {f:Nat->Option α} {z:α} (h:Ev f z) (hp:P z):Tot f P:=⟨z,hp,h⟩
theorem Tot.pure {z:α} (h:P z):Tot (λ _=>some z) P:=⟨z,h,Ev.const⟩
theorem Tot.all {f:Nat->Option α} {z:α} (h:∀ n,f n=some z) (hp:P z):Tot f P:=⟨z,hp,Ev.all h⟩
theorem Tot.mono {f:Nat->Option α} (h:Tot f R) (hp:∀ x,R x->P x):Tot f P:=by obtain ⟨z,hz,h⟩:=h;exact ⟨z,hp z hz,h⟩
theorem Tot.bind {f:Nat->Option β} {g:Nat->β->Option α} {R:β->Prop} (h:Tot f R) (k:∀ x,R x->Tot (λ n=>g n x) P):Tot (λ n=>(f n).bind (g n)) P:=by
 obtain ⟨x,hx,h⟩:=h
 obtain ⟨z,hz,h'⟩:=k x hx
 exact ⟨z,hz,Ev.bind h h'⟩
theorem Tot.bindE {f:Nat->Option β} {g:Nat->β->Option α} {x:β} (h:Ev f x) (k:Tot (λ n=>g n x) P):Tot (λ n=>(f n).bind (g n)) P:=by
 obtain ⟨z,hz,h'⟩:=k
 exact ⟨z,hz,Ev.bind h h'⟩
theorem Tot.bindC {x:Option β} {y:β} {g:Nat->β->Option α} (h:x=some y) (k:Tot (λ n=>g n y) P):Tot (λ n=>x.bind (g n)) P:=by subst h;exact k
theorem Tot.bindA {f:Nat->Option β} {y:β} {g:Nat->β->Option α} (h:∀ n,f n=some y) (k:Tot (λ n=>g n y) P):Tot (λ n=>(f n).bind (g n)) P:=Tot.bindE (Ev.all h) k
theorem Tot.ite {c:Bool} {a b:Nat->Option α} (h1:c=true->Tot a P) (h2:c=false->Tot b P):Tot (λ n=>if c=true then a n else b n) P:=by
 cases c with
 | true=>exact h1 rfl
 | false=>exact h2 rfl
theorem Tot.iteT {c:Bool} {a b:Nat->Option α} (h:c=true) (k:Tot a P):Tot (λ n=>if c=true then a n else b n) P:=by subst h;exact k
theorem Tot.iteF {c:Bool} {a b:Nat->Option α} (h:c=false) (k:Tot b P):Tot (λ n=>if c=true then a n else b n) P:=by subst h;exact k
theorem Tot.guard {c:Bool} {f:Nat->Option β} {d:β} {g:Nat->β->Option α} {R:β->Prop} (h:c=true->Tot f R) (k:∀ x,(c=true->R x)->Tot (λ n=>g n x) P):Tot (λ n=>(if c=true then f n else some d).bind (g n)) P:=by
 cases c with
 | true=>exact Tot.bind (h rfl) λ x hx=>k x λ _=>hx
 | false=>exact k d λ h=>by cases h
theorem Tot.congr {f g:Nat->Option α} (h:Tot f P) (e:∀ n,g n=f n):Tot g P:=by obtain ⟨z,hz,h⟩:=h;exact ⟨z,hz,h.congr e⟩
theorem Tot.sum {y:β⊕σ} {f:Nat->β->Option α} {g:Nat->σ->Option α} (h1:∀ b,y=.inl b->Tot (λ n=>f n b) P) (h2:∀ b,y=.inr b->Tot (λ n=>g n b) P):Tot (λ n=>match y with | .inl b=>f n b | .inr b=>g n b) P:=by
 cases y with
 | inl b=>exact h1 b rfl
 | inr b=>exact h2 b rfl
theorem Tot.whl {body:Nat->σ->Option (σ⊕ρ)} {P:ρ->Prop} (I:Nat->σ->Prop) (h:∀ k x,I k x->Tot (λ n=>body n x) (Rd2 (λ y=>∃ j,j<k∧I j y) P)):∀ (k:Nat) (x:σ),I k x->Tot (λ n=>Go.AI.whl (body n) n x) P:=by
 have key:∀ (k:Nat) (x:σ),I k x->∃ r,P r∧∃ N c,∀ n fuel,N≤n->c≤fuel->Go.AI.whl (body n) fuel x=some r:=by
  intro k
  induction k using Nat.strongRecOn with
  | _ k ih=>
   intro x hx
   obtain ⟨z,hz,N1,h1⟩:=h k x hx
   cases z with
   | inl y=>
    obtain ⟨j,hj,hy⟩:=hz
    obtain ⟨r,hr,N2,c,h2⟩:=ih j hj y hy
    refine ⟨r,hr,max N1 N2,c+1,λ n fuel hn hf=>?_⟩
    cases fuel with
    | zero=>omega
    | succ fuel=>
     have e:=h1 n (by omega)
     simp only at e
     simp only [Go.AI.whl,e]
     exact h2 n fuel (by omega) (by omega)
   | inr r=>
    refine ⟨r,hz,N1,1,λ n fuel hn hf=>?_⟩
    cases fuel with
    | zero=>omega
    | succ fuel=>
     have e:=h1 n hn
     simp only at e
     simp only [Go.AI.whl,e]
 intro k x hx
 obtain ⟨r,hr,N,c,hh⟩:=key k x hx
 exact ⟨r,hr,max N c,λ m hm=>hh m m (by omega) (by omega)⟩
theorem Tot.upto {body:Nat->σ->Option (σ⊕ρ)} {P:ρ->Prop} (N:Nat) (I:Nat->σ->Prop)
  (step:∀ i x,i<N->I i x->Tot (λ n=>body n x) (Rd2 (I (i+1)) P))
  (last:∀ x,I N x->Tot (λ n=>body n x) (Rd2 (λ _=>False) P)) (x:σ) (h0:I 0 x):Tot (λ n=>Go.AI.whl (body n) n x) P:=by
 refine Tot.whl (body:=body) (λ k x=>∃ i,i≤N∧k=N-i∧I i x) ?_ N x ⟨0,by omega,by omega,h0⟩
 rintro k x ⟨i,hi,rfl,hx⟩
 rcases Nat.lt_or_ge i N with hlt|hge
 ·refine (step i x hlt hx).mono λ z hz=>?_
  cases z with
  | inl y=>exact ⟨N-(i+1),by omega,i+1,by omega,rfl,hz⟩
  | inr r=>exact hz
 ·have:i=N:=by omega
  subst this
  refine (last x hx).mono λ z hz=>?_
  cases z with
  | inl y=>exact hz.elim
  | inr r=>exact hz
theorem Eg {l:List α} {i:Nat} {x:α} (h:l[i]? = some x):idx l (i:Int)=some x:=by
 unfold idx
 rw [if_pos (by omega)]
 simpa using h
theorem Fg {l:List α} {i:Nat} (h:i<l.length):idx l (i:Int)=some l[i]:=Eg (List.getElem?_eq_getElem h)
theorem KM {eb:Nat} {xs ys:List α} (h:(xs.length+ys.length)*eb≤70368744177664):app eb xs ys=some (xs++ys):=by
 unfold app;rw [if_pos h]
theorem F4 {l:List α} {i:Nat} {y:α} (h:i<l.length):put l (i:Int) y=some (l.set i y):=by
 unfold put;rw [if_pos (by omega),Int.toNat_natCast]
theorem P9 {x y:List UInt8} (h:x.length+y.length≤9223372036854775807):cat x y=some (x++y):=by
 unfold cat;rw [if_pos h]
end Go.AI
end
section
namespace Go.AI
theorem JeV (a:Int):IntKind.i64.wrap a=if decide (a % 18446744073709551616≥9223372036854775808)=true then a % 18446744073709551616-18446744073709551616 else a % 18446744073709551616:=rfl
theorem w64 {a:Int} (h:-9223372036854775808≤a) (h':a<9223372036854775808):IntKind.i64.wrap a=a:=by
 rw [JeV]
 simp only [decide_eq_true_eq]
 split<;>omega
theorem FG {a b:Int} (h:-9223372036854775808≤a+b) (h':a+b<9223372036854775808):Au .i64 a b=a+b:=w64 h h'
theorem NB {a b:Int} (h:-9223372036854775808≤a-b) (h':a-b<9223372036854775808):Dw .i64 a b=a-b:=w64 h h'
theorem H4 {i:Nat} (h:i<9223372036854775807):Au .i64 (i:Int) 1=((i+1:Nat):Int):=by rw [FG]<;>omega
theorem Qa {a m:Int} (h:0≤a) (hm:0<m):A8 a m=a % m∧0≤A8 a m∧A8 a m<m:=by
 have e:A8 a m=a % m:=by unfold A8;rw [Int.tmod_eq_emod_of_nonneg h]
 rw [e];exact ⟨rfl,Int.emod_nonneg _ (by omega),Int.emod_lt_of_pos _ hm⟩
variable {α β σ ρ:Type}
theorem Jkn [Inhabited α] {l:List α} {i:Int} (h:0≤i) (h':i<l.length):idx l i=some (l.getD i.toNat default):=by
 unfold idx
 rw [if_pos h,List.getD_eq_getElem?_getD,List.getElem?_eq_getElem (by omega)];rfl
theorem Ml [Inhabited α] {l:List α} {i:Nat} (h:i<l.length):idx l (i:Int)=some (l.getD i default):=by
 rw [Jkn (by omega) (by omega),Int.toNat_natCast]
theorem Ui {l:List α} {a b:Int} (h:0≤a) (h1:a≤b) (h2:b≤l.length):sub l a b=some ((l.take b.toNat).drop a.toNat):=by
 unfold sub;rw [if_pos ⟨h,h1,h2⟩]
theorem Pb {l:List α} {k:Nat} (h:k≤l.length):sub l 0 (k:Int)=some (l.take k):=by
 rw [Ui (by omega) (by omega) (by omega)];simp
theorem SX {eb:Nat} {k:Int} {z:α} (h:0≤k) (h':k.toNat*eb≤70368744177664):mkl eb k z=some (List.replicate k.toNat z):=by
 unfold mkl;rw [if_pos ⟨h,h'⟩]
theorem MK {b:Bool} (h:b=true):Bm b=some ():=by subst h;rfl
theorem Yc {body:σ->Option (σ⊕ρ)} {r:ρ} (st:Nat->σ) (k:Nat) (step:∀ i,i<k->body (st i)=some (.inl (st (i+1)))) (last:body (st k)=some (.inr r)):∀ n,k<n->whl body n (st 0)=some r:=by
 have key:∀ (j n i:Nat),i+j=k->j<n->whl body n (st i)=some r:=by
  intro j
  induction j with
  | zero=>
   intro n i hi hn
   cases n with
   | zero=>omega
   | succ n=>
    have:i=k:=by omega
    subst this;simp only [whl,last]
  | succ j ih=>
   intro n i hi hn
   cases n with
   | zero=>omega
   | succ n=>simp only [whl,step i (by omega)];exact ih n (i+1) (by omega) (by omega)
 intro n hn
 exact key k n 0 (by omega) hn
theorem Ev.to {body:Nat->σ->Option (σ⊕ρ)} {r:ρ} (st:Nat->σ) (k:Nat) (h:∃ N,∀ n,N≤n->(∀ i,i<k->body n (st i)=some (.inl (st (i+1))))∧body n (st k)=some (.inr r)):Ev (λ n=>Go.AI.whl (body n) n (st 0)) r:=by
 obtain ⟨N,h⟩:=h
 exact ⟨max N (k+1),λ n hn=>Yc st k (h n (by omega)).1 (h n (by omega)).2 n (by omega)⟩
def I2 (N:Nat) (stop:Nat->Option ρ) (d:ρ):ρ:=((List.range N).findSome? stop).getD d
theorem Z3 {N:Nat} {stop:Nat->Option ρ} {d:ρ} (h:∀ i,i<N->stop i=none):I2 N stop d=d:=by
 unfold I2
 rw [List.findSome?_eq_none_iff.2 λ i hi=>h i (List.mem_range.1 hi)];rfl
theorem Z4 {N:Nat} {stop:Nat->Option ρ} {d r:ρ} (k:Nat) (hk:k<N) (hr:stop k=some r) (h:∀ i,i<k->stop i=none):I2 N stop d=r:=by
 unfold I2
 have:(List.range N).findSome? stop=some r:=by
  have e:List.range N=List.range k++(List.range (N-k)).map (k+·):=by rw [← List.range_add];congr 1;omega
  rw [e,List.findSome?_append,List.findSome?_eq_none_iff.2 λ i hi=>h i (List.mem_range.1 hi)]
  have:N-k=(N-k-1)+1:=by omega
  rw [this,List.range_succ_eq_map]
  simp [hr]
 rw [this];rfl
theorem TE (N:Nat) (stop:Nat->Option ρ) (d:ρ):((∀ i,i<N->stop i=none)∧I2 N stop d=d)∨∃ k r,k<N∧stop k=some r∧(∀ i,i<k->stop i=none)∧I2 N stop d=r:=by
 by_cases h:∀ i,i<N->stop i=none
 ·exact .inl ⟨h,Z3 h⟩
 ·right
  have hex:∃ k,k<N∧stop k≠none:=by
   apply Classical.byContradiction
   intro hh
   exact h λ i hi=>Classical.byContradiction λ hn=>hh ⟨i,hi,hn⟩
  have key:∀ m,(∃ k,k<m∧k<N∧stop k≠none)->∃ k,k<N∧stop k≠none∧∀ i,i<k->stop i=none:=by
   intro m
   induction m with
   | zero=>rintro ⟨k,hk,_⟩;omega
   | succ m ih=>
    rintro ⟨k,hk,h1,h2⟩
    by_cases hm:∃ k,k<m∧k<N∧stop k≠none
    ·exact ih hm
    ·refine ⟨k,h1,h2,λ i hi=>Classical.byContradiction λ hn=>hm ⟨i,by omega,by omega,hn⟩⟩
  obtain ⟨k0,h1,h2⟩:=hex
  obtain ⟨k,h3,h4,h5⟩:=key (k0+1) ⟨k0,by omega,h1,h2⟩
  obtain ⟨r,hr⟩:=Option.ne_none_iff_exists'.1 h4
  exact ⟨k,r,h3,hr,h5,Z4 k h3 hr h5⟩
theorem Z5 {body:Int->Option (Int⊕ρ)} {N:Nat} (stop:Nat->Option ρ) {d:ρ} (h1:∀ i,i<N->body (i:Int)=some (match stop i with|some r=>.inr r|none=>.inl ((i+1:Nat):Int))) (h2:body (N:Int)=some (.inr d)):∀ n,N<n->whl body n 0=some (I2 N stop d):=by
 intro n hn
 rcases TE N stop d with ⟨h,e⟩|⟨k,r,hk,hr,h,e⟩
 ·rw [e]
  exact Yc (λ i=>(i:Int)) N (λ i hi=>by rw [h1 i hi,h i hi]) h2 n hn
 ·rw [e]
  exact Yc (λ i=>(i:Int)) k (λ i hi=>by rw [h1 i (by omega),h i hi]) (by rw [h1 k hk,hr]) n (by omega)
theorem Ev.first {body:Nat->Int->Option (Int⊕ρ)} {N:Nat} (stop:Nat->Option ρ) {d:ρ} (h:∃ M,∀ n,M≤n->(∀ i,i<N->body n (i:Int)=some (match stop i with|some r=>.inr r|none=>.inl ((i+1:Nat):Int)))∧body n (N:Int)=some (.inr d)):Ev (λ n=>Go.AI.whl (body n) n 0) (I2 N stop d):=by
 obtain ⟨M,h⟩:=h
 exact ⟨max M (N+1),λ n hn=>Z5 stop (h n (by omega)).1 (h n (by omega)).2 n (by omega)⟩
theorem Tot.gE {P:α->Prop} {c:Bool} {f:Nat->Option β} {d x:β} {g:Nat->β->Option α} (hc:c=true) (h:Ev f x) (k:Tot (λ n=>g n x) P):Tot (λ n=>(if c=true then f n else some d).bind (g n)) P:=by
 subst hc;exact Tot.bindE h k
theorem Tot.gF {P:α->Prop} {c:Bool} {f:Nat->Option β} {d:β} {g:Nat->β->Option α} (hc:c=false) (k:Tot (λ n=>g n d) P):Tot (λ n=>(if c=true then f n else some d).bind (g n)) P:=by
 subst hc;exact k
theorem Ev.many {f:Nat->Nat->Option α} {z:Nat->α} (N:Nat) (h:∀ i,i<N->Ev (λ n=>f n i) (z i)):∃ M,∀ n,M≤n->∀ i,i<N->f n i=some (z i):=by
 induction N with
 | zero=>exact ⟨0,λ n _ i hi=>by omega⟩
 | succ N ih=>
  obtain ⟨M1,h1⟩:=ih λ i hi=>h i (by omega)
  obtain ⟨M2,h2⟩:=h N (by omega)
  exact ⟨max M1 M2,λ n hn i hi=>by
   by_cases e:i=N
   ·subst e;exact h2 n (by omega)
   ·exact h1 n (by omega) i (by omega)⟩
end Go.AI
end
section
namespace Go.AI
def scan {ρ:Type} (N:Nat) (stop:Nat->Option ρ):Unit⊕ρ:=match (List.range N).findSome? stop with
 | some r=>.inr r
 | none=>.inl ()
theorem ML {ρ:Type} {body:Nat->Int->Option (Int⊕(Unit⊕ρ))} (N:Nat) (stop:Nat->Option ρ)
  (h:∀ i,i<N->Ev (λ n=>body n (i:Int)) (match stop i with|some r=>.inr (.inr r)|none=>.inl ((i+1:Nat):Int)))
  (h2:Ev (λ n=>body n (N:Int)) (.inr (.inl ()))):Ev (λ n=>whl (body n) n 0) (AI.scan N stop):=by
 have key:∀ (k i:Nat),i+k=N->(List.range N).findSome? stop=((List.range k).map (i+·)).findSome? stop->∃ M c,∀ n fuel,M≤n->c≤fuel->whl (body n) fuel (i:Int)=some (AI.scan N stop):=by
  intro k
  induction k with
  | zero=>
   intro i hi hf
   have:i=N:=by omega
   subst this
   obtain ⟨M,hM⟩:=h2
   refine ⟨M,1,λ n fuel hn hfu=>?_⟩
   obtain ⟨fuel,rfl⟩:∃ f,fuel=f+1:=⟨fuel-1,by omega⟩
   have e:=hM n hn
   simp only at e
   simp only [AI.whl,e]
   unfold AI.scan
   rw [hf];rfl
  | succ k ih=>
   intro i hi hf
   obtain ⟨M,hM⟩:=h i (by omega)
   have hs:(List.range (k+1)).map (i+·)=i::(List.range k).map ((i+1)+·):=by
    rw [List.range_succ_eq_map]
    simp only [List.map_cons,Nat.add_zero,List.map_map,List.cons.injEq,true_and]
    apply List.map_congr_left
    intro a _
    simp only [Function.comp];omega
   rw [hs,List.findSome?_cons] at hf
   cases hst:stop i with
   | some r=>
    rw [hst] at hf hM
    refine ⟨M,1,λ n fuel hn hfu=>?_⟩
    obtain ⟨fuel,rfl⟩:∃ f,fuel=f+1:=⟨fuel-1,by omega⟩
    have e:=hM n hn
    simp only at e
    simp only [AI.whl,e]
    unfold AI.scan
    rw [hf]
   | none=>
    rw [hst] at hf hM
    obtain ⟨M2,c,h3⟩:=ih (i+1) (by omega) hf
    refine ⟨max M M2,c+1,λ n fuel hn hfu=>?_⟩
    obtain ⟨fuel,rfl⟩:∃ f,fuel=f+1:=⟨fuel-1,by omega⟩
    have e:=hM n (by omega)
    simp only at e
    simp only [AI.whl,e]
    exact h3 n fuel (by omega) (by omega)
 obtain ⟨M,c,hh⟩:=key N 0 (by omega) (by simp)
 exact ⟨max M c,λ m hm=>hh m m (by omega) (by omega)⟩
theorem MM {ρ:Type} {N:Nat} {stop:Nat->Option ρ} (h:∀ i,i<N->stop i=none):scan N stop=.inl ():=by
 unfold scan
 rw [List.findSome?_eq_none_iff.2 λ i hi=>h i (List.mem_range.1 hi)]
theorem MN {ρ:Type} {N:Nat} {stop:Nat->Option ρ} {i:Nat} (hi:i<N) (h:(stop i).isSome=true):∃ k r,k<N∧stop k=some r∧scan N stop=.inr r:=by
 unfold scan
 cases hf:(List.range N).findSome? stop with
 | none=>rw [List.findSome?_eq_none_iff.1 hf i (List.mem_range.2 hi)] at h;cases h
 | some r=>
  obtain ⟨k,hk,hr⟩:=List.exists_of_findSome?_eq_some hf
  exact ⟨k,r,List.mem_range.1 hk,hr,rfl⟩
def QE (b:UInt8):Int:=(b.toNat:Int)
def FH (b:UInt8):Bool:=decide (Cg .u8 (QE b) 127≥32)&&decide (Cg .u8 (QE b) 127≤126)
def H5 (b:UInt8):Bool:=Cg .u8 (QE b) 127==32
theorem SY {s:List UInt8} {i:Nat} {b:UInt8} (h:s[i]? = some b):NI s (i:Int)=some (QE b):=by
 rw [O9 (Ap h)]
 unfold NA QE
 rw [h];rfl
theorem Ha {i n:Nat} (h:i<n):decide ((i:Int)<((n:Nat):Int))=true:=by simpa using h
def H6 (s:List UInt8):Int×Int:=match scan s.length (λ i=>if FH (s.getD i 0) then none else some ((i:Int),(60:Int))) with
 | .inl _=>(((List.length s:Nat):Int),0)
 | .inr p=>p
theorem DG {α:Type} {l:List α} {i:Nat} {d:α} (h:i<l.length):l.getD i d=l[i]:=by
 rw [List.getD_eq_getElem?_getD,List.getElem?_eq_getElem h];rfl
theorem JeW {s:List UInt8} (hl:s.length<9223372036854775807):Ev (λ n=>FO n s) (H6 s):=by
 unfold FO H6
 refine Ev.bind (ML s.length (λ i=>if FH (s.getD i 0) then none else some ((i:Int),(60:Int))) (λ i hi=>Ev.all λ n=>?_) (Ev.all λ n=>?_)) ?_
 ·unfold Fq
  have hg:s[i]? = some s[i]:=List.getElem?_eq_getElem hi
  rw [if_pos (Ha hi),SY hg,DG hi]
  have hc:DL n (QE s[i])=some (FH s[i]):=rfl
  simp only [Option.bind_some,hc]
  cases FH s[i] with
  | true=>simp [H4 (show i<9223372036854775807 by omega)]
  | false=>simp
 ·unfold Fq
  rw [if_neg (by simp)]
 ·generalize scan s.length _=z;cases z<;>exact Ev.const
theorem Jdk {s:List UInt8} (hl:s.length<9223372036854775807):Ev (λ n=>OI n s) (H6 s):=by
 unfold OI H6
 refine Ev.bind (ML s.length (λ i=>if FH (s.getD i 0) then none else some ((i:Int),(60:Int))) (λ i hi=>Ev.all λ n=>?_) (Ev.all λ n=>?_)) ?_
 ·unfold IC
  have hg:s[i]? = some s[i]:=List.getElem?_eq_getElem hi
  rw [if_pos (Ha hi),SY hg,DG hi]
  have hc:I8 n (QE s[i])=some (FH s[i]):=rfl
  simp only [Option.bind_some,hc]
  cases FH s[i] with
  | true=>simp [H4 (show i<9223372036854775807 by omega)]
  | false=>simp
 ·unfold IC
  rw [if_neg (by simp)]
 ·generalize scan s.length _=z;cases z<;>exact Ev.const
theorem W4 {s:List UInt8} (h:s.all FH=true):H6 s=(((List.length s:Nat):Int),0):=by
 unfold H6
 rw [MM λ i hi=>by rw [DG hi,List.all_eq_true.1 h _ (List.getElem_mem hi)];rfl]
theorem Z6 {s:List UInt8} (h:s.all FH=false):(H6 s).2=60:=by
 rw [List.all_eq_false] at h
 obtain ⟨b,hb,hc⟩:=h
 obtain ⟨i,hi,e⟩:=List.getElem_of_mem hb
 unfold H6
 obtain ⟨k,r,hk,hr,hs⟩:=MN (stop:=λ i=>if FH (s.getD i 0) then none else some ((i:Int),(60:Int))) hi (by
  rw [DG hi,e];simp only [Bool.not_eq_true] at hc;rw [hc];rfl)
 rw [hs]
 simp only at hr ⊢
 split at hr
 ·cases hr
 ·cases hr;rfl
theorem Z7 {s:List UInt8} (hl:s.length<9223372036854775807):Ev (λ n=>Kd n s) (s.all FH):=by
 unfold Kd
 refine Ev.bind (Jdk hl) ?_
 cases h:s.all FH with
 | true=>rw [W4 h];exact Ev.const
 | false=>rw [Z6 h];exact Ev.const
def GB (r:Ax) (m:Int):Bool:=
 r.Print.all FH&&decide (r.Print.length≤4)&&decide (1≤r.Cells.length)&&decide (r.Cells.length≤4) &&
 (decide (1≤r.Left)&&decide (r.Left≤63)&&decide (1≤r.Right)&&decide (r.Right≤63)&&decide (0≤r.From)&&decide (r.From<m)&&decide (0≤r.To)&&decide (r.To<m)) &&
 r.Cells.all (λ c=>decide (c<63)) &&
 (bif r.Print.any H5 then decide (r.Print.length=1)&&decide (r.Cells.length=1)&&r.Cells.any (λ c=>c==0) else !r.Cells.any (λ c=>c==0))
end Go.AI
end
section
namespace Go.AI
theorem Z8 {r:Ax} (hl:r.Print.length<9223372036854775807):Ev (λ n=>whl (λ (x:(Bool×Int))=>Ey n r x.1 x.2) n (false,0)) (r.Print.any H5):=by
 refine Ev.whl (body:=λ n x=>Ey n r x.1 x.2) (λ k x=>∃ i:Nat,x.2=(i:Int)∧i≤r.Print.length∧k=r.Print.length-i∧x.1=(r.Print.take i).any H5) ?_ r.Print.length (false,0) ⟨0,rfl,by omega,by omega,by simp⟩
 rintro k ⟨b,i'⟩ ⟨i,h1,hi,rfl,h2⟩
 simp only at h1 h2
 subst h1
 subst h2
 rcases Nat.lt_or_ge i r.Print.length with hlt|hge
 ·left
  have hg:r.Print[i]? = some r.Print[i]:=List.getElem?_eq_getElem hlt
  have hcond:decide ((i:Int)<((List.length r.Print:Nat):Int))=true:=by simpa using hlt
  refine ⟨((r.Print.take (i+1)).any H5,((i+1:Nat):Int)),r.Print.length-(i+1),by omega,⟨i+1,rfl,by omega,rfl,rfl⟩,Ev.all λ n=>?_⟩
  unfold Ey
  rw [if_pos hcond]
  have ht:(r.Print.take (i+1)).any H5=((r.Print.take i).any H5||H5 r.Print[i]):=by
   rw [List.take_add_one,hg];simp only [Option.toList_some,List.any_append,List.any_cons,List.any_nil,Bool.or_false]
  have hsp:∀ n,PE n (QE r.Print[i])=some (H5 r.Print[i]):=λ n=>rfl
  rw [ht,P8 (by omega) (by omega),SY hg]
  cases (r.Print.take i).any H5 with
  | true=>simp
  | false=>simp [hsp]
 ·right
  have e:i=r.Print.length:=by omega
  subst e
  refine Ev.all λ n=>?_
  unfold Ey
  rw [if_neg (by simp),List.take_length]
theorem Ev.upto {σ ρ:Type} {body:Nat->σ->Option (σ⊕ρ)} {R:ρ->Prop} (N:Nat) (I:Nat->σ->Prop)
  (step:∀ i x,i<N->I i x->(∃ y,I (i+1) y∧Ev (λ n=>body n x) (.inl y))∨∃ r,R r∧Ev (λ n=>body n x) (.inr r))
  (last:∀ x,I N x->∃ r,R r∧Ev (λ n=>body n x) (.inr r)) (x:σ) (h0:I 0 x):∃ r,R r∧Ev (λ n=>Go.AI.whl (body n) n x) r:=by
 refine Ev.whlR (body:=body) (λ k x=>∃ i,i≤N∧k=N-i∧I i x) ?_ N x ⟨0,by omega,by omega,h0⟩
 rintro k x ⟨i,hi,rfl,hx⟩
 rcases Nat.lt_or_ge i N with hlt|hge
 ·rcases step i x hlt hx with ⟨y,hy,hE⟩|h
  ·exact .inl ⟨y,N-(i+1),by omega,⟨i+1,by omega,rfl,hy⟩,hE⟩
  ·exact .inr h
 ·have:i=N:=by omega
  subst this
  exact .inr (last x hx)
theorem Z9 {r:Ax} (hl:r.Cells.length<9223372036854775807) (y:Bool):∃ z:Bool⊕Bool,(if r.Cells.all (λ c=>decide (c<63))=true then z=.inl (r.Cells.any (λ c=>c==0)) else z=.inr false)∧Ev (λ n=>whl (λ (x:(Bool×Int))=>DE n r y x.1 x.2) n (false,0)) z:=by
 refine Ev.upto (body:=λ n x=>DE n r y x.1 x.2) r.Cells.length (λ i x=>x.2=(i:Int)∧x.1=(r.Cells.take i).any (λ c=>c==0)∧(r.Cells.take i).all (λ c=>decide (c<63))=true) ?_ ?_ (false,0) ⟨rfl,by simp,by simp⟩
 ·rintro i ⟨b,i'⟩ hlt ⟨h1,h2,h3⟩
  simp only at h1 h2
  subst h1
  subst h2
  have hg:r.Cells[i]? = some r.Cells[i]:=List.getElem?_eq_getElem hlt
  have hcond:decide ((i:Int)<((List.length r.Cells:Nat):Int))=true:=by simpa using hlt
  by_cases hc:r.Cells[i]<63
  ·left
   refine ⟨((r.Cells.take (i+1)).any (λ c=>c==0),((i+1:Nat):Int)),⟨rfl,rfl,?_⟩,Ev.all λ n=>?_⟩
   ·rw [List.take_add_one,hg];simp only [Option.toList_some,List.all_append,h3,List.all_cons,decide_eq_true hc,List.all_nil,Bool.and_self]
   ·unfold DE
    have ht:(r.Cells.take (i+1)).any (λ c=>c==0)=((r.Cells.take i).any (λ c=>c==0)||r.Cells[i]==0):=by
     rw [List.take_add_one,hg];simp only [Option.toList_some,List.any_append,List.any_cons,List.any_nil,Bool.or_false]
    rw [if_pos hcond,KL hg,Option.bind_some,if_neg (by simpa using hc),ht,P8 (by omega) (by omega)]
    cases (r.Cells.take i).any (λ c=>c==0) with
    | true=>simp
    | false=>simp
  ·right
   refine ⟨.inr false,?_,Ev.all λ n=>?_⟩
   ·rw [if_neg]
    intro h
    rw [List.all_eq_true] at h
    exact hc (by simpa using h r.Cells[i] (List.getElem_mem hlt))
   ·unfold DE
    rw [if_pos hcond,KL hg,Option.bind_some,if_pos (by simp;omega)]
 ·rintro ⟨b,i'⟩ ⟨h1,h2,h3⟩
  simp only at h1 h2
  subst h1
  subst h2
  rw [List.take_length] at h3 ⊢
  refine ⟨.inl (r.Cells.any (λ c=>c==0)),by rw [if_pos h3],Ev.all λ n=>?_⟩
  unfold DE
  rw [if_neg (by simp)]
theorem Jdl {r:Ax} (hp:r.Print.length<9223372036854775807) (hc:r.Cells.length<9223372036854775807) (m:Int):Ev (λ n=>MG n r m) (GB r m):=by
 obtain ⟨z,hz,hE⟩:=Z9 hc (r.Print.any H5)
 have h1:=Z7 hp
 have h2:=Z8 (r:=r) hp
 unfold MG
 refine Ev.bind h1 ?_
 unfold GB
 generalize r.Print.all FH=a
 by_cases g1:((((!a)||(decide (((List.length r.Print:Nat):Int)>4)))||(decide (((List.length r.Cells:Nat):Int)<1)))||(decide (((List.length r.Cells:Nat):Int)>4)))=true
 ·simp only [g1,if_true]
  have:(a&&decide (r.Print.length≤4)&&decide (1≤r.Cells.length)&&decide (r.Cells.length≤4))=false:=by
   rw [← Bool.not_eq_true]
   intro h
   simp only [Bool.and_eq_true,decide_eq_true_eq] at h
   simp only [Bool.or_eq_true,decide_eq_true_eq,Bool.not_eq_true'] at g1
   rcases g1 with ((g|g)|g)|g
   ·rw [g] at h;simp at h
   all_goals omega
  rw [this]
  exact Ev.const
 ·simp only [g1]
  by_cases g2:((((((((decide (r.Left<1))||(decide (r.Left>63)))||(decide (r.Right<1)))||(decide (r.Right>63)))||(decide (r.From<0)))||(decide (r.From≥m)))||(decide (r.To<0)))||(decide (r.To≥m)))=true
  ·simp only [g2,if_true]
   have:(decide (1≤r.Left)&&decide (r.Left≤63)&&decide (1≤r.Right)&&decide (r.Right≤63)&&decide (0≤r.From)&&decide (r.From<m)&&decide (0≤r.To)&&decide (r.To<m))=false:=by
    rw [← Bool.not_eq_true]
    intro h
    simp only [Bool.and_eq_true,decide_eq_true_eq] at h
    simp only [Bool.or_eq_true,decide_eq_true_eq] at g2
    omega
   rw [this,Bool.and_false]
   exact Ev.const
  ·have e1:(a&&decide (r.Print.length≤4)&&decide (1≤r.Cells.length)&&decide (r.Cells.length≤4))=true:=by
    simp only [Bool.or_eq_true,decide_eq_true_eq,Bool.not_eq_true',not_or] at g1
    simp only [Bool.and_eq_true,decide_eq_true_eq]
    refine ⟨⟨⟨by simpa using g1.1.1.1,?_⟩,?_⟩,?_⟩<;>omega
   have e2:(decide (1≤r.Left)&&decide (r.Left≤63)&&decide (1≤r.Right)&&decide (r.Right≤63)&&decide (0≤r.From)&&decide (r.From<m)&&decide (0≤r.To)&&decide (r.To<m))=true:=by
    simp only [Bool.or_eq_true,decide_eq_true_eq,not_or] at g2
    simp only [Bool.and_eq_true,decide_eq_true_eq]
    omega
   rw [e1,e2]
   simp only [g2,Bool.false_eq_true,if_false]
   refine Ev.bind h2 (Ev.bind hE ?_)
   split at hz
   ·rename_i h
    subst hz
    rw [h]
    generalize r.Print.any H5=b
    cases b with
    | false=>exact Ev.const
    | true=>
     refine Ev.all λ n=>?_
     simp only [Bool.not_true,Bool.false_eq_true,if_false,Bool.and_true,Bool.true_and,cond_true]
     congr 3<;>rw [Bool.eq_iff_iff]<;>simp<;>omega
   ·rename_i h
    subst hz
    rw [Bool.not_eq_true] at h
    rw [h]
    exact Ev.const
end Go.AI
end
section
namespace Go.AI
theorem Ev.iteT {α:Type} {c:Bool} {a b:Nat->Option α} {z:α} (h:c=true) (k:Ev a z):Ev (λ n=>if c=true then a n else b n) z:=by subst h;exact k
theorem Ev.iteF {α:Type} {c:Bool} {a b:Nat->Option α} {z:α} (h:c=false) (k:Ev b z):Ev (λ n=>if c=true then a n else b n) z:=by subst h;exact k
theorem Ev.bindC {α β:Type} {x:Option β} {y:β} {g:Nat->β->Option α} {z:α} (h:x=some y) (k:Ev (λ n=>g n y) z):Ev (λ n=>x.bind (g n)) z:=by subst h;exact k
theorem Ev.guard {α β:Type} {c:Bool} {f:Nat->Option β} {d x:β} {g:Nat->β->Option α} {z:α} (h:c=true->Ev f x) (k:Ev (λ n=>g n (if c=true then x else d)) z):Ev (λ n=>(if c=true then f n else some d).bind (g n)) z:=by
 cases c with
 | true=>exact Ev.bind (h rfl) k
 | false=>exact k
theorem Yd {α β:Type} {a:List α} {b:List β}:(((List.length a:Nat):Int) != ((List.length b:Nat):Int))=decide (a.length≠b.length):=by
 rw [Bool.eq_iff_iff]
 simp only [bne_iff_ne,ne_eq,decide_eq_true_eq]
 omega
theorem Uj {α:Type} [DecidableEq α] [Inhabited α] (a b:List α) (h:a.length=b.length):scan a.length (λ i=>if a.getD i default=b.getD i default then none else some false)=if a=b then .inl () else .inr false:=by
 by_cases e:a=b
 ·subst e
  rw [if_pos rfl]
  exact MM λ i _=>by rw [if_pos rfl]
 ·rw [if_neg e]
  have:∃ i,i<a.length∧a.getD i default≠b.getD i default:=by
   apply Classical.byContradiction
   intro hn
   refine e (List.ext_getElem h λ i h1 h2=>?_)
   have:=Classical.byContradiction λ hc=>hn ⟨i,h1,hc⟩
   rwa [DG h1,DG h2] at this
  obtain ⟨i,hi,hne⟩:=this
  obtain ⟨k,r,_,hr,hs⟩:=MN (stop:=λ i=>if a.getD i default=b.getD i default then none else some false) hi (by rw [if_neg hne];rfl)
  rw [hs]
  split at hr
  ·cases hr
  ·cases hr;rfl
theorem Vv (a b:List Int) (ha:a.length<9223372036854775807):Ev (λ n=>Db n a b) (decide (a=b)):=by
 unfold Db
 rw [Yd]
 by_cases h:a.length=b.length
 ·refine Ev.iteF (by simp [h]) ?_
  refine Ev.bind (ML a.length (λ i=>if a.getD i default=b.getD i default then none else some false) (λ i hi=>Ev.all λ n=>?_) (Ev.all λ n=>?_)) ?_
  ·unfold CI
   rw [if_pos (Ha hi),Ml hi,Ml (by omega)]
   simp only [Option.bind_some]
   by_cases e:a.getD i default=b.getD i default
   ·rw [if_neg (by simp only [bne_iff_ne,ne_eq];exact λ hh=>hh e),if_pos e,H4 (by omega)]
   ·rw [if_pos (by simp only [bne_iff_ne,ne_eq];exact e),if_neg e]
  ·unfold CI
   rw [if_neg (by simp)]
  ·rw [Uj a b h]
   by_cases e:a=b
   ·rw [if_pos e,decide_eq_true e];exact Ev.const
   ·rw [if_neg e,decide_eq_false e];exact Ev.const
 ·refine Ev.iteT (by simp [h]) ?_
  rw [decide_eq_false (λ e=>h (by rw [e]))]
  exact Ev.const
theorem JeX (a b:Ax):decide (a=b)=(a.Print==b.Print&&decide (a.Cells=b.Cells)&&a.Left==b.Left&&a.Right==b.Right&&a.From==b.From&&a.To==b.To):=by
 rw [Bool.eq_iff_iff]
 cases a;cases b
 simp only [decide_eq_true_eq,Ax.mk.injEq,Bool.and_eq_true,beq_iff_eq]
 exact ⟨λ ⟨h1,h2,h3,h4,h5,h6⟩=>⟨⟨⟨⟨⟨h1,h2⟩,h3⟩,h4⟩,h5⟩,h6⟩,λ ⟨⟨⟨⟨⟨h1,h2⟩,h3⟩,h4⟩,h5⟩,h6⟩=>⟨h1,h2,h3,h4,h5,h6⟩⟩
theorem W5 (a b:Ax) (ha:a.Cells.length<9223372036854775807):Ev (λ n=>Hy n a b) (decide (a=b)):=by
 unfold Hy
 refine Ev.guard (λ _=>Vv a.Cells b.Cells ha) (Ev.all λ n=>?_)
 rw [JeX]
 cases h:(a.Print==b.Print)<;>simp
end Go.AI
end
section
namespace Go.AI
def Jdm (r:Ax):Prop:=r.Print.length<9223372036854775807∧r.Cells.length<9223372036854775807
def KN (t:Ad):Prop:=t.Rules.length<9223372036854775807∧∀ r∈t.Rules,Jdm r
def Jaa (t:Ad) (i:Nat):Unit⊕(Int×Int):=scan i (λ k=>if t.Rules.getD k default=t.Rules.getD i default then some ((i:Int),(20:Int)) else none)
def Mm (t:Ad) (i:Nat):Option (Int×Int):=if GB (t.Rules.getD i default) t.Modes=true then (match Jaa t i with | .inl _=>none | .inr p=>some p) else some ((i:Int),20)
def Ye (t:Ad):Bool:=decide (t.Modes<1)||decide (t.Modes>8)||(t.Accept==0)||decide (IntKind.i64.wrap t.Accept≥Tf .i64 1 t.Modes)||decide (((List.length t.Rules:Nat):Int)<1)||decide (((List.length t.Rules:Nat):Int)>64)
def Vw (t:Ad):Int×Int:=if Ye t=true then (-1,1) else match scan t.Rules.length (Mm t) with
 | .inl _=>(0,0)
 | .inr p=>p
theorem KN.get {t:Ad} (h:KN t) {i:Nat} (hi:i<t.Rules.length):Jdm (t.Rules.getD i default):=by
 rw [DG hi];exact h.2 _ (List.getElem_mem hi)
theorem Jab {t:Ad} (ht:KN t) {i:Nat} (hi:i<t.Rules.length):Ev (λ n=>whl (λ (x:Int)=>FP n t (i:Int) x) n 0) (Jaa t i):=by
 refine ML i _ (λ k hk=>?_) (Ev.all λ n=>?_)
 ·unfold FP
  refine Ev.iteT (by simpa using hk) (Ev.bindC (Ml (by omega)) (Ev.bindC (Ml hi) (Ev.bind (W5 _ _ (ht.get (by omega)).2) (Ev.all λ n=>?_))))
  by_cases e:t.Rules.getD k default=t.Rules.getD i default
  ·rw [if_pos (decide_eq_true e),if_pos e]
  ·rw [if_neg (by simpa using e),if_neg e,H4 (by have:=ht.1;omega)]
 ·unfold FP
  rw [if_neg (by simp)]
theorem Jac {t:Ad} (ht:KN t):Ev (λ n=>whl (λ (x:Int)=>FQ n t x) n 0) (scan t.Rules.length (Mm t)):=by
 refine ML _ _ (λ i hi=>?_) (Ev.all λ n=>?_)
 ·unfold FQ
  refine Ev.iteT (Ha hi) (Ev.bindC (Ml hi) (Ev.bind (Jdl (ht.get hi).1 (ht.get hi).2 t.Modes) ?_))
  unfold Mm
  cases GB (t.Rules.getD i default) t.Modes with
  | false=>exact Ev.iteT rfl Ev.const
  | true=>
   refine Ev.iteF rfl (Ev.bind (Jab ht hi) ?_)
   cases Jaa t i with
   | inl u=>refine Ev.all λ n=>?_;simp [H4 (show i<9223372036854775807 by have:=ht.1;omega)]
   | inr p=>exact Ev.const
 ·unfold FQ
  rw [if_neg (by simp)]
theorem Jdn {t:Ad} (ht:KN t):Ev (λ n=>MH n t) (Vw t):=by
 unfold MH Vw
 refine Ev.bindC (y:=()) ?_ ?_
 ·split
  ·rename_i h
   simp only [Bool.not_eq_true',Bool.or_eq_false_iff,decide_eq_false_iff_not] at h
   exact MK (by simp;omega)
  ·rfl
 ·show Ev (λ n=>if Ye t=true then _ else _) _
  cases Ye t with
  | true=>exact Ev.iteT rfl Ev.const
  | false=>
   refine Ev.iteF rfl (Ev.bind (Jac ht) ?_)
   generalize scan t.Rules.length _=z
   cases z<;>exact Ev.const
def Fh (t:Ad):Bool:=!Ye t&&t.Rules.all (λ r=>GB r t.Modes)&&decide t.Rules.Nodup
theorem Vx (t:Ad):((Vw t).2==0)=Fh t:=by
 unfold Vw Fh
 cases Ye t with
 | true=>rfl
 | false=>
  simp only [Bool.false_eq_true,if_false,Bool.not_false,Bool.true_and]
  have h20:∀ i p,Mm t i=some p->p.2=20:=by
   intro i p h
   unfold Mm at h
   split at h
   ·split at h
    ·cases h
    ·rename_i q hq
     cases h
     unfold Jaa scan at hq
     split at hq
     ·rename_i r hr
      cases hq
      obtain ⟨k,_,hk⟩:=List.exists_of_findSome?_eq_some hr
      split at hk
      ·cases hk;rfl
      ·cases hk
     ·cases hq
   ·cases h;rfl
  have hiff:(∀ i,i<t.Rules.length->Mm t i=none)↔(t.Rules.all (λ r=>GB r t.Modes)&&decide t.Rules.Nodup)=true:=by
   simp only [Bool.and_eq_true,List.all_eq_true,decide_eq_true_eq]
   constructor
   ·intro h
    have hs:∀ i,i<t.Rules.length->GB (t.Rules.getD i default) t.Modes=true:=by
     intro i hi
     have:=h i hi
     unfold Mm at this
     split at this
     ·assumption
     ·cases this
    refine ⟨λ r hr=>?_,?_⟩
    ·obtain ⟨i,hi,e⟩:=List.getElem_of_mem hr
     have:=hs i hi
     rwa [DG hi,e] at this
    ·rw [List.Nodup,List.pairwise_iff_getElem]
     intro k i hk hi hlt e
     have h0:=h i hi
     unfold Mm at h0
     rw [if_pos (hs i hi)] at h0
     obtain ⟨_,r,_,_,hsc⟩:=MN (N:=i) (stop:=λ k=>if t.Rules.getD k default=t.Rules.getD i default then some ((i:Int),(20:Int)) else none) hlt (by rw [DG hk,DG hi,if_pos e];rfl)
     unfold Jaa at h0
     rw [hsc] at h0
     cases h0
   ·rintro ⟨h1,h2⟩ i hi
    unfold Mm
    rw [if_pos (by rw [DG hi];exact h1 _ (List.getElem_mem hi))]
    have:Jaa t i=.inl ():=MM λ k hk=>by
     rw [DG (show k<t.Rules.length by omega),DG hi,if_neg]
     rw [List.Nodup,List.pairwise_iff_getElem] at h2
     exact h2 k i (by omega) hi hk
    rw [this]
  cases hv:(t.Rules.all (λ r=>GB r t.Modes)&&decide t.Rules.Nodup) with
  | true=>rw [MM (hiff.2 hv)];rfl
  | false=>
   have:¬∀ i,i<t.Rules.length->Mm t i=none:=λ h=>by rw [hiff.1 h] at hv;cases hv
   have:∃ i,i<t.Rules.length∧Mm t i≠none:=Classical.byContradiction λ hn=>this λ i hi=>Classical.byContradiction λ hc=>hn ⟨i,hi,hc⟩
   obtain ⟨i,hi,hne⟩:=this
   obtain ⟨k,r,_,hr,hs⟩:=MN hi (Option.isSome_iff_ne_none.2 hne)
   rw [hs]
   show (r.2==0)=false
   rw [h20 k r hr];rfl
theorem Jdo {t:Ad} (ht:KN t):Ev (λ n=>PF n t) (Fh t):=by
 rw [← Vx]
 exact Ev.bind (Jdn ht) Ev.const
theorem Yf {t:Ad} {l:List Ax} (h:Fh t=true) (hl:l.Sublist t.Rules) (h1:1≤l.length):Fh ⟨t.Modes,t.Accept,l⟩=true:=by
 unfold Fh Ye at h ⊢
 simp only [Bool.and_eq_true,Bool.not_eq_true',Bool.or_eq_false_iff,decide_eq_false_iff_not,List.all_eq_true,decide_eq_true_eq] at h ⊢
 have hle:=hl.length_le
 exact ⟨⟨⟨⟨h.1.1.1.1,by omega⟩,by omega⟩,λ r hr=>h.1.2 r (hl.subset hr)⟩,hl.nodup h.2⟩
theorem HG {t:Ad} (h:Fh t=true):∀ r∈t.Rules,GB r t.Modes=true:=by
 unfold Fh at h
 simp only [Bool.and_eq_true,List.all_eq_true] at h
 exact h.1.2
end Go.AI
end
section
namespace Go.AI
def W6 (r:Int):Ad:=(JB 0 r).getD default
theorem Vy (n:Nat) (k:Int) (h0:0≤k):JB n k=some (W6 (A8 k 8))∧0≤A8 k 8∧A8 k 8<8:=by
 have e:A8 k 8=k % 8:=by unfold A8;rw [Int.tmod_eq_emod_of_nonneg h0]
 have hr:A8 k 8=0∨A8 k 8=1∨A8 k 8=2∨A8 k 8=3∨A8 k 8=4∨A8 k 8=5∨A8 k 8=6∨A8 k 8=7:=by rw [e];omega
 rcases hr with h|h|h|h|h|h|h|h
 all_goals
  refine ⟨?_,by omega,by omega⟩
  unfold JB
  rw [h]
  rfl
def Vz (r:Ax):Bool:=decide (0≤r.To)&&decide (r.To<2)&&decide (0≤r.Right)&&decide (r.Right≤63)&&decide (r.Print.length≤3)
theorem Yg {r:Ax} (h:Vz r=true):N7 r:=by
 simp only [Vz,Bool.and_eq_true,decide_eq_true_eq] at h
 obtain ⟨⟨⟨⟨h1,h2⟩,h3⟩,h4⟩,h5⟩:=h
 exact ⟨h1,h2,h3,h4,h5⟩
def VA (t:Ad):Bool:=decide (t.Rules.length≤8)&&t.Rules.all Vz&&decide (1≤t.Modes)&&decide (t.Modes≤2)&&Fh t
theorem JeY {r:Int} (h:0≤r) (h':r<8):VA (W6 r)=true:=by
 have:∀ k:Nat,k<8->VA (W6 (k:Int))=true:=by decide +kernel
 have e:=this r.toNat (by omega)
 rwa [Int.toNat_of_nonneg h] at e
def U8 (n:Int):Prop:=0≤n∧n<256
def YR (x:Dp):Prop:=(∀ a∈x.P,U8 a)∧(∀ a∈x.C,U8 a)∧U8 x.L∧U8 x.R∧U8 x.W.a0∧U8 x.W.a1
theorem Eh {a m:Int} (h:0≤a) (hm:0<m):0≤A8 a m∧A8 a m<m:=(Qa h hm).2
theorem N8 {α:Type} {l:List α} {i:Int} (h:0≤i) (h':i<l.length):∃ x,x∈l∧idx l i=some x:=by
 have hl:i.toNat<l.length:=by omega
 refine ⟨l[i.toNat],List.getElem_mem hl,?_⟩
 unfold idx
 rw [if_pos h]
 exact List.getElem?_eq_getElem hl
theorem JeZ {α:Type} {l:List α} {i:Int} (h:0≤i) (h':i<l.length):∃ z,z.length=1∧sub l i (i+1)=some z:=by
 refine ⟨(l.take (i+1).toNat).drop i.toNat,?_,?_⟩
 ·simp;omega
 ·unfold sub
  rw [if_pos (by omega)]
def YS (a b:Ax):Prop:=a.Left=b.Left∧a.Right=b.Right∧a.From=b.From∧a.To=b.To
theorem Jdp (x:Dp) (hx:∀ a∈x.P,U8 a) (r0:Ax) (h0:r0.Print=[]):Tot (λ n=>whl (λ (y:(Ax×Int))=>Fv n x y.1 y.2) n (r0,0)) (λ r=>r.Print.length≤3∧YS r r0):=by
 refine Tot.upto (body:=λ n y=>Fv n x y.1 y.2) (min x.P.length 3) (λ i y=>y.2=(i:Int)∧y.1.Print.length=i∧YS y.1 r0) ?_ ?_ (r0,0) ⟨rfl,by simp [h0],rfl,rfl,rfl,rfl⟩
 ·rintro i ⟨r,i'⟩ hi ⟨h1,h2,h3⟩
  simp only at h1 h2 h3
  subst h1
  obtain ⟨c,hcm,hci⟩:=N8 (l:=x.P) (i:=(i:Int)) (by omega) (by omega)
  have hu:=hx c hcm
  have hr:=Eh (m:=9) hu.1 (by omega)
  have hw:IntKind.i64.wrap (A8 c 9)=A8 c 9:=ST (by omega) (by omega)
  obtain ⟨z,hz1,hz⟩:=JeZ (l:=([97,98,99,65,66,49,50,45,46]:List UInt8)) (i:=A8 c 9) hr.1 (by simpa using hr.2)
  unfold Fv
  refine Tot.iteT (by simp only [Bool.and_eq_true,decide_eq_true_eq];omega) (Tot.bindC hci ?_)
  simp only [hw]
  rw [FG (by omega) (by omega)]
  refine Tot.bindC hz (Tot.bindC (P9 (by omega)) (Tot.pure ⟨H4 (by omega),by simp [h2,hz1],h3⟩))
 ·rintro ⟨r,i'⟩ ⟨h1,h2,h3⟩
  simp only at h1 h2 h3
  subst h1
  unfold Fv
  exact Tot.iteF (by rw [← Bool.not_eq_true];simp only [Bool.and_eq_true,decide_eq_true_eq];omega) (Tot.pure ⟨by show r.Print.length≤3;omega,h3⟩)
theorem Jdq (x:Dp) (hx:∀ a∈x.C,U8 a) (r0:Ax) (h0:r0.Cells.length=1):Tot (λ n=>whl (λ (y:(Ax×Int))=>Fw n x y.1 y.2) n (r0,0)) (λ r=>(r.Cells.length≤3∧1≤r.Cells.length)∧r.Print=r0.Print∧YS r r0):=by
 refine Tot.upto (body:=λ n y=>Fw n x y.1 y.2) (min x.C.length 2) (λ i y=>y.2=(i:Int)∧y.1.Cells.length=i+1∧y.1.Print=r0.Print∧YS y.1 r0) ?_ ?_ (r0,0) ⟨rfl,by simp [h0],rfl,rfl,rfl,rfl,rfl⟩
 ·rintro i ⟨r,i'⟩ hi ⟨h1,h2,h3,h4⟩
  simp only at h1 h2 h3 h4
  subst h1
  obtain ⟨c,hcm,hci⟩:=N8 (l:=x.C) (i:=(i:Int)) (by omega) (by omega)
  have hu:=hx c hcm
  have hr:=Eh (m:=8) hu.1 (by omega)
  obtain ⟨z,_,hz⟩:=N8 (l:=([1,3,9,5,7,32,44,60]:List Int)) (i:=A8 c 8) hr.1 (by simpa using hr.2)
  unfold Fw
  refine Tot.iteT (by simp only [Bool.and_eq_true,decide_eq_true_eq];omega) (Tot.bindC hci (Tot.bindC hz (Tot.bindC (KM (by simp;omega)) (Tot.pure ⟨H4 (by omega),by simp [h2],h3,h4⟩))))
 ·rintro ⟨r,i'⟩ ⟨h1,h2,h3,h4⟩
  simp only at h1 h2 h3 h4
  subst h1
  unfold Fw
  exact Tot.iteF (by rw [← Bool.not_eq_true];simp only [Bool.and_eq_true,decide_eq_true_eq];omega) (Tot.pure ⟨by show r.Cells.length≤3∧1≤r.Cells.length;omega,h3,h4⟩)
theorem Je0 {x:Dp} (hx:YR x) {m:Int} (hm:1≤m) (hm':m≤2):Tot (λ n=>OH n x m) (λ r=>N7 r∧(r.Cells.length≤3∧1≤r.Cells.length)∧0≤r.From∧r.From<m∧0≤r.To∧r.To<m):=by
 obtain ⟨hP,hC,hL,hR,hW0,hW1⟩:=hx
 have l8:=Eh (m:=8) hL.1 (by omega)
 have r8:=Eh (m:=8) hR.1 (by omega)
 obtain ⟨a,ham,ha⟩:=N8 (l:=([63,63,2,8,17,62,4,1]:List Int)) (i:=A8 x.L 8) l8.1 (by simpa using l8.2)
 obtain ⟨b,hbm,hb⟩:=N8 (l:=([63,63,2,8,17,62,4,1]:List Int)) (i:=A8 x.R 8) r8.1 (by simpa using r8.2)
 have hq:0≤Jd9 .u8 x.L 8:=by unfold Jd9;exact (WW _).1
 have q8:=Eh (m:=8) hq (by omega)
 obtain ⟨c,_,hc⟩:=N8 (l:=([1,3,9,5,7,32,44,60]:List Int)) (i:=A8 (Jd9 .u8 x.L 8) 8) q8.1 (by simpa using q8.2)
 have hg:Bm (!(m==0))=some ():=MK (by simp;omega)
 have w0:IntKind.i64.wrap x.W.a0=x.W.a0:=ST (by have:=hW0.1;omega) (by have:=hW0.2;omega)
 have w1:IntKind.i64.wrap x.W.a1=x.W.a1:=ST (by have:=hW1.1;omega) (by have:=hW1.2;omega)
 have hfr:=Eh (a:=x.W.a0) (m:=m) hW0.1 (by omega)
 have hto:=Eh (a:=x.W.a1) (m:=m) hW1.1 (by omega)
 have hbr:0≤b∧b≤63:=by
  simp at hbm
  omega
 unfold OH
 refine Tot.bindC ha (Tot.bindC hb (Tot.bindC hg (Tot.bindC hg (Tot.bind (Jdp x hP _ rfl) ?_))))
 rintro r1 ⟨p1,p2,p3,p4,p5⟩
 refine Tot.bindC hc (Tot.bind (Jdq x hC _ rfl) ?_)
 rintro r2 ⟨q1,q2,q3,q4,q5,q6⟩
 simp only at q2 q3 q4 q5 q6
 rw [p3] at q4
 rw [p4] at q5
 rw [p5] at q6
 simp only [w0,w1] at q5 q6 q4
 refine Tot.pure ⟨⟨?_,?_,?_,?_,?_⟩,q1,?_,?_,?_,?_⟩
 all_goals first|(rw [q6];omega)|(rw [q4];omega)|(rw [q5];omega)|(rw [q2];exact p1)
def Pc (x:MX):Prop:=0≤x.Base∧∀ r∈x.More,YR r
structure Jm (t:Ad):Prop where
 tab:Ho t
 lo:1≤t.Modes
 hi:t.Modes≤2
 valid:Fh t=true
theorem Jm.sound {t:Ad} (h:Jm t):∀ r∈t.Rules,GB r t.Modes=true:=HG h.valid
theorem H7 {r:Ax} {m:Int} (h:GB r m=true):r.Print.length≤4∧1≤r.Cells.length∧r.Cells.length≤4:=by
 simp only [GB,Bool.and_eq_true,decide_eq_true_eq] at h
 omega
theorem Jm.small {t:Ad} (h:Jm t):KN t:=⟨by have:=h.tab.1;omega,λ r hr=>by have:=H7 (h.sound r hr);exact ⟨by omega,by omega⟩⟩
theorem Jdr (x:MX) (b:Ad) (hb:b.Rules.length≤8):Tot (λ n=>whl (λ (y:(Ad×Int))=>Fx n x b y.1 y.2) n (({ Modes:=b.Modes,Accept:=b.Accept,Rules:=[] }:Ad),0)) (λ t=>t.Modes=b.Modes∧t.Accept=b.Accept∧t.Rules.Sublist b.Rules):=by
 refine Tot.upto (body:=λ n y=>Fx n x b y.1 y.2) b.Rules.length (λ i y=>y.2=(i:Int)∧y.1.Modes=b.Modes∧y.1.Accept=b.Accept∧y.1.Rules.Sublist (b.Rules.take i)) ?_ ?_ _ ⟨rfl,rfl,rfl,by simp⟩
 ·rintro i ⟨t,i'⟩ hi ⟨h1,h2,h3,h4⟩
  simp only at h1 h2 h3 h4
  subst h1
  have ht:b.Rules.take (i+1)=b.Rules.take i++[b.Rules.getD i default]:=by rw [List.take_add_one,DG hi,List.getElem?_eq_getElem hi];rfl
  have hlen:=h4.length_le
  rw [List.length_take] at hlen
  unfold Fx
  refine Tot.iteT (Ha hi) (Tot.bindC (MK (by simp)) (Tot.ite (λ _=>Tot.bindC (Ml hi) (Tot.bindC (KM (by simp;omega)) ?_)) λ _=>?_))
  ·unfold GW
   exact Tot.pure ⟨H4 (by omega),h2,h3,by rw [ht];exact h4.append (List.Sublist.refl _)⟩
  ·unfold GW
   exact Tot.pure ⟨H4 (by omega),h2,h3,by rw [ht];exact h4.trans (List.sublist_append_left _ _)⟩
 ·rintro ⟨t,i'⟩ ⟨h1,h2,h3,h4⟩
  simp only at h1 h2 h3 h4
  subst h1
  rw [List.take_length] at h4
  unfold Fx
  exact Tot.iteF (by simp) (Tot.pure ⟨h2,h3,h4⟩)
structure JiU (b t:Ad):Prop where
 modes:t.Modes=b.Modes
 accept:t.Accept=b.Accept
 rules:∀ r∈t.Rules,N7 r∧r.Cells.length≤4
 valid:t.Rules=[]∨Fh t=true
theorem Jad {t:Ad} (hl:t.Rules.length≤11) (h:∀ r∈t.Rules,N7 r∧r.Cells.length≤4):KN t:=⟨by omega,λ r hr=>⟨by have:=(h r hr).1.2.2.2.2;omega,by have:=(h r hr).2;omega⟩⟩
theorem Jds (x:MX) (hx:∀ r∈x.More,YR r) (b t0:Ad) (hlo:1≤b.Modes) (hhi:b.Modes≤2) (h0:JiU b t0) (hl0:t0.Rules.length≤8):Tot (λ n=>whl (λ (y:(Ad×Int))=>Fy n x b y.1 y.2) n (t0,0)) (λ t=>JiU b t∧t.Rules.length≤10):=by
 refine Tot.upto (body:=λ n y=>Fy n x b y.1 y.2) (min x.More.length 2) (λ i y=>y.2=(i:Int)∧JiU b y.1∧y.1.Rules.length≤8+i) ?_ ?_ _ ⟨rfl,h0,by simpa using hl0⟩
 ·rintro i ⟨t,i'⟩ hi ⟨h1,h2,h3⟩
  simp only at h1 h2 h3
  subst h1
  unfold Fy
  refine Tot.iteT (by simp only [Bool.and_eq_true,decide_eq_true_eq];omega) (Tot.bindC (Fg (by omega)) ?_)
  rw [h2.modes]
  refine Tot.bind (Je0 (hx _ (List.getElem_mem _)) hlo hhi) ?_
  rintro r ⟨hr1,hr2,-⟩
  refine Tot.bindC (KM (by simp;omega)) ?_
  have hall:∀ q∈t.Rules++[r],N7 q∧q.Cells.length≤4:=by
   intro q hq
   simp only [List.mem_append,List.mem_singleton] at hq
   rcases hq with hq|rfl
   ·exact h2.rules q hq
   ·exact ⟨hr1,by omega⟩
  refine Tot.bindE (Jdo (Jad (t:=⟨b.Modes,t.Accept,t.Rules++[r]⟩) (by simp;omega) hall)) ?_
  refine Tot.ite (λ _=>?_) λ hv=>?_
  ·have e:Dw .i64 ((List.length (t.Rules++[r]):Nat):Int) 1=(t.Rules.length:Nat):=by
    rw [NB (by simp<;>omega) (by simp<;>omega)];simp
   rw [e]
   refine Tot.bindC (Pb (by simp)) ?_
   unfold GX
   rw [List.take_left' rfl]
   exact Tot.pure ⟨H4 (by omega),⟨rfl,h2.accept,h2.rules,by have:=h2.valid;have hm:=h2.modes;cases t;simp only at hm this ⊢;subst hm;exact this⟩,by simp only;omega⟩
  ·unfold GX
   exact Tot.pure ⟨H4 (by omega),⟨rfl,h2.accept,hall,.inr (by simpa using hv)⟩,by simp;omega⟩
 ·rintro ⟨t,i'⟩ ⟨h1,h2,h3⟩
  simp only at h1 h2 h3
  subst h1
  unfold Fy
  exact Tot.iteF (by rw [← Bool.not_eq_true];simp only [Bool.and_eq_true,decide_eq_true_eq];omega) (Tot.pure ⟨h2,by show t.Rules.length≤10;omega⟩)
theorem Jae {x:MX} (hx:Pc x):∃ t,(Jm t∧1≤t.Rules.length∧t.Rules.length≤10)∧Ev (λ n=>JC n x) t:=by
 have hb:∀ n,JB n x.Base=some (W6 (A8 x.Base 8)):=λ n=>(Vy n x.Base hx.1).1
 have hok:=JeY (Vy 0 x.Base hx.1).2.1 (Vy 0 x.Base hx.1).2.2
 generalize W6 (A8 x.Base 8)=b at *
 unfold VA at hok
 simp only [Bool.and_eq_true,decide_eq_true_eq,List.all_eq_true] at hok
 obtain ⟨⟨⟨⟨o1,o2⟩,o3⟩,o4⟩,o5⟩:=hok
 have gb:∀ r∈b.Rules,N7 r∧r.Cells.length≤4:=λ r hr=>⟨Yg (o2 r hr),(H7 (HG o5 r hr)).2.2⟩
 have hne:∀ t:Ad,Fh t=true->1≤t.Rules.length:=λ t h=>by
  unfold Fh Ye at h
  simp only [Bool.and_eq_true,Bool.not_eq_true',Bool.or_eq_false_iff,decide_eq_false_iff_not] at h
  omega
 have:Tot (λ n=>JC n x) (λ t=>Jm t∧1≤t.Rules.length∧t.Rules.length≤10):=by
  unfold JC
  refine Tot.bindA hb (Tot.bind (Jdr x b o1) ?_)
  rintro t1 ⟨a1,a2,a3⟩
  refine Tot.bind (Jds x hx.2 b t1 o3 o4 ⟨a1,a2,λ r hr=>gb r (a3.subset hr),?_⟩ (by have:=a3.length_le;omega)) ?_
  ·rcases Nat.eq_zero_or_pos t1.Rules.length with h|h
   ·exact .inl (List.length_eq_zero_iff.1 h)
   ·right
    have:=Yf o5 a3 h
    cases t1
    simp only at a1 a2 this ⊢
    subst a1 a2
    exact this
  rintro t2 ⟨b1,b2⟩
  refine Tot.ite (λ h=>?_) λ h=>?_
  ·unfold GY
   have e:(⟨t2.Modes,t2.Accept,b.Rules⟩:Ad)=b:=by rw [b1.modes,b1.accept]
   rw [e]
   exact Tot.pure ⟨⟨⟨by omega,λ r hr=>(gb r hr).1⟩,o3,o4,o5⟩,hne b o5,by omega⟩
  ·unfold GY
   have hv:Fh t2=true:=b1.valid.resolve_left λ e=>by rw [e] at h;cases h
   exact Tot.pure ⟨⟨⟨by omega,λ r hr=>(b1.rules r hr).1⟩,by rw [b1.modes];exact o3,by rw [b1.modes];exact o4,hv⟩,hne t2 hv,b2⟩
 obtain ⟨t,ht,hE⟩:=this
 exact ⟨t,ht,hE⟩
end Go.AI
end
section
namespace Go.AI
def Ei (t:Ad) (k:Int):Ax:=t.Rules[k.toNat]?.getD default
theorem DP {t:Ad} {s:Ab} {k:Int} (h:(AH t s k).2=true):0≤k∧k<t.Rules.length:=by
 unfold AH at h
 split at h
 ·cases h
 ·rename_i hk
  simp only [Bool.or_eq_true,decide_eq_true_eq,not_or] at hk
  omega
theorem SZ {t:Ad} {k:Int} (h:0≤k) (h':k<t.Rules.length):idx t.Rules k=some (Ei t k):=SV h h'
theorem GC {t:Ad} {k:Int} (h:0≤k) (h':k<t.Rules.length):Ei t k∈t.Rules:=by
 unfold Ei
 rw [List.getElem?_eq_getElem (by omega)]
 exact List.getElem_mem _
end Go.AI
end
section
namespace Go.AI
theorem Je1 {st:List Ab} (hn:st.Nodup) {i j:Nat} {s:Ab} (h:st[i]? = some s) (h':st[j]? = some s):i=j:=by
 have a:=C4 hn h
 rw [C4 hn h'] at a
 cases a;rfl
theorem CH {i:Nat} (h:i<9223372036854775807):Au .i64 (i:Int) 1=((i+1:Nat):Int):=by
 rw [P8 (by omega) (by omega)];rfl
theorem Du {st:List Ab} {s:Ab} (h:s∈st):∃ i:Nat,Ef st s=i∧st[i]? = some s:=by
 unfold Ef
 cases hf:st.findIdx? (λ x=>decide (x=s)) with
 | none=>
  rw [List.findIdx?_eq_none_iff] at hf
  have:=hf s h
  simp at this
 | some i=>
  rw [List.findIdx?_eq_some_iff_getElem] at hf
  obtain ⟨hi,h1,_⟩:=hf
  refine ⟨i,rfl,?_⟩
  rw [List.getElem?_eq_getElem hi]
  simpa using h1
theorem Yh {st:List Ab} {s:Ab} (h:s ∉ st):Ef st s=-1:=by
 unfold Ef
 rw [HF h]
theorem S0 {st:List Ab} {s:Ab}:Ef st s<0↔s ∉ st:=by
 constructor
 ·intro h hm
  obtain ⟨i,e,_⟩:=Du hm
  omega
 ·intro h
  rw [Yh h];omega
theorem W7 {t:Ad} (ht:Ho t) {st:List Ab} (hF:Gl t st) {i:Nat} {s:Ab} (hi:st[i]? = some s):Tot (λ n=>whl (λ (x:((List Ab)×Int))=>DT n t (i:Int) x.1 x.2) n (st,0)) (λ r=>r=JU t s t.Rules.length st):=by
 have hr:=ht.1
 refine Tot.upto (body:=λ n x=>DT n t (i:Int) x.1 x.2) t.Rules.length (λ k x=>x.2=(k:Int)∧x.1=JU t s k st) ?_ ?_ _ ⟨rfl,rfl⟩
 ·rintro k ⟨l,k'⟩ hk ⟨e1,e2⟩
  simp only at e1 e2
  subst e1 e2
  have hFk:=hF.exp ht hi k (by omega)
  have hik:=Pa (G9 t s st k) hi
  have hlen:=hFk.len
  unfold DT
  refine Tot.iteT (by simpa using hk) (Tot.bindC (Eg hik) (Tot.bindA (λ n=>WX ht.short n s k) (Tot.guard (R:=λ z=>z=Ef (JU t s k st) (AH t s k).1) (λ _=>(WZ (by dsimp only;omega)).tot rfl) (λ z hz=>?_))))
  have hJ:∀ l',l'=JU t s (k+1) st->Tot (λ n=>EM n (k:Int) l') (Rd2 (λ x:List Ab×Int=>x.2=((k+1:Nat):Int)∧x.1=JU t s (k+1) st) (λ r=>r=JU t s t.Rules.length st)):=by
   intro l' hl'
   unfold EM
   exact Tot.pure ⟨CH (by omega),hl'⟩
  have hx:JU t s (k+1) st=KK t s (JU t s k st) k:=JV t s k st
  refine Tot.ite (λ hc=>?_) (λ hc=>?_)
  ·simp only [Bool.and_eq_true,decide_eq_true_eq] at hc
   refine Tot.bindC (KM (by simp;omega)) (hJ _ ?_)
   rw [hx]
   unfold KK
   rw [if_pos ⟨hc.1,S0.1 (by rw [← hz hc.1];exact hc.2)⟩]
  ·refine hJ _ ?_
   rw [hx]
   unfold KK
   rw [if_neg]
   rintro ⟨h1,h2⟩
   rw [h1,hz h1,decide_eq_true (S0.2 h2)] at hc
   cases hc
 ·rintro ⟨l,k'⟩ ⟨e1,e2⟩
  simp only at e1 e2
  subst e1 e2
  unfold DT
  exact Tot.iteF (by simp) (Tot.pure rfl)
theorem JiV (t:Ad):Gl t [BP]:=⟨by simp,λ s hs=>by simp at hs;subst hs;exact ⟨by decide,by decide,by decide,by decide,by decide,by decide⟩,rfl,λ j s hj h0=>by cases j with|zero=>omega|succ j=>simp at hj⟩
theorem W8 {t:Ad} (ht:Ho t):Ev (λ n=>Kf n t) (Aa t):=by
 have loop:Tot (λ n=>whl (λ (x:((List Ab)×Int))=>EN n t x.1 x.2) n ([BP],0)) (λ r=>r=Aa t):=by
  refine Tot.whl (body:=λ n x=>EN n t x.1 x.2) (λ k x=>∃ i:Nat,i≤x.1.length∧k=800-i∧SW t (800-i) i x.1=Aa t∧x.2=(i:Int)∧Gl t x.1) ?_ 800 _ ⟨0,by simp,by omega,rfl,rfl,JiV t⟩
  rintro k ⟨st,i'⟩ ⟨i,hil,rfl,hb,hi',hF⟩
  simp only at hil hb hi' hF
  subst hi'
  have hlen:=hF.len
  unfold EN
  refine Tot.ite (λ hc=>?_) (λ hc=>?_)
  ·have hlt:i<st.length:=by simpa using hc
   have hi:st[i]? = some st[i]:=List.getElem?_eq_getElem hlt
   have hexp:=hF.exp ht hi _ (Nat.le_refl _)
   refine Tot.bind (W7 ht hF hi) ?_
   rintro _ rfl
   refine Tot.pure ⟨800-(i+1),by omega,i+1,?_,rfl,?_,?_,hexp⟩
   ·have:=(G9 t st[i] st t.Rules.length).length_le
    dsimp only
    omega
   ·dsimp only
    rw [← hb]
    have e:800-i=(800-(i+1))+1:=by omega
    rw [e]
    simp only [SW,hi]
   ·exact CH (by omega)
  ·have hge:st.length≤i:=by simpa using hc
   have e:i=st.length:=by omega
   subst e
   refine Tot.pure ?_
   show st=Aa t
   rw [← hb]
   have e:800-st.length=(800-(st.length+1))+1:=by omega
   rw [e]
   simp [SW]
 refine Tot.ev ?_
 unfold Kf
 exact Tot.bindA (y:=BP) (λ n=>rfl) (Tot.bind loop λ _ h=>Tot.pure h)
end Go.AI
end
section
namespace Go.AI
def Edge (t:Ad) (st:List Ab) (i:Nat) (k:Nat) (j:Nat):Prop:=∃ s s',st[i]? = some s∧k<t.Rules.length∧st[j]? = some s'∧AH t s (k:Nat)=(s',true)
inductive W9 (t:Ad) (st:List Ab):Nat->Prop
 | acc (i:Nat) (s:Ab) (h:st[i]? = some s) (ha:By t s=true):W9 t st i
 | step (i k j:Nat) (h:Edge t st i k j) (hj:W9 t st j):W9 t st i
def S1 (t:Ad) (st:List Ab) (l:List Bool):Prop:=l.length=st.length∧∀ i:Nat,l[i]? = some true↔W9 t st i
theorem W9.lt {t:Ad} {st:List Ab} {i:Nat} (h:W9 t st i):i<st.length:=by
 cases h with
 | acc _ s h ha=>exact Ap h
 | step _ k j h hj=>obtain ⟨s,s',h,_⟩:=h;exact Ap h
theorem S1.uniq {t:Ad} {st:List Ab} {l m:List Bool} (h:S1 t st l) (h':S1 t st m):l=m:=by
 refine List.ext_getElem? λ i=>?_
 rcases Nat.lt_or_ge i st.length with hi|hi
 ·have h1:i<l.length:=by rw [h.1];exact hi
  have h2:i<m.length:=by rw [h'.1];exact hi
  have e:=(h.2 i).trans (h'.2 i).symm
  rw [List.getElem?_eq_getElem h1,List.getElem?_eq_getElem h2] at e ⊢
  cases ha:l[i]<;>cases hb:m[i]<;>simp_all
 ·rw [List.getElem?_eq_none_iff.2 (by rw [h.1];exact hi),List.getElem?_eq_none_iff.2 (by rw [h'.1];exact hi)]
theorem S1.of {t:Ad} {st:List Ab} {l:List Bool} (hl:l.length=st.length) (hs:∀ i,l[i]? = some true->W9 t st i) (ha:∀ (i:Nat) s,st[i]? = some s->By t s=true->l[i]? = some true) (hc:∀ i k j,Edge t st i k j->l[j]? = some true->l[i]? = some true):S1 t st l:=by
 refine ⟨hl,λ i=>⟨hs i,λ h=>?_⟩⟩
 induction h with
 | acc i s h h'=>exact ha i s h h'
 | step i k j h _ ih=>exact hc i k j h ih
def Je2 (l:List Bool):Nat:=l.count false
structure Jdt (t:Ad) (st:List Ab) (out0 out:List Bool) (g:Bool) (i m:Nat):Prop where
 len:out.length=st.length
 snd:∀ j:Nat,out[j]? = some true->W9 t st j
 acc:∀ (j:Nat) s,st[j]? = some s->By t s=true->out[j]? = some true
 same:g=false->out=out0
 less:g=true->Je2 out<Je2 out0
 cl:g=false->∀ i' k j,(i'<i∨(i'=i∧k<m))->Edge t st i' k j->out[j]? = some true->out[i']? = some true
theorem Jdt.stop {t:Ad} {st:List Ab} {out0 out:List Bool} {g:Bool} {i m:Nat} (h:Jdt t st out0 out g i m) (hm:t.Rules.length≤m∨out[i]? = some true):Jdt t st out0 out g (i+1) 0:=by
 refine ⟨h.len,h.snd,h.acc,h.same,h.less,λ hg i' k j hi he hj=>?_⟩
 rcases Nat.lt_or_ge i' i with hlt|hge
 ·exact h.cl hg i' k j (.inl hlt) he hj
 ·have:i'=i:=by omega
  subst this
  rcases hm with hm|hm
  ·obtain ⟨s,s',_,hk,_⟩:=id he
   exact h.cl hg i' k j (.inr ⟨rfl,by omega⟩) he hj
  ·exact hm
end Go.AI
end
section
namespace Go.AI
def JfH (t:Ad) (st:List Ab) (near:List Bool) (out:List Int) (D:Nat):Prop:=
 ∃ rk:Nat->Nat,∀ j:Nat,near[j]? = some true->rk j≤D∧((∃ s,st[j]? = some s∧By t s=true)∨∃ k j':Nat,out[j]? = some (k:Int)∧Edge t st j k j'∧near[j']? = some true∧rk j'<rk j)
structure Xa (t:Ad) (st:List Ab) (near ring:List Bool) (out:List Int) (D:Nat) (g:Bool) (i m:Nat):Prop where
 len:ring.length=st.length
 oln:out.length=st.length
 sub:∀ j:Nat,near[j]? = some true->ring[j]? = some true
 new:∀ j:Nat,ring[j]? = some true->near[j]? = some true∨∃ k j':Nat,out[j]? = some (k:Int)∧Edge t st j k j'∧near[j']? = some true
 hom:JfH t st near out D
 same:g=false->ring=near
 less:g=true->Je2 ring<Je2 near
 cl:g=false->∀ i' k j,(i'<i∨(i'=i∧k<m))->Edge t st i' k j->near[j]? = some true->ring[i']? = some true
theorem Xa.stop {t:Ad} {st:List Ab} {near ring:List Bool} {out:List Int} {D:Nat} {g:Bool} {i m:Nat} (h:Xa t st near ring out D g i m) (hm:t.Rules.length≤m∨ring[i]? = some true):Xa t st near ring out D g (i+1) 0:=by
 refine ⟨h.len,h.oln,h.sub,h.new,h.hom,h.same,h.less,λ hg i' k j hi he hj=>?_⟩
 rcases Nat.lt_or_ge i' i with hlt|hge
 ·exact h.cl hg i' k j (.inl hlt) he hj
 ·have:i'=i:=by omega
  subst this
  rcases hm with hm|hm
  ·obtain ⟨s,s',_,hk,_⟩:=id he
   exact h.cl hg i' k j (.inr ⟨rfl,by omega⟩) he hj
  ·exact hm
theorem Xa.ring {t:Ad} {st:List Ab} {near ring:List Bool} {out:List Int} {D:Nat} {g:Bool} {i m:Nat} (h:Xa t st near ring out D g i m):JfH t st ring out (D+1):=by
 obtain ⟨rk,hrk⟩:=h.hom
 refine ⟨λ j=>if near[j]? = some true then rk j else D+1,λ j hj=>?_⟩
 by_cases hn:near[j]? = some true
 ·simp only [hn,if_true]
  obtain ⟨h1,h2⟩:=hrk j hn
  refine ⟨by omega,h2.imp id ?_⟩
  rintro ⟨k,j',a,b,c,d⟩
  exact ⟨k,j',a,b,h.sub j' c,by rw [if_pos c];exact d⟩
 ·simp only [if_neg hn]
  refine ⟨by omega,?_⟩
  rcases h.new j hj with hh|⟨k,j',a,b,c⟩
  ·exact absurd hh hn
  ·exact .inr ⟨k,j',a,b,h.sub j' c,by rw [if_pos c];have:=(hrk j' c).1;omega⟩
end Go.AI
end
section
namespace Go.AI
def Ir (t:Ad) (s:Ab):List Int->Ab->Prop
 | [],s'=>s=s'
 | k::p,s'=>(AH t s k).2=true∧Ir t (AH t s k).1 p s'
theorem Ir.snoc {t:Ad}:∀ {p:List Int} {s s':Ab} {k:Int},Ir t s p s'->(AH t s' k).2=true->Ir t s (p++[k]) (AH t s' k).1
 | [],s,s',k,h,h'=>by
  unfold Ir at h
  subst h
  exact ⟨h',rfl⟩
 | a::p,s,s',k,h,h'=>⟨h.1,Ir.snoc h.2 h'⟩
theorem Ir.mem {t:Ad}:∀ {p:List Int} {s s':Ab},Ir t s p s'->∀ k∈p,0≤k∧k<t.Rules.length
 | [],_,_,_,k,hk=>by cases hk
 | a::p,s,s',h,k,hk=>by
  rcases List.mem_cons.1 hk with rfl|hk
  ·exact DP h.1
  ·exact Ir.mem h.2 k hk
def D1 (t:Ad) (p:List Int):List UInt8:=p.flatMap λ k=>(Ei t k).Print
def cellsOf (t:Ad) (p:List Int):List Int:=p.flatMap λ k=>(Ei t k).Cells
end Go.AI
end
section
namespace Go.AI
def Way (t:Ad) (q:Ab) (x:List UInt8) (p:List Int):Prop:=(∃ q',Ir t q p q'∧By t q'=true)∧D1 t p=x
def Fi (t:Ad) (p:List Int):Nat:=(cellsOf t p).length
def Mn (t:Ad) (q:Ab) (x:List UInt8) (v:Int):Prop:=(v=-1∧∀ p,¬Way t q x p)∨∃ p,Way t q x p∧v=(Fi t p:Nat)∧∀ p',Way t q x p'->Fi t p≤Fi t p'
theorem YT (t:Ad) (q:Ab) (x:List UInt8):∃ v,Mn t q x v:=by
 by_cases h:∃ p,Way t q x p
 ·obtain ⟨p,hp⟩:=h
  have key:∀ (n:Nat) (p:List Int),Fi t p=n->Way t q x p->∃ v,Mn t q x v:=by
   intro n
   induction n using Nat.strongRecOn with
   | _ n ih=>
    intro p hn hp
    by_cases hm:∃ p',Way t q x p'∧Fi t p'<n
    ·obtain ⟨p',h1,h2⟩:=hm
     exact ih _ h2 p' rfl h1
    ·exact ⟨(Fi t p:Nat),.inr ⟨p,hp,rfl,λ p' hp'=>Nat.le_of_not_lt λ hlt=>hm ⟨p',hp',by omega⟩⟩⟩
  exact key _ p rfl hp
 ·exact ⟨-1,.inl ⟨rfl,λ p hp=>h ⟨p,hp⟩⟩⟩
theorem Mn.uniq {t:Ad} {q:Ab} {x:List UInt8} {v w:Int} (h:Mn t q x v) (h':Mn t q x w):v=w:=by
 rcases h with ⟨h1,h2⟩|⟨p,h1,h2,h3⟩
 ·rcases h' with ⟨g1,g2⟩|⟨p',g1,g2,g3⟩
  ·omega
  ·exact absurd g1 (h2 p')
 ·rcases h' with ⟨g1,g2⟩|⟨p',g1,g2,g3⟩
  ·exact absurd h1 (g2 p)
  ·have:=h3 p' g1
   have:=g3 p h1
   omega
noncomputable def AR (t:Ad) (q:Ab) (x:List UInt8):Int:=Classical.choose (YT t q x)
theorem Pd (t:Ad) (q:Ab) (x:List UInt8):Mn t q x (AR t q x):=Classical.choose_spec (YT t q x)
theorem Jdu {t:Ad} {q:Ab} {x:List UInt8} {v:Int} (h:Mn t q x v):AR t q x=v:=(Pd t q x).uniq h
theorem Mo {t:Ad} {q:Ab} {x:List UInt8} {p:List Int} (h:Way t q x p):0≤AR t q x∧AR t q x≤(Fi t p:Nat):=by
 rcases Pd t q x with ⟨h1,h2⟩|⟨p',h1,h2,h3⟩
 ·exact absurd h (h2 p)
 ·have:=h3 p h
  omega
theorem GD {t:Ad} {q:Ab} {x:List UInt8} (h:0≤AR t q x):∃ p,Way t q x p∧AR t q x=(Fi t p:Nat):=by
 rcases Pd t q x with ⟨h1,h2⟩|⟨p',h1,h2,h3⟩
 ·omega
 ·exact ⟨p',h1,h2⟩
theorem Xb (t:Ad) (q:Ab) (x:List UInt8):-1≤AR t q x:=by
 rcases Pd t q x with h1|⟨p',h1,h2,h3⟩<;>omega
abbrev prt (t:Ad) (k:Int):List UInt8:=(Ei t k).Print
abbrev cls (t:Ad) (k:Int):List Int:=(Ei t k).Cells
theorem I3 (t:Ad) (k:Int) (p:List Int):D1 t (k::p)=prt t k++D1 t p:=by simp [D1]
theorem FI (t:Ad) (k:Int) (p:List Int):Fi t (k::p)=(cls t k).length+Fi t p:=by simp [Fi,cellsOf]
theorem Way.cons {t:Ad} {q:Ab} {x:List UInt8} {p:List Int} {k:Int} (hk:(AH t q k).2=true) (h:Way t (AH t q k).1 x p):Way t q (prt t k++x) (k::p):=by
 obtain ⟨⟨q',h1,h2⟩,h3⟩:=h
 exact ⟨⟨q',⟨hk,h1⟩,h2⟩,by rw [I3,h3]⟩
theorem Way.uncons {t:Ad} {q:Ab} {x:List UInt8} {p:List Int} {k:Int} (h:Way t q x (k::p)):(AH t q k).2=true∧∃ y,x=prt t k++y∧Way t (AH t q k).1 y p:=by
 obtain ⟨⟨q',h1,h2⟩,h3⟩:=h
 exact ⟨h1.1,D1 t p,by rw [← h3,I3],⟨q',h1.2,h2⟩,rfl⟩
theorem Way.nil {t:Ad} {q:Ab} {x:List UInt8} (h:Way t q x []):x=[]∧By t q=true:=by
 obtain ⟨⟨q',h1,h2⟩,h3⟩:=h
 unfold Ir at h1
 subst h1
 exact ⟨h3.symm,h2⟩
noncomputable def N9 (t:Ad) (q:Ab) (x:List UInt8) (k:Int):Int:=
 if (AH t q k).2=true∧prt t k <+: x∧0≤AR t (AH t q k).1 (x.drop (prt t k).length) then AR t (AH t q k).1 (x.drop (prt t k).length)+(cls t k).length else -1
theorem Jdv {t:Ad} {S:Ab->Prop} {x:List UInt8} {f:Ab->Int}
  (ach:∀ q,S q->f q=-1∨∃ p,Way t q x p∧f q=(Fi t p:Nat))
  (acc:∀ q,S q->x=[]->By t q=true->f q=0)
  (rel:∀ q k,S q->(AH t q k).2=true->prt t k≠[]->∀ y,x=prt t k++y->0≤AR t (AH t q k).1 y->0≤f q∧f q≤AR t (AH t q k).1 y+(cls t k).length)
  (sil:∀ q k,S q->(AH t q k).2=true->prt t k=[]->S (AH t q k).1∧(0≤f (AH t q k).1->0≤f q∧f q≤f (AH t q k).1+(cls t k).length)) :
  ∀ q,S q->Mn t q x (f q):=by
 have low:∀ (p:List Int) (q:Ab),S q->Way t q x p->0≤f q∧f q≤(Fi t p:Nat):=by
  intro p
  induction p with
  | nil=>
   intro q hq h
   obtain ⟨h1,h2⟩:=h.nil
   rw [acc q hq h1 h2]
   omega
  | cons k p ih=>
   intro q hq h
   obtain ⟨h1,y,h2,h3⟩:=h.uncons
   rw [FI]
   by_cases he:prt t k=[]
   ·obtain ⟨g1,g2⟩:=sil q k hq h1 he
    rw [he,List.nil_append] at h2
    subst h2
    have h4:=ih _ g1 h3
    have:=g2 h4.1
    omega
   ·have h4:=Mo h3
    have:=rel q k hq h1 he y h2 h4.1
    omega
 intro q hq
 rcases ach q hq with h|⟨p,h1,h2⟩
 ·exact .inl ⟨h,λ p hp=>by have:=low p q hq hp;omega⟩
 ·exact .inr ⟨p,h1,h2,λ p' hp'=>by have:=low p' q hq hp';omega⟩
inductive H8 (t:Ad):Ab->List UInt8->List Int->Prop
 | nil {q:Ab} {x:List UInt8} (h:AR t q x≤0):H8 t q x []
 | cons {q:Ab} {x:List UInt8} {k:Nat} {p:List Int} (h:0<AR t q x) (hk:N9 t q x k=AR t q x) (hm:∀ j:Nat,j<k->N9 t q x j≠AR t q x) (hp:H8 t (AH t q k).1 (x.drop (prt t k).length) p):H8 t q x (k::p)
theorem H8.uniq {t:Ad} {q:Ab} {x:List UInt8} {p p':List Int} (h:H8 t q x p) (h':H8 t q x p'):p=p':=by
 induction h generalizing p' with
 | nil h=>
  cases h' with
  | nil=>rfl
  | cons g=>omega
 | cons h hk hm _ ih=>
  cases h' with
  | nil g=>omega
  | cons g gk gm gp=>
   rename_i k _ _ k' _
   have:k=k':=by
    rcases Nat.lt_trichotomy k k' with hlt|he|hgt
    ·exact absurd hk (gm _ hlt)
    ·exact he
    ·exact absurd gk (hm _ hgt)
   subst this
   rw [ih gp]
theorem Uk {t:Ad} {q:Ab} {x:List UInt8} {k:Int} (h:0≤N9 t q x k):(AH t q k).2=true∧(∃ y,x=prt t k++y∧x.drop (prt t k).length=y)∧0≤AR t (AH t q k).1 (x.drop (prt t k).length)∧N9 t q x k=AR t (AH t q k).1 (x.drop (prt t k).length)+(cls t k).length:=by
 unfold N9 at h ⊢
 split at h
 ·rename_i hc
  rw [if_pos hc]
  obtain ⟨y,hy⟩:=hc.2.1
  exact ⟨hc.1,⟨y,hy.symm,by rw [← hy,List.drop_left]⟩,hc.2.2,rfl⟩
 ·omega
theorem Jaf {t:Ad} (hc:∀ r∈t.Rules,1≤r.Cells.length) {q:Ab} {x:List UInt8} (h:AR t q x=0):Way t q x []:=by
 obtain ⟨p,hp,he⟩:=GD (t:=t) (q:=q) (x:=x) (by omega)
 cases p with
 | nil=>exact hp
 | cons k p=>
  obtain ⟨h1,_⟩:=hp.uncons
  have hk:=DP h1
  have:=hc _ (GC hk.1 hk.2)
  rw [FI] at he
  simp only [cls] at he
  omega
theorem H8.way {t:Ad} (hc:∀ r∈t.Rules,1≤r.Cells.length) {q:Ab} {x:List UInt8} {p:List Int} (h:H8 t q x p) (h0:0≤AR t q x):Way t q x p∧AR t q x=(Fi t p:Nat):=by
 induction h with
 | nil h=>exact ⟨Jaf hc (by omega),by simp [Fi,cellsOf];omega⟩
 | cons h hk hm _ ih=>
  obtain ⟨h1,⟨y,h2,h3⟩,h4,h5⟩:=Uk (by rw [hk];omega)
  obtain ⟨i1,i2⟩:=ih h4
  rw [h3] at i1 i2 h5
  refine ⟨by rw [h2];exact i1.cons h1,?_⟩
  rw [FI]
  omega
end Go.AI
end
section
namespace Go.AI
def Xc (l:List Int):Nat:=l.countP λ v=>decide (0≤v)
def phi (B:Nat) (l:List Int):Nat:=(l.map λ v=>if v<0 then B else v.toNat).sum
theorem Je3 {B:Nat} {l:List Int} {j:Nat} {v c:Int} (h:l[j]? = some v) (hc:0≤c) (hlt:c<if v<0 then (B:Int) else v):phi B (l.set j c)<phi B l:=by
 induction l generalizing j with
 | nil=>simp at h
 | cons a l ih=>
  cases j with
  | zero=>
   simp only [List.getElem?_cons_zero,Option.some.injEq] at h
   subst h
   simp only [phi,List.set_cons_zero,List.map_cons,List.sum_cons]
   split at hlt
   ·rename_i h1;rw [if_pos h1,if_neg (by omega)];omega
   ·rename_i h1;rw [if_neg h1,if_neg (by omega)];omega
  | succ j=>
   simp only [List.getElem?_cons_succ] at h
   have:=ih h
   simp only [phi,List.set_cons_succ,List.map_cons,List.sum_cons] at this ⊢
   omega
theorem Jdw {l:List Int} {j:Nat} {v c:Int} (h:l[j]? = some v) (hc:0≤c):Xc (l.set j c)=Xc l+(if v<0 then 1 else 0):=by
 induction l generalizing j with
 | nil=>simp at h
 | cons a l ih=>
  cases j with
  | zero=>
   simp only [List.getElem?_cons_zero,Option.some.injEq] at h
   subst h
   simp only [Xc,List.set_cons_zero,List.countP_cons,decide_eq_true_eq]
   rw [if_pos hc]
   by_cases h0:a<0
   ·rw [if_pos h0,if_neg (by omega)]
   ·rw [if_neg h0,if_pos (by omega)]
  | succ j=>
   simp only [List.getElem?_cons_succ] at h
   have:=ih h
   simp only [Xc,List.set_cons_succ,List.countP_cons] at this ⊢
   omega
theorem Rg (l:List Int):Xc l≤l.length:=List.countP_le_length
structure Col (t:Ad) (x:List UInt8) (D:Nat) (qs:List Ab) (cur:List Int):Prop where
 len:cur.length=qs.length
 ach:∀ (j:Nat) q,qs[j]? = some q->∃ v,cur[j]? = some v∧(v=-1∨∃ p,Way t q x p∧v=(Fi t p:Nat))
 acc:∀ (j:Nat) q,qs[j]? = some q->x=[]->By t q=true->cur[j]? = some 0
 bnd:∀ (j:Nat) v,cur[j]? = some v->v≤((D+4*Xc cur:Nat):Int)
theorem Col.top {t:Ad} {x:List UInt8} {D:Nat} {qs:List Ab} {cur:List Int} (h:Col t x D qs cur) {j:Nat} {v:Int} (hv:cur[j]? = some v):-1≤v∧v≤((D+4*qs.length:Nat):Int):=by
 have h1:=h.bnd j v hv
 have h2:=Rg cur
 rw [h.len] at h2
 have hj:j<qs.length:=by rw [← h.len];exact Ap hv
 obtain ⟨w,hw,hd⟩:=h.ach j _ (List.getElem?_eq_getElem hj)
 rw [hv] at hw
 cases hw
 refine ⟨?_,by omega⟩
 rcases hd with rfl|⟨p,_,rfl⟩<;>omega
theorem Col.get {t:Ad} {x:List UInt8} {D:Nat} {qs:List Ab} {cur:List Int} (h:Col t x D qs cur) {j:Nat} (hj:j<qs.length):∃ v,cur[j]? = some v:=⟨_,List.getElem?_eq_getElem (by rw [h.len];exact hj)⟩
theorem Col.lower {t:Ad} {x:List UInt8} {D:Nat} {qs:List Ab} {cur:List Int} (h:Col t x D qs cur) {j:Nat} {q:Ab} {v c:Int} (hq:qs[j]? = some q) (hv:cur[j]? = some v)
  (hp:∃ p,Way t q x p∧c=(Fi t p:Nat)) (hlt:v<0∨c<v) (hb:c≤((D+4*Xc cur+4:Nat):Int)) {B:Nat} (hB:c<(B:Int)):Col t x D qs (cur.set j c)∧phi B (cur.set j c)<phi B cur:=by
 have hc:0≤c:=by obtain ⟨p,_,rfl⟩:=hp;omega
 have hjl:=Ap hv
 refine ⟨⟨by rw [List.length_set];exact h.len,λ i q' hi=>?_,λ i q' hi hx ha=>?_,λ i w hw=>?_⟩,Je3 hv hc (by split<;>omega)⟩
 ·by_cases e:j=i
  ·subst e
   rw [hq] at hi;cases hi
   exact ⟨c,List.getElem?_set_self hjl,.inr hp⟩
  ·rw [List.getElem?_set_ne e];exact h.ach i q' hi
 ·by_cases e:j=i
  ·subst e
   rw [h.acc j q' hi hx ha] at hv
   cases hv
   omega
  ·rw [List.getElem?_set_ne e];exact h.acc i q' hi hx ha
 ·rw [Jdw hv hc]
  by_cases e:j=i
  ·subst e
   rw [List.getElem?_set_self hjl] at hw
   cases hw
   have:=h.bnd j v hv
   split<;>omega
  ·rw [List.getElem?_set_ne e] at hw
   have:=h.bnd i w hw
   omega
structure Jko (t:Ad) (x:List UInt8) (qs:List Ab) (cur:List Int):Prop where
 rel:∀ (j:Nat) q (k:Nat),qs[j]? = some q->(AH t q k).2=true->prt t k≠[]->∀ y,x=prt t k++y->0≤AR t (AH t q k).1 y->∃ v,cur[j]? = some v∧0≤v∧v≤AR t (AH t q k).1 y+(cls t k).length
structure Jkp (t:Ad) (qs:List Ab) (cur:List Int):Prop where
 sil:∀ (j:Nat) q (k:Nat),qs[j]? = some q->(AH t q k).2=true->prt t k=[]->∃ (i:Nat) (w:Int),qs[i]? = some (AH t q k).1∧cur[i]? = some w∧(0≤w->∃ v,cur[j]? = some v∧0≤v∧v≤w+(cls t k).length)
theorem Col.exact {t:Ad} {x:List UInt8} {D:Nat} {qs:List Ab} {cur:List Int} (h:Col t x D qs cur) (hn:qs.Nodup) (h1:Jko t x qs cur) (h2:Jkp t qs cur) {j:Nat} {q:Ab} (hq:qs[j]? = some q):cur[j]? = some (AR t q x):=by
 let f:Ab->Int:=λ q=>cur.getD ((qs.findIdx? λ x=>decide (x=q)).getD 0) (-1)
 have hf:∀ (j:Nat) q v,qs[j]? = some q->cur[j]? = some v->f q=v:=by
  intro j q v hj hv
  show cur.getD ((qs.findIdx? λ x=>decide (x=q)).getD 0) (-1)=v
  rw [C4 hn hj,Option.getD_some,List.getD_eq_getElem?_getD,hv];rfl
 have key:=Jdv (t:=t) (S:=λ q=>∃ j:Nat,qs[j]? = some q) (x:=x) (f:=f) ?_ ?_ ?_ ?_ q ⟨j,hq⟩
 ·obtain ⟨v,hv⟩:=h.get (Ap hq)
  rw [hf j q v hq hv] at key
  rw [hv,Jdu key]
 ·rintro q ⟨j,hj⟩
  obtain ⟨v,hv,hd⟩:=h.ach j q hj
  rw [hf j q v hj hv];exact hd
 ·rintro q ⟨j,hj⟩ hx ha
  exact hf j q 0 hj (h.acc j q hj hx ha)
 ·rintro q k ⟨j,hj⟩ hs hp y hy hc
  obtain ⟨k,rfl⟩:∃ n:Nat,k=n:=⟨k.toNat,by have:=DP hs;omega⟩
  obtain ⟨v,hv,g1,g2⟩:=h1.rel j q k hj hs hp y hy hc
  rw [hf j q v hj hv];exact ⟨g1,g2⟩
 ·rintro q k ⟨j,hj⟩ hs hp
  obtain ⟨k,rfl⟩:∃ n:Nat,k=n:=⟨k.toNat,by have:=DP hs;omega⟩
  obtain ⟨i,w,hi,hw,hh⟩:=h2.sil j q k hj hs hp
  refine ⟨⟨i,hi⟩,?_⟩
  rw [hf i _ w hi hw]
  intro h0
  obtain ⟨v,hv,g1,g2⟩:=hh h0
  rw [hf j q v hj hv];exact ⟨g1,g2⟩
theorem Pe {t:Ad} {q:Ab} {k:Int} {y:List UInt8} {c:Int} (hs:(AH t q k).2=true) (h:∃ p,Way t (AH t q k).1 y p∧c=(Fi t p:Nat)):∃ p,Way t q (prt t k++y) p∧c+((cls t k).length:Nat)=(Fi t p:Nat):=by
 obtain ⟨p,hp,rfl⟩:=h
 exact ⟨k::p,hp.cons hs,by rw [FI];omega⟩
end Go.AI
end
section
namespace Go.AI
structure F6 (t:Ad):Prop where
 tab:Ho t
 cl:∀ r∈t.Rules,1≤r.Cells.length∧r.Cells.length≤4
theorem F6.one {t:Ad} (h:F6 t):∀ r∈t.Rules,1≤r.Cells.length:=λ r hr=>(h.cl r hr).1
theorem F6.pr {t:Ad} (h:F6 t) {k:Int} {q:Ab} (hk:(AH t q k).2=true):(prt t k).length≤3∧1≤(cls t k).length∧(cls t k).length≤4:=by
 have h1:=DP hk
 have hm:=GC h1.1 h1.2
 exact ⟨(h.tab.2 _ hm).2.2.2.2,h.cl _ hm⟩
theorem S2 {α:Type} (l:List α) (i:Nat) (d:α):l.set i (l.getD i d)=l:=by
 apply List.ext_getElem?
 intro j
 rw [List.getElem?_set]
 split
 ·rename_i e;subst e
  split
  ·rename_i hl;rw [List.getD_eq_getElem?_getD,List.getElem?_eq_getElem hl];rfl
  ·rename_i hl;rw [List.getElem?_eq_none (by omega)]
 ·rfl
theorem Hb {α:Type} {l:List α} {i:Nat} (h:i<l.length) (y d:α):(l.set i y).getD i d=y:=by
 rw [List.getD_eq_getElem?_getD,List.getElem?_set_self h];rfl
theorem I4 {α:Type} {l:List α} {i j:Nat} (h:i≠j) (y d:α):(l.set i y).getD j d=l.getD j d:=by
 rw [List.getD_eq_getElem?_getD,List.getElem?_set_ne h,← List.getD_eq_getElem?_getD]
theorem Fj {α:Type} {l:List α} {i:Nat} (d:α) (h:i<l.length):idx l (i:Int)=some (l.getD i d):=by
 rw [Fg h,DG h]
theorem Jag {s pr:List UInt8} {i:Nat} (hi:i≤s.length) (hs:s.length<1000000) (hp:pr.length<1000000) (n:Nat):Kg n s (i:Int) pr=some (pr.isPrefixOf (s.drop i)):=by
 unfold Kg
 have e:Au .i64 (i:Int) ((List.length pr:Nat):Int)=((i+pr.length:Nat):Int):=by rw [FG]<;>omega
 rw [e]
 by_cases h:i+pr.length≤s.length
 ·rw [if_pos (by simp;omega),Ui (by omega) (by omega) (by omega),Option.bind_some]
  congr 1
  rw [Bool.eq_iff_iff,Bool.and_eq_true,beq_iff_eq,List.isPrefixOf_iff_prefix]
  have e2:(s.take ((i+pr.length:Nat):Int).toNat).drop (i:Int).toNat=(s.drop i).take pr.length:=by
   rw [Int.toNat_natCast,Int.toNat_natCast,List.drop_take];congr 1;omega
  rw [e2]
  constructor
  ·rintro ⟨_,h2⟩;rw [← h2];exact List.take_prefix _ _
  ·intro h2;exact ⟨by simp;omega,(List.prefix_iff_eq_take.1 h2).symm⟩
 ·rw [if_neg (by simp;omega),Option.bind_some]
  congr 1
  have:decide (((i+pr.length:Nat):Int)≤((List.length s:Nat):Int))=false:=by simp;omega
  rw [this,Bool.false_and,eq_comm,← Bool.not_eq_true,List.isPrefixOf_iff_prefix]
  intro hp'
  have:=hp'.length_le
  rw [List.length_drop] at this
  omega
theorem Ej {s pr:List UInt8} {i:Nat} (h:pr.isPrefixOf (s.drop i)=true):s.drop i=pr++s.drop (i+pr.length)∧(i≤s.length->i+pr.length≤s.length):=by
 rw [List.isPrefixOf_iff_prefix] at h
 obtain ⟨y,hy⟩:=h
 have:s.drop (i+pr.length)=y:=by rw [← List.drop_drop,← hy,List.drop_left]
 rw [this,hy]
 refine ⟨rfl,λ hi=>?_⟩
 have:=congrArg List.length hy
 rw [List.length_append,List.length_drop] at this
 omega
def KO (t:Ad) (s:List UInt8) (out:List (List Int)) (i:Nat) (q:Ab) (k:Nat):Int:=
 if (AH t q k).2=true∧(prt t k).isPrefixOf (s.drop i)=true then
  (if (out.getD (i+(prt t k).length) []).getD (Ef (Aa t) (AH t q k).1).toNat 0<0 then -1 else (out.getD (i+(prt t k).length) []).getD (Ef (Aa t) (AH t q k).1).toNat 0+(cls t k).length) else -1
structure NC (t:Ad) (s:List UInt8) (i:Nat) (row:List Int):Prop where
 len:row.length=(Aa t).length
 val:∀ (j:Nat) q,(Aa t)[j]? = some q->row[j]? = some (AR t q (s.drop i))
 bnd:∀ (j:Nat) v,row[j]? = some v->v≤((3072*(s.length-i+1):Nat):Int)
structure Suf (t:Ad) (s:List UInt8) (i:Nat) (out:List (List Int)):Prop where
 len:out.length=s.length+1
 rows:∀ i',i<i'->i'≤s.length->NC t s i' (out.getD i' [])
 col:Col t (s.drop i) (3072*(s.length-i)) (Aa t) (out.getD i [])
section
variable {t:Ad} (hT:F6 t) {s:List UInt8} (hs:s.length≤4000)
include hT
theorem GN {q:Ab} (hq:q∈Aa t) {k:Nat} (hk:(AH t q k).2=true):(AH t q k).1∈Aa t:=by
 obtain ⟨j,hj,e⟩:=List.getElem_of_mem hq
 have h:=DP hk
 exact (HJ hT.tab).2 (j+1) j q (by omega) (by rw [← e];exact List.getElem?_eq_getElem hj) k (by omega) hk
theorem H9:(Aa t).length≤768:=(HJ hT.tab).1.len
theorem Jdx:(Aa t).Nodup:=(HJ hT.tab).1.nodup
include hs
theorem Yi {i:Nat} (hi:i≤s.length) {out:List (List Int)} (hol:out.length=s.length+1) (hR:∀ i',i≤i'->i'≤s.length->(out.getD i' []).length=(Aa t).length∧∀ (j:Nat) v,(out.getD i' [])[j]? = some v->-1≤v∧v≤13000000) {q:Ab} (hq:q∈Aa t) {k:Nat} (hk:k<t.Rules.length):Ev (λ n=>JE n t ⟨s,i,q,Aa t⟩ k out) (KO t s out i q k):=by
 have hlen:=H9 hT
 unfold JE KO
 refine Ev.bind (Ev.all λ n=>WX hT.tab.short n q k) ?_
 cases hst:(AH t q k).2 with
 | false=>
  refine Ev.all λ n=>?_
  simp
 | true=>
  obtain ⟨p1,p2,p3⟩:=hT.pr hst
  have hr:=SZ (t:=t) (k:=(k:Int)) (by omega) (by omega)
  refine Ev.all (f:=λ n=>_) (λ n=>?_) |>.bind (x:=Ei t k) ?_
  ·simp [hr]
  refine Ev.bind (x:=(prt t k).isPrefixOf (s.drop i)) (Ev.all λ n=>?_) ?_
  ·rw [if_pos (by simp)]
   exact Jag hi (by omega) (by simp only [prt] at p1;omega) n
  cases hb:(prt t k).isPrefixOf (s.drop i) with
  | false=>exact Ev.iteT (by simp) (by simp;exact Ev.const)
  | true=>
   obtain ⟨q1,q2⟩:=Ej hb
   have q2:=q2 hi
   refine Ev.iteF (by simp) (Ev.bindC hr ?_)
   have e:Au .i64 (i:Int) ((List.length (Ei t k).Print:Nat):Int)=((i+(prt t k).length:Nat):Int):=by rw [FG]<;>simp only [prt] at*<;> omega
   rw [show (({ S:=s,I:=(i:Int),State:=q,L:=Aa t }:Sn).I)=(i:Int) from rfl,e]
   refine Ev.bindC (Fj [] (by omega)) ?_
   have hmem:=GN hT hq hst
   obtain ⟨m,hm,hmg⟩:=Du hmem
   refine Ev.bind (WZ (l:=Aa t) (s:=(AH t q k).1) (by omega)) ?_
   rw [hm]
   have hml:=Ap hmg
   obtain ⟨hrl,hrb⟩:=hR (i+(prt t k).length) (by omega) q2
   refine Ev.bindC (Fj 0 (by rw [hrl];exact hml)) ?_
   simp only [Int.toNat_natCast,and_self,if_true]
   generalize hv:(out.getD (i+(prt t k).length) []).getD m 0=v
   have hvg:(out.getD (i+(prt t k).length) [])[m]? = some v:=by
    rw [← hv,List.getD_eq_getElem?_getD (l:=out.getD (i+(prt t k).length) []),List.getElem?_eq_getElem (by rw [hrl];exact hml)];rfl
   have hvb:=hrb m v hvg
   by_cases hneg:v<0
   ·rw [if_pos hneg]
    exact Ev.iteT (by simpa using hneg) Ev.const
   ·rw [if_neg hneg]
    refine Ev.iteF (by simpa using hneg) (Ev.bindC hr (Ev.all λ n=>?_))
    rw [FG (by simp only [cls] at *;omega) (by simp only [cls] at *;omega)]
theorem S3 {i:Nat} {row:List Int} (h:NC t s i row):row.length=(Aa t).length∧∀ (j:Nat) v,row[j]? = some v->-1≤v∧v≤13000000:=by
 have _:=hT
 refine ⟨h.len,λ j v hv=>?_⟩
 have h1:=h.bnd j v hv
 have hj:j<(Aa t).length:=by rw [← h.len];exact Ap hv
 have h2:=h.val j _ (List.getElem?_eq_getElem hj)
 rw [hv] at h2
 have:=Xb t (Aa t)[j] (s.drop i)
 simp only [Option.some.injEq] at h2
 omega
theorem Jdy {i:Nat} (hi:i≤s.length) {out:List (List Int)} (ho:Suf t s i out) {q:Ab} (hq:q∈Aa t) {k:Nat} (hk:k<t.Rules.length):Ev (λ n=>JE n t ⟨s,i,q,Aa t⟩ k out) (KO t s out i q k):=by
 refine Yi hT hs hi ho.len (λ i' h1 h2=>?_) hq hk
 rcases Nat.eq_or_lt_of_le h1 with rfl|hlt
 ·refine ⟨ho.col.len,λ j v hv=>?_⟩
  have h1:=ho.col.top hv
  have:=H9 hT
  omega
 ·exact S3 hT hs (ho.rows i' hlt h2)
omit hs in
theorem Je4 {i:Nat} (hi:i≤s.length) {out:List (List Int)} (ho:Suf t s i out) {q:Ab} (hq:q∈Aa t) {k:Nat} (h:0≤KO t s out i q k) :
  (∃ p,Way t q (s.drop i) p∧KO t s out i q k=(Fi t p:Nat))∧KO t s out i q k≤((3072*(s.length-i)+4*Xc (out.getD i [])+4:Nat):Int):=by
 unfold KO at h ⊢
 split at h
 ·rename_i hc
  rw [if_pos hc]
  obtain ⟨hst,hb⟩:=hc
  obtain ⟨p1,p2,p3⟩:=hT.pr hst
  obtain ⟨q1,q2⟩:=Ej hb
  have q2:=q2 hi
  obtain ⟨m,hm,hmg⟩:=Du (GN hT hq hst)
  rw [hm,Int.toNat_natCast] at h ⊢
  split at h
  ·omega
  ·rename_i hneg
   rw [if_neg hneg]
   rcases Nat.eq_zero_or_pos (prt t k).length with h0|h0
   ·have hp0:prt t k=[]:=List.length_eq_zero_iff.1 h0
    rw [h0,Nat.add_zero] at h hneg ⊢
    obtain ⟨v,hv,hd⟩:=ho.col.ach m _ hmg
    have hvv:(out.getD i []).getD m 0=v:=by rw [List.getD_eq_getElem?_getD (l:=out.getD i []),hv];rfl
    rw [hvv] at h hneg ⊢
    have hbn:=ho.col.bnd m v hv
    refine ⟨?_,by omega⟩
    have:=Pe hst (hd.resolve_left (by omega))
    rw [hp0,List.nil_append] at this
    exact this
   ·have hR:=ho.rows _ (show i<i+(prt t k).length by omega) q2
    have hv:=hR.val m _ hmg
    have hvv:(out.getD (i+(prt t k).length) []).getD m 0=AR t (AH t q k).1 (s.drop (i+(prt t k).length)):=by
     rw [List.getD_eq_getElem?_getD (l:=out.getD (i+(prt t k).length) []),hv];rfl
    have hbn:=hR.bnd m _ hv
    rw [hvv] at h hneg ⊢
    refine ⟨?_,?_⟩
    ·have:=Pe hst (GD (x:=s.drop (i+(prt t k).length)) (by omega))
     rwa [← q1] at this
    ·have:3072*(s.length-(i+(prt t k).length)+1)≤3072*(s.length-i):=by omega
     omega
 ·omega
def JiW (t:Ad) (s:List UInt8) (i:Nat) (out:List (List Int)) (j k:Nat):Prop:=∀ q,(Aa t)[j]? = some q->0≤KO t s out i q k->∃ v,(out.getD i [])[j]? = some v∧0≤v∧v≤KO t s out i q k
omit hs in
theorem Jdz {i:Nat} (hi:i≤s.length) {out:List (List Int)} (ho:Suf t s i out) (h:∀ j k,j<(Aa t).length->k<t.Rules.length->JiW t s i out j k):NC t s i (out.getD i []):=by
 have hx:∀ (j:Nat) q,(Aa t)[j]? = some q->(out.getD i [])[j]? = some (AR t q (s.drop i)):=by
  intro j q hq
  refine ho.col.exact (Jdx hT) ⟨λ j q k hj hst hp y hy hc=>?_⟩ ⟨λ j q k hj hst hp=>?_⟩ hq
  ·have hk:=DP hst
   have hb:(prt t k).isPrefixOf (s.drop i)=true:=by rw [List.isPrefixOf_iff_prefix,hy];exact List.prefix_append _ _
   obtain ⟨q1,q2⟩:=Ej hb
   have q2:=q2 hi
   have hyy:s.drop (i+(prt t k).length)=y:=by rw [q1] at hy;exact List.append_cancel_left hy
   have hlp:0<(prt t k).length:=List.length_pos_iff.2 hp
   obtain ⟨m,hm,hmg⟩:=Du (GN hT (List.mem_of_getElem? hj) hst)
   have hv:=(ho.rows _ (show i<i+(prt t k).length by omega) q2).val m _ hmg
   have ha:KO t s out i q k=AR t (AH t q k).1 y+(cls t k).length:=by
    unfold KO
    rw [if_pos ⟨hst,hb⟩,hm,Int.toNat_natCast,List.getD_eq_getElem?_getD (l:=out.getD (i+(prt t k).length) []),hv,Option.getD_some,hyy,if_neg (by omega)]
   have:=h j k (Ap hj) (by omega) q hj (by omega)
   rwa [ha] at this
  ·have hk:=DP hst
   obtain ⟨m,hm,hmg⟩:=Du (GN hT (List.mem_of_getElem? hj) hst)
   obtain ⟨w,hw,_⟩:=ho.col.ach m _ hmg
   refine ⟨m,w,hmg,hw,λ h0=>?_⟩
   have ha:KO t s out i q k=w+(cls t k).length:=by
    unfold KO
    rw [if_pos ⟨hst,by rw [hp];rfl⟩,hm,Int.toNat_natCast,hp,List.length_nil,Nat.add_zero,List.getD_eq_getElem?_getD (l:=out.getD i []),hw,Option.getD_some,if_neg (by omega)]
   have:=h j k (Ap hj) (by omega) q hj (by omega)
   rwa [ha] at this
 refine ⟨ho.col.len,hx,λ j v hv=>?_⟩
 have h1:=(ho.col.top hv).2
 have:=H9 hT
 omega
end
end Go.AI
end
section
namespace Go.AI
section
variable {t:Ad} (hT:F6 t) {s:List UInt8} (hs:s.length≤4000)
include hT
def Dd (t:Ad) (x:List UInt8) (q:Ab):Int:=if x=[]∧By t q=true then 0 else -1
omit hT in
theorem Ul (t:Ad) (x:List UInt8) (D:Nat) (qs:List Ab):Col t x D qs (qs.map (Dd t x)):=by
 refine ⟨by simp,λ j q hj=>⟨Dd t x q,by simp [hj],?_⟩,λ j q hj hx ha=>by simp [hj,Dd,hx,ha],λ j v hv=>?_⟩
 ·unfold Dd
  split
  ·rename_i h;exact .inr ⟨[],⟨⟨q,rfl,h.2⟩,by rw [h.1];rfl⟩,by simp [Fi,cellsOf]⟩
  ·exact .inl rfl
 ·rw [List.getElem?_map,Option.map_eq_some_iff] at hv
  obtain ⟨q,_,rfl⟩:=hv
  unfold Dd
  split<;>omega
include hs
omit hT in
theorem Xd {i:Nat} (hi:i≤s.length):(((i:Nat):Int)==((List.length s:Nat):Int))=decide (s.drop i=[]):=by
 have _:=hs
 rw [Bool.eq_iff_iff]
 simp only [beq_iff_eq,decide_eq_true_eq,List.drop_eq_nil_iff]
 omega
theorem Je5 {i:Nat} (hi:i≤s.length) (out0:List (List Int)) (hl:out0.length=s.length+1) (hr:(out0.getD i []).length=(Aa t).length) :
  Tot (λ n=>whl (λ (x:((List (List Int))×Int))=>CW n t s (Aa t) (i:Int) x.1 x.2) n (out0,0)) (λ out=>out=out0.set i ((Aa t).map (Dd t (s.drop i)))):=by
 have hlen:=H9 hT
 refine Tot.upto (body:=λ n x=>CW n t s (Aa t) (i:Int) x.1 x.2) (Aa t).length (λ k x=>x.2=(k:Int)∧∃ row,x.1=out0.set i row∧row.length=(Aa t).length∧∀ (j:Nat) q,j<k->(Aa t)[j]? = some q->row[j]? = some (Dd t (s.drop i) q)) ?_ ?_ _ ⟨rfl,out0.getD i [],(S2 _ _ _).symm,hr,by omega⟩
 ·rintro k ⟨out,k'⟩ hk ⟨e1,row,e2,e3,e4⟩
  simp only at e1 e2
  subst e1 e2
  have hJ:∀ v,v=Dd t (s.drop i) (Aa t)[k]->∀ out',out'=out0.set i (row.set k v)->Tot (λ n=>DM n (k:Int) out') (Rd2 (λ x:List (List Int)×Int=>x.2=((k+1:Nat):Int)∧∃ row,x.1=out0.set i row∧row.length=(Aa t).length∧∀ (j:Nat) q,j<k+1->(Aa t)[j]? = some q->row[j]? = some (Dd t (s.drop i) q)) (λ out=>out=out0.set i ((Aa t).map (Dd t (s.drop i))))):=by
   intro v hv out' ho'
   unfold DM
   refine Tot.pure ⟨CH (by omega),_,ho',by rw [List.length_set];exact e3,λ j q hj hq=>?_⟩
   by_cases e:k=j
   ·subst e
    rw [List.getElem?_set_self (by omega),hv]
    rw [List.getElem?_eq_getElem hk] at hq
    cases hq;rfl
   ·rw [List.getElem?_set_ne e];exact e4 j q (by omega) hq
  unfold CW
  have hil:i<(out0.set i row).length:=by rw [List.length_set];omega
  have hg:(out0.set i row).getD i []=row:=Hb (by omega) _ _
  refine Tot.iteT (Ha hk) (Tot.bindC (Fj [] hil) ?_)
  rw [hg]
  refine Tot.bindC (Fj 0 (by omega)) (Tot.bindC (F4 (by omega)) ?_)
  rw [Xd hs hi,Int.toNat_natCast,List.set_set]
  by_cases hd:s.drop i=[]
  ·refine Tot.gE (decide_eq_true hd) (Ev.all λ n=>Fg hk) (Tot.gE (decide_eq_true hd) (Ev.all λ n=>WY n t _) (Tot.ite (λ h=>?_) λ h=>?_))
   ·have ha:By t (Aa t)[k]=true:=by simpa [hd] using h
    refine Tot.bindC (Fj [] (by rw [List.length_set];omega)) ?_
    rw [Hb (by omega)]
    refine Tot.bindC (Fj 0 (by rw [List.length_set];omega)) (Tot.bindC (F4 (by rw [List.length_set];omega)) (hJ 0 ?_ _ ?_))
    ·unfold Dd;rw [if_pos ⟨hd,ha⟩]
    ·rw [List.set_set,List.set_set]
   ·have ha:By t (Aa t)[k]=false:=by simpa [hd] using h
    refine hJ (-1) ?_ _ rfl
    unfold Dd;rw [if_neg (by rw [ha];simp)]
  ·refine Tot.gF (decide_eq_false hd) (Tot.gF (decide_eq_false hd) (Tot.iteF (by simp [hd]) (hJ (-1) ?_ _ rfl)))
   unfold Dd;rw [if_neg (λ h=>hd h.1)]
 ·rintro ⟨out,k'⟩ ⟨e1,row,e2,e3,e4⟩
  simp only at e1 e2
  subst e1 e2
  unfold CW
  refine Tot.iteF (by simp) (Tot.pure ?_)
  refine congrArg (out0.set i) (List.ext_getElem? λ j=>?_)
  rcases Nat.lt_or_ge j (Aa t).length with h|h
  ·rw [e4 j _ h (List.getElem?_eq_getElem h),List.getElem?_map,List.getElem?_eq_getElem h];rfl
  ·rw [List.getElem?_eq_none (by omega),List.getElem?_eq_none (by simpa using h)]
structure Pf (t:Ad) (s:List UInt8) (i:Nat) (B:Nat) (out0 out:List (List Int)) (ch:Bool) (k r:Nat):Prop where
 suf:Suf t s i out
 same:ch=false->out=out0∧∀ j m,(j<k∨(j=k∧m<r))->m<t.Rules.length->JiW t s i out0 j m
 less:ch=true->phi B (out.getD i [])<phi B (out0.getD i [])
omit hT hs in
theorem JdA (n:Nat) (a c:Int) (hc:0≤c):MJ n a c=some (if a<0∨c<a then c else a):=by
 unfold MJ
 by_cases h:a<0∨c<a
 ·rw [if_pos h,if_pos (by simp only [Bool.or_eq_true,Bool.and_eq_true,decide_eq_true_eq];omega)]
 ·rw [if_neg h,if_neg (by simp only [Bool.or_eq_true,Bool.and_eq_true,decide_eq_true_eq];omega)]
theorem Je6 {i:Nat} (hi:i≤s.length) {B:Nat} (hB:13000000≤B) {out0 out1:List (List Int)} {ch1:Bool} {k:Nat} (hk:k<(Aa t).length) (h1:Pf t s i B out0 out1 ch1 k 0) :
  Tot (λ n=>whl (λ (x:((List (List Int))×Bool×Int))=>CX n t s (Aa t) (i:Int) (k:Int) x.1 x.2.1 x.2.2) n (out1,ch1,0)) (λ y=>Pf t s i B out0 y.1 y.2 k t.Rules.length):=by
 have hlen:=H9 hT
 have hrl:=hT.tab.1
 refine Tot.upto (body:=λ n x=>CX n t s (Aa t) (i:Int) (k:Int) x.1 x.2.1 x.2.2) t.Rules.length (λ r x=>x.2.2=(r:Int)∧Pf t s i B out0 x.1 x.2.1 k r) ?_ ?_ _ ⟨rfl,h1⟩
 ·rintro r ⟨out,ch,r'⟩ hr ⟨e1,hP⟩
  simp only at e1 hP
  subst e1
  have hq:(Aa t)[k]? = some (Aa t)[k]:=List.getElem?_eq_getElem hk
  have hqm:(Aa t)[k]∈Aa t:=List.getElem_mem hk
  have hA:=hP.suf
  have hJ:∀ out' ch',Pf t s i B out0 out' ch' k (r+1)->Tot (λ n=>DN n (r:Int) out' ch') (Rd2 (λ x:List (List Int)×Bool×Int=>x.2.2=((r+1:Nat):Int)∧Pf t s i B out0 x.1 x.2.1 k (r+1)) (λ y=>Pf t s i B out0 y.1 y.2 k t.Rules.length)):=by
   intro out' ch' h
   unfold DN
   exact Tot.pure ⟨CH (by omega),h⟩
  have hskip:JiW t s i out k r->Pf t s i B out0 out ch k (r+1):=by
   intro hrel
   refine ⟨hA,λ hc=>⟨(hP.same hc).1,λ j m hjm hm=>?_⟩,hP.less⟩
   by_cases e:j=k∧m=r
   ·obtain ⟨rfl,rfl⟩:=e
    rw [← (hP.same hc).1];exact hrel
   ·exact (hP.same hc).2 j m (by omega) hm
  unfold CX
  refine Tot.iteT (Ha hr) (Tot.bindC (Eg hq) (Tot.bindE (Jdy hT hs hi hA hqm hr) ?_))
  have hil:i<out.length:=by rw [hA.len];omega
  rw [Int.toNat_natCast]
  simp only [S2]
  have hcl:=hA.col.len
  obtain ⟨v,hv⟩:=hA.col.get hk
  have hvd:(out.getD i []).getD k 0=v:=by rw [List.getD_eq_getElem?_getD (l:=out.getD i []),hv];rfl
  by_cases hc:0≤KO t s out i (Aa t)[k] r
  ·obtain ⟨u1,u2⟩:=Je4 hT hi hA hqm hc
   have hgd:decide (KO t s out i (Aa t)[k] r≥0)=true:=by simpa using hc
   refine Tot.gE hgd (Ev.all λ n=>Fj [] hil) (Tot.gE hgd (Ev.all λ n=>Fj 0 (by omega)) ?_)
   rw [hvd]
   refine Tot.gE hgd (Ev.all λ n=>JdA n v _ hc) (Tot.gE hgd (Ev.all λ n=>Fj [] hil) (Tot.gE hgd (Ev.all λ n=>Fj 0 (by omega)) ?_))
   rw [hvd]
   by_cases hlt:v<0∨KO t s out i (Aa t)[k] r<v
   ·rw [if_pos hlt]
    refine Tot.iteT (by simp only [Bool.and_eq_true,bne_iff_ne,ne_eq];exact ⟨hgd,by omega⟩) ?_
    have hfin:=Rg (out.getD i [])
    obtain ⟨g1,g2⟩:=hA.col.lower hq hv u1 (hlt.imp id id) u2 (B:=B) (by omega)
    refine Tot.bindC (Fj [] hil) (Tot.bindC (Fj 0 (by omega)) (Tot.bindC (F4 (by omega)) (hJ _ _ ?_)))
    have hgs:(out.set i ((out.getD i []).set k (KO t s out i (Aa t)[k] r))).getD i []=(out.getD i []).set k (KO t s out i (Aa t)[k] r):=Hb hil _ _
    refine ⟨⟨by rw [List.length_set];exact hA.len,λ i' h1 h2=>by rw [I4 (by omega)];exact hA.rows i' h1 h2,by rw [hgs];exact g1⟩,(λ h=>by cases h),λ _=>?_⟩
    rw [hgs]
    cases hch:ch with
    | false=>rw [(hP.same hch).1] at g2 ⊢;exact g2
    | true=>have:=hP.less hch;omega
   ·rw [if_neg hlt]
    refine Tot.iteF (by simp) (hJ _ _ (hskip λ q hq' _=>?_))
    rw [hq] at hq'
    cases hq'
    exact ⟨v,hv,by omega,by omega⟩
  ·have hgd:decide (KO t s out i (Aa t)[k] r≥0)=false:=by simpa using hc
   refine Tot.gF hgd (Tot.gF hgd (Tot.gF hgd (Tot.gF hgd (Tot.gF hgd (Tot.iteF (by rw [hgd];rfl) (hJ _ _ (hskip λ q hq' h0=>?_)))))))
   rw [hq] at hq'
   cases hq'
   exact absurd h0 hc
 ·rintro ⟨out,ch,r'⟩ ⟨e1,hP⟩
  simp only at e1 hP
  subst e1
  unfold CX
  exact Tot.iteF (by simp) (Tot.pure hP)
theorem Je7 {i:Nat} (hi:i≤s.length) {B:Nat} (hB:13000000≤B) {out0:List (List Int)} (h1:Suf t s i out0) :
  Tot (λ n=>whl (λ (x:((List (List Int))×Bool×Int))=>CY n t s (Aa t) (i:Int) x.1 x.2.1 x.2.2) n (out0,false,0)) (λ y=>Pf t s i B out0 y.1 y.2 (Aa t).length 0):=by
 have hlen:=H9 hT
 refine Tot.upto (body:=λ n x=>CY n t s (Aa t) (i:Int) x.1 x.2.1 x.2.2) (Aa t).length (λ k x=>x.2.2=(k:Int)∧Pf t s i B out0 x.1 x.2.1 k 0) ?_ ?_ _ ⟨rfl,h1,λ _=>⟨rfl,λ j m h=>by omega⟩,λ h=>by cases h⟩
 ·rintro k ⟨out,ch,k'⟩ hk ⟨e1,hP⟩
  simp only at e1 hP
  subst e1
  unfold CY
  refine Tot.iteT (Ha hk) (Tot.bind (Je6 hT hs hi hB hk hP) ?_)
  rintro ⟨out',ch'⟩ hP'
  exact Tot.pure ⟨CH (by omega),hP'.suf,λ hc=>⟨(hP'.same hc).1,λ j m hjm hm=>(hP'.same hc).2 j m (by omega) hm⟩,hP'.less⟩
 ·rintro ⟨out,ch,k'⟩ ⟨e1,hP⟩
  simp only at e1 hP
  subst e1
  unfold CY
  exact Tot.iteF (by simp) (Tot.pure hP)
theorem Je8 {i:Nat} (hi:i≤s.length) {out0:List (List Int)} (h1:Suf t s i out0) :
  Tot (λ n=>whl (λ (x:((List (List Int))×Bool))=>DO n t s (Aa t) (i:Int) x.1 x.2) n (out0,true)) (λ out=>out.length=s.length+1∧∀ i',i≤i'->i'≤s.length->NC t s i' (out.getD i' [])):=by
 refine Tot.whl (body:=λ n x=>DO n t s (Aa t) (i:Int) x.1 x.2) (λ m x=>Suf t s i x.1∧((x.2=true∧m=phi 13000000 (x.1.getD i [])+1)∨(x.2=false∧m=0∧NC t s i (x.1.getD i [])))) ?_ (phi 13000000 (out0.getD i [])+1) (out0,true) ⟨h1,.inl ⟨rfl,rfl⟩⟩
 rintro m ⟨out,ch⟩ ⟨hS,hm⟩
 simp only at hS hm
 unfold DO
 rcases hm with ⟨rfl,rfl⟩|⟨rfl,rfl,hR⟩
 ·refine Tot.iteT rfl (Tot.bind (Je7 hT hs hi (Nat.le_refl _) hS) ?_)
  rintro ⟨out',ch'⟩ hP
  simp only at hP
  cases ch' with
  | false=>
   obtain ⟨e,hrel⟩:=hP.same rfl
   subst e
   exact Tot.pure ⟨0,by omega,hS,.inr ⟨rfl,rfl,Jdz hT hi hS λ j k hj hk=>hrel j k (by omega) hk⟩⟩
  | true=>
   have:=hP.less rfl
   exact Tot.pure ⟨phi 13000000 (out'.getD i [])+1,by omega,hP.suf,.inl ⟨rfl,rfl⟩⟩
 ·refine Tot.iteF rfl (Tot.pure ⟨hS.len,λ i' h1 h2=>?_⟩)
  rcases Nat.eq_or_lt_of_le h1 with rfl|h
  ·exact hR
  ·exact hS.rows i' h h2
theorem Mp:Tot (λ n=>Hz n t s) (λ out=>out.length=s.length+1∧∀ i,i≤s.length->NC t s i (out.getD i [])):=by
 have hlen:=H9 hT
 unfold Hz
 have e1:Au .i64 ((List.length s:Nat):Int) 1=((s.length+1:Nat):Int):=CH (by omega)
 refine Tot.bindE (W8 hT.tab) ?_
 rw [e1]
 refine Tot.bindC (SX (by omega) (by omega)) ?_
 rw [Int.toNat_natCast]
 refine Tot.bind (R:=λ out=>out.length=s.length+1∧∀ i,i≤s.length->NC t s i (out.getD i [])) ?_ (λ out h=>Tot.pure h)
 refine Tot.whl (body:=λ n x=>E7 n t s (Aa t) x.1 x.2) (λ m x=>x.2=(m:Int)-1∧x.1.length=s.length+1∧m≤s.length+1∧∀ i',m≤i'->i'≤s.length->NC t s i' (x.1.getD i' [])) ?_ (s.length+1) _ ⟨by simp,by simp,by omega,by omega⟩
 rintro m ⟨out,i'⟩ ⟨e2,e3,e4,e5⟩
 simp only at e2 e3 e5
 subst e2
 unfold E7
 cases m with
 | zero=>exact Tot.iteF (by simp) (Tot.pure ⟨e3,λ i hi=>e5 i (by omega) hi⟩)
 | succ i=>
  have ei:((i+1:Nat):Int)-1=(i:Int):=by omega
  rw [ei]
  refine Tot.iteT (by simp) (Tot.bindC (Fj [] (show i<out.length by omega)) (Tot.bindC (SX (by omega) (by omega)) ?_))
  rw [Int.toNat_natCast,Int.toNat_natCast]
  refine Tot.bind (Je5 hT hs (show i≤s.length by omega) (out.set i (List.replicate (Aa t).length 0)) (by rw [List.length_set];exact e3) (by rw [Hb (by omega),List.length_replicate])) ?_
  rintro out1 rfl
  rw [List.set_set]
  refine Tot.bind (Je8 hT hs (show i≤s.length by omega) ⟨by rw [List.length_set];exact e3,λ i' h1 h2=>?_,?_⟩) ?_
  ·rw [I4 (by omega)];exact e5 i' (by omega) h2
  ·rw [Hb (by omega)];exact Ul t _ _ _
  ·rintro out2 ⟨h1,h2⟩
   refine Tot.pure ⟨i,by omega,?_,h1,by omega,h2⟩
   show Dw .i64 (i:Int) 1=(i:Int)-1
   rw [NB (by omega) (by omega)]
end
end Go.AI
end
section
namespace Go.AI
def Rch (t:Ad) (s:List UInt8) (i:Nat) (q:Ab):Prop:=i≤s.length∧∃ p,Ir t BP p q∧D1 t p=s.take i
theorem Rch.start (t:Ad) (s:List UInt8):Rch t s 0 BP:=⟨by omega,[],rfl,by simp [D1]⟩
theorem Mq (t:Ad) (p:List Int) (k:Int):D1 t (p++[k])=D1 t p++prt t k:=by simp [D1]
theorem Rch.next {t:Ad} {s:List UInt8} {i:Nat} {q:Ab} {k:Int} (h:Rch t s i q) (hk:(AH t q k).2=true) (hb:(prt t k).isPrefixOf (s.drop i)=true):Rch t s (i+(prt t k).length) (AH t q k).1:=by
 obtain ⟨h1,p,h2,h3⟩:=h
 obtain ⟨q1,q2⟩:=Ej hb
 refine ⟨q2 h1,p++[k],h2.snoc hk,?_⟩
 rw [Mq,h3,List.take_add,q1,List.take_left' rfl]
theorem Rch.ind {t:Ad} {s:List UInt8} {A:Nat->Ab->Prop} (h0:A 0 BP) (h1:∀ i q (k:Nat),i≤s.length->A i q->(AH t q k).2=true->(prt t k).isPrefixOf (s.drop i)=true->A (i+(prt t k).length) (AH t q k).1):∀ {i:Nat} {q:Ab},Rch t s i q->A i q:=by
 have key:∀ (p:List Int) (i:Nat) (q q':Ab),A i q->i≤s.length->Ir t q p q'->(∃ y,s.drop i=D1 t p++y)->A (i+(D1 t p).length) q':=by
  intro p
  induction p with
  | nil=>
   intro i q q' hA _ hg _
   unfold Ir at hg
   subst hg
   simpa [D1] using hA
  | cons k p ih=>
   intro i q q' hA hi hg hy
   obtain ⟨g1,g2⟩:=hg
   obtain ⟨y,hy⟩:=hy
   obtain ⟨k,rfl⟩:∃ n:Nat,k=n:=⟨k.toNat,by have:=DP g1;omega⟩
   rw [I3,List.append_assoc] at hy
   have hb:(prt t k).isPrefixOf (s.drop i)=true:=by rw [List.isPrefixOf_iff_prefix];exact ⟨_,hy.symm⟩
   obtain ⟨q1,q2⟩:=Ej hb
   have:=ih _ _ q' (h1 i q k hi hA g1 hb) (q2 hi) g2 ⟨y,by rw [q1] at hy;exact List.append_cancel_left hy⟩
   rw [I3,List.length_append,← Nat.add_assoc]
   exact this
 rintro i q ⟨hi,p,hg,ht⟩
 have:=key p 0 BP q h0 (by omega) hg ⟨s.drop i,by rw [ht,List.drop_zero,List.take_append_drop]⟩
 rw [ht,List.length_take,Nat.zero_add,Nat.min_eq_left hi] at this
 exact this
def Um (s:List UInt8) (i:Nat):Int:=if i<s.length then F3 (NA s i) else 0
theorem Xe (s:List UInt8) (i:Nat):0≤Um s i∧Um s i≤5:=by
 unfold Um
 split
 ·have:=I0 (NA s i);omega
 ·omega
def Yj (t:Ad) (s:List UInt8) (i:Nat):Prop:=∃ q,Rch t s i q∧Lv q.Need (Um s i)=true
def Un (t:Ad) (s:List UInt8) (v:Int):Prop:=(∃ i:Nat,v=i∧Yj t s i)∧∀ i:Nat,Yj t s i->(i:Int)≤v
theorem Un.uniq {t:Ad} {s:List UInt8} {v w:Int} (h:Un t s v) (h':Un t s w):v=w:=by
 obtain ⟨⟨i,e1,h1⟩,h2⟩:=h
 obtain ⟨⟨j,e2,g1⟩,g2⟩:=h'
 have:=h2 j g1
 have:=g2 i h1
 omega
theorem Jkq (t:Ad) (s:List UInt8):Yj t s 0:=by
 refine ⟨BP,.start t s,?_⟩
 have h:=Xe s 0
 generalize Um s 0=c at h
 have:c=0∨c=1∨c=2∨c=3∨c=4∨c=5:=by omega
 rcases this with rfl|rfl|rfl|rfl|rfl|rfl<;>decide +kernel
def S4 (t:Ad) (s:List UInt8) (i:Nat) (v:Int):Prop:=(∃ j:Nat,v=j∧(j=0∨(j<i∧Yj t s j)))∧∀ j:Nat,j<i->Yj t s j->(j:Int)≤v
theorem S4.stop {t:Ad} {s:List UInt8} {i:Nat} (hs:Yj t s i):S4 t s (i+1) (i:Nat):=⟨⟨i,rfl,.inr ⟨by omega,hs⟩⟩,λ j h _=>by omega⟩
theorem S4.skip {t:Ad} {s:List UInt8} {i:Nat} {v:Int} (h:S4 t s i v) (hs:¬Yj t s i):S4 t s (i+1) v:=by
 obtain ⟨⟨j,e,h1⟩,h2⟩:=h
 refine ⟨⟨j,e,h1.imp id λ h=>⟨by omega,h.2⟩⟩,λ k hk hS=>?_⟩
 by_cases e:k=i
 ·subst e;exact absurd hS hs
 ·exact h2 k (by omega) hS
theorem S4.all {t:Ad} {s:List UInt8} {v:Int} (h:S4 t s (s.length+1) v):Un t s v:=by
 obtain ⟨⟨j,e,h1⟩,h2⟩:=h
 refine ⟨⟨j,e,?_⟩,λ i hi=>h2 i ?_ hi⟩
 ·rcases h1 with rfl|h1
  ·exact Jkq t s
  ·exact h1.2
 ·obtain ⟨q,hq,_⟩:=hi
  have:=hq.1
  omega
section
variable {t:Ad} (hT:F6 t) {s:List UInt8} (hs:s.length≤4000)
def Mk (m:List (List Bool)) (i j:Nat):Prop:=(m.getD i [])[j]? = some true
structure Rea (t:Ad) (s:List UInt8) (i:Nat) (m:List (List Bool)):Prop where
 len:m.length=s.length+1
 rows:∀ i,i≤s.length->(m.getD i []).length=(Aa t).length
 sound:∀ i j,i≤s.length->Mk m i j->∃ q,(Aa t)[j]? = some q∧Rch t s i q
 first:Mk m 0 0
 done:∀ i',i'<i->∀ j k:Nat,∀ q,Mk m i' j->(Aa t)[j]? = some q->(AH t q k).2=true->(prt t k).isPrefixOf (s.drop i')=true->∃ j',(Aa t)[j']? = some (AH t q k).1∧Mk m (i'+(prt t k).length) j'
theorem Mk.set {m:List (List Bool)} {i j:Nat} (hi:i<m.length) (hj:j<(m.getD i []).length) {i' j':Nat}:Mk (m.set i ((m.getD i []).set j true)) i' j'↔(i=i'∧j=j')∨Mk m i' j':=by
 unfold Mk
 by_cases e:i=i'
 ·subst e
  rw [Hb hi]
  by_cases e2:j=j'
  ·subst e2;rw [List.getElem?_set_self hj];simp
  ·rw [List.getElem?_set_ne e2];simp [e2]
 ·rw [I4 e];simp [e]
include hT hs
omit hs in
theorem Rea.all {i:Nat} {m:List (List Bool)} (h:Rea t s (i+1) m) {j:Nat} {q:Ab} (hq:(Aa t)[j]? = some q):Rch t s i q↔i≤s.length∧Mk m i j:=by
 constructor
 ·intro hr
  refine ⟨hr.1,?_⟩
  have key:∀ {i' q},Rch t s i' q->i'≤i->∃ j,(Aa t)[j]? = some q∧Mk m i' j:=λ {i' q} hr=>Rch.ind (A:=λ i' q=>i'≤i->∃ j,(Aa t)[j]? = some q∧Mk m i' j) (λ _=>⟨0,(HJ hT.tab).1.first,h.first⟩) (λ i' q k hi' hA hst hpf hle=>by
   obtain ⟨j,h1,h2⟩:=hA (by omega)
   exact h.done i' (by omega) j k q h2 h1 hst hpf) hr
  obtain ⟨j',h1,h2⟩:=key hr (Nat.le_refl _)
  rwa [Je1 (Jdx hT) hq h1]
 ·rintro ⟨h1,h2⟩
  obtain ⟨q',g1,g2⟩:=h.sound i j h1 h2
  rw [hq] at g1;cases g1
  exact g2
end
end Go.AI
end
section
namespace Go.AI
def Jkr (t:Ad) (q:Ab) (k:Nat):Option A7:=if (AH t q k).2=true then some ⟨k,Ef (Aa t) (AH t q k).1⟩ else none
def JiX (t:Ad) (q:Ab):List A7:=(List.range t.Rules.length).filterMap (Jkr t q)
structure JdB (t:Ad) (s:List UInt8) (w:Af):Prop where
 tt:w.T=t
 ss:w.S=s
 st:w.States=Aa t
 al:w.Arcs.length=(Aa t).length
 arc:∀ (j:Nat) q,(Aa t)[j]? = some q->w.Arcs[j]? = some (JiX t q)
section
variable {t:Ad} (hT:F6 t) {s:List UInt8} (hs:s.length≤4000)
include hT hs
omit hs in
theorem Je9 {nb:List (Ab×Int)} (hN:I1 (Aa t) nb) {q:Ab} (hq:q∈Aa t):Option.getD (F5 q nb) 0=Ef (Aa t) q:=by
 obtain ⟨j,hj,hg⟩:=Du hq
 rw [hN q,C4 (Jdx hT) hg,hj];rfl
end
end Go.AI
end
section
namespace Go.AI
def Lw (w:Af) (p:Nat):List Int:=(w.Columns.getD p default).States
def InC (w:Af) (p:Nat) (v:Int):Prop:=v∈Lw w p
structure Kn (t:Ad) (s:List UInt8) (place:Nat) (w:Af) (kn:List (List Bool)):Prop where
 base:JdB t s w
 clen:w.Columns.length=s.length+1
 cost:∀ p,(w.Columns.getD p default).Costs=[]
 klen:kn.length=5
 rows:∀ c,c<5->(kn.getD c []).length=(Aa t).length
 nod:∀ p,(Lw w p).Nodup
 ok:∀ p v,InC w p v->∃ (j:Nat) (q:Ab),v=(j:Int)∧(Aa t)[j]? = some q∧Rch t s p q
 row:∀ p,place≤p->p<place+5->∀ j:Nat,(kn.getD (p % 5) [])[j]? = some true↔InC w p (j:Int)
 far:∀ p,place+5≤p->Lw w p=[]
structure Pg (w w':Af):Prop where
 last:w'.Last=w.Last
 pre:∀ p,Lw w p <+: Lw w' p
theorem Pg.refl (w:Af):Pg w w:=⟨rfl,λ _=>List.prefix_rfl⟩
theorem Pg.trans {w w' w'':Af} (h:Pg w w') (h':Pg w' w''):Pg w w'':=⟨h'.last.trans h.last,λ p=>(h.pre p).trans (h'.pre p)⟩
theorem Pg.inc {w w':Af} (h:Pg w w') {p:Nat} {v:Int} (hv:InC w p v):InC w' p v:=(h.pre p).subset hv
theorem JdC {w:Af} {p:Nat} (hp:p<w.Columns.length) (c:AD) (p':Nat) (a b d:Int) (x:List Ax):((w.Columns.set p c).getD p' default)=if p=p' then c else w.Columns.getD p' default:=by
 split
 ·rename_i e;subst e;exact Hb hp _ _
 ·rename_i e;exact I4 e _ _
section
variable {t:Ad} (hT:F6 t) {s:List UInt8} (hs:s.length≤4000)
include hT hs
omit hs in
theorem Kn.len {place:Nat} {w:Af} {kn:List (List Bool)} (h:Kn t s place w kn) (p:Nat):(Lw w p).length≤(Aa t).length:=by
 have _:=hT
 have hsub:∀ v∈Lw w p,v∈(List.range (Aa t).length).map (λ j:Nat=>(j:Int)):=by
  intro v hv
  obtain ⟨j,q,rfl,hq,_⟩:=h.ok p v hv
  exact List.mem_map.2 ⟨j,List.mem_range.2 (Ap hq),rfl⟩
 have:=(h.nod p).length_le_of_subset hsub
 simpa using this
def Clo (t:Ad) (s:List UInt8) (w:Af) (p:Nat) (q:Ab):Prop:=∀ k:Nat,(AH t q k).2=true->(prt t k).isPrefixOf (s.drop p)=true->∃ j:Nat,(Aa t)[j]? = some (AH t q k).1∧InC w (p+(prt t k).length) (j:Int)
omit hT hs in
theorem Clo.ext {w w':Af} {p:Nat} {q:Ab} (h:Clo t s w p q) (he:Pg w w'):Clo t s w' p q:=λ k h1 h2=>by
 obtain ⟨j,g1,g2⟩:=h k h1 h2
 exact ⟨j,g1,he.inc g2⟩
omit hT hs in
theorem Kn.last {place:Nat} {w:Af} {kn:List (List Bool)} (h:Kn t s place w kn) (v:Int):Kn t s place { w with Last:=v } kn:=⟨⟨h.base.tt,h.base.ss,h.base.st,h.base.al,h.base.arc⟩,h.clen,h.cost,h.klen,h.rows,h.nod,h.ok,h.row,h.far⟩
end
end Go.AI
end
section
namespace Go.AI
def S5 (t:Ad) (w:Af) (p:Nat):List Ab:=(Lw w p).map λ v=>(Aa t).getD v.toNat default
abbrev QF (w:Af) (p:Nat):List Int:=(w.Columns.getD p default).Costs
structure PI (t:Ad) (s:List UInt8) (place:Nat) (w:Af):Prop where
 base:JdB t s w
 clen:w.Columns.length=s.length+1
 nod:∀ p,(Lw w p).Nodup
 ok:∀ p v,InC w p v->∃ (j:Nat) (q:Ab),v=(j:Int)∧(Aa t)[j]? = some q∧Rch t s p q
 all:∀ p (j:Nat) q,(Aa t)[j]? = some q->Rch t s p q->InC w p (j:Int)
 sort:∀ p,p≤s.length->(Lw w p).Pairwise (·≤·)
 later:∀ p,place<p->p≤s.length->(∀ (i:Nat) q,(S5 t w p)[i]? = some q->(QF w p)[i]? = some (AR t q (s.drop p)))∧∀ (i:Nat) v,(QF w p)[i]? = some v->v≤((3072*(s.length-p+1):Nat):Int)
 col:Col t (s.drop place) (3072*(s.length-place)) (S5 t w place) (QF w place)
section
variable {t:Ad} (hT:F6 t) {s:List UInt8} (hs:s.length≤4000)
include hT
omit hT in
theorem JiY {w:Af} {p:Nat} (hok:∀ v,InC w p v->∃ (j:Nat) (q:Ab),v=(j:Int)∧(Aa t)[j]? = some q∧Rch t s p q) {i:Nat} {q:Ab}:(S5 t w p)[i]? = some q↔∃ j:Nat,(Lw w p)[i]? = some (j:Int)∧(Aa t)[j]? = some q:=by
 unfold S5
 rw [List.getElem?_map,Option.map_eq_some_iff]
 constructor
 ·rintro ⟨v,hv,rfl⟩
  obtain ⟨j,q,rfl,hq,_⟩:=hok v (List.mem_of_getElem? hv)
  refine ⟨j,hv,?_⟩
  rw [Int.toNat_natCast,List.getD_eq_getElem?_getD,hq];rfl
 ·rintro ⟨j,hv,hq⟩
  refine ⟨_,hv,?_⟩
  rw [Int.toNat_natCast,List.getD_eq_getElem?_getD,hq];rfl
theorem PI.pos {place:Nat} {w:Af} (h:PI t s place w) {p:Nat} {q:Ab} (hr:Rch t s p q) (hq:q∈Aa t):∃ d:Nat,(Lw w p)[d]? = some (Ef (Aa t) q)∧(S5 t w p)[d]? = some q:=by
 have _:=hT
 obtain ⟨j,hj,hg⟩:=Du hq
 obtain ⟨d,hd,e⟩:=List.getElem_of_mem (h.all p j q hg hr)
 have:(Lw w p)[d]? = some (j:Int):=by rw [← e];exact List.getElem?_eq_getElem hd
 exact ⟨d,by rw [hj];exact this,(JiY (h.ok p)).2 ⟨j,this,hg⟩⟩
include hs in
end
end Go.AI
end
section
namespace Go.AI
def Jah (w:Af) (p:Nat) (cs:List Int):Af:={ w with Columns:=w.Columns.set p ⟨(w.Columns.getD p default).States,cs⟩ }
theorem Dv {w:Af} {p:Nat} (hp:p<w.Columns.length) (cs:List Int) (p':Nat):Lw (Jah w p cs) p'=Lw w p'∧QF (Jah w p cs) p'=if p=p' then cs else QF w p':=by
 have h:=JdC hp ⟨(w.Columns.getD p default).States,cs⟩ p' 0 0 0 []
 unfold Lw QF Jah
 simp only
 rw [h]
 split
 ·rename_i e;subst e;exact ⟨rfl,rfl⟩
 ·exact ⟨rfl,rfl⟩
theorem Rh {t:Ad} {w:Af} {p:Nat} (hp:p<w.Columns.length) (cs:List Int) (p':Nat):S5 t (Jah w p cs) p'=S5 t w p':=by
 unfold S5
 rw [(Dv hp cs p').1]
theorem PI.set {t:Ad} {s:List UInt8} {place:Nat} {w:Af} (h:PI t s place w) (hpl:place≤s.length) {cs:List Int} (hc:Col t (s.drop place) (3072*(s.length-place)) (S5 t w place) cs):PI t s place (Jah w place cs):=by
 have hp:place<w.Columns.length:=by rw [h.clen];omega
 refine ⟨⟨h.base.tt,h.base.ss,h.base.st,h.base.al,h.base.arc⟩,?_,λ p=>?_,λ p v hv=>?_,λ p j q h1 h2=>?_,λ p hp'=>?_,λ p h1 h2=>?_,?_⟩
 ·show (w.Columns.set _ _).length=_
  rw [List.length_set];exact h.clen
 ·rw [(Dv hp cs p).1];exact h.nod p
 ·unfold InC at hv;rw [(Dv hp cs p).1] at hv;exact h.ok p v hv
 ·unfold InC;rw [(Dv hp cs p).1];exact h.all p j q h1 h2
 ·rw [(Dv hp cs p).1];exact h.sort p hp'
 ·rw [Rh hp,(Dv hp cs p).2,if_neg (by omega)];exact h.later p h1 h2
 ·rw [Rh hp,(Dv hp cs place).2,if_pos rfl];exact hc
section
variable {t:Ad} (hT:F6 t) {s:List UInt8} (hs:s.length≤4000)
include hT hs
end
end Go.AI
end
section
namespace Go.AI
structure PB (t:Ad) (s:List UInt8) (m:Nat) (w:Af):Prop where
 base:JdB t s w
 clen:w.Columns.length=s.length+1
 nod:∀ p,(Lw w p).Nodup
 ok:∀ p v,InC w p v->∃ (j:Nat) (q:Ab),v=(j:Int)∧(Aa t)[j]? = some q∧Rch t s p q
 all:∀ p (j:Nat) q,(Aa t)[j]? = some q->Rch t s p q->InC w p (j:Int)
 sort:∀ p,p≤s.length->(Lw w p).Pairwise (·≤·)
 later:∀ p,m≤p->p≤s.length->(∀ (i:Nat) q,(S5 t w p)[i]? = some q->(QF w p)[i]? = some (AR t q (s.drop p)))∧∀ (i:Nat) v,(QF w p)[i]? = some v->v≤((3072*(s.length-p+1):Nat):Int)
theorem PB.set {t:Ad} {s:List UInt8} {place:Nat} {w:Af} (h:PB t s (place+1) w) (hpl:place≤s.length) {cs:List Int} (hc:Col t (s.drop place) (3072*(s.length-place)) (S5 t w place) cs):PI t s place (Jah w place cs):=by
 have hp:place<w.Columns.length:=by rw [h.clen];omega
 refine ⟨⟨h.base.tt,h.base.ss,h.base.st,h.base.al,h.base.arc⟩,?_,λ p=>?_,λ p v hv=>?_,λ p j q h1 h2=>?_,λ p hp'=>?_,λ p h1 h2=>?_,?_⟩
 ·show (w.Columns.set _ _).length=_
  rw [List.length_set];exact h.clen
 ·rw [(Dv hp cs p).1];exact h.nod p
 ·unfold InC at hv;rw [(Dv hp cs p).1] at hv;exact h.ok p v hv
 ·unfold InC;rw [(Dv hp cs p).1];exact h.all p j q h1 h2
 ·rw [(Dv hp cs p).1];exact h.sort p hp'
 ·rw [Rh hp,(Dv hp cs p).2,if_neg (by omega)];exact h.later p (by omega) h2
 ·rw [Rh hp,(Dv hp cs place).2,if_pos rfl];exact hc
section
variable {t:Ad} (hT:F6 t) {s:List UInt8} (hs:s.length≤4000)
include hT hs
end
end Go.AI
end
section
namespace Go.AI
structure JdD (t:Ad) (s:List UInt8) (w:AU) (a e:Int):Prop where
 bad:(H6 s).2≠0->w=⟨[],[]⟩∧a=(H6 s).1∧e=(H6 s).2
 none:(H6 s).2=0->AR t BP s<0->w=⟨[],[]⟩∧Un t s a∧e=61
 path:(H6 s).2=0->0≤AR t BP s->e=0∧a=(s.length:Int)∧∃ p,H8 t BP s p∧w=⟨cellsOf t p,p⟩
theorem JdD.uniq {t:Ad} {s:List UInt8} {w w':AU} {a a' e e':Int} (h:JdD t s w a e) (h':JdD t s w' a' e'):w=w'∧a=a'∧e=e':=by
 by_cases h1:(H6 s).2=0
 ·by_cases h2:AR t BP s<0
  ·obtain ⟨g1,g2,g3⟩:=h.none h1 h2
   obtain ⟨k1,k2,k3⟩:=h'.none h1 h2
   exact ⟨g1.trans k1.symm,g2.uniq k2,g3.trans k3.symm⟩
  ·obtain ⟨g1,g2,p,g3,g4⟩:=h.path h1 (by omega)
   obtain ⟨k1,k2,p',k3,k4⟩:=h'.path h1 (by omega)
   have:=g3.uniq k3
   subst this
   exact ⟨g4.trans k4.symm,g2.trans k2.symm,g1.trans k1.symm⟩
 ·obtain ⟨g1,g2,g3⟩:=h.bad h1
  obtain ⟨k1,k2,k3⟩:=h'.bad h1
  exact ⟨g1.trans k1.symm,g2.trans k2.symm,g3.trans k3.symm⟩
theorem Ir.app {t:Ad}:∀ {p:List Int} {q q' q'':Ab} {p':List Int},Ir t q p q'->Ir t q' p' q''->Ir t q (p++p') q''
 | [],q,q',q'',p',h,h'=>by unfold Ir at h;subst h;exact h'
 | a::p,q,q',q'',p',h,h'=>⟨h.1,Ir.app h.2 h'⟩
theorem Uo (t:Ad) (p:List Int) (k:Int):Fi t (p++[k])=Fi t p+(cls t k).length:=by simp [Fi,cellsOf]
section
variable {t:Ad} (hT:F6 t) {s:List UInt8} (hs:s.length≤4000)
include hT
include hs
structure JdE (t:Ad) (s:List UInt8) (p0:List Int) (place:Nat) (q:Ab):Prop where
 goes:Ir t BP p0 q
 text:D1 t p0=s.take place
 le:place≤s.length
 greedy:∀ p1,H8 t q (s.drop place) p1->H8 t BP s (p0++p1)
 len:Fi t p0+(AR t q (s.drop place)).toNat≤(AR t BP s).toNat
 plen:p0.length≤Fi t p0
 pos:0≤AR t q (s.drop place)
omit hs in
theorem JdE.next {p0:List Int} {place:Nat} {q:Ab} (h:JdE t s p0 place q) {k:Nat} (hc:0<AR t q (s.drop place)) (hk:N9 t q (s.drop place) k=AR t q (s.drop place)) (hm:∀ j:Nat,j<k->N9 t q (s.drop place) j≠AR t q (s.drop place)):JdE t s (p0++[(k:Int)]) (place+(prt t k).length) (AH t q k).1:=by
 obtain ⟨g1,⟨y,g2,g3⟩,g4,g5⟩:=Uk (t:=t) (q:=q) (x:=s.drop place) (k:=(k:Int)) (by omega)
 rw [List.drop_drop] at g3 g4 g5
 have hpf:(prt t k).isPrefixOf (s.drop place)=true:=by rw [List.isPrefixOf_iff_prefix,g2];exact List.prefix_append _ _
 obtain ⟨q1,q2⟩:=Ej hpf
 obtain ⟨p1,p2,p3⟩:=hT.pr g1
 refine ⟨h.goes.snoc g1,?_,q2 h.le,λ p' hp'=>?_,?_,?_,g4⟩
 ·rw [Mq,h.text,List.take_add,q1,List.take_left' rfl]
 ·rw [List.append_assoc]
  exact h.greedy _ (.cons hc hk hm (by rw [List.drop_drop];exact hp'))
 ·rw [Uo];have:=h.len;omega
 ·rw [Uo,List.length_append];have:=h.plen;simp only [List.length_cons,List.length_nil];omega
omit hT hs in
theorem JdE.start {t:Ad} {s:List UInt8} (h:0≤AR t BP s):JdE t s [] 0 BP:=⟨rfl,by simp [D1],by omega,λ p hp=>by simpa using hp,by simp [Fi,cellsOf],by simp,h⟩
omit hs in
theorem Rch.mem {i:Nat} {q:Ab} (h:Rch t s i q):q∈Aa t:=by
 obtain ⟨j,hj⟩:=Rch.ind (A:=λ _ q=>∃ j:Nat,(Aa t)[j]? = some q) ⟨0,(HJ hT.tab).1.first⟩ (λ i' q k _ hA hst _=>by
  obtain ⟨j,hj⟩:=hA
  obtain ⟨d,_,hd⟩:=Du (GN hT (List.mem_of_getElem? hj) hst)
  exact ⟨d,hd⟩) h
 exact List.mem_of_getElem? hj
end
end Go.AI
end
section
namespace Go.AI
section
variable {t:Ad} (hT:F6 t) {s:List UInt8} (hs:s.length≤4000)
include hT
include hs
end
theorem YU (a b:List Int) (ha:a.length<9223372036854775807):Ev (λ n=>Ec n a b) (decide (a=b)):=by
 unfold Ec
 by_cases hl:a.length=b.length
 ·refine Ev.iteF (by rw [Yd];simp [hl]) ?_
  refine Ev.bind (ML a.length (λ i=>if a.getD i default=b.getD i default then none else some false) (λ i hi=>Ev.all λ n=>?_) (Ev.all λ n=>?_)) ?_
  ·unfold Ft
   rw [if_pos (Ha hi),Ml hi,Option.bind_some,Ml (by omega),Option.bind_some]
   by_cases h:a.getD i default=b.getD i default
   ·rw [if_neg (by simpa using h),if_pos h,CH (by omega)]
   ·rw [if_pos (by simpa using h),if_neg h]
  ·unfold Ft
   rw [if_neg (by simp)]
  ·rw [Uj a b hl]
   by_cases e:a=b
   ·rw [if_pos e,decide_eq_true e];exact Ev.const
   ·rw [if_neg e,decide_eq_false e];exact Ev.const
 ·refine Ev.iteT (by rw [Yd];simp [hl]) ?_
  rw [show decide (a=b)=false by simp;intro h;exact hl (by rw [h])]
  exact Ev.const
end Go.AI
end
section
namespace Go.AI
def QG (t:Ad) (s:List UInt8):Prop:=s.length≤12∧∃ p:List Int,(∀ k∈p,0≤k∧k<t.Rules.length)∧D1 t p=s
theorem S6 {t:Ad} (ht:t.Rules.length<1000000) (hpr:∀ r∈t.Rules,r.Print.length≤1000) {l:List Int} (hl:∀ a∈l,U8 a):Tot (λ n=>GZ n t l) (QG t):=by
 unfold GZ
 refine Tot.bind (R:=QG t) ?_ λ y hy=>Tot.pure hy
 refine Tot.upto (body:=λ n x=>Ee n t l x.1 x.2) (min (min l.length 12) (t.Rules.length*13)) (λ i x=>x.2=(i:Int)∧QG t x.1) ?_ ?_ _ ⟨rfl,by simp,[],by simp,rfl⟩
 ·rintro i ⟨s,x⟩ hi ⟨h1,h2,p,h3,h4⟩
  simp only at h1 h2 h4
  subst h1
  unfold Ee
  obtain ⟨a,ham,hai⟩:=N8 (l:=l) (i:=(i:Int)) (by omega) (by omega)
  have hu:=hl a ham
  have hw:IntKind.i64.wrap a=a:=w64 (by unfold U8 at hu;omega) (by unfold U8 at hu;omega)
  have hrr:=Eh (a:=a) (m:=((List.length t.Rules:Nat):Int)) hu.1 (by omega)
  have hrule:=SZ (t:=t) hrr.1 hrr.2
  have hp:=hpr _ (GC (t:=t) hrr.1 hrr.2)
  refine Tot.iteT (by simp;omega) (Tot.bindC hai (Tot.bindC (MK (by simp;intro h;rw [h] at hi;simp at hi)) ?_))
  rw [hw]
  refine Tot.bindC hrule ?_
  have hJ:∀ s',QG t s'->Tot (λ n=>Ed n (i:Int) s') (Rd2 (λ x=>x.2=((i+1:Nat):Int)∧QG t x.1) (QG t)):=λ s' hs'=>by
   unfold Ed
   exact Tot.pure ⟨CH (by omega),hs'⟩
  have e1:Au .i64 ((List.length s:Nat):Int) ((List.length (Ei t (A8 a ((List.length t.Rules:Nat):Int))).Print:Nat):Int)=((s.length+(Ei t (A8 a ((List.length t.Rules:Nat):Int))).Print.length:Nat):Int):=by rw [FG]<;>omega
  simp only [e1]
  refine Tot.ite (λ hc=>Tot.bindC (P9 (by simp only [decide_eq_true_eq] at hc;omega)) (hJ _ ⟨by simp only [decide_eq_true_eq] at hc;rw [List.length_append];omega,p++[A8 a ((List.length t.Rules:Nat):Int)],?_,by simp [Mq,h4]⟩)) (λ hc=>hJ _ ⟨h2,p,h3,h4⟩)
  intro k hk
  rcases List.mem_append.1 hk with hk|hk
  ·exact h3 k hk
  ·cases List.mem_singleton.1 hk;exact hrr
 ·rintro ⟨s,x⟩ ⟨h1,h2⟩
  simp only at h1 h2
  subst h1
  unfold Ee
  refine Tot.iteF ?_ (Tot.pure h2)
  simp
  intro h3 h4
  have:t.Rules.length*13≤12∨¬ t.Rules.length*13≤12:=Classical.em _
  apply Classical.byContradiction
  intro h5
  have:0<t.Rules.length:=List.length_pos_iff.2 h5
  omega
theorem Jm.six {t:Ad} (h:Jm t):F6 t:=⟨h.tab,λ r hr=>by have:=H7 (h.sound r hr);exact ⟨by omega,by omega⟩⟩
end Go.AI
end
section
namespace Go.AI
theorem Up {t:Ad} (hc:∀ r∈t.Rules,1≤r.Cells.length):∀ {p:List Int},(∀ k∈p,0≤k∧k<t.Rules.length)->p.length≤Fi t p
 | [],_=>by simp
 | k::p,h=>by
  have h1:=h k (by simp)
  have h2:=hc _ (GC h1.1 h1.2)
  have h3:=Up (t:=t) hc (p:=p) λ a ha=>h a (by simp [ha])
  rw [FI,List.length_cons]
  simp only [cls];omega
theorem Way.mem {t:Ad} {q:Ab} {x:List UInt8} {p:List Int} (h:Way t q x p):∀ k∈p,0≤k∧k<t.Rules.length:=by
 obtain ⟨⟨q',h1,_⟩,_⟩:=h
 exact h1.mem
section
variable {t:Ad} (hT:F6 t) {s:List UInt8} (hs:s.length≤4000)
include hT hs
theorem JdF:AR t BP s≤13000000:=by
 obtain ⟨out,⟨_,hR⟩,_⟩:=Mp hT hs
 have hf:=(HJ hT.tab).1.first
 exact ((S3 hT hs (hR 0 (by omega))).2 0 _ ((hR 0 (by omega)).val 0 _ hf)).2
theorem JdD.size {w:AU} {a e:Int} (h:JdD t s w a e):w.Cells.length≤13000000∧w.Path.length≤13000000:=by
 by_cases h1:(H6 s).2=0
 ·by_cases h2:AR t BP s<0
  ·obtain ⟨rfl,_⟩:=h.none h1 h2
   simp
  ·obtain ⟨_,_,p,g3,rfl⟩:=h.path h1 (by omega)
   have g4:=g3.way hT.one (by omega)
   have g5:=Up hT.one g4.1.mem
   have g6:=JdF hT hs
   have:Fi t p=(cellsOf t p).length:=rfl
   simp only;omega
 ·obtain ⟨rfl,_⟩:=h.bad h1
  simp
end
theorem Way.last {t:Ad} {s:List UInt8} {p:List Int} (h:Way t BP s p):Un t s (s.length:Int):=by
 obtain ⟨⟨q,h1,h2⟩,h3⟩:=h
 refine ⟨⟨s.length,rfl,q,⟨by omega,p,h1,by rw [h3,List.take_length]⟩,?_⟩,λ i ⟨q,hq,_⟩=>by have:=hq.1;omega⟩
 unfold By at h2
 simp only [Bool.and_eq_true] at h2
 unfold Um
 rw [if_neg (by omega)]
 exact h2.2
end Go.AI
end
section
namespace Go.AI
structure VB (t:Ad):Prop where
 tab:Ho t
 valid:Fh t=true
theorem VB.six {t:Ad} (h:VB t):F6 t:=⟨h.tab,λ r hr=>by have:=H7 (HG h.valid r hr);exact ⟨by omega,by omega⟩⟩
theorem VB.small {t:Ad} (h:VB t):KN t:=⟨by have:=h.tab.1;omega,λ r hr=>by have:=H7 (HG h.valid r hr);exact ⟨by omega,by omega⟩⟩
theorem Yk {x:MX} (hx:Pc x):∃ t,(Jm t∧t.Rules.length≤10)∧Ev (λ n=>JC n x) t:=by
 obtain ⟨t,h,hE⟩:=Jae hx
 exact ⟨t,⟨h.1,h.2.2⟩,hE⟩
structure Jai (t:Ad):Prop where
 modes:t.Modes=1
 accept:t.Accept=1
 rules:∀ r∈t.Rules,r.From=0∧r.To=0∧r.Left=63∧r.Right=63
def Xf (q:Ab):Prop:=q.Mode=0∧q.Need=63∧0≤q.Last∧q.Last≤5
theorem JfI {c:Int} (h:0≤c) (h':c≤5):Lv 63 c=true:=by
 have:c=0∨c=1∨c=2∨c=3∨c=4∨c=5:=by omega
 rcases this with rfl|rfl|rfl|rfl|rfl|rfl<;>decide +kernel
theorem Jai.step {t:Ad} (h:Jai t) {q:Ab} (hq:Xf q) {k:Int} (h0:0≤k) (h1:k<t.Rules.length):(AH t q k).2=true∧Xf (AH t q k).1:=by
 obtain ⟨q1,q2,q3,q4⟩:=hq
 obtain ⟨r1,r2,r3,r4⟩:=h.rules _ (GC h0 h1)
 unfold AH
 rw [if_neg (by simp;omega)]
 show (SU (Ei t k) q).2=true∧Xf (SU (Ei t k) q).1
 unfold SU
 have e63:Cg .u8 63 63=63:=by decide +kernel
 rw [r1,r2,r3,r4,q1,q2,JfI q3 q4,e63]
 rw [if_neg (by simp)]
 have hc:=I0 (NA (Ei t k).Print 0)
 have hc2:=I0 (NA (Ei t k).Print ((Ei t k).Print.length-1))
 split
 ·rw [if_neg (by simp)]
  exact ⟨rfl,rfl,rfl,q3,q4⟩
 ·rw [JfI (by omega) (by omega),if_neg (by simp)]
  exact ⟨rfl,rfl,rfl,by show 0≤F3 _;omega,by show F3 _≤5;omega⟩
theorem Jai.goes {t:Ad} (h:Jai t):∀ (p:List Int) (q:Ab),Xf q->(∀ k∈p,0≤k∧k<t.Rules.length)->∃ q',Ir t q p q'∧Xf q'
 | [],q,hq,_=>⟨q,rfl,hq⟩
 | k::p,q,hq,hk=>by
  have h1:=hk k (by simp)
  obtain ⟨h2,h3⟩:=h.step hq h1.1 h1.2
  obtain ⟨q',h4,h5⟩:=h.goes p _ h3 λ a ha=>hk a (by simp [ha])
  exact ⟨q',⟨h2,h4⟩,h5⟩
theorem Jai.way {t:Ad} (h:Jai t) {p:List Int} (hk:∀ k∈p,0≤k∧k<t.Rules.length):Way t BP (D1 t p) p:=by
 obtain ⟨q',h1,h2,h3,h4⟩:=h.goes p BP ⟨rfl,rfl,by decide,by decide⟩ hk
 refine ⟨⟨q',h1,?_⟩,rfl⟩
 unfold By
 rw [h.modes,h.accept,h2,h3]
 decide +kernel
end Go.AI
end
section
namespace Go.AI
noncomputable def A4 (t:Ad) (x:List UInt8):List Int:=(Aa t).map λ q=>AR t q x
def Fk (a v:Int):Int:=if 0≤v∧(a<0∨v<a) then v else a
def Bw (l:List Int):Int:=l.foldl Fk (-1)
def CC (l:List Int):List Int:=l.map λ v=>if v<0 then -1 else v-Bw l
noncomputable def Cn (t:Ad) (s:List UInt8):Bj:=⟨s,(List.range (s.length+1)).map λ i=>CC (A4 t (s.drop i)),(List.range (s.length+1)).map λ i=>Bw (A4 t (s.drop i))⟩
theorem NC.eq {t:Ad} {s:List UInt8} {i:Nat} {row:List Int} (h:NC t s i row):row=A4 t (s.drop i):=by
 refine List.ext_getElem? λ j=>?_
 unfold A4
 rw [List.getElem?_map]
 rcases Nat.lt_or_ge j (Aa t).length with hj|hj
 ·rw [h.val j _ (List.getElem?_eq_getElem hj),List.getElem?_eq_getElem hj];rfl
 ·rw [List.getElem?_eq_none (by rw [h.len];exact hj),List.getElem?_eq_none hj];rfl
theorem Xg (l:List Int):∀ a,(l.foldl Fk a=a∨l.foldl Fk a∈l)∧(0≤a->0≤l.foldl Fk a∧l.foldl Fk a≤a)∧∀ v∈l,0≤v->0≤l.foldl Fk a∧l.foldl Fk a≤v:=by
 induction l with
 | nil=>intro a;exact ⟨.inl rfl,λ h=>⟨h,Int.le_refl _⟩,λ v hv=>by cases hv⟩
 | cons x l ih=>
  intro a
  obtain ⟨h1,h2,h3⟩:=ih (Fk a x)
  rw [List.foldl_cons]
  have hm:Fk a x=a∨Fk a x=x:=by unfold Fk;split<;>simp
  have hb:(0≤a->0≤Fk a x∧Fk a x≤a)∧(0≤x->0≤Fk a x∧Fk a x≤x):=by unfold Fk;split<;>omega
  refine ⟨?_,λ ha=>?_,λ v hv h0=>?_⟩
  ·rcases h1 with h1|h1
   ·rcases hm with hm|hm
    ·exact .inl (h1.trans hm)
    ·exact .inr (by rw [h1,hm];simp)
   ·exact .inr (List.mem_cons_of_mem _ h1)
  ·have:=hb.1 ha;have:=h2 this.1;omega
  ·rcases List.mem_cons.1 hv with rfl|hv
   ·have:=hb.2 h0;have:=h2 this.1;omega
   ·exact h3 v hv h0
theorem Qb {l:List Int} {v:Int} (hv:v∈l) (h0:0≤v):0≤Bw l∧Bw l≤v:=(Xg l (-1)).2.2 v hv h0
theorem Yl (l:List Int):Bw l=-1∨Bw l∈l:=(Xg l (-1)).1
theorem Qc {l:List Int} {B:Int} (hB:-1≤B) (h:∀ v∈l,-1≤v∧v≤B):-1≤Bw l∧Bw l≤B:=by
 rcases Yl l with h1|h1
 ·omega
 ·exact h _ h1
theorem Uq {l:List Int} {k:Nat} (h:k<l.length) (a:Int):(l.take (k+1)).foldl Fk a=Fk ((l.take k).foldl Fk a) l[k]:=by
 rw [List.take_add_one,List.getElem?_eq_getElem h,List.foldl_append]
 rfl
theorem JdG {out:List (List Int)} {i:Nat} {row:List Int} (hr:out[i]? = some row) (hl:row.length<1000000) (m:Bj):Tot (λ n=>whl (λ (x:(Int×Int))=>Fz n out m (i:Int) x.1 x.2) n (-1,0)) (λ y=>y=Bw row):=by
 have hi:=Eg hr
 refine Tot.upto (body:=λ n x=>Fz n out m (i:Int) x.1 x.2) row.length (λ k x=>x.2=(k:Int)∧x.1=(row.take k).foldl Fk (-1)) ?_ ?_ _ ⟨rfl,rfl⟩
 ·rintro k ⟨a,k'⟩ hk ⟨e1,e2⟩
  simp only at e1 e2
  subst e1
  have hv:=Fg hk
  have hJ:∀ b,b=Fk a row[k]->Tot (λ n=>G0 n (k:Int) b) (Rd2 (λ x:Int×Int=>x.2=((k+1:Nat):Int)∧x.1=(row.take (k+1)).foldl Fk (-1)) (λ y=>y=Bw row)):=by
   intro b hb
   unfold G0
   exact Tot.pure ⟨CH (by omega),by rw [Uq hk,← e2];exact hb⟩
  unfold Fz
  refine Tot.bindC hi (Tot.iteT (Ha hk) (Tot.bindC hi (Tot.bindC hv ?_)))
  by_cases h0:0≤row[k]
  ·by_cases h1:a<0
   ·refine Tot.gF (by simp [h1]) (Tot.gF (by simp [h1]) (Tot.iteT (by simp [h0,h1]) (Tot.bindC hi (Tot.bindC hv (hJ _ ?_)))))
    unfold Fk;rw [if_pos ⟨h0,.inl h1⟩]
   ·refine Tot.gE (by simp;omega) (Ev.all λ _=>hi) (Tot.gE (by simp;omega) (Ev.all λ _=>hv) (Tot.ite (λ h=>Tot.bindC hi (Tot.bindC hv (hJ _ ?_))) λ h=>hJ _ ?_))
    ·unfold Fk
     simp only [Bool.and_eq_true,Bool.or_eq_true,decide_eq_true_eq] at h
     rw [if_pos ⟨h0,h.2⟩]
    ·unfold Fk
     rw [if_neg]
     intro hc
     rw [← Bool.not_eq_true] at h
     refine h ?_
     simp only [Bool.and_eq_true,Bool.or_eq_true,decide_eq_true_eq]
     exact ⟨h0,hc.2⟩
  ·refine Tot.gF (by simp;omega) (Tot.gF (by simp;omega) (Tot.iteF (by simp;omega) (hJ _ ?_)))
   unfold Fk;rw [if_neg λ h=>h0 h.1]
 ·rintro ⟨a,k'⟩ ⟨e1,e2⟩
  simp only at e1 e2
  subst e1
  rw [List.take_length] at e2
  unfold Fz
  exact Tot.bindC hi (Tot.iteF (by simp) (Tot.pure e2))
theorem JdH {out:List (List Int)} {i:Nat} {row:List Int} (hr:out[i]? = some row) (hl:row.length<1000000) (hb:∀ v∈row,-1≤v∧v≤13000000) (m:Bj):Tot (λ n=>whl (λ (x:((List Int)×Int))=>FA n out m (i:Int) (Bw row) x.1 x.2) n ([],0)) (λ y=>y=CC row):=by
 have hi:=Eg hr
 have hlr:=Qc (by decide) hb
 refine Tot.upto (body:=λ n x=>FA n out m (i:Int) (Bw row) x.1 x.2) row.length (λ k x=>x.2=(k:Int)∧x.1=(row.take k).map λ v=>if v<0 then -1 else v-Bw row) ?_ ?_ _ ⟨rfl,by simp⟩
 ·rintro k ⟨a,k'⟩ hk ⟨e1,e2⟩
  simp only at e1 e2
  subst e1
  have hv:=Fg hk
  have hbk:=hb _ (List.getElem_mem hk)
  have hla:a.length=k:=by rw [e2];simp;omega
  have hJ:∀ b,b=a++[if row[k]<0 then -1 else row[k]-Bw row]->Tot (λ n=>G1 n (k:Int) b) (Rd2 (λ x:List Int×Int=>x.2=((k+1:Nat):Int)∧x.1=(row.take (k+1)).map λ v=>if v<0 then -1 else v-Bw row) (λ y=>y=CC row)):=by
   intro b h
   unfold G1
   refine Tot.pure ⟨CH (by omega),?_⟩
   rw [h,e2,List.take_add_one,List.getElem?_eq_getElem hk,List.map_append]
   rfl
  unfold FA
  refine Tot.bindC hi (Tot.iteT (Ha hk) (Tot.bindC hi (Tot.bindC hv (Tot.ite (λ h=>Tot.bindC (KM (by simp;omega)) (hJ _ ?_)) λ h=>Tot.bindC hi (Tot.bindC hv (Tot.bindC (KM (by simp;omega)) (hJ _ ?_)))))))
  ·rw [decide_eq_true_eq] at h
   rw [if_pos h]
  ·rw [decide_eq_false_iff_not] at h
   rw [if_neg h,NB (by omega) (by omega)]
 ·rintro ⟨a,k'⟩ ⟨e1,e2⟩
  simp only at e1 e2
  subst e1
  rw [List.take_length] at e2
  unfold FA
  exact Tot.bindC hi (Tot.iteF (by simp) (Tot.pure e2))
section
variable {t:Ad} (hT:F6 t) {s:List UInt8} (hs:s.length≤4000)
include hT hs
theorem Ri {i:Nat} (hi:i≤s.length):(A4 t (s.drop i)).length=(Aa t).length∧∀ v∈A4 t (s.drop i),-1≤v∧v≤((3072*(s.length-i+1):Nat):Int):=by
 refine ⟨by simp [A4],λ v hv=>?_⟩
 obtain ⟨out,⟨_,hR⟩,_⟩:=Mp hT hs
 have h:=hR i hi
 rw [← h.eq] at hv
 obtain ⟨j,hj⟩:=List.mem_iff_getElem?.1 hv
 exact ⟨((S3 hT hs h).2 j v hj).1,h.bnd j v hj⟩
theorem VC {i:Nat} (hi:i≤s.length) {v:Int} (hv:v∈A4 t (s.drop i)):-1≤v∧v≤13000000:=by
 have:=(Ri hT hs hi).2 v hv
 omega
theorem YV:Ev (λ n=>LU n t s) (Cn t s):=by
 have hlen:=H9 hT
 refine Tot.ev ?_
 unfold LU
 refine Tot.bind (Mp hT hs) ?_
 rintro out ⟨hol,hR⟩
 refine Tot.bind (R:=λ y=>y=Cn t s) ?_ (λ y h=>Tot.pure h)
 refine Tot.upto (body:=λ n x=>G2 n out x.1 x.2) (s.length+1) (λ k x=>x.2=(k:Int)∧x.1=⟨s,(List.range k).map λ i=>CC (A4 t (s.drop i)),(List.range k).map λ i=>Bw (A4 t (s.drop i))⟩) ?_ ?_ _ ⟨rfl,rfl⟩
 ·rintro k ⟨m,k'⟩ hk ⟨e1,e2⟩
  simp only at e1 e2
  subst e1 e2
  have hRk:=hR k (by omega)
  have hg:out[k]? = some (A4 t (s.drop k)):=by
   rw [← hRk.eq,List.getD_eq_getElem?_getD,List.getElem?_eq_getElem (by omega)];rfl
  have hrr:=Ri hT hs (show k≤s.length by omega)
  unfold G2
  refine Tot.iteT (by rw [hol];exact Ha hk) (Tot.bind (JdG hg (by omega) _) ?_)
  rintro _ rfl
  refine Tot.bind (JdH hg (by omega) (λ v hv=>VC hT hs (by omega) hv) _) ?_
  rintro _ rfl
  refine Tot.bindC (KM (by simp;omega)) (Tot.bindC (KM (by simp;omega)) (Tot.pure ⟨CH (by omega),?_⟩))
  simp only [List.range_succ,List.map_append,List.map_cons,List.map_nil]
 ·rintro ⟨m,k'⟩ ⟨e1,e2⟩
  simp only at e1 e2
  subst e1
  unfold G2
  exact Tot.iteF (by rw [hol];simp) (Tot.pure e2)
end
theorem JdI (a b:Bj) (h1:a.Least.length<1000000) (h2:a.Costs.length<1000000) (h3:∀ l∈a.Costs,l.length<1000000):Ev (λ n=>JF n a b) (decide (a=b)):=by
 refine Tot.ev ?_
 unfold JF
 obtain ⟨at',ac,al⟩:=a
 obtain ⟨bt,bc,bl⟩:=b
 simp only at h1 h2 h3 ⊢
 by_cases ht:at'=bt
 ·by_cases hc:ac.length=bc.length
  ·refine Tot.gE (by simp [ht,hc]) (YU al bl (by omega)) ?_
   by_cases hl:al=bl
   ·refine Tot.iteF (by simp [ht,hc,hl]) ?_
    subst ht hl
    refine Tot.bind (R:=λ y:Unit⊕Bool=>(y=.inl ()∧ac=bc)∨(y=.inr false∧ac≠bc)) ?_ ?_
    ·refine Tot.upto (body:=λ n x=>G3 n ⟨at',ac,al⟩ ⟨at',bc,al⟩ x) ac.length (λ k x=>x=(k:Int)∧ac.take k=bc.take k) ?_ ?_ _ ⟨rfl,rfl⟩
     ·rintro k _ hk ⟨rfl,e⟩
      have hkb:k<bc.length:=by omega
      unfold G3
      refine Tot.iteT (Ha hk) (Tot.bindC (Fg hk) (Tot.bindC (Fg hkb) (Tot.bindE (YU _ _ (by have:=h3 _ (List.getElem_mem hk);omega)) (Tot.ite (λ h=>?_) λ h=>?_))))
      ·refine Tot.pure (.inr ⟨rfl,λ he=>?_⟩)
       subst he
       simp at h
      ·refine Tot.pure ⟨CH (by omega),?_⟩
       have:ac[k]=bc[k]:=by simpa using h
       rw [List.take_add_one,List.take_add_one,e,List.getElem?_eq_getElem hk,List.getElem?_eq_getElem hkb,this]
     ·rintro _ ⟨rfl,e⟩
      unfold G3
      refine Tot.iteF (by simp) (Tot.pure (.inl ⟨rfl,?_⟩))
      rwa [List.take_length,hc,List.take_length] at e
    ·rintro y (⟨rfl,h⟩|⟨rfl,h⟩)
     ·exact Tot.pure (by simp [h])
     ·exact Tot.pure (by simp [h])
   ·refine Tot.iteT (by simp [hl]) (Tot.pure ?_)
    simp [hl]
  ·have hc':((ac.length:Nat):Int)≠((bc.length:Nat):Int):=by omega
   refine Tot.gF (by simp [ht,hc']) (Tot.iteT (by simp [ht,hc']) (Tot.pure ?_))
   simp only [Bj.mk.injEq]
   exact (decide_eq_false λ h=>hc (by rw [h.2.1])).symm
 ·refine Tot.gF (by simp [ht]) (Tot.iteT (by simp [ht]) (Tot.pure ?_))
  simp [ht]
theorem Xh {t:Ad} (hT:F6 t) {s:List UInt8} (hs:s.length≤4000) (b:Bj):Ev (λ n=>JF n (Cn t s) b) (decide (Cn t s=b)):=by
 have hlen:=H9 hT
 refine JdI _ _ (by simp [Cn];omega) (by simp [Cn];omega) λ l hl=>?_
 simp only [Cn,List.mem_map] at hl
 obtain ⟨i,_,rfl⟩:=hl
 simp only [CC,A4,List.length_map]
 omega
end Go.AI
end
section
namespace Go.AI
def GE (t:Ad) (q:Ab) (k:Nat):Option NL:=if (AH t q k).2=true then some ⟨prt t k,((cls t k).length:Nat),Ef (Aa t) (AH t q k).1⟩ else none
def Be (t:Ad) (q:Ab):List NL:=(List.range t.Rules.length).filterMap (GE t q)
def BF (t:Ad):AM:=⟨(Aa t).map (Be t),(Aa t).map (By t)⟩
theorem Qd {t:Ad} {q:Ab} {a:NL}:a∈Be t q↔∃ k:Nat,k<t.Rules.length∧(AH t q k).2=true∧a=⟨prt t k,((cls t k).length:Nat),Ef (Aa t) (AH t q k).1⟩:=by
 unfold Be
 rw [List.mem_filterMap]
 constructor
 ·rintro ⟨k,hk,h⟩
  unfold GE at h
  split at h
  ·rename_i hs;cases h;exact ⟨k,List.mem_range.1 hk,hs,rfl⟩
  ·cases h
 ·rintro ⟨k,hk,hs,rfl⟩
  exact ⟨k,List.mem_range.2 hk,by unfold GE;rw [if_pos hs]⟩
theorem Ur (t:Ad) (q:Ab):(Be t q).length≤t.Rules.length:=by
 have:=List.length_filterMap_le (GE t q) (List.range t.Rules.length)
 simpa [Be] using this
section
variable {t:Ad} (hT:F6 t)
include hT
theorem Jfa:Tot (λ n=>whl (λ (x:((List (Ab×Int))×Int))=>BY n t (Aa t) x.1 x.2) n ([],0)) (I1 (Aa t)):=by
 have hlen:=H9 hT
 refine Tot.upto (body:=λ n y=>BY n t (Aa t) y.1 y.2) (Aa t).length (λ k y=>y.2=(k:Int)∧I1 ((Aa t).take k) y.1) ?_ ?_ _ ⟨rfl,λ q=>rfl⟩
 ·rintro k ⟨nb,k'⟩ hk ⟨e1,hN⟩
  simp only at e1 hN
  subst e1
  unfold BY
  refine Tot.iteT (Ha hk) (Tot.bindC (Fg hk) (Tot.pure ⟨CH (by omega),?_⟩))
  have hn:=Jdx hT
  have e:(Aa t).take (k+1)=(Aa t).take k++[(Aa t)[k]]:=by rw [List.take_add_one,List.getElem?_eq_getElem hk];rfl
  have hnd:((Aa t).take (k+1)).Nodup:=(List.take_sublist _ _).nodup hn
  rw [e] at hnd
  have hp:(Aa t)[k] ∉ (Aa t).take k:=by
   intro hm
   exact (List.nodup_append.1 hnd).2.2 _ hm _ (by simp) rfl
  have:=I1.snoc hN ((List.take_sublist _ _).nodup hn) hp
  rw [← e,List.length_take,Nat.min_eq_left (by omega)] at this
  exact this
 ·rintro ⟨nb,k'⟩ ⟨e1,hN⟩
  simp only at e1 hN
  subst e1
  rw [List.take_length] at hN
  unfold BY
  exact Tot.iteF (by simp) (Tot.pure hN)
theorem JdJ {nb:List (Ab×Int)} (hN:I1 (Aa t) nb) {j:Nat} {q:Ab} (hq:(Aa t)[j]? = some q) (g0:AM) (hl:g0.Arcs.length=(Aa t).length) (h0:g0.Arcs[j]? = some []) :
  Tot (λ n=>whl (λ (x:(AM×Int))=>BZ n t (Aa t) nb (j:Int) q x.1 x.2) n (g0,0)) (λ g=>g={ g0 with Arcs:=g0.Arcs.set j (Be t q) }):=by
 have hrl:=hT.tab.1
 have hjl:=Ap hq
 refine Tot.upto (body:=λ n x=>BZ n t (Aa t) nb (j:Int) q x.1 x.2) t.Rules.length (λ k x=>x.2=(k:Int)∧x.1={ g0 with Arcs:=g0.Arcs.set j ((List.range k).filterMap (GE t q)) }∧((List.range k).filterMap (GE t q)).length≤k) ?_ ?_ _ ⟨rfl,?_,by simp⟩
 ·rintro k ⟨g,k'⟩ hk ⟨e1,e2,e3⟩
  simp only at e1 e2 e3
  subst e1
  have hJ:∀ g',g'={ g0 with Arcs:=g0.Arcs.set j ((List.range (k+1)).filterMap (GE t q)) }->Tot (λ n=>Cp n (k:Int) g') (Rd2 (λ x:AM×Int=>x.2=((k+1:Nat):Int)∧x.1={ g0 with Arcs:=g0.Arcs.set j ((List.range (k+1)).filterMap (GE t q)) }∧((List.range (k+1)).filterMap (GE t q)).length≤k+1) (λ g=>g={ g0 with Arcs:=g0.Arcs.set j (Be t q) })):=by
   intro g' hg
   unfold Cp
   refine Tot.pure ⟨CH (by omega),hg,?_⟩
   exact Nat.le_trans (List.length_filterMap_le _ _) (by simp)
  unfold BZ
  have hir:idx t.Rules (k:Int)=some (Ei t k):=SZ (by omega) (by omega)
  refine Tot.iteT (Ha hk) (Tot.bindC hir (Tot.bindA (λ n=>Rf hT.tab.short n q k) (Tot.ite (λ h=>?_) λ h=>?_)))
  ·subst e2
   refine Tot.bindC (Fj [] (by rw [List.length_set];omega)) ?_
   rw [Hb (by omega)]
   refine Tot.bindC (KM (by simp;omega)) (hJ _ ?_)
   rw [Je9 hT hN (GN hT (List.mem_of_getElem? hq) h)]
   simp only [Int.toNat_natCast,List.set_set,List.range_succ,List.filterMap_append]
   have:(List.filterMap (GE t q) [k])=[⟨prt t k,((cls t k).length:Nat),Ef (Aa t) (AH t q k).1⟩]:=by
    simp only [List.filterMap_cons,GE,h,if_true,List.filterMap_nil]
   rw [this]
  ·refine hJ _ ?_
   rw [e2]
   simp only [List.range_succ,List.filterMap_append]
   have:(List.filterMap (GE t q) [k])=[]:=by
    simp only [List.filterMap_cons,GE,h,Bool.false_eq_true,if_false,List.filterMap_nil]
   rw [this,List.append_nil]
 ·rintro ⟨g,k'⟩ ⟨e1,e2,e3⟩
  simp only at e1 e2
  subst e1
  unfold BZ
  exact Tot.iteF (by simp) (Tot.pure e2)
 ·show g0={ g0 with Arcs:=g0.Arcs.set j [] }
  have:g0.Arcs.set j []=g0.Arcs:=by
   have:=S2 g0.Arcs j []
   rwa [List.getD_eq_getElem?_getD,h0] at this
  rw [this]
theorem JdK:Ev (λ n=>DD n t) (BF t):=by
 have hlen:=H9 hT
 refine Tot.ev ?_
 unfold DD
 refine Tot.bindE (Yb hT.tab) (Tot.bind (Jfa hT) ?_)
 intro nb hN
 refine Tot.bindC (SX (by omega) (by omega)) (Tot.bindC (SX (by omega) (by omega)) ?_)
 simp only [Int.toNat_natCast]
 refine Tot.bind (R:=λ g=>g=BF t) ?_ (λ g h=>Tot.pure h)
 refine Tot.upto (body:=λ n x=>Cq n t (Aa t) nb x.1 x.2) (Aa t).length (λ k x=>x.2=(k:Int)∧∃ A B,x.1=(⟨A,B⟩:AM)∧(A.length=(Aa t).length∧(∀ (j:Nat) q,j<k->(Aa t)[j]? = some q->A[j]? = some (Be t q))∧∀ j,k≤j->j<(Aa t).length->A[j]? = some [])∧B.length=(Aa t).length∧∀ (j:Nat) q,j<k->(Aa t)[j]? = some q->B[j]? = some (By t q)) ?_ ?_ _ ⟨rfl,_,_,rfl,⟨by simp,by omega,λ j _ h=>by rw [List.getElem?_replicate,if_pos h]⟩,by simp,by omega⟩
 ·rintro k ⟨g,k'⟩ hk ⟨e1,A,B,e2,⟨a1,a2,a3⟩,b1,b2⟩
  simp only at e1 e2
  subst e1 e2
  have hq:(Aa t)[k]? = some (Aa t)[k]:=List.getElem?_eq_getElem hk
  unfold Cq
  refine Tot.iteT (Ha hk) (Tot.bindC (Eg hq) (Tot.bindA (λ n=>X8 n t _) (Tot.bindC (Fj false (show k<B.length by omega)) (Tot.bindC (F4 (show k<B.length by omega)) (Tot.bind (JdJ hT hN hq _ a1 (a3 k (Nat.le_refl _) hk)) ?_)))))
  rintro _ rfl
  refine Tot.pure ⟨CH (by omega),_,_,rfl,⟨by rw [List.length_set];exact a1,λ j q hj hjq=>?_,λ j h1 h2=>?_⟩,by rw [List.length_set];exact b1,λ j q hj hjq=>?_⟩
  ·by_cases e:k=j
   ·subst e
    rw [hq] at hjq;cases hjq
    exact List.getElem?_set_self (show k<A.length by omega)
   ·rw [List.getElem?_set_ne e];exact a2 j q (by omega) hjq
  ·rw [List.getElem?_set_ne (by omega)];exact a3 j (by omega) h2
  ·by_cases e:k=j
   ·subst e
    rw [hq] at hjq;cases hjq
    exact List.getElem?_set_self (show k<B.length by omega)
   ·rw [List.getElem?_set_ne e];exact b2 j q (by omega) hjq
 ·rintro ⟨g,k'⟩ ⟨e1,A,B,e2,⟨a1,a2,a3⟩,b1,b2⟩
  simp only at e1 e2
  subst e1 e2
  unfold Cq
  refine Tot.iteF (by simp) (Tot.pure ?_)
  show (⟨A,B⟩:AM)=⟨(Aa t).map (Be t),(Aa t).map (By t)⟩
  congr 1
  ·refine List.ext_getElem? λ j=>?_
   rcases Nat.lt_or_ge j (Aa t).length with h|h
   ·rw [a2 j _ h (List.getElem?_eq_getElem h),List.getElem?_map,List.getElem?_eq_getElem h];rfl
   ·rw [List.getElem?_eq_none (by omega),List.getElem?_eq_none (by simpa using h)]
  ·refine List.ext_getElem? λ j=>?_
   rcases Nat.lt_or_ge j (Aa t).length with h|h
   ·rw [b2 j _ h (List.getElem?_eq_getElem h),List.getElem?_map,List.getElem?_eq_getElem h];rfl
   ·rw [List.getElem?_eq_none (by omega),List.getElem?_eq_none (by simpa using h)]
end
theorem Ym:Ev (λ n=>HT n) true:=Ev.of (λ n m h=>TD h) (n:=60) (by kernel_rfl)
end Go.AI
end
section
namespace Go.AI
section
variable {α:Type}
theorem E0 {l ys:List α} {lo k:Nat} (h:lo+ys.length≤l.length) (hk:k<ys.length):(spl l lo ys)[lo+k]? = ys[k]? := by
 unfold spl
 have e:(l.take lo).length=lo:=by simp;omega
 rw [List.append_assoc,List.getElem?_append_right (by omega),e,List.getElem?_append_left (by omega)]
 congr 1;omega
theorem Ph {l ys:List α} {lo j:Nat} (h:lo+ys.length≤l.length) (hj:j<lo∨lo+ys.length≤j):(spl l lo ys)[j]? = l[j]? := by
 unfold spl
 have e:(l.take lo).length=lo:=by simp;omega
 rw [List.append_assoc]
 rcases hj with hj|hj
 ·rw [List.getElem?_append_left (by omega),List.getElem?_take_of_lt hj]
 ·rw [List.getElem?_append_right (by omega),List.getElem?_append_right (by omega),List.getElem?_drop]
  congr 1;omega
theorem Ia {l ys:List α} {lo:Nat} (h:lo+ys.length≤l.length):(spl l lo ys).length=l.length:=by
 unfold spl
 simp
 omega
theorem Mr {l ys:List α} {lo k:Nat} (h:lo+ys.length≤l.length) (hk:k<ys.length) (v:α):(spl l lo ys).set (lo+k) v=spl l lo (ys.set k v):=by
 have h':lo+(ys.set k v).length≤l.length:=by rw [List.length_set];exact h
 refine List.ext_getElem? λ j=>?_
 by_cases e:lo+k=j
 ·subst e
  rw [List.getElem?_set_self (by rw [Ia h];omega),E0 h' (by rw [List.length_set];exact hk),List.getElem?_set_self hk]
 ·rw [List.getElem?_set_ne e]
  by_cases hj:j<lo∨lo+ys.length≤j
  ·rw [Ph h hj,Ph h' (by rw [List.length_set];exact hj)]
  ·obtain ⟨m,rfl⟩:∃ m,j=lo+m:=⟨j-lo,by omega⟩
   rw [E0 h (by omega),E0 h' (by rw [List.length_set];omega),List.getElem?_set_ne (by omega)]
theorem JdL {l:List α} {lo S:Nat} (h:lo+S≤l.length):spl l lo ((l.drop lo).take S)=l:=by
 unfold spl
 have e:((l.drop lo).take S).length=S:=by simp;omega
 rw [e,List.append_assoc]
 have:(l.drop lo).take S++l.drop (lo+S)=l.drop lo:=by
  rw [← List.drop_drop];exact List.take_append_drop _ _
 rw [this,List.take_append_drop]
theorem Jaj {l ys:List α} {lo:Nat} (h:lo+ys.length≤l.length):((spl l lo ys).drop lo).take ys.length=ys:=by
 refine List.ext_getElem? λ j=>?_
 rw [List.getElem?_take,List.getElem?_drop]
 split
 ·rename_i hj;exact E0 h hj
 ·rename_i hj;rw [List.getElem?_eq_none (by omega)]
theorem Yn {l ys:List α} {lo lo' S:Nat} (h:lo+ys.length≤l.length) (hd:lo'+S≤lo∨lo+ys.length≤lo'):((spl l lo ys).drop lo').take S=(l.drop lo').take S:=by
 refine List.ext_getElem? λ j=>?_
 rw [List.getElem?_take,List.getElem?_take]
 split
 ·rename_i hj
  rw [List.getElem?_drop,List.getElem?_drop,Ph h (by omega)]
 ·rfl
theorem JiZ {n k:Nat} (h:k<n):inB n (k:Int)=some ():=by
 unfold inB Bm
 rw [if_pos (by simp;omega)]
theorem Jn {l:List α} {lo S k:Nat} {v:α} (hk:k<S) (h:l[lo+k]? = some v):ixP l (lo,S) (k:Int)=some v:=by
 unfold ixP
 rw [JiZ hk,Option.bind_some,Int.toNat_natCast]
 exact Eg h
end
def Hf (S n:Nat):List (Nat×Nat):=(List.range n).map λ i=>(i*S,S)
theorem S7 {S n i:Nat} (h:i<n):idx (Hf S n) (i:Int)=some (i*S,S):=by
 refine Eg ?_
 simp [Hf,h]
theorem I5 {S n i:Nat} (h:i<n):i*S+S≤S*n:=by
 have:(i+1)*S≤n*S:=Nat.mul_le_mul_right S h
 rw [Nat.add_mul,Nat.one_mul,Nat.mul_comm n S] at this
 exact this
theorem VD {S i j:Nat} (h:i<j):i*S+S≤j*S:=by
 have:(i+1)*S≤j*S:=Nat.mul_le_mul_right S h
 rw [Nat.add_mul,Nat.one_mul] at this
 exact this
structure Lat (t:Ad) (s:List UInt8) (i:Nat) (l ls:List Int):Prop where
 len:l.length=(Aa t).length*(s.length+1)
 ll:ls.length=s.length+1
 col:∀ p,i<p->p≤s.length->(l.drop (p*(Aa t).length)).take (Aa t).length=CC (A4 t (s.drop p))
 lst:∀ p,i<p->p≤s.length->ls[p]? = some (Bw (A4 t (s.drop p)))
def Low (a b:List Int):Prop:=∀ (j:Nat) v,a[j]? = some v->0≤v->∃ w,b[j]? = some w∧0≤w∧w≤v
theorem Low.refl (a:List Int):Low a a:=λ _ v h h0=>⟨v,h,h0,Int.le_refl _⟩
theorem Low.set {a:List Int} {k:Nat} {v c:Int} (hv:a[k]? = some v) (hc:0≤c) (hlt:v<0∨c<v):Low a (a.set k c):=by
 intro j w hw h0
 by_cases e:k=j
 ·subst e
  rw [hv] at hw
  cases hw
  exact ⟨c,List.getElem?_set_self (Ap hv),hc,by omega⟩
 ·exact ⟨w,by rw [List.getElem?_set_ne e];exact hw,h0,Int.le_refl _⟩
def A1 (t:Ad) (x:List UInt8) (cur:List Int) (j:Nat) (g:NL):Prop:=g.Print≠[]->∀ y,x=g.Print++y->∀ q',(Aa t)[g.To.toNat]? = some q'->0≤AR t q' y->∃ v,cur[j]? = some v∧0≤v∧v≤AR t q' y+g.Cells
def A2 (cur:List Int) (j:Nat) (g:NL):Prop:=g.Print=[]->∀ w,cur[g.To.toNat]? = some w->0≤w->∃ v,cur[j]? = some v∧0≤v∧v≤w+g.Cells
theorem A1.low {t:Ad} {x:List UInt8} {a b:List Int} {j:Nat} {g:NL} (h:A1 t x a j g) (hl:Low a b):A1 t x b j g:=by
 intro hp y hy q' hq' h0
 obtain ⟨v,h1,h2,h3⟩:=h hp y hy q' hq' h0
 obtain ⟨w,g1,g2,g3⟩:=hl j v h1 h2
 exact ⟨w,g1,g2,by omega⟩
section
variable {t:Ad} (hT:F6 t) {s:List UInt8} (hs:s.length≤4000)
include hT hs
theorem Xi {p:Nat} (hp:p≤s.length) {j:Nat} {q:Ab} (hq:(Aa t)[j]? = some q):-1≤AR t q (s.drop p)∧AR t q (s.drop p)≤((3072*(s.length-p+1):Nat):Int):=by
 refine (Ri hT hs hp).2 _ ?_
 unfold A4
 exact List.mem_map.2 ⟨q,List.mem_of_getElem? hq,rfl⟩
omit hT hs in
theorem Ji0 (p:Nat) {j:Nat} {q:Ab} (hq:(Aa t)[j]? = some q) :
  (CC (A4 t (s.drop p)))[j]? = some (if AR t q (s.drop p)<0 then -1 else AR t q (s.drop p)-Bw (A4 t (s.drop p)))∧(0≤AR t q (s.drop p)->0≤Bw (A4 t (s.drop p))∧Bw (A4 t (s.drop p))≤AR t q (s.drop p)):=by
 have hr:(A4 t (s.drop p))[j]? = some (AR t q (s.drop p)):=by unfold A4;rw [List.getElem?_map,hq];rfl
 refine ⟨by rw [CC,List.getElem?_map,hr];rfl,λ h0=>Qb (List.mem_of_getElem? hr) h0⟩
theorem Yo {i:Nat} {l ls cur:List Int} (hL:Lat t s i l ls) (hc:cur.length=(Aa t).length) (hi:i≤s.length) {p:Nat} (h1:i<p) (h2:p≤s.length) {j:Nat} {q:Ab} (hq:(Aa t)[j]? = some q) (x:List UInt8) (n:Nat) :
  Fs n x (p:Int) (j:Int) (Hf (Aa t).length (s.length+1)) ls (spl l (i*(Aa t).length) cur)=some (AR t q (s.drop p)):=by
 have hjl:=Ap hq
 have hlo:i*(Aa t).length+cur.length≤l.length:=by rw [hc,hL.len];exact I5 (by omega)
 obtain ⟨n1,n2⟩:=Ji0 p hq
 have hrng:=Xi hT hs h2 hq
 have hv:(spl l (i*(Aa t).length) cur)[p*(Aa t).length+j]? = some (if AR t q (s.drop p)<0 then -1 else AR t q (s.drop p)-Bw (A4 t (s.drop p))):=by
  have:=VD (S:=(Aa t).length) h1
  rw [Ph hlo (by omega),← n1,← hL.col p h1 h2,List.getElem?_take_of_lt hjl,List.getElem?_drop]
 unfold Fs
 rw [S7 (by omega),Option.bind_some]
 by_cases h0:AR t q (s.drop p)<0
 ·rw [if_pos h0] at hv
  rw [Jn hjl hv,Option.bind_some,if_pos (by simp)]
  congr 1;omega
 ·rw [if_neg h0] at hv
  have:=n2 (by omega)
  rw [Jn hjl hv,Option.bind_some,if_neg (by simp;omega),Eg (hL.lst p h1 h2),Option.bind_some,Option.bind_some,Jn hjl hv,Option.bind_some,FG (by omega) (by omega)]
  congr 1;omega
omit hT hs in
theorem Xj {l cur:List Int} {lo k:Nat} {v rest cells:Int} (hlo:lo+cur.length≤l.length) (hv:cur[k]? = some v) (hr:-1≤rest∧rest≤100000000) (hc:0≤cells∧cells≤100) (n:Nat) :
  Br n (k:Int) rest cells (lo,cur.length) (spl l lo cur)=some (if rest<0∨(0≤v∧v≤rest+cells) then (spl l lo cur,false) else (spl l lo (cur.set k (rest+cells)),true)):=by
 have hk:=Ap hv
 have hix:ixP (spl l lo cur) (lo,cur.length) (k:Int)=some v:=Jn hk (by rw [E0 hlo hk];exact hv)
 unfold Br
 rw [hix]
 by_cases h0:rest<0
 ·rw [if_neg (by simp;omega),Option.bind_some,if_neg (by simp;omega),Option.bind_some,if_pos (by simp [h0]),if_pos (.inl h0)]
 ·rw [if_pos (by simp;omega),Option.bind_some]
  have e:Au .i64 rest cells=rest+cells:=FG (by omega) (by omega)
  rw [e]
  by_cases h1:0≤v
  ·rw [if_pos (by simp;omega),Option.bind_some]
   by_cases h2:v≤rest+cells
   ·rw [if_pos (by simp;omega),if_pos (.inr ⟨h1,h2⟩)]
   ·rw [if_neg (by simp;omega),if_neg (by omega),Option.bind_some,Int.toNat_natCast,F4 (by rw [Ia hlo];omega),Option.bind_some,Mr hlo hk]
  ·rw [if_neg (by simp;omega),Option.bind_some,if_neg (by simp;omega),if_neg (by omega),Option.bind_some,Int.toNat_natCast,F4 (by rw [Ia hlo];omega),Option.bind_some,Mr hlo hk]
theorem Jfb {i:Nat} (hi:i≤s.length) {l cur0:List Int} (hc:cur0.length=(Aa t).length) (hlo:i*(Aa t).length+cur0.length≤l.length) (offs:List (Nat×Nat)) (ls:List Int) :
  Tot (λ n=>whl (λ (x:((List Int)×Int))=>A9 n (i:Int) s (BF t) offs ls (i*(Aa t).length,(Aa t).length) x.1 x.2) n (spl l (i*(Aa t).length) cur0,0)) (λ y=>y=spl l (i*(Aa t).length) ((Aa t).map (Dd t (s.drop i)))):=by
 have hlen:=H9 hT
 generalize hlo':i*(Aa t).length=lo at *
 refine Tot.upto (body:=λ n x=>A9 n (i:Int) s (BF t) offs ls (lo,(Aa t).length) x.1 x.2) (Aa t).length (λ k x=>x.2=(k:Int)∧∃ cur,x.1=spl l lo cur∧cur.length=(Aa t).length∧∀ (j:Nat) q,j<k->(Aa t)[j]? = some q->cur[j]? = some (Dd t (s.drop i) q)) ?_ ?_ _ ⟨rfl,cur0,rfl,hc,by omega⟩
 ·rintro k ⟨c,k'⟩ hk ⟨e1,cur,e2,e3,e4⟩
  simp only at e1 e2
  subst e1 e2
  have hlc:lo+cur.length≤l.length:=by omega
  have hJ:∀ v,v=Dd t (s.drop i) (Aa t)[k]->∀ c',c'=spl l lo (cur.set k v)->Tot (λ n=>Bn n (k:Int) c') (Rd2 (λ x:List Int×Int=>x.2=((k+1:Nat):Int)∧∃ cur,x.1=spl l lo cur∧cur.length=(Aa t).length∧∀ (j:Nat) q,j<k+1->(Aa t)[j]? = some q->cur[j]? = some (Dd t (s.drop i) q)) (λ y=>y=spl l lo ((Aa t).map (Dd t (s.drop i))))):=by
   intro v hv c' hc'
   unfold Bn
   refine Tot.pure ⟨CH (by omega),_,hc',by rw [List.length_set];exact e3,λ j q hj hq=>?_⟩
   by_cases e:k=j
   ·subst e
    rw [List.getElem?_set_self (by omega),hv]
    rw [List.getElem?_eq_getElem hk] at hq
    cases hq;rfl
   ·rw [List.getElem?_set_ne e];exact e4 j q (by omega) hq
  unfold A9
  have hg:(spl l lo cur)[lo+k]? = some cur[k]:=by rw [E0 hlc (by omega)];exact List.getElem?_eq_getElem (by omega)
  refine Tot.iteT (by simpa using hk) (Tot.bindC (Jn hk hg) ?_)
  rw [Int.toNat_natCast]
  refine Tot.bindC (F4 (by rw [Ia hlc];omega)) ?_
  rw [Mr hlc (by omega),Xd hs hi]
  have hacc:idx (BF t).Accepts (k:Int)=some (By t (Aa t)[k]):=Eg (by simp [BF,hk])
  by_cases hd:s.drop i=[]
  ·refine Tot.gE (decide_eq_true hd) (Ev.all λ n=>hacc) (Tot.ite (λ h=>?_) λ h=>?_)
   ·have ha:By t (Aa t)[k]=true:=by simpa [hd] using h
    have hls:lo+(cur.set k (-1)).length≤l.length:=by rw [List.length_set];exact hlc
    refine Tot.bindC (Jn hk (v:=-1) (by rw [E0 hls (by rw [List.length_set];omega),List.getElem?_set_self (by omega)])) (Tot.bindC (F4 (by rw [Ia hls];omega)) (hJ 0 ?_ _ ?_))
    ·unfold Dd;rw [if_pos ⟨hd,ha⟩]
    ·rw [Mr hls (by rw [List.length_set];omega),List.set_set]
   ·have ha:By t (Aa t)[k]=false:=by simpa [hd] using h
    refine hJ (-1) ?_ _ rfl
    unfold Dd;rw [if_neg (by rw [ha];simp)]
  ·refine Tot.gF (decide_eq_false hd) (Tot.iteF (by simp [hd]) (hJ (-1) ?_ _ rfl))
   unfold Dd;rw [if_neg (λ h=>hd h.1)]
 ·rintro ⟨c,k'⟩ ⟨e1,cur,e2,e3,e4⟩
  simp only at e1 e2
  subst e1 e2
  unfold A9
  refine Tot.iteF (by simp) (Tot.pure ?_)
  refine congrArg (spl l lo) (List.ext_getElem? λ j=>?_)
  rcases Nat.lt_or_ge j (Aa t).length with h|h
  ·rw [e4 j _ h (List.getElem?_eq_getElem h),List.getElem?_map,List.getElem?_eq_getElem h];rfl
  ·rw [List.getElem?_eq_none (by omega),List.getElem?_eq_none (by simpa using h)]
end
end Go.AI
end
section
namespace Go.AI
structure VE (t:Ad) (x:List UInt8) (D B:Nat) (cur0 cur:List Int) (ch:Bool) (k a:Nat):Prop where
 col:Col t x D (Aa t) cur
 all:∀ (j:Nat) q,(Aa t)[j]? = some q->∀ g∈Be t q,A1 t x cur j g
 same:ch=false->cur=cur0∧(∀ (j:Nat) q,j<k->(Aa t)[j]? = some q->∀ g∈Be t q,A2 cur0 j g)∧∀ q,(Aa t)[k]? = some q->∀ g∈(Be t q).take a,A2 cur0 k g
 less:ch=true->phi B cur<phi B cur0
section
variable {t:Ad} (hT:F6 t) {s:List UInt8} (hs:s.length≤4000)
include hT hs
omit hs in
theorem Xk {q:Ab} (hq:q∈Aa t) {g:NL} (hg:g∈Be t q):∃ (k m:Nat),(AH t q k).2=true∧g=⟨prt t k,((cls t k).length:Nat),(m:Nat)⟩∧(Aa t)[m]? = some (AH t q k).1∧(prt t k).length≤3∧1≤(cls t k).length∧(cls t k).length≤4:=by
 obtain ⟨k,hk,hst,rfl⟩:=Qd.1 hg
 obtain ⟨m,hm,hmg⟩:=Du (GN hT hq hst)
 exact ⟨k,m,hst,by rw [hm],hmg,hT.pr hst⟩
theorem Jfc {i:Nat} (hi:i≤s.length) {l ls cur1:List Int} (hL:Lat t s i l ls) {k:Nat} {q:Ab} (hq:(Aa t)[k]? = some q) (h1:Col t (s.drop i) (3072*(s.length-i)) (Aa t) cur1) (gr:AM) :
  Tot (λ n=>whl (λ (x:((List Int)×Int))=>Ba n (i:Int) s gr (Hf (Aa t).length (s.length+1)) ls (i*(Aa t).length,(Aa t).length) (k:Int) (Be t q) x.1 x.2) n (spl l (i*(Aa t).length) cur1,0))
   (λ y=>∃ cur,y=spl l (i*(Aa t).length) cur∧Col t (s.drop i) (3072*(s.length-i)) (Aa t) cur∧Low cur1 cur∧∀ g∈Be t q,A1 t (s.drop i) cur k g):=by
 have hlen:=H9 hT
 have hrl:=hT.tab.1
 have hgl:=Ur t q
 have hkl:=Ap hq
 have hlo0:i*(Aa t).length+(Aa t).length≤l.length:=by rw [hL.len];exact I5 (by omega)
 refine Tot.upto (body:=λ n x=>Ba n (i:Int) s gr (Hf (Aa t).length (s.length+1)) ls (i*(Aa t).length,(Aa t).length) (k:Int) (Be t q) x.1 x.2) (Be t q).length (λ a x=>x.2=(a:Int)∧∃ cur,x.1=spl l (i*(Aa t).length) cur∧Col t (s.drop i) (3072*(s.length-i)) (Aa t) cur∧Low cur1 cur∧∀ g∈(Be t q).take a,A1 t (s.drop i) cur k g) ?_ ?_ _ ⟨rfl,cur1,rfl,h1,.refl _,by simp⟩
 ·rintro a ⟨c,a'⟩ ha ⟨e1,cur,e2,hC,hlw,hA⟩
  simp only at e1 e2
  subst e1 e2
  have hcl:=hC.len
  have hlo:i*(Aa t).length+cur.length≤l.length:=by omega
  obtain ⟨r,m,hst,hge,hm,p1,p2,p3⟩:=Xk hT (List.mem_of_getElem? hq) (List.getElem_mem ha)
  obtain ⟨v,hv⟩:=hC.get hkl
  have hJ:∀ cur',Col t (s.drop i) (3072*(s.length-i)) (Aa t) cur'->Low cur cur'->A1 t (s.drop i) cur' k (Be t q)[a]->Tot (λ n=>Bo n (a:Int) (spl l (i*(Aa t).length) cur')) (Rd2 (λ x:List Int×Int=>x.2=((a+1:Nat):Int)∧∃ cur,x.1=spl l (i*(Aa t).length) cur∧Col t (s.drop i) (3072*(s.length-i)) (Aa t) cur∧Low cur1 cur∧∀ g∈(Be t q).take (a+1),A1 t (s.drop i) cur k g) (λ y=>∃ cur,y=spl l (i*(Aa t).length) cur∧Col t (s.drop i) (3072*(s.length-i)) (Aa t) cur∧Low cur1 cur∧∀ g∈Be t q,A1 t (s.drop i) cur k g)):=by
   intro cur' hC' hl' hA'
   unfold Bo
   refine Tot.pure ⟨CH (by omega),cur',rfl,hC',λ j w hw h0=>?_,λ g hg=>?_⟩
   ·obtain ⟨w1,g1,g2,g3⟩:=hlw j w hw h0
    obtain ⟨w2,g4,g5,g6⟩:=hl' j w1 g1 g2
    exact ⟨w2,g4,g5,by omega⟩
   ·rw [List.take_add_one,List.getElem?_eq_getElem ha,List.mem_append] at hg
    rcases hg with hg|hg
    ·exact (hA g hg).low hl'
    ·simp at hg;subst hg;exact hA'
  unfold Ba
  refine Tot.iteT (Ha ha) (Tot.bindC (Fg ha) ?_)
  rw [hge] at hJ ⊢
  simp only
  by_cases hp:prt t r=[]
  ·refine Tot.gF (by simp [hp]) (Tot.gF (by simp [hp]) (Tot.iteF (by simp [hp]) (hJ cur hC (.refl _) λ h=>absurd hp h)))
  ·have hpl:0<(prt t r).length:=List.length_pos_iff.2 hp
   refine Tot.gE (x:=s.drop i) (by simp [hp]) (Ev.all λ n=>?_) (Tot.gE (x:=(prt t r).isPrefixOf (s.drop i)) (by simp [hp]) (Ev.all λ n=>?_) (Tot.ite (λ h=>?_) λ h=>?_))
   ·rw [Ui (by omega) (by omega) (by omega)];simp
   ·unfold DS EK
    by_cases hle:(prt t r).length≤(s.drop i).length
    ·have hd:decide (((List.length (s.drop i):Nat):Int)≥((List.length (prt t r):Nat):Int))=true:=by simp only [ge_iff_le,decide_eq_true_eq];omega
     rw [if_pos hd,Pb (by omega),Option.bind_some,hd,Bool.true_and,Option.bind_some]
     congr 1
     rw [Bool.eq_iff_iff,beq_iff_eq,List.isPrefixOf_iff_prefix]
     constructor
     ·intro h2
      have:=List.take_prefix (prt t r).length (s.drop i)
      rw [h2] at this;exact this
     ·intro h2;exact (List.prefix_iff_eq_take.1 h2).symm
    ·have hd:decide (((List.length (s.drop i):Nat):Int)≥((List.length (prt t r):Nat):Int))=false:=by simp only [ge_iff_le,decide_eq_false_iff_not];omega
     rw [if_neg (by rw [hd];simp),Option.bind_some,hd,Bool.false_and,Option.bind_some]
     congr 1
     rw [eq_comm,← Bool.not_eq_true,List.isPrefixOf_iff_prefix]
     intro hp'
     exact hle hp'.length_le
   ·have hb:(prt t r).isPrefixOf (s.drop i)=true:=by simpa [hp] using h
    obtain ⟨q1,q2⟩:=Ej hb
    have q2:=q2 hi
    rw [FG (by omega) (by omega)]
    have ep:(i:Int)+((List.length (prt t r):Nat):Int)=((i+(prt t r).length:Nat):Int):=by omega
    rw [ep]
    have hrg:=Xi hT hs q2 hm
    refine Tot.bindA (λ n=>Yo hT hs hL hcl hi (by omega) q2 hm s n) ?_
    have hlq:=λ n=>Xj (l:=l) (cur:=cur) (lo:=i*(Aa t).length) (k:=k) (v:=v) (rest:=AR t (AH t q r).1 (s.drop (i+(prt t r).length))) (cells:=((cls t r).length:Nat)) hlo hv (by omega) (by omega) n
    rw [hcl] at hlq
    refine Tot.bindA hlq ?_
    have hy:∀ y,s.drop i=prt t r++y->y=s.drop (i+(prt t r).length):=λ y hy=>by
     rw [q1] at hy
     exact (List.append_cancel_left hy).symm
    by_cases hc:AR t (AH t q r).1 (s.drop (i+(prt t r).length))<0∨(0≤v∧v≤AR t (AH t q r).1 (s.drop (i+(prt t r).length))+((cls t r).length:Nat))
    ·rw [if_pos hc]
     refine hJ cur hC (.refl _) λ _ y hyy q' hq' h0=>?_
     simp only [Int.toNat_natCast] at hq' hyy ⊢
     rw [hm] at hq'
     cases hq'
     rw [hy y hyy] at h0 ⊢
     exact ⟨v,hv,by omega,by omega⟩
    ·rw [if_neg hc]
     have hfin:=Rg cur
     have hbd:AR t (AH t q r).1 (s.drop (i+(prt t r).length))≤((3072*(s.length-i):Nat):Int):=by
      have:3072*(s.length-(i+(prt t r).length)+1)≤3072*(s.length-i):=by omega
      omega
     have hlow:=hC.lower (c:=AR t (AH t q r).1 (s.drop (i+(prt t r).length))+((cls t r).length:Nat)) hq hv (by
      have:=Pe hst (GD (t:=t) (q:=(AH t q r).1) (x:=s.drop (i+(prt t r).length)) (by omega))
      rwa [← q1] at this) (by omega) (by omega) (B:=20000000) (by omega)
     refine hJ _ hlow.1 (.set hv (by omega) (by omega)) λ _ y hyy q' hq' h0=>?_
     simp only [Int.toNat_natCast] at hq' hyy ⊢
     rw [hm] at hq'
     cases hq'
     rw [hy y hyy]
     exact ⟨_,List.getElem?_set_self (by omega),by omega,by omega⟩
   ·have hb:(prt t r).isPrefixOf (s.drop i)=false:=by simpa [hp] using h
    refine hJ cur hC (.refl _) λ _ y hyy=>?_
    simp only at hyy
    rw [hyy] at hb
    rw [← Bool.not_eq_true,List.isPrefixOf_iff_prefix] at hb
    exact absurd (List.prefix_append _ _) hb
 ·rintro ⟨c,a'⟩ ⟨e1,cur,e2,hC,hlw,hA⟩
  simp only at e1 e2
  subst e1 e2
  rw [List.take_length] at hA
  unfold Ba
  exact Tot.iteF (by simp) (Tot.pure ⟨cur,rfl,hC,hlw,hA⟩)
theorem Jfd {i:Nat} (hi:i≤s.length) {l ls cur1:List Int} (hL:Lat t s i l ls) (h1:Col t (s.drop i) (3072*(s.length-i)) (Aa t) cur1) :
  Tot (λ n=>whl (λ (x:((List Int)×Int))=>Bb n (i:Int) s (BF t) (Hf (Aa t).length (s.length+1)) ls (i*(Aa t).length,(Aa t).length) x.1 x.2) n (spl l (i*(Aa t).length) cur1,0))
   (λ y=>∃ cur,y=spl l (i*(Aa t).length) cur∧Col t (s.drop i) (3072*(s.length-i)) (Aa t) cur∧∀ (j:Nat) q,(Aa t)[j]? = some q->∀ g∈Be t q,A1 t (s.drop i) cur j g):=by
 have hlen:=H9 hT
 have hgl:(BF t).Arcs.length=(Aa t).length:=by simp [BF]
 refine Tot.upto (body:=λ n x=>Bb n (i:Int) s (BF t) (Hf (Aa t).length (s.length+1)) ls (i*(Aa t).length,(Aa t).length) x.1 x.2) (Aa t).length (λ k x=>x.2=(k:Int)∧∃ cur,x.1=spl l (i*(Aa t).length) cur∧Col t (s.drop i) (3072*(s.length-i)) (Aa t) cur∧∀ (j:Nat) q,j<k->(Aa t)[j]? = some q->∀ g∈Be t q,A1 t (s.drop i) cur j g) ?_ ?_ _ ⟨rfl,cur1,rfl,h1,by omega⟩
 ·rintro k ⟨c,k'⟩ hk ⟨e1,cur,e2,hC,hA⟩
  simp only at e1 e2
  subst e1 e2
  have hq:(Aa t)[k]? = some (Aa t)[k]:=List.getElem?_eq_getElem hk
  unfold Bb
  have hix:idx (BF t).Arcs (k:Int)=some (Be t (Aa t)[k]):=Eg (by simp [BF,hk])
  refine Tot.iteT (by rw [hgl];exact Ha hk) (Tot.bindC hix (Tot.bind (Jfc hT hs hi hL hq hC (BF t)) ?_))
  rintro _ ⟨cur',rfl,hC',hlw,hA'⟩
  refine Tot.pure ⟨CH (by omega),cur',rfl,hC',λ j q hj hjq g hg=>?_⟩
  by_cases e:k=j
  ·subst e
   rw [hq] at hjq;cases hjq
   exact hA' g hg
  ·exact (hA j q (by omega) hjq g hg).low hlw
 ·rintro ⟨c,k'⟩ ⟨e1,cur,e2,hC,hA⟩
  simp only at e1 e2
  subst e1 e2
  unfold Bb
  exact Tot.iteF (by rw [hgl];simp) (Tot.pure ⟨cur,rfl,hC,λ j q hq=>hA j q (Ap hq) hq⟩)
end
end Go.AI
end
section
namespace Go.AI
section
variable {t:Ad} (hT:F6 t) {s:List UInt8} (hs:s.length≤4000)
include hT hs
theorem Jfe {i lo:Nat} {l:List Int} (hlo0:lo+(Aa t).length≤l.length) {cur0 cur1:List Int} {ch1:Bool} {k:Nat} {q:Ab} (hq:(Aa t)[k]? = some q) (h1:VE t (s.drop i) (3072*(s.length-i)) 20000000 cur0 cur1 ch1 k 0) (x0:List UInt8) (gr:AM) (offs:List (Nat×Nat)) (ls:List Int) :
  Tot (λ n=>whl (λ (x:((List Int)×Bool×Int))=>Bc n x0 gr offs ls (lo,(Aa t).length) (k:Int) (Be t q) x.1 x.2.1 x.2.2) n (spl l lo cur1,ch1,0))
   (λ y=>∃ cur,y.1=spl l lo cur∧VE t (s.drop i) (3072*(s.length-i)) 20000000 cur0 cur y.2 k (Be t q).length):=by
 have hlen:=H9 hT
 have hrl:=hT.tab.1
 have hgl:=Ur t q
 have hkl:=Ap hq
 refine Tot.upto (body:=λ n x=>Bc n x0 gr offs ls (lo,(Aa t).length) (k:Int) (Be t q) x.1 x.2.1 x.2.2) (Be t q).length (λ a x=>x.2.2=(a:Int)∧∃ cur,x.1=spl l lo cur∧VE t (s.drop i) (3072*(s.length-i)) 20000000 cur0 cur x.2.1 k a) ?_ ?_ _ ⟨rfl,cur1,rfl,h1⟩
 ·rintro a ⟨c,ch,a'⟩ ha ⟨e1,cur,e2,hP⟩
  simp only at e1 e2 hP
  subst e1 e2
  have hC:=hP.col
  have hcl:=hC.len
  have hlo:lo+cur.length≤l.length:=by omega
  obtain ⟨r,m,hst,hge,hm,p1,p2,p3⟩:=Xk hT (List.mem_of_getElem? hq) (List.getElem_mem ha)
  obtain ⟨v,hv⟩:=hC.get hkl
  have hml:=Ap hm
  obtain ⟨w,hw⟩:=hC.get hml
  have hJ:∀ cur' ch',VE t (s.drop i) (3072*(s.length-i)) 20000000 cur0 cur' ch' k (a+1)->Tot (λ n=>A5 n (a:Int) (spl l lo cur') ch') (Rd2 (λ x:List Int×Bool×Int=>x.2.2=((a+1:Nat):Int)∧∃ cur,x.1=spl l lo cur∧VE t (s.drop i) (3072*(s.length-i)) 20000000 cur0 cur x.2.1 k (a+1)) (λ y=>∃ cur,y.1=spl l lo cur∧VE t (s.drop i) (3072*(s.length-i)) 20000000 cur0 cur y.2 k (Be t q).length)):=by
   intro cur' ch' h
   unfold A5
   exact Tot.pure ⟨CH (by omega),cur',rfl,h⟩
  have hskip:A2 cur k (Be t q)[a]->VE t (s.drop i) (3072*(s.length-i)) 20000000 cur0 cur ch k (a+1):=by
   intro hA
   refine ⟨hC,hP.all,λ hc=>?_,hP.less⟩
   obtain ⟨g1,g2,g3⟩:=hP.same hc
   refine ⟨g1,g2,λ q' hq' g hg=>?_⟩
   rw [hq] at hq'
   cases hq'
   rw [List.take_add_one,List.getElem?_eq_getElem ha,List.mem_append] at hg
   rcases hg with hg|hg
   ·exact g3 q hq g hg
   ·simp at hg;subst hg;rw [← g1];exact hA
  unfold Bc
  refine Tot.iteT (Ha ha) (Tot.bindC (Fg ha) ?_)
  rw [hge] at hskip ⊢
  simp only
  by_cases hp:prt t r=[]
  ·have hpd:(prt t r==[])=true:=by simp [hp]
   have hix:ixP (spl l lo cur) (lo,(Aa t).length) (m:Int)=some w:=Jn hml (by rw [E0 hlo (by omega)];exact hw)
   refine Tot.gE hpd (Ev.all λ n=>hix) (Tot.iteT hpd ?_)
   have hwt:=hC.top hw
   have hlq:=λ n=>Xj (l:=l) (cur:=cur) (lo:=lo) (k:=k) (v:=v) (rest:=w) (cells:=((cls t r).length:Nat)) hlo hv (by omega) (by omega) n
   rw [hcl] at hlq
   refine Tot.bindA hlq ?_
   by_cases hc:w<0∨(0≤v∧v≤w+((cls t r).length:Nat))
   ·rw [if_pos hc]
    refine Tot.iteF (by simp) (hJ cur ch (hskip λ _ w' hw' h0=>?_))
    simp only [Int.toNat_natCast] at hw' ⊢
    rw [hw] at hw'
    cases hw'
    exact ⟨v,hv,by omega,by omega⟩
   ·rw [if_neg hc]
    refine Tot.iteT (by simp [hp]) ?_
    obtain ⟨v',hv',hd⟩:=hC.ach m _ hm
    rw [hw] at hv'
    cases hv'
    have hbn:=hC.bnd m w hw
    have hfin:=Rg cur
    have hlow:=hC.lower (c:=w+((cls t r).length:Nat)) hq hv (by
     have:=Pe hst (hd.resolve_left (by omega))
     rwa [hp,List.nil_append] at this) (by omega) (by omega) (B:=20000000) (by omega)
    refine hJ _ _ ⟨hlow.1,λ j q' hj g hg=>(hP.all j q' hj g hg).low (.set hv (by omega) (by omega)),(λ h=>by cases h),λ _=>?_⟩
    cases hch:ch with
    | false=>rw [← (hP.same hch).1];exact hlow.2
    | true=>have:=hP.less hch;have:=hlow.2;omega
  ·have hpd:(prt t r==[])=false:=by simp [hp]
   refine Tot.gF hpd (Tot.iteF hpd (Tot.iteF (by simp) (hJ cur ch (hskip λ h=>absurd h hp))))
 ·rintro ⟨c,ch,a'⟩ ⟨e1,cur,e2,hP⟩
  simp only at e1 e2 hP
  subst e1 e2
  unfold Bc
  exact Tot.iteF (by simp) (Tot.pure ⟨cur,rfl,hP⟩)
theorem Jff {i lo:Nat} {l:List Int} (hlo0:lo+(Aa t).length≤l.length) {cur0:List Int} (h1:Col t (s.drop i) (3072*(s.length-i)) (Aa t) cur0) (h2:∀ (j:Nat) q,(Aa t)[j]? = some q->∀ g∈Be t q,A1 t (s.drop i) cur0 j g) (x0:List UInt8) (offs:List (Nat×Nat)) (ls:List Int) :
  Tot (λ n=>whl (λ (x:((List Int)×Bool×Int))=>Bd n x0 (BF t) offs ls (lo,(Aa t).length) x.1 x.2.1 x.2.2) n (spl l lo cur0,false,0))
   (λ y=>∃ cur,y.1=spl l lo cur∧VE t (s.drop i) (3072*(s.length-i)) 20000000 cur0 cur y.2 (Aa t).length 0):=by
 have hlen:=H9 hT
 have hgl:(BF t).Arcs.length=(Aa t).length:=by simp [BF]
 refine Tot.upto (body:=λ n x=>Bd n x0 (BF t) offs ls (lo,(Aa t).length) x.1 x.2.1 x.2.2) (Aa t).length (λ k x=>x.2.2=(k:Int)∧∃ cur,x.1=spl l lo cur∧VE t (s.drop i) (3072*(s.length-i)) 20000000 cur0 cur x.2.1 k 0) ?_ ?_ _ ⟨rfl,cur0,rfl,h1,h2,λ _=>⟨rfl,by omega,by simp⟩,λ h=>by cases h⟩
 ·rintro k ⟨c,ch,k'⟩ hk ⟨e1,cur,e2,hP⟩
  simp only at e1 e2 hP
  subst e1 e2
  have hq:(Aa t)[k]? = some (Aa t)[k]:=List.getElem?_eq_getElem hk
  unfold Bd
  have hix:idx (BF t).Arcs (k:Int)=some (Be t (Aa t)[k]):=Eg (by simp [BF,hk])
  refine Tot.iteT (by rw [hgl];exact Ha hk) (Tot.bindC hix (Tot.bind (Jfe hT hs hlo0 hq hP x0 (BF t) offs ls) ?_))
  rintro ⟨_,ch'⟩ ⟨cur',rfl,hP'⟩
  refine Tot.pure ⟨CH (by omega),cur',rfl,hP'.col,hP'.all,λ hc=>?_,hP'.less⟩
  obtain ⟨g1,g2,g3⟩:=hP'.same hc
  refine ⟨g1,λ j q hj hjq g hg=>?_,by simp⟩
  by_cases e:k=j
  ·subst e
   rw [hq] at hjq;cases hjq
   exact g3 _ hq g (by rw [List.take_length];exact hg)
  ·exact g2 j q (by omega) hjq g hg
 ·rintro ⟨c,ch,k'⟩ ⟨e1,cur,e2,hP⟩
  simp only at e1 e2 hP
  subst e1 e2
  unfold Bd
  exact Tot.iteF (by rw [hgl];simp) (Tot.pure ⟨cur,rfl,hP⟩)
theorem Jfg {i lo:Nat} {l:List Int} (hlo0:lo+(Aa t).length≤l.length) {cur0:List Int} (h1:Col t (s.drop i) (3072*(s.length-i)) (Aa t) cur0) (h2:∀ (j:Nat) q,(Aa t)[j]? = some q->∀ g∈Be t q,A1 t (s.drop i) cur0 j g) (x0:List UInt8) (offs:List (Nat×Nat)) (ls:List Int) :
  Tot (λ n=>whl (λ (x:((List Int)×Bool))=>Bp n x0 (BF t) offs ls (lo,(Aa t).length) x.1 x.2) n (spl l lo cur0,true))
   (λ y=>y=spl l lo (A4 t (s.drop i))):=by
 refine Tot.whl (body:=λ n x=>Bp n x0 (BF t) offs ls (lo,(Aa t).length) x.1 x.2) (λ m x=>∃ cur,x.1=spl l lo cur∧Col t (s.drop i) (3072*(s.length-i)) (Aa t) cur∧(∀ (j:Nat) q,(Aa t)[j]? = some q->∀ g∈Be t q,A1 t (s.drop i) cur j g)∧((x.2=true∧m=phi 20000000 cur+1)∨(x.2=false∧m=0∧∀ (j:Nat) q,(Aa t)[j]? = some q->∀ g∈Be t q,A2 cur j g))) ?_ (phi 20000000 cur0+1) (spl l lo cur0,true) ⟨cur0,rfl,h1,h2,.inl ⟨rfl,rfl⟩⟩
 rintro m ⟨c,ch⟩ ⟨cur,e2,hC,hA,hm⟩
 simp only at e2 hm
 subst e2
 unfold Bp
 rcases hm with ⟨rfl,rfl⟩|⟨rfl,rfl,hR⟩
 ·refine Tot.iteT rfl (Tot.bind (Jff hT hs hlo0 hC hA x0 offs ls) ?_)
  rintro ⟨_,ch'⟩ ⟨cur',rfl,hP⟩
  simp only at hP
  cases ch' with
  | false=>
   obtain ⟨g1,g2,_⟩:=hP.same rfl
   subst g1
   exact Tot.pure ⟨0,by omega,cur',rfl,hC,hA,.inr ⟨rfl,rfl,λ j q hq=>g2 j q (Ap hq) hq⟩⟩
  | true=>
   have:=hP.less rfl
   exact Tot.pure ⟨phi 20000000 cur'+1,by omega,cur',rfl,hP.col,hP.all,.inl ⟨rfl,rfl⟩⟩
 ·refine Tot.iteF rfl (Tot.pure ?_)
  show spl l lo cur=spl l lo (A4 t (s.drop i))
  congr 1
  refine List.ext_getElem? λ j=>?_
  rcases Nat.lt_or_ge j (Aa t).length with hj|hj
  ·have hq:(Aa t)[j]? = some (Aa t)[j]:=List.getElem?_eq_getElem hj
   rw [hC.exact (Jdx hT) ⟨λ j q k hjq hst hp y hy hc=>?_⟩ ⟨λ j q k hjq hst hp=>?_⟩ hq]
   ·unfold A4;rw [List.getElem?_map,hq];rfl
   ·have hk:=DP hst
    obtain ⟨m,hm,hmg⟩:=Du (GN hT (List.mem_of_getElem? hjq) hst)
    have:=hA j q hjq _ (Qd.2 ⟨k,by omega,hst,rfl⟩) hp y hy (AH t q k).1 (by rw [hm];simpa using hmg) hc
    simpa using this
   ·have hk:=DP hst
    obtain ⟨m,hm,hmg⟩:=Du (GN hT (List.mem_of_getElem? hjq) hst)
    obtain ⟨w,hw⟩:=hC.get (Ap hmg)
    refine ⟨m,w,hmg,hw,λ h0=>?_⟩
    exact hR j q hjq _ (Qd.2 ⟨k,by omega,hst,rfl⟩) hp w (by rw [hm];simpa using hw) h0
  ·rw [List.getElem?_eq_none (by rw [hC.len];exact hj),List.getElem?_eq_none (by simp [A4];exact hj)]
omit hT hs in
theorem Jfh {l cur:List Int} {lo:Nat} (hlo:lo+cur.length≤l.length) (hl:cur.length<1000000):Tot (λ n=>whl (λ (x:(Int×Int))=>CD n (lo,cur.length) (spl l lo cur) x.1 x.2) n (-1,0)) (λ y=>y=Bw cur):=by
 refine Tot.upto (body:=λ n x=>CD n (lo,cur.length) (spl l lo cur) x.1 x.2) cur.length (λ k x=>x.2=(k:Int)∧x.1=(cur.take k).foldl Fk (-1)) ?_ ?_ _ ⟨rfl,rfl⟩
 ·rintro k ⟨a,k'⟩ hk ⟨e1,e2⟩
  simp only at e1 e2
  subst e1
  have hJ:∀ b,b=Fk a cur[k]->Tot (λ n=>C6 n (k:Int) b) (Rd2 (λ x:Int×Int=>x.2=((k+1:Nat):Int)∧x.1=(cur.take (k+1)).foldl Fk (-1)) (λ y=>y=Bw cur)):=by
   intro b hb
   unfold C6
   exact Tot.pure ⟨CH (by omega),by rw [Uq hk,← e2];exact hb⟩
  unfold CD
  refine Tot.iteT (Ha hk) (Tot.bindC (Jn hk (v:=cur[k]) (by rw [E0 hlo hk];exact List.getElem?_eq_getElem hk)) (Tot.ite (λ h=>hJ _ ?_) λ h=>hJ _ ?_))
  ·simp only [Bool.and_eq_true,Bool.or_eq_true,decide_eq_true_eq] at h
   unfold Fk;rw [if_pos ⟨h.1,h.2⟩]
  ·unfold Fk
   rw [if_neg]
   intro hc
   rw [← Bool.not_eq_true] at h
   refine h ?_
   simp only [Bool.and_eq_true,Bool.or_eq_true,decide_eq_true_eq]
   exact ⟨hc.1,hc.2⟩
 ·rintro ⟨a,k'⟩ ⟨e1,e2⟩
  simp only at e1 e2
  subst e1
  rw [List.take_length] at e2
  unfold CD
  exact Tot.iteF (by simp) (Tot.pure e2)
omit hT hs in
theorem Jfi {l cur:List Int} {lo:Nat} (hlo:lo+cur.length≤l.length) (hl:cur.length<1000000) (hb:∀ v∈cur,-1≤v∧v≤13000000):Tot (λ n=>whl (λ (x:((List Int)×Int))=>CE n (lo,cur.length) (Bw cur) x.1 x.2) n (spl l lo cur,0)) (λ y=>y=spl l lo (CC cur)):=by
 have hlr:=Qc (by decide) hb
 refine Tot.upto (body:=λ n x=>CE n (lo,cur.length) (Bw cur) x.1 x.2) cur.length (λ k x=>x.2=(k:Int)∧x.1=spl l lo ((CC cur).take k++cur.drop k)) ?_ ?_ _ ⟨rfl,by simp⟩
 ·rintro k ⟨c,k'⟩ hk ⟨e1,e2⟩
  simp only at e1 e2
  subst e1 e2
  have hnl:(CC cur).length=cur.length:=by simp [CC]
  have hml:((CC cur).take k++cur.drop k).length=cur.length:=by simp;omega
  have hlm:lo+((CC cur).take k++cur.drop k).length≤l.length:=by omega
  have htk:((CC cur).take k).length=k:=by simp;omega
  have hg:((CC cur).take k++cur.drop k)[k]? = some cur[k]:=by
   rw [List.getElem?_append_right (by omega),htk,List.getElem?_drop,Nat.sub_self,Nat.add_zero]
   exact List.getElem?_eq_getElem hk
  have hbk:=hb _ (List.getElem_mem hk)
  have hn:(CC cur)[k]? = some (if cur[k]<0 then -1 else cur[k]-Bw cur):=by rw [CC,List.getElem?_map,List.getElem?_eq_getElem hk];rfl
  have hset:∀ v,(CC cur)[k]? = some v->((CC cur).take k++cur.drop k).set k v=(CC cur).take (k+1)++cur.drop (k+1):=by
   intro v hv
   refine List.ext_getElem? λ j=>?_
   by_cases e:k=j
   ·subst e
    rw [List.getElem?_set_self (by omega),List.getElem?_append_left (by simp;omega),List.getElem?_take_of_lt (by omega),hv]
   ·rw [List.getElem?_set_ne e]
    by_cases hj:j<k
    ·rw [List.getElem?_append_left (by omega),List.getElem?_append_left (by simp;omega),List.getElem?_take_of_lt hj,List.getElem?_take_of_lt (by omega)]
    ·have:((CC cur).take (k+1)).length=k+1:=by simp;omega
     rw [List.getElem?_append_right (by omega),List.getElem?_append_right (by omega),List.getElem?_drop,List.getElem?_drop]
     congr 1;omega
  have hJ:∀ c',c'=spl l lo ((CC cur).take (k+1)++cur.drop (k+1))->Tot (λ n=>C7 n (k:Int) c') (Rd2 (λ x:List Int×Int=>x.2=((k+1:Nat):Int)∧x.1=spl l lo ((CC cur).take (k+1)++cur.drop (k+1))) (λ y=>y=spl l lo (CC cur))):=by
   intro c' hc'
   unfold C7
   exact Tot.pure ⟨CH (by omega),hc'⟩
  have hix:ixP (spl l lo ((CC cur).take k++cur.drop k)) (lo,cur.length) (k:Int)=some cur[k]:=Jn hk (by rw [E0 hlm (by omega)];exact hg)
  unfold CE
  refine Tot.iteT (Ha hk) (Tot.bindC hix (Tot.ite (λ h=>?_) λ h=>hJ _ ?_))
  ·have h0:0≤cur[k]:=by simpa using h
   have hle:=Qb (List.getElem_mem hk) h0
   refine Tot.bindC hix ?_
   rw [Int.toNat_natCast]
   refine Tot.bindC (F4 (by rw [Ia hlm];omega)) (hJ _ ?_)
   rw [Mr hlm (by omega),NB (by omega) (by omega),hset _ (by rw [hn,if_neg (by omega)])]
  ·have h0:cur[k]<0:=by simpa using h
   rw [← hset (-1) (by rw [hn,if_pos h0])]
   refine congrArg (spl l lo) ?_
   refine List.ext_getElem? λ j=>?_
   by_cases e:k=j
   ·subst e
    rw [List.getElem?_set_self (by omega),hg]
    congr 1;omega
   ·rw [List.getElem?_set_ne e]
 ·rintro ⟨c,k'⟩ ⟨e1,e2⟩
  simp only at e1 e2
  subst e1 e2
  unfold CE
  refine Tot.iteF (by simp) (Tot.pure ?_)
  show spl l lo _=_
  rw [List.drop_length,List.append_nil,List.take_of_length_le (by simp [CC])]
theorem Ji1 {i:Nat} (hi:i≤s.length) {l ls:List Int} (hL:Lat t s i l ls) :
  Ev (λ n=>BE n (i:Int) s (BF t) (Hf (Aa t).length (s.length+1)) ls l) (spl l (i*(Aa t).length) (CC (A4 t (s.drop i))),Bw (A4 t (s.drop i))):=by
 have hlen:=H9 hT
 have hlo0:i*(Aa t).length+(Aa t).length≤l.length:=by rw [hL.len];exact I5 (by omega)
 have hr:=Ri hT hs hi
 refine Tot.ev ?_
 unfold BE
 refine Tot.bindC (S7 (by omega)) ?_
 have hcut:=JdL hlo0
 have hcl:((l.drop (i*(Aa t).length)).take (Aa t).length).length=(Aa t).length:=by simp;omega
 have h1:=Jfb hT hs hi (l:=l) (cur0:=(l.drop (i*(Aa t).length)).take (Aa t).length) hcl (by omega) (Hf (Aa t).length (s.length+1)) ls
 rw [hcut] at h1
 refine Tot.bind h1 ?_
 rintro _ rfl
 refine Tot.bind (Jfd hT hs hi hL (Ul t _ _ _)) ?_
 rintro _ ⟨cur,rfl,hC,hA⟩
 refine Tot.bind (Jfg hT hs hlo0 hC hA s _ ls) ?_
 rintro _ rfl
 refine Tot.bind (R:=λ y=>y=(spl l (i*(Aa t).length) (CC (A4 t (s.drop i))),Bw (A4 t (s.drop i)))) ?_ (λ y hy=>by subst hy;exact Tot.pure rfl)
 have hlr:i*(Aa t).length+(A4 t (s.drop i)).length≤l.length:=by omega
 have r1:=Jfh hlr (by omega)
 have r2:=Jfi hlr (by omega) (λ v hv=>VC hT hs hi hv)
 rw [hr.1] at r1 r2
 unfold HR
 refine Tot.bind r1 ?_
 rintro _ rfl
 refine Tot.bind r2 ?_
 rintro _ rfl
 exact Tot.pure rfl
end
end Go.AI
end
section
namespace Go.AI
structure Ck (t:Ad) (s:List UInt8) (P:Nat->Prop) (l ls:List Int):Prop where
 len:l.length=(Aa t).length*(s.length+1)
 ll:ls.length=s.length+1
 col:∀ p,P p->p≤s.length->(l.drop (p*(Aa t).length)).take (Aa t).length=CC (A4 t (s.drop p))
 lst:∀ p,P p->p≤s.length->ls[p]? = some (Bw (A4 t (s.drop p)))
theorem Ck.mono {t:Ad} {s:List UInt8} {P R:Nat->Prop} {l ls:List Int} (h:Ck t s P l ls) (hr:∀ p,p≤s.length->R p->P p):Ck t s R l ls:=⟨h.len,h.ll,λ p hp hl=>h.col p (hr p hl hp) hl,λ p hp hl=>h.lst p (hr p hl hp) hl⟩
theorem Ck.lat {t:Ad} {s:List UInt8} {i:Nat} {P:Nat->Prop} {l ls:List Int} (h:Ck t s P l ls) (hr:∀ p,p≤s.length->i<p->P p):Lat t s i l ls:=⟨h.len,h.ll,λ p h1 h2=>h.col p (hr p h2 h1) h2,λ p h1 h2=>h.lst p (hr p h2 h1) h2⟩
section
variable {t:Ad} (hT:F6 t) {s:List UInt8} (hs:s.length≤4000)
theorem MO (t:Ad) (x:List UInt8):(CC (A4 t x)).length=(Aa t).length:=by simp [CC,A4]
theorem Ck.set {P:Nat->Prop} {l ls:List Int} (h:Ck t s P l ls) {i:Nat} (hi:i≤s.length):Ck t s (λ p=>P p∨p=i) (spl l (i*(Aa t).length) (CC (A4 t (s.drop i)))) (ls.set i (Bw (A4 t (s.drop i)))):=by
 have hnl:=MO t (s.drop i)
 have hlo0:i*(Aa t).length+(CC (A4 t (s.drop i))).length≤l.length:=by rw [h.len,hnl];exact I5 (by omega)
 have hll:=h.ll
 refine ⟨by rw [Ia hlo0];exact h.len,by rw [List.length_set];exact h.ll,λ p h1 h2=>?_,λ p h1 h2=>?_⟩
 ·by_cases e:p=i
  ·subst e
   have:=Jaj hlo0
   rwa [hnl] at this
  ·rw [Yn hlo0]
   ·exact h.col p (h1.resolve_right e) h2
   ·rw [hnl]
    rcases Nat.lt_or_gt_of_ne e with e|e
    ·exact .inl (VD e)
    ·exact .inr (VD e)
 ·by_cases e:i=p
  ·subst e
   exact List.getElem?_set_self (by omega)
  ·rw [List.getElem?_set_ne e]
   exact h.lst p (h1.resolve_right λ h=>e h.symm) h2
theorem Ck.memo {P:Nat->Prop} {l ls:List Int} (h:Ck t s P l ls) (hp:∀ p,p≤s.length->P p):ZF l (Hf (Aa t).length (s.length+1))=some ()∧(⟨s,Pz l (Hf (Aa t).length (s.length+1)),ls⟩:Bj)=Cn t s:=by
 constructor
 ·unfold ZF Bm
  rw [if_pos]
  rw [List.all_eq_true]
  intro x hx
  simp only [Hf,List.mem_map,List.mem_range] at hx
  obtain ⟨i,hi,rfl⟩:=hx
  rw [decide_eq_true_eq,h.len]
  exact I5 hi
 ·unfold Cn Pz Hf
  rw [List.map_map]
  congr 1
  ·refine List.map_congr_left λ i hi=>?_
   have:=List.mem_range.1 hi
   exact h.col i (hp i (by omega)) (by omega)
  ·refine List.ext_getElem? λ j=>?_
   rw [List.getElem?_map]
   rcases Nat.lt_or_ge j (s.length+1) with hj|hj
   ·rw [h.lst j (hp j (by omega)) (by omega),List.getElem?_range hj];rfl
   ·rw [List.getElem?_eq_none (by rw [h.ll];exact hj),List.getElem?_eq_none (by simpa using hj)];rfl
include hT hs
theorem JdM:Ev (λ n=>B7 n s (BF t)) (Hf (Aa t).length (s.length+1),List.replicate (s.length+1) 0,List.replicate ((Aa t).length*(s.length+1)) 0):=by
 have hlen:=H9 hT
 have hgl:(BF t).Arcs.length=(Aa t).length:=by simp [BF]
 have hmul:(Aa t).length*(s.length+1)≤768*4001:=Nat.mul_le_mul hlen (by omega)
 refine Tot.ev ?_
 unfold B7
 have e1:Au .i64 ((List.length s:Nat):Int) 1=((s.length+1:Nat):Int):=CH (by omega)
 rw [e1,hgl]
 have e2:Kb .i64 (((Aa t).length:Nat):Int) ((s.length+1:Nat):Int)=(((Aa t).length*(s.length+1):Nat):Int):=by
  have:(((Aa t).length:Nat):Int)*((s.length+1:Nat):Int)=(((Aa t).length*(s.length+1):Nat):Int):=by push_cast;rfl
  unfold Kb;rw [this];exact w64 (by omega) (by omega)
 rw [e2]
 refine Tot.bindC (SX (by omega) (by omega)) (Tot.bindC (SX (by omega) (by omega)) (Tot.bindC (SX (by omega) (by omega)) ?_))
 simp only [Int.toNat_natCast,List.length_replicate]
 refine Tot.bind (R:=λ y=>y=Hf (Aa t).length (s.length+1)) ?_ (λ y hy=>by subst hy;exact Tot.pure rfl)
 refine Tot.upto (body:=λ n x=>BD n s (BF t) _ _ x.1 x.2) (s.length+1) (λ k x=>x.2=(k:Int)∧x.1.length=s.length+1∧∀ j,j<k->x.1[j]? = some (j*(Aa t).length,(Aa t).length)) ?_ ?_ _ ⟨rfl,by simp,by omega⟩
 ·rintro k ⟨m,k'⟩ hk ⟨e3,h1,h2⟩
  simp only at e3 h1 h2
  subst e3
  unfold BD
  rw [e1,hgl]
  have hk1:(k+1)*(Aa t).length≤4001*768:=Nat.mul_le_mul (by omega) hlen
  have hk0:(k+1)*(Aa t).length=k*(Aa t).length+(Aa t).length:=by rw [Nat.add_mul,Nat.one_mul]
  have hle:=I5 (S:=(Aa t).length) hk
  have i1:Au .i64 (k:Int) 1=((k+1:Nat):Int):=CH (by omega)
  have i2:Kb .i64 (k:Int) (((Aa t).length:Nat):Int)=((k*(Aa t).length:Nat):Int):=by
   have:(k:Int)*(((Aa t).length:Nat):Int)=((k*(Aa t).length:Nat):Int):=by push_cast;rfl
   unfold Kb;rw [this];exact w64 (by omega) (by omega)
  have i3:Kb .i64 ((k+1:Nat):Int) (((Aa t).length:Nat):Int)=(((k+1)*(Aa t).length:Nat):Int):=by
   have:((k+1:Nat):Int)*(((Aa t).length:Nat):Int)=(((k+1)*(Aa t).length:Nat):Int):=by push_cast;rfl
   unfold Kb;rw [this];exact w64 (by omega) (by omega)
  rw [i1,i2,i3,List.length_replicate]
  have hcut:Jbq ((Aa t).length*(s.length+1)) ((k*(Aa t).length:Nat):Int) (((k+1)*(Aa t).length:Nat):Int) (((k+1)*(Aa t).length:Nat):Int)=some ():=by
   unfold Jbq Bm
   rw [if_pos]
   simp only [Bool.and_eq_true,decide_eq_true_eq]
   omega
  refine Tot.iteT (Ha hk) (Tot.bindC hcut (Tot.bindC (Fg (show k<m.length by omega)) (Tot.bindC (F4 (show k<m.length by omega)) (Tot.pure ⟨rfl,by simp only [List.length_set];exact h1,λ j hj=>?_⟩))))
  by_cases e:k=j
  ·subst e
   rw [List.getElem?_set_self (show k<m.length by omega)]
   simp only [Int.toNat_natCast,Nat.zero_add]
   congr 2;omega
  ·rw [List.getElem?_set_ne e];exact h2 j (by omega)
 ·rintro ⟨m,k'⟩ ⟨e3,h1,h2⟩
  simp only at e3 h1 h2
  subst e3
  unfold BD
  rw [e1]
  refine Tot.iteF (by simp) (Tot.pure (List.ext_getElem? λ j=>?_))
  rcases Nat.lt_or_ge j (s.length+1) with hj|hj
  ·rw [h2 j hj];simp [Hf,hj]
  ·rw [List.getElem?_eq_none (show m.length≤j by omega),List.getElem?_eq_none (by simpa [Hf] using hj)]
omit hT hs in
theorem Yp (t:Ad) (s:List UInt8):Ck t s (λ _=>False) (List.replicate ((Aa t).length*(s.length+1)) 0) (List.replicate (s.length+1) 0):=⟨by simp,by simp,λ _ h=>h.elim,λ _ h=>h.elim⟩
end
end Go.AI
end
section
namespace Go.AI
def Sh (t:Ad) (d:Int) (x x':List UInt8):Prop:=∀ q∈Aa t,(AR t q x<0∧AR t q x'<0)∨(0≤AR t q x∧0≤AR t q x'∧AR t q x'=AR t q x+d)
def EqC (t:Ad) (d:Int) (x x':List UInt8):Prop:=CC (A4 t x)=CC (A4 t x')∧(0≤Bw (A4 t x)->Bw (A4 t x')-Bw (A4 t x)=d)
theorem Ji2 {t:Ad} {x:List UInt8} {j:Nat} {q:Ab} (hq:(Aa t)[j]? = some q):(A4 t x)[j]? = some (AR t q x):=by unfold A4;rw [List.getElem?_map,hq];rfl
theorem MP {t:Ad} {x:List UInt8} {v:Int}:v∈A4 t x↔∃ q∈Aa t,v=AR t q x:=by
 unfold A4
 rw [List.mem_map]
 constructor
 ·rintro ⟨q,h,rfl⟩;exact ⟨q,h,rfl⟩
 ·rintro ⟨q,h,rfl⟩;exact ⟨q,h,rfl⟩
theorem KP {t:Ad} (x:List UInt8):(Bw (A4 t x)=-1∧∀ q∈Aa t,AR t q x<0)∨(0≤Bw (A4 t x)∧(∃ q∈Aa t,Bw (A4 t x)=AR t q x)∧∀ q∈Aa t,0≤AR t q x->Bw (A4 t x)≤AR t q x):=by
 by_cases h:∃ q∈Aa t,0≤AR t q x
 ·obtain ⟨q,hq,h0⟩:=h
  have h1:=Qb (MP.2 ⟨q,hq,rfl⟩) h0
  refine .inr ⟨h1.1,?_,λ q' hq' h0'=>(Qb (MP.2 ⟨q',hq',rfl⟩) h0').2⟩
  rcases Yl (A4 t x) with h2|h2
  ·omega
  ·exact MP.1 h2
 ·have hn:∀ q∈Aa t,AR t q x<0:=λ q hq=>Int.not_le.1 λ h0=>h ⟨q,hq,h0⟩
  refine .inl ⟨?_,hn⟩
  rcases Yl (A4 t x) with h2|h2
  ·exact h2
  ·obtain ⟨q,hq,e⟩:=MP.1 h2
   have:=hn q hq
   have:=Xb t q x
   omega
theorem VF {t:Ad} {x:List UInt8} {j:Nat} {q:Ab} (hq:(Aa t)[j]? = some q):(CC (A4 t x))[j]? = some (if AR t q x<0 then -1 else AR t q x-Bw (A4 t x)):=by
 rw [CC,List.getElem?_map,Ji2 hq];rfl
theorem EqC.sh {t:Ad} {d:Int} {x x':List UInt8} (h:EqC t d x x'):Sh t d x x':=by
 intro q hq
 obtain ⟨j,hj,e⟩:=List.getElem_of_mem hq
 have hg:(Aa t)[j]? = some q:=by rw [List.getElem?_eq_getElem hj,e]
 have he:=VF (x:=x) hg
 rw [h.1,VF hg] at he
 simp only [Option.some.injEq] at he
 have g:=h.2
 rcases KP (t:=t) x with ⟨a1,a2⟩|⟨a1,_,a3⟩
 ·have b1:=a2 q hq
  rcases KP (t:=t) x' with ⟨c1,c2⟩|⟨c1,_,c3⟩
  ·exact .inl ⟨b1,c2 q hq⟩
  ·refine .inl ⟨b1,Int.not_le.1 λ h0=>?_⟩
   have:=c3 q hq h0
   rw [if_neg (by omega),if_pos b1] at he
   omega
 ·rcases KP (t:=t) x' with ⟨c1,c2⟩|⟨c1,_,c3⟩
  ·have:=g a1;
   have b2:=c2 q hq
   refine .inl ⟨Int.not_le.1 λ h0=>?_,b2⟩
   have:=a3 q hq h0
   rw [if_pos b2,if_neg (by omega)] at he
   omega
  ·have hd:=g a1
   by_cases h0:AR t q x<0
   ·refine .inl ⟨h0,Int.not_le.1 λ h1=>?_⟩
    have:=c3 q hq h1
    rw [if_neg (by omega),if_pos h0] at he
    omega
   ·by_cases h1:AR t q x'<0
    ·have:=a3 q hq (by omega)
     rw [if_pos h1,if_neg h0] at he
     omega
    ·rw [if_neg h1,if_neg h0] at he
     exact .inr ⟨by omega,by omega,by omega⟩
theorem Sh.lst {t:Ad} {d:Int} {x x':List UInt8} (h:Sh t d x x'):Bw (A4 t x')=if Bw (A4 t x)<0 then -1 else Bw (A4 t x)+d:=by
 rcases KP (t:=t) x with ⟨a1,a2⟩|⟨a1,⟨q,hq,e⟩,a3⟩
 ·rw [if_pos (by omega)]
  rcases KP (t:=t) x' with ⟨c1,c2⟩|⟨c1,⟨q',hq',e'⟩,c3⟩
  ·exact c1
  ·rcases h q' hq' with h1|h1
   ·omega
   ·have:=a2 q' hq';omega
 ·rw [if_neg (by omega)]
  have hh:=h q hq
  rcases KP (t:=t) x' with ⟨c1,c2⟩|⟨c1,⟨q',hq',e'⟩,c3⟩
  ·have:=c2 q hq;omega
  ·have g1:=c3 q hq (by omega)
   have g2:=h q' hq'
   have g3:=a3 q' hq' (by omega)
   omega
theorem Sh.eqc {t:Ad} {d:Int} {x x':List UInt8} (h:Sh t d x x'):EqC t d x x':=by
 have hl:=h.lst
 refine ⟨List.ext_getElem? λ j=>?_,λ h0=>by rw [hl,if_neg (by omega)];omega⟩
 rcases Nat.lt_or_ge j (Aa t).length with hj|hj
 ·have hg:=List.getElem?_eq_getElem hj
  rw [VF hg,VF hg]
  congr 1
  rcases h _ (List.getElem_mem hj) with ⟨h1,h2⟩|⟨h1,h2,h3⟩
  ·rw [if_pos h1,if_pos h2]
  ·rw [if_neg (by omega),if_neg (by omega)]
   have:=(Qb (MP.2 ⟨_,List.getElem_mem hj,rfl⟩) h1).1
   rw [hl,if_neg (by omega)]
   omega
 ·rw [List.getElem?_eq_none (by rw [MO];exact hj),List.getElem?_eq_none (by rw [MO];exact hj)]
section
variable {t:Ad} (hT:F6 t)
include hT
theorem JdN {d:Int} {x x':List UInt8} (h3:3≤x.length) (ht:x.take 3=x'.take 3) (hS:∀ k,1≤k->k≤3->∀ q∈Aa t,0≤AR t q (x.drop k)->0≤AR t q (x'.drop k)∧AR t q (x'.drop k)≤AR t q (x.drop k)+d) :
  ∀ (p:List Int) (q:Ab),q∈Aa t->Way t q x p->∃ p',Way t q x' p'∧((Fi t p':Nat):Int)≤(Fi t p:Nat)+d:=by
 intro p
 induction p with
 | nil=>intro q _ h;have:=h.nil.1;subst this;simp at h3
 | cons k p ih=>
  intro q hq h
  obtain ⟨h1,y,h2,hw⟩:=h.uncons
  rw [FI]
  obtain ⟨n,rfl⟩:∃ n:Nat,k=n:=⟨k.toNat,by have:=DP h1;omega⟩
  have hq':=GN hT hq h1
  by_cases he:prt t n=[]
  ·rw [he,List.nil_append] at h2
   subst h2
   obtain ⟨p',g1,g2⟩:=ih _ hq' hw
   have:=g1.cons h1
   rw [he,List.nil_append] at this
   exact ⟨_,this,by rw [FI];omega⟩
  ·have hpl:=(hT.pr h1).1
   have hp0:0<(prt t n).length:=List.length_pos_iff.2 he
   have hy:y=x.drop (prt t n).length:=by rw [h2,List.drop_left]
   have hx':x'=prt t n++x'.drop (prt t n).length:=by
    have e1:x.take (prt t n).length=prt t n:=by rw [h2,List.take_left]
    have e2:x'.take (prt t n).length=x.take (prt t n).length:=by
     have:=congrArg (List.take (prt t n).length) ht
     rwa [List.take_take,List.take_take,Nat.min_eq_left hpl,eq_comm] at this
    have:=List.take_append_drop (prt t n).length x'
    rw [e2,e1] at this
    exact this.symm
   have hc:=Mo hw
   rw [hy] at hc
   have g:=hS _ hp0 hpl _ hq' hc.1
   obtain ⟨p',g1,g2⟩:=GD g.1
   have hn:=g1.cons h1
   rw [← hx'] at hn
   exact ⟨_,hn,by rw [FI];omega⟩
theorem Sh.step {d:Int} {x x':List UInt8} (h3:3≤x.length) (h3':3≤x'.length) (ht:x.take 3=x'.take 3) (hS:∀ k,1≤k->k≤3->Sh t d (x.drop k) (x'.drop k)):Sh t d x x':=by
 have f1:=JdN hT (d:=d) h3 ht λ k h1 h2 q hq h0=>by
  rcases hS k h1 h2 q hq with h|h<;>omega
 have f2:=JdN hT (d:=-d) h3' ht.symm λ k h1 h2 q hq h0=>by
  rcases hS k h1 h2 q hq with h|h<;>omega
 intro q hq
 by_cases h0:0≤AR t q x
 ·obtain ⟨p,hp,e⟩:=GD h0
  obtain ⟨p',hp',e'⟩:=f1 p q hq hp
  have g:=Mo hp'
  obtain ⟨p2,hp2,e2⟩:=GD g.1
  obtain ⟨p3,hp3,e3⟩:=f2 p2 q hq hp2
  have g3:=Mo hp3
  exact .inr ⟨h0,g.1,by omega⟩
 ·refine .inl ⟨by omega,Int.not_le.1 λ h1=>?_⟩
  obtain ⟨p,hp,e⟩:=GD h1
  obtain ⟨p',hp',e'⟩:=f2 p q hq hp
  have:=(Mo hp').1
  omega
theorem Sh.all {d:Int} {s s':List UInt8} {i a:Nat} (ha:i+3≤a) (hl:a≤s.length) (hl':a≤s'.length) (ht:s.take a=s'.take a) (hS:∀ j,i≤j->j≤i+2->Sh t d (s.drop j) (s'.drop j)):∀ m j,j+m=i->Sh t d (s.drop j) (s'.drop j):=by
 intro m
 induction m using Nat.strongRecOn with
 | _ m ih=>
  intro j hj
  rcases Nat.eq_zero_or_pos m with rfl|h0
  ·exact hS j (by omega) (by omega)
  ·refine Sh.step hT (by simp;omega) (by simp;omega) ?_ λ k h1 h2=>?_
   ·have:=congrArg (λ l=>(List.drop j l).take 3) ht
    simp only [List.drop_take,List.take_take] at this
    rwa [Nat.min_eq_left (by omega)] at this
   ·rw [List.drop_drop,List.drop_drop]
    by_cases hk:k≤m
    ·exact ih (m-k) (by omega) (j+k) (by omega)
    ·exact hS (j+k) (by omega) (by omega)
end
end Go.AI
end
section
namespace Go.AI
def Ar (s put:List UInt8) (a k:Nat):List UInt8:=s.take a++put++s.drop (a+k)
theorem Hc {s put:List UInt8} {a k:Nat} (h:a+k≤s.length):(Ar s put a k).length=s.length-k+put.length:=by
 simp [Ar];omega
theorem Pi {s put:List UInt8} {a k:Nat} (h:a+k≤s.length) {i:Nat} (hi:a+put.length≤i):(Ar s put a k).drop i=s.drop (i-put.length+k):=by
 unfold Ar
 have e:(s.take a++put).length=a+put.length:=by simp;omega
 rw [List.drop_append,List.drop_eq_nil_of_le (by omega),List.nil_append,e,List.drop_drop]
 congr 1;omega
theorem Pj {s put:List UInt8} {a k:Nat} (h:a+k≤s.length):(Ar s put a k).take a=s.take a:=by
 unfold Ar
 rw [List.append_assoc,List.take_append_of_le_length (by simp;omega),List.take_take,Nat.min_self]
theorem VG (s:List UInt8) (a:Nat):Ar s [] a 0=s:=by
 unfold Ar
 rw [List.append_nil,Nat.add_zero,List.take_append_drop]
def Pk (t:Ad) (s s':List UInt8) (a i:Nat):Prop:=i+3≤a∧∃ d,∀ j,i≤j->j≤i+3->EqC t d (s.drop j) (s'.drop j)
def S8 (t:Ad) (s s':List UInt8) (a b r:Nat):Prop:=r≤b∧(∀ j,r<j->j<b->¬Pk t s s' a j)∧(r=0∨Pk t s s' a r)
theorem S8.uniq {t:Ad} {s s':List UInt8} {a b r r':Nat} (hab:a≤b) (h:S8 t s s' a b r) (h':S8 t s s' a b r'):r=r':=by
 obtain ⟨h1,h2,h3⟩:=h
 obtain ⟨g1,g2,g3⟩:=h'
 rcases Nat.lt_trichotomy r r' with h|h|h
 ·rcases g3 with g3|g3
  ·omega
  ·exact absurd g3 (h2 r' h (by have:=g3.1;omega))
 ·exact h
 ·rcases h3 with h3|h3
  ·omega
  ·exact absurd h3 (g2 r h (by have:=h3.1;omega))
theorem Jfj {t:Ad} {x x':List UInt8} (h:CC (A4 t x)=CC (A4 t x')):Bw (A4 t x)<0↔Bw (A4 t x')<0:=by
 have key:∀ {x x':List UInt8},CC (A4 t x)=CC (A4 t x')->Bw (A4 t x')<0->Bw (A4 t x)<0:=by
  intro x x' h hn
  refine Int.not_le.1 λ h0=>?_
  have hS:Sh t (Bw (A4 t x')-Bw (A4 t x)) x x':=EqC.sh ⟨h,λ _=>rfl⟩
  rcases KP (t:=t) x with ⟨a1,_⟩|⟨_,⟨q,hq,e⟩,_⟩
  ·omega
  ·rcases hS q hq with h1|h1
   ·omega
   ·have:=(Qb (MP.2 ⟨q,hq,rfl⟩) h1.2.1).1
    omega
 exact ⟨key h.symm,key h⟩
section
variable {t:Ad} (hT:F6 t)
include hT
theorem Ji3 {a l:List Int} {lo S:Nat} (h:lo+S≤l.length) (ha:a.length<1000000) (hS:S<1000000):Ev (λ n=>B8 n a (lo,S) l) (decide (a=(l.drop lo).take S)):=by
 have _:=hT
 have hl:((l.drop lo).take S).length=S:=by simp;omega
 refine Tot.ev ?_
 unfold B8
 by_cases he:a.length=S
 ·refine Tot.iteF (by simp [he]) (Tot.bind (R:=λ y:Unit⊕Bool=>(y=.inl ()∧a=(l.drop lo).take S)∨(y=.inr false∧a≠(l.drop lo).take S)) ?_ ?_)
  ·refine Tot.upto (body:=λ n x=>Bs n a (lo,S) l x) a.length (λ k x=>x=(k:Int)∧a.take k=((l.drop lo).take S).take k) ?_ ?_ _ ⟨rfl,rfl⟩
   ·rintro k _ hk ⟨rfl,e⟩
    have hkb:k<((l.drop lo).take S).length:=by omega
    have hg:l[lo+k]? = some ((l.drop lo).take S)[k]:=by
     rw [← List.getElem?_eq_getElem hkb,List.getElem?_take_of_lt (by omega),List.getElem?_drop]
    unfold Bs
    refine Tot.iteT (Ha hk) (Tot.bindC (Fg hk) (Tot.bindC (Jn (by omega) hg) (Tot.ite (λ h=>?_) λ h=>?_)))
    ·refine Tot.pure (.inr ⟨rfl,λ he=>?_⟩)
     have h1:a[k]≠((l.drop lo).take S)[k]:=by simpa using h
     have h2:a[k]? = ((l.drop lo).take S)[k]? := by rw [← he]
     rw [List.getElem?_eq_getElem hk,List.getElem?_eq_getElem hkb] at h2
     exact h1 (Option.some.inj h2)
    ·refine Tot.pure ⟨CH (by omega),?_⟩
     have h1:a[k]=((l.drop lo).take S)[k]:=by simpa using h
     rw [List.take_add_one,List.take_add_one (l:=(l.drop lo).take S),e,List.getElem?_eq_getElem hk,List.getElem?_eq_getElem hkb,h1]
   ·rintro _ ⟨rfl,e⟩
    unfold Bs
    refine Tot.iteF (by simp) (Tot.pure (.inl ⟨rfl,?_⟩))
    rw [List.take_length,he] at e
    rwa [List.take_of_length_le (by omega)] at e
  ·rintro y (⟨rfl,h⟩|⟨rfl,h⟩)
   ·exact Tot.pure (decide_eq_true h).symm
   ·exact Tot.pure (decide_eq_false h).symm
 ·refine Tot.iteT (by simp;omega) (Tot.pure (decide_eq_false λ h=>he ?_).symm)
  rw [h,hl]
variable {s:List UInt8} (hs:s.length≤4000) {s':List UInt8} (hs':s'.length≤4000)
include hs
theorem Rj {i:Nat} (hi:i≤s.length):-1≤Bw (A4 t (s.drop i))∧Bw (A4 t (s.drop i))≤13000000:=Qc (by decide) λ _ hv=>VC hT hs hi hv
omit hT hs in
theorem Rk {i:Nat} (hi:i≤s.length):idx (Cn t s).Costs (i:Int)=some (CC (A4 t (s.drop i)))∧idx (Cn t s).Least (i:Int)=some (Bw (A4 t (s.drop i))):=⟨Eg (by simp only [Cn,List.getElem?_map];rw [List.getElem?_range (by omega)];rfl),Eg (by simp only [Cn,List.getElem?_map];rw [List.getElem?_range (by omega)];rfl)⟩
omit hs in
theorem Ji4 (hl:s.length≤4000):Ev (λ n=>Dq n (Cn t s) (BF t)) true:=by
 have hlen:=H9 hT
 have hgl:(BF t).Arcs.length=(Aa t).length:=by simp [BF]
 have e1:Au .i64 ((List.length s:Nat):Int) 1=((s.length+1:Nat):Int):=CH (by omega)
 have c1:(Cn t s).Costs.length=s.length+1:=by simp [Cn]
 have c2:(Cn t s).Least.length=s.length+1:=by simp [Cn]
 have c3:(Cn t s).Text=s:=rfl
 refine Tot.ev ?_
 unfold Dq
 rw [c1,c2,c3,e1]
 refine Tot.iteF (by simp) (Tot.bind (R:=λ y:Unit⊕Bool=>y=.inl ()) ?_ (λ y hy=>by subst hy;exact Tot.pure rfl))
 refine Tot.upto (body:=λ n x=>BV n (Cn t s) (BF t) x) (s.length+1) (λ k x=>x=(k:Int)) ?_ ?_ _ rfl
 ·rintro k _ hk rfl
  unfold BV
  rw [c1]
  refine Tot.iteT (Ha hk) (Tot.bindC (Rk (t:=t) (s:=s) (show k≤s.length by omega)).1 (Tot.iteF ?_ (Tot.pure (CH (by omega)))))
  rw [MO,hgl];simp
 ·rintro _ rfl
  unfold BV
  rw [c1]
  exact Tot.iteF (by simp) (Tot.pure rfl)
include hs'
theorem Yq {a i:Nat} (ha:i+3≤a) (h1:a≤s.length) (h2:a≤s'.length) {l ls:List Int} (hC:Ck t s' (λ p=>i≤p) l ls) (x0:List UInt8) :
  Tot (λ n=>Ep n (Cn t s) x0 (i:Int) (Hf (Aa t).length (s'.length+1)) ls l) (λ y=>(y.2=true∧∀ j,i≤j->j≤i+3->EqC t y.1 (s.drop j) (s'.drop j))∨(y.2=false∧¬Pk t s s' a i)):=by
 have hlen:=H9 hT
 unfold Ep
 refine Tot.bind (R:=λ y:Int⊕(Int×Bool)=>(∃ d,y=.inl d∧∀ j,i≤j->j≤i+3->EqC t d (s.drop j) (s'.drop j))∨(y=.inr (0,false)∧¬Pk t s s' a i)) ?_ ?_
 ·have e3:Au .i64 (i:Int) 3=((i+3:Nat):Int):=by rw [FG (by omega) (by omega)];omega
  refine Tot.upto (body:=λ n x=>Cs n (Cn t s) x0 (i:Int) (Hf (Aa t).length (s'.length+1)) ls l x.1 x.2.1 x.2.2) 4 (λ m x=>x.2.2=((i+m:Nat):Int)∧(∀ j,i≤j->j<i+m->EqC t x.1 (s.drop j) (s'.drop j))∧(x.2.1=false->∀ j,i≤j->j<i+m->Bw (A4 t (s.drop j))<0)∧(x.2.1=true->∃ j,i≤j∧j<i+m∧0≤Bw (A4 t (s.drop j)))) ?_ ?_ _ ⟨rfl,by omega,by omega,λ h=>by cases h⟩
  ·rintro m ⟨sh,kn,j'⟩ hm ⟨e1,g1,g2,g3⟩
   simp only at e1 g1 g2 g3
   subst e1
   have hj1:i+m≤s.length:=by omega
   have hj2:i+m≤s'.length:=by omega
   obtain ⟨m1,m2⟩:=Rk (t:=t) hj1
   have hcol:=hC.col (i+m) (by omega) hj2
   have hlst:=Eg (hC.lst (i+m) (by omega) hj2)
   have hr1:=Rj hT hs hj1
   have hr2:=Rj hT hs' hj2
   have hlo:(i+m)*(Aa t).length+(Aa t).length≤l.length:=by rw [hC.len];exact I5 (by omega)
   unfold Cs
   rw [e3]
   refine Tot.iteT (by simp;omega) (Tot.bindC m1 (Tot.bindC (S7 (by omega)) (Tot.bindE (Ji3 hT hlo (by rw [MO];omega) (by omega)) ?_)))
   rw [hcol]
   by_cases he:CC (A4 t (s.drop (i+m)))=CC (A4 t (s'.drop (i+m)))
   ·rw [decide_eq_true he]
    have hneg:=Jfj he
    refine Tot.iteF rfl (Tot.bindC m2 ?_)
    have hJ:∀ sh' kn',EqC t sh' (s.drop (i+m)) (s'.drop (i+m))->(∀ j,i≤j->j<i+m->EqC t sh' (s.drop j) (s'.drop j))->(kn'=false->Bw (A4 t (s.drop (i+m)))<0∧kn=false)->(kn'=true->kn=true∨0≤Bw (A4 t (s.drop (i+m))))->Tot (λ n=>Cr n ((i+m:Nat):Int) sh' kn') (Rd2 (λ x:Int×Bool×Int=>x.2.2=((i+(m+1):Nat):Int)∧(∀ j,i≤j->j<i+(m+1)->EqC t x.1 (s.drop j) (s'.drop j))∧(x.2.1=false->∀ j,i≤j->j<i+(m+1)->Bw (A4 t (s.drop j))<0)∧(x.2.1=true->∃ j,i≤j∧j<i+(m+1)∧0≤Bw (A4 t (s.drop j)))) (λ y:Int⊕(Int×Bool)=>(∃ d,y=.inl d∧∀ j,i≤j->j≤i+3->EqC t d (s.drop j) (s'.drop j))∨(y=.inr (0,false)∧¬Pk t s s' a i))):=by
     intro sh' kn' h1 h2 h3 h4
     unfold Cr
     refine Tot.pure ⟨CH (by omega),λ j q1 q2=>?_,λ hk j q1 q2=>?_,λ hk=>?_⟩
     ·by_cases e:j=i+m
      ·rw [e];exact h1
      ·exact h2 j q1 (by omega)
     ·by_cases e:j=i+m
      ·rw [e];exact (h3 hk).1
      ·exact g2 (h3 hk).2 j q1 (by omega)
     ·rcases h4 hk with h|h
      ·obtain ⟨j,q1,q2,q3⟩:=g3 h
       exact ⟨j,q1,by omega,q3⟩
      ·exact ⟨i+m,by omega,by omega,h⟩
    by_cases h0:Bw (A4 t (s.drop (i+m)))<0
    ·have hn':=hneg.1 h0
     refine Tot.gF (by simp [h0]) (Tot.iteT (by simp [h0]) (hJ sh kn ⟨he,λ h=>by omega⟩ g1 (λ h=>⟨h0,h⟩) (λ h=>.inl h)))
    ·have hn':¬Bw (A4 t (s'.drop (i+m)))<0:=λ h=>h0 (hneg.2 h)
     refine Tot.gE (by simp;omega) (Ev.all λ _=>hlst) (Tot.iteF (by simp;omega) (Tot.bindC hlst (Tot.bindC m2 ?_)))
     rw [NB (by omega) (by omega)]
     by_cases hk:kn=true∧Bw (A4 t (s'.drop (i+m)))-Bw (A4 t (s.drop (i+m)))≠sh
     ·refine Tot.iteT (by simp [hk.1];exact hk.2) (Tot.pure (.inr ⟨rfl,?_⟩))
      rintro ⟨_,d,hd⟩
      obtain ⟨j,q1,q2,q3⟩:=g3 hk.1
      have w1:=(hd j q1 (by omega)).2 q3
      have w2:=(g1 j q1 q2).2 q3
      have w3:=(hd (i+m) (by omega) (by omega)).2 (by omega)
      exact hk.2 (by omega)
     ·refine Tot.iteF ?_ (hJ _ true ⟨he,λ _=>rfl⟩ (λ j q1 q2=>⟨(g1 j q1 q2).1,λ h=>?_⟩) (λ h=>by cases h) (λ _=>.inr (by omega)))
      ·cases kn with
       | false=>rfl
       | true=>
        have:Bw (A4 t (s'.drop (i+m)))-Bw (A4 t (s.drop (i+m)))=sh:=Decidable.byContradiction λ h=>hk ⟨rfl,h⟩
        simp [this]
      ·cases kn with
       | false=>have:=g2 rfl j q1 q2;omega
       | true=>
        have:Bw (A4 t (s'.drop (i+m)))-Bw (A4 t (s.drop (i+m)))=sh:=Decidable.byContradiction λ h=>hk ⟨rfl,h⟩
        rw [this]
        exact (g1 j q1 q2).2 h
   ·rw [decide_eq_false he]
    refine Tot.iteT rfl (Tot.pure (.inr ⟨rfl,?_⟩))
    rintro ⟨_,d,hd⟩
    exact he (hd (i+m) (by omega) (by omega)).1
  ·rintro ⟨sh,kn,j'⟩ ⟨e1,g1,g2,g3⟩
   simp only at e1 g1 g2 g3
   subst e1
   unfold Cs
   rw [e3]
   exact Tot.iteF (by simp) (Tot.pure (.inl ⟨sh,rfl,λ j q1 q2=>g1 j q1 (by omega)⟩))
 ·rintro y (⟨d,rfl,h⟩|⟨rfl,h⟩)
  ·exact Tot.pure (.inl ⟨rfl,h⟩)
  ·exact Tot.pure (.inr ⟨rfl,h⟩)
end
end Go.AI
end
