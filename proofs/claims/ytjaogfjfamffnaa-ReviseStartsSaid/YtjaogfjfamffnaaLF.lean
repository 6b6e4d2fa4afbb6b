/- The theorem: the last one of this text; part 6 of 6 of its proof. It holds with no condition beyond the given statement. -/
import Derived.Test.YtjaogfjfamffnaaLE
import Derived.ChangeArms
import Derived.WalkKit
import Derived.ProofKit
import Derived.OpenShut
import Derived.Carry
import Derived.WideKeyArgs
import Derived.ChangeSame
import Derived.KernelRfl
import Derived.Test.YtjaogfjfamffnaaRows
section
namespace Go.AI
def CRd (F:Nat->Option Obj) (l:List D) (cs:List Value):Prop:=l.length=cs.length∧∀ (i:Nat) (y:D) (v:Value),l[i]? = some y->cs[i]? = some v->Bq F y v
def HQ {α:Type} (P:Program) (t:TypeId) (enc:α->List D) (ok:α->Prop):Prop:=
 ∀ (H:Type) (e:TypeId×Value->H) (w:World) (base:Nat) (spare:Nat->Bool) (held:Bool) (fuel:Nat) (cs:List Value) (x:DataW H×List MemPlace),DataW.trod e P w base spare held fuel t cs=some x->∃ a:α,ok a∧CRd (λ b=>w.heap[b]?) (enc a) cs
theorem QS {F:Nat->Option Obj} {y:D} {v:Value} (h:Bq F y v):CRd F [y] [v]:=by
 refine ⟨rfl,λ i a b ha hb=>?_⟩
 cases i with
 | zero=>simp at ha hb;subst ha;subst hb;exact h
 | succ i=>simp at ha
theorem ZB {P:Program} {t:TypeId} {k:IntKind} (ht:P.underlying t=some (.int k)):HQ P t (λ n=>[.int k n]) (λ n=>(Lit.int k n).wf=true):=by
 intro H e w base spare held fuel cs x h
 obtain ⟨n,rfl,_,hw⟩:=DataW.trod_int ht h
 exact ⟨n,hw,QS (.int k n)⟩
theorem UU {P:Program} {t:TypeId} (ht:P.underlying t=some .string):HQ P t eS (λ _=>True):=by
 intro H e w base spare held fuel cs x h
 obtain ⟨s,rfl,_,_⟩:=DataW.trod_string ht h
 exact ⟨s.data.toList,trivial,QS (.str s.data.toList)⟩
theorem Wq {α:Type} {Q:Nat->α->Prop}:∀ n,(∀ i,i<n->∃ a,Q i a)->∃ l:List α,l.length=n∧∀ i a,l[i]? = some a->Q i a:=by
 intro n
 induction n with
 | zero=>intro _;exact ⟨[],rfl,λ i a h=>by simp at h⟩
 | succ n ih=>
  intro h
  obtain ⟨l,hl,hq⟩:=ih λ i hi=>h i (by omega)
  obtain ⟨a,ha⟩:=h n (by omega)
  refine ⟨l++[a],by simp [hl],λ i b hb=>?_⟩
  rcases Nat.lt_or_ge i l.length with hlt|hge
  ·rw [List.getElem?_append_left hlt] at hb;exact hq i b hb
  ·rw [List.getElem?_append_right hge] at hb
   have:i-l.length=0:=by have:=Ag hb;simp at this;omega
   rw [this] at hb
   simp at hb
   subst hb
   have:i=n:=by omega
   subst this
   exact ha
theorem Ws {α β:Type} {f:α->Option β}:∀ {l:List α} {r:List β},l.mapM f=some r->r.length=l.length∧∀ (i:Nat) (a:α),l[i]? = some a->r[i]? = f a:=by
 intro l
 induction l with
 | nil=>intro r h;simp at h;subst h;exact ⟨rfl,λ i a h=>by simp at h⟩
 | cons a l ih=>
  intro r h
  rw [List.mapM_cons] at h
  simp only [Option.bind_eq_bind,Option.bind_eq_some_iff,Option.pure_def,Option.some.injEq] at h
  obtain ⟨b,hb,r',hr',rfl⟩:=h
  obtain ⟨h1,h2⟩:=ih hr'
  refine ⟨by simp [h1],λ i x hx=>?_⟩
  cases i with
  | zero=>simp at hx;subst hx;simp [hb]
  | succ i=>simpa using h2 i x (by simpa using hx)
theorem Qi {α:Type} {P:Program} {t e:TypeId} {enc:α->List D} {ok:α->Prop} {sz:Nat} (ht:P.underlying t=some (.slice e)) (hsz:P.cellsOf e=sz) (h1:Nat.ble 1 sz=true) (hl:∀ a,(enc a).length=sz) (he:HQ P e enc ok):HQ P t (eL enc) (λ l=>∀ a∈l,ok a):=by
 intro H en w base spare held fuel cs x h
 have h1:=Nat.le_of_ble_eq_true h1
 rcases DataW.trod_slice ht h with ⟨rfl,_⟩|⟨a,len,cap,elems,rest,n,_,rfl,_,_,hcap,_,hel,hget,_,_⟩
 ·exact ⟨[],λ a h=>by simp at h,QS (.sl0 _ _)⟩
 ·rw [hsz] at hget
  have hex:∀ i,i<len->∃ y:α,ok y∧∃ ci,w.cells? base (a.add (i*sz)) sz=some ci∧CRd (λ b=>w.heap[b]?) (enc y) ci:=λ i hi=>by
   have hg:=hget i hi
   rw [List.getElem?_eq_getElem (show i<elems.length by omega)] at hg
   simp only [Option.bind_eq_some_iff] at hg
   obtain ⟨ci,hc,htr⟩:=hg
   obtain ⟨y,hy,hcr⟩:=he H en w base spare held n ci _ htr
   exact ⟨y,hy,ci,hc,hcr⟩
  obtain ⟨l,hll,hq⟩:=Wq len hex
  refine ⟨l,λ y hy=>?_,QS ?_⟩
  ·obtain ⟨i,hi⟩:=List.mem_iff_getElem?.1 hy
   exact (hq i y hi).1
  ·rcases Nat.eq_zero_or_pos len with h0|hpos
   ·have:l=[]:=List.length_eq_zero_iff.1 (by omega)
    subst this;subst h0
    exact .sl0 _ _
   ·
    have hcell:∀ i y,l[i]? = some y->∀ j,j<sz->∃ v,w.cell? ((a.add (i*sz)).add j)=some v∧∀ d,(enc y)[j]? = some d->Bq (λ b=>w.heap[b]?) d v:=λ i y hy j hj=>by
     obtain ⟨_,ci,hc,hcr⟩:=hq i y hy
     unfold World.cells? at hc
     split at hc
     ·obtain ⟨g1,g2⟩:=Ws hc
      have:=g2 j j (by simp [hj])
      have hjc:j<ci.length:=by rw [g1];simpa using hj
      rw [List.getElem?_eq_getElem hjc] at this
      exact ⟨ci[j],this.symm,λ d hd=>hcr.2 j d _ hd (List.getElem?_eq_getElem hjc)⟩
     ·cases hc
    have h0:l[0]? = some l[0]:=List.getElem?_eq_getElem (by omega)
    obtain ⟨v0,hv0,_⟩:=hcell 0 _ h0 0 (by omega)
    have ha0:(a.add (0*sz)).add 0=a:=by simp [Addr.add]
    rw [ha0] at hv0
    obtain ⟨b,off,spot⟩:=a
    unfold World.cell? at hv0
    simp only at hv0
    split at hv0
    ·rename_i c ty fr hblk
     cases spot with
     | some s=>simp at hv0
     | none=>
      have hcell':∀ i y,l[i]? = some y->∀ j d,(enc y)[j]? = some d->∃ v,c[off+i*sz+j]? = some v∧Bq (λ b=>w.heap[b]?) d v:=λ i y hy j d hd=>by
       have hj:j<sz:=by rw [← hl y];exact Ag hd
       obtain ⟨v,hv,hr⟩:=hcell i y hy j hj
       rw [B6,B6,Ln hblk] at hv
       exact ⟨v,hv,hr d hd⟩
      have hlen:(l.map enc).length=len:=by simp [hll]
      have:=Bq.sl (F:=λ b=>w.heap[b]?) (l.map enc) b off cap sz c ty fr (λ i j=>(c[off+i*sz+j]?).getD undef) hblk (λ e he=>by
        simp only [List.mem_map] at he
        obtain ⟨y,_,rfl⟩:=he
        exact hl y) (by omega) (λ i e hi j d hd=>by
        simp only [List.getElem?_map,Option.map_eq_some_iff] at hi
        obtain ⟨y,hy,rfl⟩:=hi
        obtain ⟨v,hv,_⟩:=hcell' i y hy j d hd
        simp only [hv,Option.getD_some]) (λ i e hi j d hd=>by
        simp only [List.getElem?_map,Option.map_eq_some_iff] at hi
        obtain ⟨y,hy,rfl⟩:=hi
        obtain ⟨v,hv,hr⟩:=hcell' i y hy j d hd
        simp only [hv,Option.getD_some]
        exact hr)
      rw [hlen] at this
      exact this
    ·cases hv0
theorem EL {F:Nat->Option Obj} {l m:List D} {cs:List Value} {o n:Nat} (h:CRd F l ((cs.drop o).take n)) (hn:Nat.beq l.length n=true) (h':CRd F m (cs.drop (o+n))):CRd F (l++m) (cs.drop o):=by
 have hn:=Nat.eq_of_beq_eq_true hn
 have e:cs.drop o=(cs.drop o).take n++cs.drop (o+n):=by rw [← List.drop_drop,List.take_append_drop]
 rw [e]
 refine ⟨by simp only [List.length_append,h.1,h'.1],λ i y v hy hv=>?_⟩
 rcases Nat.lt_or_ge i l.length with hlt|hge
 ·rw [List.getElem?_append_left hlt] at hy
  rw [List.getElem?_append_left (by rw [← h.1];exact hlt)] at hv
  exact h.2 i y v hy hv
 ·rw [List.getElem?_append_right hge] at hy
  rw [List.getElem?_append_right (by rw [← h.1];exact hge),← h.1] at hv
  exact h'.2 _ y v hy hv
theorem UV {F:Nat->Option Obj} {cs:List Value} {o:Nat} (h:cs.length≤o):CRd F [] (cs.drop o):=by
 rw [List.drop_eq_nil_of_le h];exact ⟨rfl,λ i y v hy=>by simp at hy⟩
theorem XG {H:Type} {enc:TypeId×Value->H} {P:Program} {w:World} {base:Nat} {spare:Nat->Bool} {held:Bool} {fuel:Nat} {t e:TypeId} {n:Nat} {cs:List Value} {x:DataW H×List MemPlace} (ht:P.underlying t=some (.array n e)) (h:DataW.trod enc P w base spare held fuel t cs=some x) :
  ∃ m,cs.length=P.cellsOf t∧∀ i,i<n->∃ y,DataW.trod enc P w base spare held m e ((cs.drop (i*P.cellsOf e)).take (P.cellsOf e))=some y:=by
 cases fuel with
 | zero=>simp [DataW.trod] at h
 | succ m=>
  unfold DataW.trod at h
  rw [ht] at h
  split at h<;>simp_all
  obtain ⟨xs,hp,_⟩:=h.2
  refine ⟨m,λ i hi=>?_⟩
  obtain ⟨g1,g2⟩:=Ws hp
  have:=g2 i i (by simp [hi])
  have hlt:i<xs.length:=by rw [g1];simpa using hi
  rw [List.getElem?_eq_getElem hlt] at this
  exact ⟨_,_,this.symm⟩
end Go.AI
end
section
namespace Go.AI
open Go.ChangeShapes Go.WideShapes Go.ChangeAt Go.RowKit
variable {P:Program} {H:Type} {en:TypeId×Value->H} {W W':World} {base:Nat} {spare:Nat->Bool} {held:Bool} {t e:TypeId} {v:Value} {d:DataW H} {ps:List MemPlace} {α:Type} {enc:α->List D} {ok:α->Prop}
theorem Jey {cs:Array Value} (hv:v=.agg cs) (hd:DataW.Trod en P W base spare held t v d ps) (hr:HQ P t enc ok):∃ a,ok a∧Ah (λ b=>W.heap[b]?) noR (.agg ((enc a).map .d)) v:=by
 subst hv
 obtain ⟨fuel,hf⟩:=hd
 obtain ⟨a,h1,h2,h3⟩:=hr H en W base spare held fuel _ _ hf
 refine ⟨a,h1,.agg _ _ (by simpa [Value.cells] using h2) λ i x u hx hu=>?_⟩
 simp only [List.getElem?_map,Option.map_eq_some_iff] at hx
 obtain ⟨y,hy,rfl⟩:=hx
 exact .d _ _ (h3 i y u hy (by simpa [Value.cells] using hu))
theorem Yq {y:α->D} (hc:v.cells=#[v]) (hd:DataW.Trod en P W base spare held t v d ps) (hr:HQ P t enc ok) (he:∀ a,enc a=[y a]):∃ a,ok a∧Ah (λ b=>W.heap[b]?) noR (.d (y a)) v:=by
 obtain ⟨fuel,hf⟩:=hd
 obtain ⟨a,h1,h2,h3⟩:=hr H en W base spare held fuel _ _ hf
 refine ⟨a,h1,.d _ _ (h3 0 (y a) v (by rw [he];rfl) (by rw [hc];rfl))⟩
theorem Jip {F:Nat->Option Obj} {ρ:Nat->Option Loc}:CR F ρ [] []:=⟨rfl,λ i a v h=>by simp at h⟩
theorem UW {F:Nat->Option Obj} {ρ:Nat->Option Loc} {a:AV} {v:Value} {l:List AV} {vs:List Value} (h:Ah F ρ a v) (h':CR F ρ l vs):CR F ρ (a::l) (v::vs):=by
 refine ⟨by simp [h'.1],λ i x u hx hu=>?_⟩
 cases i with
 | zero=>simp at hx hu;subst hx;subst hu;exact h
 | succ i=>exact h'.2 i x u (by simpa using hx) (by simpa using hu)
theorem fld {w:World} {fuel:Nat} {cs:List Value} {fs:Array Field} {xs:List (DataW H×List MemPlace)} (hg:∀ (i:Nat) (f:Field),fs[i]? = some f->DataW.trod en P w base spare held fuel f.type ((cs.drop f.offset).take (P.cellsOf f.type))=xs[i]?) (hxl:xs.length=fs.size) (i:Nat) {f:Field} (hf:fs[i]? = some f) (u o n:Nat) (hu:f.type=u) (ho:f.offset=o) (hn:P.cellsOf u=n) (hr:HQ P u enc ok) :
  ∃ a,ok a∧CRd (λ b=>w.heap[b]?) (enc a) ((cs.drop o).take n):=by
 have:=hg i f hf
 have hi:i<xs.length:=by rw [hxl];exact Ao hf
 rw [List.getElem?_eq_getElem hi,hu,ho,hn] at this
 exact hr H en w base spare held fuel _ _ this
theorem JjU {w:World} {fuel:Nat} {cs:List Value} {m:Nat} (hg:∀ i,i<m->∃ y,DataW.trod en P w base spare held fuel e ((cs.drop (i*P.cellsOf e)).take (P.cellsOf e))=some y) (i:Nat) (hi:Nat.ble (i+1) m=true) (o n:Nat) (hn:P.cellsOf e=n) (ho:i*n=o) (hr:HQ P e enc ok) :
  ∃ a,ok a∧CRd (λ b=>w.heap[b]?) (enc a) ((cs.drop o).take n):=by
 obtain ⟨y,hy⟩:=hg i (Nat.le_of_ble_eq_true hi)
 rw [hn,ho] at hy
 exact hr H en w base spare held fuel _ _ hy
theorem JcH {f:FuncId} {args:List AV} {vs:Array Value} (hc:AG P f args (.d (.bool true))) (hcr:CR (λ b=>W.heap[b]?) noR args vs.toList):Calls P f vs W λ e W'=>e=.returned (.bool true)∧(∀ before:List MemPlace,W.keptBut W' (·∈before))∧∀ b,b<W.heap.size->W'.heap[b]? = W.heap[b]? := by
 refine (hc.2 (λ b=>W.heap[b]?) W vs hcr λ b o h=>h).mono λ e W' h=>?_
 obtain ⟨v,F',ρ,rfl,hS,hr,hmu⟩:=h
 have hv:v=.bool true:=by
  have:(BN true 0 (.d (.bool true))).1=.d (.bool true):=rfl
  rw [this] at hr
  exact hr.bool
 subst hv
 have hold:∀ b,b<W.heap.size->W'.heap[b]? = W.heap[b]? := λ b hb=>hS.old b (by omega)
 refine ⟨rfl,λ before=>World.keptBut_mono (λ p hp=>hp.elim) (?_:W.keptBut W' λ _=>False),hold⟩
 refine ⟨hmu.1,hmu.2.1,λ i hi=>?_⟩
 rw [hold i hi]
 cases hh:W.heap[i]? with
 | none=>rfl
 | some o=>cases o<;>first|exact ⟨rfl,rfl,rfl,λ _ _=>rfl⟩|exact .inr ⟨rfl,rfl⟩|rfl
theorem ZC {f:Func} {s:ChangeSpec} {apart fresh handsOn again:Bool} {args:Array Value} {ds gs:List (DataW H)} {before pa pv:List MemPlace}
  (hW:DataW.Whole en P f.params.toList s.vars apart W args.toList ds gs before)
  (hres:∀ (b:Nat) (sp:Nat->Bool) (hd:Bool),DataW.TrodAll en P W' b sp hd f.resultTypes.toList (v.resultList f.resultTypes.size) (s.fn H (ds++gs)).results [])
  (hargs:∀ sp:Nat->Bool,(∀ p∈before,sp p.block=true)->DataW.TrodAll en P W' 0 sp true f.params.toList args.toList (s.fn H (ds++gs)).args pa)
  (hvars:∀ sp:Nat->Bool,(∀ p∈before,sp p.block=true)->DataW.TrodVars en P W' sp s.vars (s.fn H (ds++gs)).vars pv)
  (hps:before=pa++pv) (hk:W.keptBut W' (·∈before)) (hold:∀ b,b<W.heap.size->W'.heap[b]? = W.heap[b]?)
  (hok:∀ (j:Nat) (t:TypeId) (r:Value),f.resultTypes[j]? = some t->(v.resultList f.resultTypes.size)[j]? = some r->Value.okWide P W' .any 0 t r) :
  s.post en P f apart fresh handsOn again W args v W':=by
 have hin:∀ p∈before,(λ b=>decide (b<W.heap.size)) p.block=true:=λ p hp=>by simpa using hW.lt p hp
 have hlt:=hW.lt
 refine ⟨ds,gs,before,[],pa,pv,hW,hres _ _ _,hargs _ hin,hvars _ hin,World.keptBut_mono (λ p hp=>⟨hp,?_⟩) hk,λ _=>?_⟩
 ·rw [hps,List.mem_append] at hp
  exact Or.inr hp
 ·obtain ⟨_,_,_,_,_,hz,hn⟩:=hW
  refine ⟨hok,_,_,([]++pa)++pv,⟨[]++pa,pv,trodAll_append (hargs _ (λ _ _=>rfl)) (hres _ _ _),hvars _ (λ _ _=>rfl),rfl,?_,?_⟩,?_⟩
  ·intro b off hp
   have hp:MemPlace.cell b off∈before:=by rw [hps];simpa using hp
   have:=hz b off hp
   simp only [World.frozen?,hold b (hlt _ hp)] at this ⊢
   exact this
  ·intro ha
   have:=hn ha
   rw [hps] at this
   simpa using this
  ·intro p hp _
   rw [hps]
   simpa using hp
theorem JcI (hl:laidOutB P=true) (hr:P.readableRec t=true) (hrow:t<P.types.size) (h:DataW.Trod en P W 0 (λ _=>true) true t v d ps) (hb:∀ p∈ps,p.block<W.heap.size) {sp:Nat->Bool} (hs:∀ p∈ps,sp p.block=true) (hold:∀ b,b<W.heap.size->W'.heap[b]? = W.heap[b]?):DataW.Trod en P W' 0 sp true t v d ps:=by
 refine WideElems.Trod_stays hl hr hrow h (λ p hp=>?_) hs
 have:=hb p hp
 cases p with
 | cell b o=>exact World.cell?_of_block (w:=W) (hold b this)
 | map b=>exact hold b this
end Go.AI
end
section
namespace Go.AI
open Go.Proofs Go.ChangeShapes Go.WideShapes Go.ChangeAt Go.RowKit
def okI (k:IntKind) (n:Int):Prop:=(Lit.int k n).wf=true
theorem rd5:HQ Try.prog 5 eU8 (okI .u8):=ZB Try.underlying5
theorem Jiq:HQ Try.prog 25 (eL eU8) (λ l=>∀ a∈l,okI .u8 a):=Qi (sz:=1) Try.underlying25 (by kernel_rfl) rfl (λ _=>rfl) rd5
theorem Jkw:HQ Try.prog 69 (JjB eU8) (λ x=>okI .u8 x.a0∧okI .u8 x.a1):=by
 intro H e w base spare held fuel cs x h
 obtain ⟨m,hcl,hg⟩:=XG Try.underlying69 h
 have hcl:cs.length=2:=hcl.trans (by kernel_rfl)
 obtain ⟨a0,k0,c0⟩:=JjU hg 0 rfl 0 1 (by kernel_rfl) rfl rd5
 obtain ⟨a1,k1,c1⟩:=JjU hg 1 rfl 1 1 (by kernel_rfl) rfl rd5
 refine ⟨⟨a0,a1⟩,⟨k0,k1⟩,?_⟩
 have:=EL c0 rfl (EL c1 rfl (UV (Nat.le_of_eq hcl)))
 exact this
def Kj (x:C8):Prop:=(∀ a∈x.P,okI .u8 a)∧(∀ a∈x.C,okI .u8 a)∧okI .u8 x.L∧okI .u8 x.R∧(okI .u8 x.W.a0∧okI .u8 x.W.a1)
theorem Jkx:HQ Try.prog 71 Fp Kj:=by
 intro H e w base spare held fuel cs x h
 obtain ⟨xs,n,_,_,hcl,hxl,hg⟩:=DataW.trod_struct Try.underlying71 h
 have hcl:cs.length=6:=hcl.trans (by kernel_rfl)
 obtain ⟨a0,k0,c0⟩:=fld hg hxl 0 rfl 25 0 1 rfl rfl (by kernel_rfl) Jiq
 obtain ⟨a1,k1,c1⟩:=fld hg hxl 1 rfl 25 1 1 rfl rfl (by kernel_rfl) Jiq
 obtain ⟨a2,k2,c2⟩:=fld hg hxl 2 rfl 5 2 1 rfl rfl (by kernel_rfl) rd5
 obtain ⟨a3,k3,c3⟩:=fld hg hxl 3 rfl 5 3 1 rfl rfl (by kernel_rfl) rd5
 obtain ⟨a4,k4,c4⟩:=fld hg hxl 4 rfl 69 4 2 rfl rfl (by kernel_rfl) Jkw
 refine ⟨⟨a0,a1,a2,a3,a4⟩,⟨k0,k1,k2,k3,k4⟩,?_⟩
 have:=EL c0 rfl (EL c1 rfl (EL c2 rfl (EL c3 rfl (EL c4 rfl (UV (Nat.le_of_eq hcl))))))
 exact this
theorem Jky:HQ Try.prog 22 (eL Fp) (λ l=>∀ a∈l,Kj a):=Qi (sz:=6) Try.underlying22 (by kernel_rfl) rfl (λ _=>rfl) Jkx
def XH (x:MM):Prop:=okI .u8 x.Base∧okI .u8 x.Drop∧(∀ a∈x.More,Kj a)
theorem Jkz:HQ Try.prog 24 JjC XH:=by
 intro H e w base spare held fuel cs x h
 obtain ⟨xs,n,_,_,hcl,hxl,hg⟩:=DataW.trod_struct Try.underlying24 h
 have hcl:cs.length=3:=hcl.trans (by kernel_rfl)
 obtain ⟨a0,k0,c0⟩:=fld hg hxl 0 rfl 5 0 1 rfl rfl (by kernel_rfl) rd5
 obtain ⟨a1,k1,c1⟩:=fld hg hxl 1 rfl 5 1 1 rfl rfl (by kernel_rfl) rd5
 obtain ⟨a2,k2,c2⟩:=fld hg hxl 2 rfl 22 2 1 rfl rfl (by kernel_rfl) Jky
 refine ⟨⟨a0,a1,a2⟩,⟨k0,k1,k2⟩,?_⟩
 have:=EL c0 rfl (EL c1 rfl (EL c2 rfl (UV (Nat.le_of_eq hcl))))
 exact this
theorem rd9:HQ Try.prog 9 eS (λ _=>True):=UU Try.underlying9
end Go.AI
end
section
namespace Go.AI
def Le {α:Type} (a b:Option α):Prop:=∀ z,a=some z->b=some z
theorem Le.refl {α:Type} (a:Option α):Le a a:=λ _ h=>h
theorem Le.bind {α β:Type} {a a':Option α} {f f':α->Option β} (h:Le a a') (hf:∀ x,Le (f x) (f' x)):Le (a.bind f) (a'.bind f'):=by
 intro z hz
 obtain ⟨x,h1,h2⟩:=bind_some hz
 rw [h x h1]
 exact hf x z h2
theorem Le.ite {α:Type} {c:Prop} [Decidable c] {a a' b b':Option α} (h:Le a a') (h':Le b b'):Le (if c then a else b) (if c then a' else b'):=by
 split
 ·exact h
 ·exact h'
theorem Le.whl {σ ρ:Type} {body body':σ->Option (σ⊕ρ)} (hb:∀ x,Le (body x) (body' x)):∀ {n m:Nat},n≤m->∀ x,Le (whl body n x) (whl body' m x):=by
 intro n
 induction n with
 | zero=>intro m _ x z hz;cases hz
 | succ n ih=>
  intro m hm x z hz
  cases m with
  | zero=>omega
  | succ m=>
   simp only [Go.AI.whl] at hz ⊢
   cases hx:body x with
   | none=>rw [hx] at hz;cases hz
   | some y=>
    rw [hb x y hx]
    rw [hx] at hz
    cases y with
    | inl y=>exact ih (by omega) y z hz
    | inr r=>exact hz
theorem Le.sum {α β γ:Type} {y:α⊕β} {f f':α->Option γ} {g g':β->Option γ} (hf:∀ a,Le (f a) (f' a)) (hg:∀ b,Le (g b) (g' b)):Le (match y with | .inl a=>f a | .inr b=>g b) (match y with | .inl a=>f' a | .inr b=>g' b):=by
 cases y with
 | inl a=>exact hf a
 | inr b=>exact hg b
def Ev {α:Type} (f:Nat->Option α) (z:α):Prop:=∃ n,∀ m,n≤m->f m=some z
theorem Ev.const {α:Type} {z:α}:Ev (λ _=>some z) z:=⟨0,λ _ _=>rfl⟩
theorem Ev.of {α:Type} {f:Nat->Option α} {z:α} (hm:∀ n m,n≤m->Le (f n) (f m)) {n:Nat} (h:f n=some z):Ev f z:=⟨n,λ m hnm=>hm n m hnm z h⟩
theorem Ev.all {α:Type} {f:Nat->Option α} {z:α} (h:∀ n,f n=some z):Ev f z:=⟨0,λ m _=>h m⟩
theorem Ev.bind {α β:Type} {f:Nat->Option α} {g:Nat->α->Option β} {x:α} {z:β} (h:Ev f x) (hg:Ev (λ n=>g n x) z):Ev (λ n=>(f n).bind (g n)) z:=by
 obtain ⟨n,hn⟩:=h
 obtain ⟨m,hm⟩:=hg
 refine ⟨max n m,λ k hk=>?_⟩
 show (f k).bind (g k)=_
 rw [hn k (by omega)]
 exact hm k (by omega)
theorem Ev.out {α:Type} {f:Nat->Option α} {z:α} (h:Ev f z):∃ n,f n=some z:=by
 obtain ⟨n,hn⟩:=h
 exact ⟨n,hn n (Nat.le_refl n)⟩
theorem Ev.congr {α:Type} {f g:Nat->Option α} {z:α} (h:Ev f z) (e:∀ n,g n=f n):Ev g z:=by
 obtain ⟨n,hn⟩:=h
 exact ⟨n,λ m hm=>by rw [e m];exact hn m hm⟩
theorem Ev.whl {σ ρ:Type} {body:Nat->σ->Option (σ⊕ρ)} {r:ρ} (I:Nat->σ->Prop) (h:∀ k x,I k x->(∃ y j,j<k∧I j y∧Ev (λ n=>body n x) (.inl y))∨Ev (λ n=>body n x) (.inr r)):∀ (k:Nat) (x:σ),I k x->Ev (λ n=>Go.AI.whl (body n) n x) r:=by
 have key:∀ (k:Nat) (x:σ),I k x->∃ N c,∀ n fuel,N≤n->c≤fuel->Go.AI.whl (body n) fuel x=some r:=by
  intro k
  induction k using Nat.strongRecOn with
  | _ k ih=>
   intro x hx
   rcases h k x hx with ⟨y,j,hj,hy,N1,h1⟩|⟨N1,h1⟩
   ·obtain ⟨N2,c,h2⟩:=ih j hj y hy
    refine ⟨max N1 N2,c+1,λ n fuel hn hf=>?_⟩
    cases fuel with
    | zero=>omega
    | succ fuel=>
     have e:=h1 n (by omega)
     simp only at e
     simp only [Go.AI.whl,e]
     exact h2 n fuel (by omega) (by omega)
   ·refine ⟨N1,1,λ n fuel hn hf=>?_⟩
    cases fuel with
    | zero=>omega
    | succ fuel=>
     have e:=h1 n hn
     simp only at e
     simp only [Go.AI.whl,e]
 intro k x hx
 obtain ⟨N,c,hh⟩:=key k x hx
 exact ⟨max N c,λ m hm=>hh m m (by omega) (by omega)⟩
end Go.AI
end
section
namespace Go.AI
theorem lr {α:Type} {x:Option α}:Le x x:=Le.refl x
theorem PF {n m} (_:n≤m) (a b):Le (Gv n a b) (Gv m a b):=.ite (.bind lr λ _=>.bind lr λ _=>.bind lr λ _=>lr) lr
theorem S9 {n m} (h:n≤m):Le (J1 n) (J1 m):=.bind (Le.whl (λ _=>PF h _ _) h _) λ _=>lr
theorem NP {n m} (_:n≤m) (a):Le (Ds n a) (Ds m a):=lr
theorem Ss {n m} (h:n≤m) (a b):Le (Fd n a b) (Fd m a b):=.ite (.bind lr λ _=>.bind (NP h _) λ _=>.ite lr lr) lr
theorem IJ {n m} (h:n≤m) (a):Le (FA n a) (FA m a):=.bind (Le.whl (λ _=>Ss h _ _) h _) λ y2=>by rcases y2 with _|_;exact lr;exact lr
theorem UX {n m} (_:n≤m):Le (Jo n) (Jo m):=lr
theorem Kk {n m} (_:n≤m) (a b):Le (Hi n a b) (Hi m a b):=.bind (Le.ite (lr) (lr)) λ _=>lr
theorem Ht {n m} (_:n≤m) (a):Le (D8 n a) (D8 m a):=.ite lr (.ite lr (.ite lr (.ite lr lr)))
theorem L4 {n m} (h:n≤m) (a b c):Le (GK n a b c) (GK m a b c):=.ite lr (.bind lr λ _=>.bind (Le.ite (Kk h _ _) (lr)) λ _=>.ite lr (.ite (.ite lr lr) (.bind lr λ _=>.bind (Ht h _) λ _=>.bind (Kk h _ _) λ _=>.ite lr (.bind lr λ _=>.bind (Ht h _) λ _=>lr))))
theorem IK {n m} (_:n≤m) (a b c d):Le (Cb n a b c d) (Cb m a b c d):=lr
theorem IL {n m} (h:n≤m) (a b c d e f):Le (Cv n a b c d e f) (Cv m a b c d e f):=.bind lr λ _=>.bind lr λ _=>IK h _ _ _ _
theorem OQ {n m} (h:n≤m) (a b c d e f):Le (Br n a b c d e f) (Br m a b c d e f):=.ite (.bind lr λ _=>.bind (L4 h _ _ _) λ _=>.ite (IK h _ _ _ _) (.ite (.bind lr λ _=>.bind lr λ _=>IL h _ _ _ _ _ _) (IL h _ _ _ _ _ _))) lr
theorem OR {n m} (h:n≤m) (a b c d e):Le (Cc n a b c d e) (Cc m a b c d e):=.ite (.bind (Le.whl (λ _=>OQ h _ _ _ _ _ _) h _) λ _=>lr) lr
theorem Su {n m} (h:n≤m) (a):Le (Fe n a) (Fe m a):=.bind (UX h) λ _=>.bind (Le.whl (λ _=>OR h _ _ _ _ _) h _) λ _=>lr
theorem Np {n m} (h:n≤m) (a):Le (Gi n a) (Gi m a):=.bind (Su h _) λ _=>lr
theorem L5 {n m} (h:n≤m) (a b):Le (DV n a b) (DV m a b):=.bind (Le.ite (Kk h _ _) (lr)) λ _=>.bind (Le.ite (Kk h _ _) (lr)) λ _=>lr
theorem PG {n m} (_:n≤m) (a b):Le (Et n a b) (Et m a b):=.bind (Le.ite (lr) (lr)) λ _=>lr
theorem JC {n m} (h:n≤m) (a b):Le (DB n a b) (DB m a b):=.bind (PG h _ _) λ _=>lr
theorem NQ {n m} (_:n≤m) (a b c d):Le (BT n a b c d) (BT m a b c d):=.ite (.bind lr λ _=>lr) lr
theorem HR {n m} (_:n≤m) (a b):Le (Cg n a b) (Cg m a b):=lr
theorem NR {n m} (h:n≤m) (a b c d e f g):Le (BU n a b c d e f g) (BU m a b c d e f g):=.ite (.bind lr λ _=>.bind (L4 h _ _ _) λ _=>.ite (.bind lr λ _=>.bind lr λ _=>HR h _ _) (HR h _ _)) lr
theorem NS {n m} (h:n≤m) (a b c d e):Le (Ch n a b c d e) (Ch m a b c d e):=.ite (.bind lr λ _=>.bind (L5 h _ _) λ _=>.bind lr λ _=>.bind lr λ _=>.bind (Le.whl (λ _=>NR h _ _ _ _ _ _ _) h _) λ _=>lr) lr
theorem K2 {n m} (h:n≤m) (a):Le (Dk n a) (Dk m a):=.bind (Np h _) λ _=>.bind (Le.whl (λ _=>NQ h _ _ _ _) h _) λ _=>.bind lr λ _=>.bind lr λ _=>.bind (Le.whl (λ _=>NS h _ _ _ _ _) h _) λ _=>lr
theorem Kl {n m} (_:n≤m) (a b c d e f):Le (BA n a b c d e f) (BA m a b c d e f):=.ite (.bind lr λ _=>.bind lr λ _=>.bind lr λ _=>lr) lr
theorem Hd {n m} (h:n≤m) (a b):Le (B1 n a b) (B1 m a b):=.bind lr λ _=>.bind lr λ _=>.bind lr λ _=>.bind (Le.whl (λ _=>Kl h _ _ _ _ _ _) h _) λ _=>lr
theorem GY {n m} (_:n≤m) (a b c d e):Le (CO n a b c d e) (CO m a b c d e):=lr
theorem Sv {n m} (_:n≤m) (a b c d e f):Le (Ff n a b c d e f) (Ff m a b c d e f):=.bind lr λ _=>.bind lr λ _=>.ite lr (.bind lr λ _=>.bind lr λ _=>.bind lr λ _=>lr)
theorem EM {n m} (_:n≤m) (a b c d e):Le (Bn n a b c d e) (Bn m a b c d e):=.bind (Le.ite (lr) (lr)) λ _=>.bind (Le.ite (lr) (lr)) λ _=>.ite lr (.bind lr λ _=>.bind lr λ _=>lr)
theorem JD {n m} (_:n≤m) (a b):Le (CS n a b) (CS m a b):=lr
theorem PH {n m} (h:n≤m) (a b c d):Le (Cq n a b c d) (Cq m a b c d):=.ite (.bind lr λ _=>.ite (JD h _ _) (JD h _ _)) lr
theorem JE {n m} (_:n≤m) (a b):Le (CT n a b) (CT m a b):=lr
theorem PJ {n m} (h:n≤m) (a b c d):Le (Cr n a b c d) (Cr m a b c d):=.ite (.bind lr λ _=>.ite (.bind lr λ _=>.bind lr λ _=>JE h _ _) (JE h _ _)) lr
theorem Ta {n m} (h:n≤m) (a b):Le (HG n a b) (HG m a b):=.bind (Le.whl (λ _=>PH h _ _ _ _) h _) λ _=>.bind (Le.whl (λ _=>PJ h _ _ _ _) h _) λ _=>lr
theorem Ek {n m} (_:n≤m) (a b):Le (Bj n a b) (Bj m a b):=lr
theorem Ia {n m} (h:n≤m) (a b c d e f g i):Le (A6 n a b c d e f g i) (A6 m a b c d e f g i):=.ite (.bind lr λ _=>.bind lr λ _=>.bind (Le.ite (lr) (lr)) λ _=>.ite (.bind lr λ _=>.bind lr λ _=>Ek h _ _) (Ek h _ _)) lr
theorem El {n m} (_:n≤m) (a b):Le (Bk n a b) (Bk m a b):=lr
theorem Ib {n m} (h:n≤m) (a b c d e f g i j k):Le (A7 n a b c d e f g i j k) (A7 m a b c d e f g i j k):=.ite (.bind lr λ _=>.bind (Le.ite (lr) (lr)) λ _=>.bind (Le.ite (JC h _ _) (lr)) λ _=>.ite (.bind (Sv h _ _ _ _ _ _) λ _=>.bind (EM h _ _ _ _ _) λ _=>El h _ _) (El h _ _)) lr
theorem Ic {n m} (h:n≤m) (a b c d e f g i):Le (A8 n a b c d e f g i) (A8 m a b c d e f g i):=.ite (.bind lr λ _=>.bind (Le.whl (λ _=>Ib h _ _ _ _ _ _ _ _ _ _) h _) λ _=>lr) lr
theorem B0 {n m} (_:n≤m) (a b c):Le (A3 n a b c) (A3 m a b c):=lr
theorem Id {n m} (h:n≤m) (a b c d e f g i j k):Le (A9 n a b c d e f g i j k) (A9 m a b c d e f g i j k):=.ite (.bind lr λ _=>.bind (Le.ite (lr) (lr)) λ _=>.ite (.bind (EM h _ _ _ _ _) λ _=>.ite (B0 h _ _ _) (B0 h _ _ _)) (.ite (B0 h _ _ _) (B0 h _ _ _))) lr
theorem Ie {n m} (h:n≤m) (a b c d e f g i):Le (Ba n a b c d e f g i) (Ba m a b c d e f g i):=.ite (.bind lr λ _=>.bind (Le.whl (λ _=>Id h _ _ _ _ _ _ _ _ _ _) h _) λ _=>lr) lr
theorem If {n m} (h:n≤m) (a b c d e f g):Le (Bl n a b c d e f g) (Bl m a b c d e f g):=.ite (.bind (Le.whl (λ _=>Ie h _ _ _ _ _ _ _ _) h _) λ _=>lr) lr
theorem FI {n m} (h:n≤m) (a b c d e f):Le (BB n a b c d e f) (BB m a b c d e f):=.bind lr λ _=>.bind (Le.whl (λ _=>Ia h _ _ _ _ _ _ _ _) h _) λ _=>.bind (Le.whl (λ _=>Ic h _ _ _ _ _ _ _ _) h _) λ _=>.bind (Le.whl (λ _=>If h _ _ _ _ _ _ _) h _) λ _=>.bind (Ta h _ _) λ _=>lr
theorem QD {n m} (h:n≤m) (a b c d e f):Le (D9 n a b c d e f) (D9 m a b c d e f):=.ite (.bind (FI h _ _ _ _ _ _) λ _=>.bind lr λ _=>.bind lr λ _=>lr) lr
theorem Km {n m} (h:n≤m) (a b):Le (CF n a b) (CF m a b):=.bind (IJ h _) λ _=>.ite lr (.bind (K2 h _) λ _=>.bind (Hd h _ _) λ _=>.bind (GY h _ _ _ _ _) λ _=>.bind (Le.whl (λ _=>QD h _ _ _ _ _ _) h _) λ _=>.bind lr λ _=>lr)
theorem L6 {n m} (_:n≤m) (a b c):Le (DN n a b c) (DN m a b c):=.ite (.bind lr λ _=>.ite lr lr) lr
theorem OS {n m} (h:n≤m) (a b):Le (FB n a b) (FB m a b):=.ite lr (.bind (Le.whl (λ _=>L6 h _ _ _) h _) λ y30=>by rcases y30 with _|_;exact lr;exact lr)
theorem I9 {n m} (_:n≤m) (a b c d):Le (CA n a b c d) (CA m a b c d):=.ite (.bind lr λ _=>.bind lr λ _=>.ite lr lr) lr
theorem Lh {n m} (h:n≤m) (a b c):Le (Dl n a b c) (Dl m a b c):=.ite lr (.bind (Le.whl (λ _=>I9 h _ _ _ _) h _) λ y33=>by rcases y33 with _|_;exact lr;exact lr)
theorem HS {n m} (_:n≤m) (a b c):Le (Dt n a b c) (Dt m a b c):=lr
theorem NT {n m} (h:n≤m) (a b c d e f g i j):Le (EU n a b c d e f g i j) (EU m a b c d e f g i j):=.ite (.bind lr λ _=>.bind lr λ _=>.bind (Lh h _ _ _) λ _=>.ite lr (.bind lr λ _=>.bind (Le.ite (lr) (lr)) λ _=>.ite (HS h _ _ _) (.bind lr λ _=>.bind lr λ _=>.ite lr (HS h _ _ _)))) lr
theorem QE {n m} (h:n≤m) (a b c d e f):Le (Hj n a b c d e f) (Hj m a b c d e f):=.bind (Le.whl (λ _=>NT h _ _ _ _ _ _ _ _ _) h _) λ y36=>by rcases y36 with _|_;exact lr;exact lr
theorem PK {n m} (_:n≤m) (a b c d e f g i):Le (Gw n a b c d e f g i) (Gw m a b c d e f g i):=.ite (.bind lr λ _=>.bind lr λ _=>.bind lr λ _=>.bind lr λ _=>.bind lr λ _=>.bind lr λ _=>lr) lr
theorem JF {n m} (_:n≤m) (a b c d):Le (Eu n a b c d) (Eu m a b c d):=lr
theorem PL {n m} (h:n≤m) (a b c d e f g i j):Le (Gx n a b c d e f g i j) (Gx m a b c d e f g i j):=.ite (.bind (FI h _ _ _ _ _ _) λ _=>.bind lr λ _=>.bind lr λ _=>.ite (JF h _ _ _ _) (.bind (QE h _ _ _ _ _ _) λ _=>.ite lr (JF h _ _ _ _))) lr
theorem JG {n m} (_:n≤m) (a b c):Le (Ew n a b c) (Ew m a b c):=lr
theorem PM {n m} (h:n≤m) (a b c d e f g):Le (Gy n a b c d e f g) (Gy m a b c d e f g):=.ite (.bind lr λ _=>.bind lr λ _=>.bind lr λ _=>.bind lr λ _=>.bind lr λ _=>.bind lr λ _=>.bind lr λ _=>.ite (.bind lr λ _=>.bind lr λ _=>.bind lr λ _=>JG h _ _ _) (JG h _ _ _)) lr
theorem Ja {n m} (h:n≤m) (a b c):Le (Gj n a b c) (Gj m a b c):=.ite lr (.bind lr λ _=>.bind lr λ _=>.bind lr λ _=>.bind lr λ _=>.bind (IJ h _) λ _=>.ite lr (.bind (K2 h _) λ _=>.bind (OS h _ _) λ _=>.ite lr (.bind (Hd h _ _) λ _=>.bind (Le.whl (λ _=>PK h _ _ _ _ _ _ _ _) h _) λ _=>.bind (GY h _ _ _ _ _) λ _=>.bind (Le.whl (λ _=>PL h _ _ _ _ _ _ _ _ _) h _) λ _=>.bind (Le.whl (λ _=>PM h _ _ _ _ _ _ _) h _) λ _=>.bind lr λ _=>lr)))
theorem NU {n m} (h:n≤m) (a b):Le (EV n a b) (EV m a b):=.ite (.bind lr λ _=>.bind (Ht h _) λ _=>.ite lr lr) lr
theorem QF {n m} (h:n≤m) (a):Le (Hk n a) (Hk m a):=.bind (Le.whl (λ _=>NU h _ _) h _) λ y42=>by rcases y42 with _|_;exact lr;exact lr
theorem UY {n m} (_:n≤m) (a):Le (Mn n a) (Mn m a):=lr
theorem QG {n m} (h:n≤m) (a b):Le (Hl n a b) (Hl m a b):=.ite (.bind lr λ _=>.bind (UY h _) λ _=>.ite lr lr) lr
theorem UZ {n m} (h:n≤m) (a b):Le (Mo n a b) (Mo m a b):=.ite lr (.bind (IJ h _) λ _=>.ite lr (.ite lr (.ite lr (.bind (QF h _) λ _=>.ite (.bind (Le.ite (lr) (lr)) λ _=>lr) (.bind (Le.whl (λ _=>QG h _ _) h _) λ y45=>by rcases y45 with _|_;exact lr;exact lr)))))
theorem QH {n m} (_:n≤m) (a b c):Le (Hm n a b c) (Hm m a b c):=.ite (.bind lr λ _=>.bind lr λ _=>.ite lr lr) lr
theorem U0 {n m} (h:n≤m) (a b):Le (Mp n a b) (Mp m a b):=.ite lr (.bind (Le.whl (λ _=>QH h _ _ _) h _) λ y48=>by rcases y48 with _|_;exact lr;exact lr)
theorem U1 {n m} (h:n≤m) (a b):Le (Mq n a b) (Mq m a b):=.bind (Le.ite (U0 h _ _) (lr)) λ _=>lr
theorem QI {n m} (h:n≤m) (a b c d e):Le (Hn n a b c d e) (Hn m a b c d e):=.ite (.bind lr λ _=>.bind (U1 h _ _) λ _=>.ite lr lr) lr
theorem QJ {n m} (h:n≤m) (a b):Le (Ho n a b) (Ho m a b):=.ite (.bind lr λ _=>.bind (UZ h _ _) λ _=>.ite lr (.bind lr λ _=>.bind (Le.whl (λ _=>QI h _ _ _ _ _) h _) λ y51=>by rcases y51 with _|_;exact lr;exact lr)) lr
theorem U2 {n m} (h:n≤m) (a):Le (Mr n a) (Mr m a):=.ite lr (.bind (Le.ite (lr) (lr)) λ _=>.ite lr (.ite lr (.bind (Le.whl (λ _=>QJ h _ _) h _) λ y54=>by rcases y54 with _|_;exact lr;exact lr)))
theorem U3 {n m} (h:n≤m) (a):Le (Ms n a) (Ms m a):=.bind (U2 h _) λ _=>lr
theorem IM {n m} (_:n≤m) (a):Le (DW n a) (DW m a):=lr
theorem PN {n m} (h:n≤m) (a b):Le (Gz n a b) (Gz m a b):=.bind (IM h _) λ _=>.bind (Le.ite (IM h _) (lr)) λ _=>lr
theorem JH {n m} (_:n≤m) (a):Le (Ey n a) (Ey m a):=lr
theorem Gm {n m} (h:n≤m) (a b c d):Le (BL n a b c d) (BL m a b c d):=.ite (.bind lr λ _=>.bind (PN h _ _) λ _=>.ite lr lr) lr
theorem Hu {n m} (h:n≤m) (a b):Le (B5 n a b) (B5 m a b):=.bind (Le.whl (λ _=>Gm h _ _ _ _) h _) λ _=>.bind (Le.ite (lr) (lr)) λ _=>.bind (Le.ite (lr) (lr)) λ _=>.bind (Le.ite (JH h _) (lr)) λ _=>.bind (Le.ite (JH h _) (lr)) λ _=>lr
theorem E3 {n m} (h:n≤m) (a b):Le (CG n a b) (CG m a b):=.bind (Hu h _ _) λ _=>.ite lr (.bind lr λ _=>lr)
theorem MU {n m} (_:n≤m) (a b c d e f):Le (Ea n a b c d e f) (Ea m a b c d e f):=.ite (.bind lr λ _=>lr) lr
theorem He {n m} (_:n≤m) (a b):Le (C9 n a b) (C9 m a b):=lr
theorem MV {n m} (h:n≤m) (a b c d e f g):Le (Eb n a b c d e f g) (Eb m a b c d e f g):=.ite (.bind (L4 h _ _ _) λ _=>.ite (.bind lr λ _=>.bind lr λ _=>He h _ _) (He h _ _)) lr
theorem MW {n m} (h:n≤m) (a b c d e):Le (Ec n a b c d e) (Ec m a b c d e):=.ite (.bind lr λ _=>.bind (Le.whl (λ _=>MV h _ _ _ _ _ _ _) h _) λ _=>lr) lr
theorem PO {n m} (h:n≤m) (a b):Le (GA n a b) (GA m a b):=.bind (Np h _) λ _=>.bind lr λ _=>.bind (Le.whl (λ _=>MU h _ _ _ _ _ _) h _) λ _=>.bind lr λ _=>.bind (Le.whl (λ _=>MW h _ _ _ _ _) h _) λ _=>lr
theorem F4 {n m} (_:n≤m) (a b c d):Le (Cw n a b c d) (Cw m a b c d):=.bind lr λ _=>.bind lr λ _=>.bind lr λ _=>.ite (.bind lr λ _=>.bind lr λ _=>.bind lr λ _=>.bind lr λ _=>lr) lr
theorem DH {n m} (h:n≤m) (a b c):Le (B2 n a b c) (B2 m a b c):=.bind lr λ _=>.bind lr λ _=>.bind (JC h _ _) λ _=>lr
theorem JcJ {n m} (_:n≤m) (a):Le (Yp n a) (Yp m a):=lr
theorem Ko {n m} (_:n≤m) (a b c):Le (CX n a b c) (CX m a b c):=.ite (.bind lr λ _=>.bind lr λ _=>.bind lr λ _=>lr) lr
theorem FJ {n m} (_:n≤m) (a b c):Le (Cj n a b c) (Cj m a b c):=lr
theorem Kp {n m} (h:n≤m) (a b c d e f g i):Le (CY n a b c d e f g i) (CY m a b c d e f g i):=.ite (.bind lr λ _=>.bind (DH h _ _ _) λ _=>.ite (.bind (F4 h _ _ _ _) λ _=>FJ h _ _ _) (FJ h _ _ _)) lr
theorem FK {n m} (h:n≤m) (a b c d e f g):Le (Ck n a b c d e f g) (Ck m a b c d e f g):=.bind lr λ _=>.bind (Le.whl (λ _=>Kp h _ _ _ _ _ _ _ _) h _) λ _=>lr
theorem Kq {n m} (h:n≤m) (a b c d e f):Le (CZ n a b c d e f) (CZ m a b c d e f):=.bind lr λ _=>.ite (.bind lr λ _=>.bind lr λ _=>.bind lr λ _=>.bind lr λ _=>.ite (FK h _ _ _ _ _ _ _) (FK h _ _ _ _ _ _ _)) lr
theorem FL {n m} (h:n≤m) (a b c d e):Le (Cl n a b c d e) (Cl m a b c d e):=.bind (Le.whl (λ _=>Kq h _ _ _ _ _ _) h _) λ _=>.bind lr λ _=>.bind (JcJ h _) λ _=>.bind lr λ _=>.bind lr λ _=>.bind lr λ _=>lr
theorem Kr {n m} (h:n≤m) (a b c d):Le (C0 n a b c d) (C0 m a b c d):=.ite (.ite (.bind lr λ _=>.bind (Ht h _) λ _=>FL h _ _ _ _ _) (FL h _ _ _ _ _)) lr
theorem MX {n m} (h:n≤m) (a):Le (Ed n a) (Ed m a):=.bind (Le.whl (λ _=>Ko h _ _ _) h _) λ _=>.bind (F4 h _ _ _ _) λ _=>.bind (Le.whl (λ _=>Kr h _ _ _ _) h _) λ _=>lr
theorem CV {n m} (_:n≤m) (a b c):Le (BC n a b c) (BC m a b c):=lr
theorem Jb {n m} (h:n≤m) (a b c d e f g i):Le (CB n a b c d e f g i) (CB m a b c d e f g i):=.ite (.bind lr λ _=>.bind (DH h _ _ _) λ _=>.ite (CV h _ _ _) (.bind lr λ _=>.bind (E3 h _ _) λ _=>.bind lr λ _=>.bind lr λ _=>.bind (Le.ite (lr) (lr)) λ _=>.bind (Le.ite (lr) (lr)) λ _=>.ite (.bind lr λ _=>.bind lr λ _=>.bind lr λ _=>CV h _ _ _) (CV h _ _ _))) lr
theorem F5 {n m} (h:n≤m) (a b c d e):Le (Cy n a b c d e) (Cy m a b c d e):=.bind lr λ _=>.bind lr λ _=>.bind lr λ _=>.bind (Le.whl (λ _=>Jb h _ _ _ _ _ _ _ _) h _) λ _=>lr
theorem FM {n m} (_:n≤m) (a b):Le (Cm n a b) (Cm m a b):=lr
theorem Ks {n m} (h:n≤m) (a b c d e f g):Le (C1 n a b c d e f g) (C1 m a b c d e f g):=.ite (.bind lr λ _=>.bind lr λ _=>.bind lr λ _=>.bind lr λ _=>.bind (Le.ite (lr) (lr)) λ _=>.bind (Le.ite (L5 h _ _) (lr)) λ _=>.ite (.bind lr λ _=>.bind lr λ _=>FM h _ _) (FM h _ _)) lr
theorem Kt {n m} (h:n≤m) (a b c d):Le (C2 n a b c d) (C2 m a b c d):=.ite (.bind (F5 h _ _ _ _ _) λ _=>lr) lr
theorem Ku {n m} (h:n≤m) (a b c d e):Le (C3 n a b c d e) (C3 m a b c d e):=.ite (.bind (F5 h _ _ _ _ _) λ _=>lr) lr
theorem Kv {n m} (h:n≤m) (a b):Le (C4 n a b) (C4 m a b):=.bind lr λ _=>.bind (Le.whl (λ _=>Ku h _ _ _ _ _) h _) λ _=>.ite lr lr
theorem Kw {n m} (h:n≤m) (a b):Le (C5 n a b) (C5 m a b):=.ite (.bind lr λ _=>.bind lr λ _=>.bind lr λ _=>.bind lr λ _=>.bind (Le.whl (λ _=>Ks h _ _ _ _ _ _ _) h _) λ _=>.bind lr λ _=>.bind (Le.whl (λ _=>Kt h _ _ _ _) h _) λ _=>.bind (Le.whl (λ _=>Kv h _ _) h _) λ _=>lr) lr
theorem MY {n m} (h:n≤m) (a):Le (Ee n a) (Ee m a):=.bind (Le.whl (λ _=>Kw h _ _) h _) λ _=>lr
theorem Em {n m} (_:n≤m) (a):Le (BQ n a) (BQ m a):=lr
theorem Ig {n m} (h:n≤m) (a b c d e f):Le (Co n a b c d e f) (Co m a b c d e f):=.ite (.bind lr λ _=>.bind (DH h _ _ _) λ _=>.ite (Em h _) (.bind lr λ _=>.bind lr λ _=>.bind (E3 h _ _) λ _=>.ite (Em h _) (.bind lr λ _=>.bind lr λ _=>lr))) lr
theorem Ih {n m} (h:n≤m) (a b c d e):Le (Cp n a b c d e) (Cp m a b c d e):=.ite (.bind lr λ _=>.bind (Le.whl (λ _=>Ig h _ _ _ _ _ _) h _) λ y75=>by rcases y75 with _|_;exact lr;exact lr) lr
theorem Kx {n m} (h:n≤m) (a):Le (C6 n a) (C6 m a):=.bind lr λ _=>.bind (E3 h _ _) λ _=>.bind (Le.whl (λ _=>Ih h _ _ _ _ _) h _) λ _=>lr
theorem U4 {n m} (h:n≤m) (a b):Le (Mt n a b) (Mt m a b):=.bind (IJ h _) λ _=>.ite lr (.bind (U3 h _) λ _=>.ite lr (.bind (PO h _ _) λ _=>.bind (MX h _) λ _=>.bind (MY h _) λ _=>.bind lr λ _=>.bind lr λ _=>.ite lr (.bind (Kx h _) λ _=>lr)))
theorem Nq {n m} (h:n≤m) (a b):Le (HH n a b) (HH m a b):=.bind (U4 h _ _) λ _=>.ite lr lr
theorem Sw {n m} (_:n≤m) (a b c):Le (Fg n a b c) (Fg m a b c):=.ite (.bind lr λ _=>.bind lr λ _=>.ite lr lr) lr
theorem IN {n m} (h:n≤m) (a b):Le (DY n a b) (DY m a b):=.ite lr (.bind (Le.whl (λ _=>Sw h _ _ _) h _) λ y79=>by rcases y79 with _|_;exact lr;exact lr)
theorem MZ {n m} (_:n≤m) (a b c):Le (Cs n a b c) (Cs m a b c):=.ite (.bind lr λ _=>.bind lr λ _=>.ite lr lr) lr
theorem PP {n m} (h:n≤m) (a b):Le (CU n a b) (CU m a b):=.ite lr (.bind (Le.whl (λ _=>MZ h _ _ _) h _) λ y82=>by rcases y82 with _|_;exact lr;exact lr)
theorem Wt {n m} (h:n≤m) (a b):Le (Ou n a b) (Ou m a b):=.bind (PP h _ _) λ _=>.bind (Le.ite (IN h _ _) (lr)) λ _=>lr
theorem Tb {n m} (h:n≤m):Le (HI n) (HI m):=.bind (S9 h) λ _=>.bind (Km h _ _) λ _=>.bind (Km h _ _) λ _=>.bind (Ja h _ _ _) λ _=>.bind (Ja h _ _ _) λ _=>.bind (Ja h _ _ _) λ _=>.bind (Nq h _ _) λ _=>.bind (Km h _ _) λ _=>.bind (Nq h _ _) λ _=>.bind (Le.ite (IN h _ _) (lr)) λ _=>.bind (Le.ite (IN h _ _) (lr)) λ _=>.bind (Le.ite (Wt h _ _) (lr)) λ _=>.bind (Le.ite (IN h _ _) (lr)) λ _=>lr
end Go.AI
end
section
namespace Go.AI
theorem XI (a:Int):IntKind.i64.wrap a=if decide (a % 18446744073709551616≥9223372036854775808)=true then a % 18446744073709551616-18446744073709551616 else a % 18446744073709551616:=rfl
theorem TP (a:Int):IntKind.u8.wrap a=a % 256:=rfl
theorem Sx {a:Int} (h:-9223372036854775808≤a) (h':a<9223372036854775808):IntKind.i64.wrap a=a:=by
 rw [XI]
 split
 ·rename_i hc;simp at hc;omega
 ·rename_i hc;simp at hc;omega
theorem PR {a b:Int} (h:-9223372036854775808≤a+b) (h':a+b<9223372036854775808):AL .i64 a b=a+b:=Sx h h'
theorem JcK {a b:Int} (h:-9223372036854775808≤a-b) (h':a-b<9223372036854775808):G4 .i64 a b=a-b:=Sx h h'
theorem JjV {a:Int} (h:0≤a) (h':a<256):IntKind.u8.wrap a=a:=by
 rw [TP];omega
theorem Wu (a:Int):0≤IntKind.u8.wrap a∧IntKind.u8.wrap a<256:=by
 rw [TP];omega
def Li (m k:Int):Bool:=decide (0≤k)&&decide (k<8)&&(B9 .u8 (Wa .u8 m k) 1==1)
theorem JcL (n:Nat) (m k:Int):Hi n m k=some (Li m k):=by
 unfold Hi Li
 by_cases h:0≤k
 ·by_cases h':k<8<;>simp [h,h',By]
 ·simp [h]
theorem JcM (n:Nat) (m k:Int):J2 n m k=some (Li m k):=by
 unfold J2 Li
 by_cases h:0≤k
 ·by_cases h':k<8<;>simp [h,h',By]
 ·simp [h]
def FN (b:Int):Int:=
 if (decide (97≤B9 .u8 b 127)&&decide (B9 .u8 b 127≤122))=true then 1
 else if (decide (65≤B9 .u8 b 127)&&decide (B9 .u8 b 127≤90))=true then 2
 else if (decide (48≤B9 .u8 b 127)&&decide (B9 .u8 b 127≤57))=true then 3
 else if (B9 .u8 b 127==32)=true then 4 else 5
theorem JcN (n:Nat) (b:Int):D8 n b=some (FN b):=by
 unfold D8 FN
 split
 ·rfl
 ·split
  ·rfl
  ·split
   ·rfl
   ·split<;>rfl
theorem ZD (n:Nat) (b:Int):Jr n b=some (FN b):=by
 unfold Jr FN
 simp only [ge_iff_le]
 split
 ·rfl
 ·split
  ·rfl
  ·split
   ·rfl
   ·split<;>rfl
theorem IP (b:Int):1≤FN b∧FN b≤5:=by
 unfold FN
 split
 ·omega
 ·split
  ·omega
  ·split
   ·omega
   ·split<;>omega
def Nr (s:List UInt8) (i:Nat):Int:=(s[i]?.getD 0).toNat
theorem OU {s:List UInt8} {i:Nat} (h:i<s.length):Ny s (i:Int)=some (Nr s i):=by
 unfold Ny Nr
 rw [if_pos (by omega)]
 simp
def Yr:Aa:=⟨0,0,0⟩
def Sy (r:Av) (s:Aa):Aa×Bool:=
 if ((r.From != s.Mode)||!Li r.Left s.Last)=true then (Yr,false)
 else if (r.Print==[])=true then
  (if (B9 .u8 s.Need r.Right==0)=true then (Yr,false) else (⟨r.To,s.Last,B9 .u8 s.Need r.Right⟩,true))
 else if (!Li s.Need (FN (Nr r.Print 0)))=true then (Yr,false)
 else (⟨r.To,FN (Nr r.Print (r.Print.length-1)),r.Right⟩,true)
def AE (t:Ad) (s:Aa) (k:Int):Aa×Bool:=
 if (decide (k<0)||decide (k≥(t.Rules.length:Int)))=true then (Yr,false) else Sy (t.Rules[k.toNat]?.getD default) s
def JcO (t:Ad):Prop:=∀ r∈t.Rules,r.Print.length<9223372036854775808
theorem Sz {α:Type} [Inhabited α] {l:List α} {k:Int} (h:0≤k) (h':k<l.length):idx l k=some (l[k.toNat]?.getD default):=by
 unfold idx
 rw [if_pos h]
 have:k.toNat<l.length:=by omega
 simp [this]
theorem QT {t:Ad} (ht:JcO t) (n:Nat) (s:Aa) (k:Int):GK n t s k=some (AE t s k):=by
 unfold GK AE
 by_cases hk:(decide (k<0)||decide (k≥(t.Rules.length:Int)))=true
 ·rw [if_pos hk,if_pos hk];rfl
 ·rw [if_neg hk,if_neg hk]
  simp only [Bool.or_eq_true,decide_eq_true_eq,not_or,Int.not_lt,ge_iff_le,Int.not_le] at hk
  rw [Sz hk.1 hk.2]
  have hmem:(t.Rules[k.toNat]?.getD default)∈t.Rules:=by
   have:k.toNat<t.Rules.length:=by omega
   simp [this]
  have hlen:=ht _ hmem
  generalize t.Rules[k.toNat]?.getD default=r at hlen ⊢
  simp only [Option.bind_some,JcL,JcN]
  unfold Sy
  by_cases h1:r.From=s.Mode
  ·simp only [h1,bne_self_eq_false,Bool.not_false,if_true,Option.bind_some,Bool.false_or]
   by_cases h2:Li r.Left s.Last=true
   ·simp only [h2,Bool.not_true,Bool.false_eq_true,if_false]
    by_cases h3:r.Print=[]
    ·simp only [h3,beq_self_eq_true,if_true]
     split<;>rfl
    ·have h3':(r.Print==[])=false:=by simpa using h3
     have hpos:0<r.Print.length:=List.length_pos_iff.2 h3
     simp only [h3',Bool.false_eq_true,if_false]
     have e0:=OU (s:=r.Print) (i:=0) hpos
     simp only [Int.natCast_zero] at e0
     rw [e0]
     have e1:G4 .i64 ((r.Print.length:Nat):Int) 1=((r.Print.length-1:Nat):Int):=by rw [JcK (by omega) (by omega)];omega
     rw [e1,OU (by omega)]
     simp only [Option.bind_some]
     split<;>rfl
   ·have h2:Li r.Left s.Last=false:=by simpa using h2
    simp only [h2,Bool.not_false,if_true];rfl
  ·have h1':(r.From != s.Mode)=true:=by simpa using h1
   simp only [h1',Bool.not_true,Bool.false_eq_true,if_false,Option.bind_some,Bool.true_or,if_true];rfl
end Go.AI
end
section
namespace Go.AI
theorem Ap {α:Type} {l:List α} {i:Nat} {x:α} (h:l[i]? = some x):i<l.length:=(List.getElem?_eq_some_iff.1 h).1
theorem Wv {t:Ad} (ht:JcO t) (n:Nat) (s:Aa) (k:Int):LF n t s k=some (AE t s k):=by
 unfold LF AE
 by_cases hk:(decide (k<0)||decide (k≥(t.Rules.length:Int)))=true
 ·rw [if_pos hk,if_pos hk];rfl
 ·rw [if_neg hk,if_neg hk]
  simp only [Bool.or_eq_true,decide_eq_true_eq,not_or,Int.not_lt,ge_iff_le,Int.not_le] at hk
  rw [Sz hk.1 hk.2]
  have hmem:(t.Rules[k.toNat]?.getD default)∈t.Rules:=by
   have:k.toNat<t.Rules.length:=by omega
   simp [this]
  have hlen:=ht _ hmem
  generalize t.Rules[k.toNat]?.getD default=r at hlen ⊢
  simp only [Option.bind_some,JcM,ZD]
  unfold Sy
  by_cases h1:r.From=s.Mode
  ·simp only [h1,bne_self_eq_false,Bool.not_false,if_true,Option.bind_some,Bool.false_or]
   by_cases h2:Li r.Left s.Last=true
   ·simp only [h2,Bool.not_true,Bool.false_eq_true,if_false]
    by_cases h3:r.Print=[]
    ·simp only [h3,List.length_nil,Int.natCast_zero,beq_self_eq_true,Bool.true_and,if_true]
     split<;>rfl
    ·have h3':(r.Print==[])=false:=by simpa using h3
     have hpos:0<r.Print.length:=List.length_pos_iff.2 h3
     have h4:(((r.Print.length:Nat):Int)==0)=false:=by simp;omega
     simp only [h3',h4,Bool.false_and,Bool.false_eq_true,if_false]
     have e0:=OU (s:=r.Print) (i:=0) hpos
     simp only [Int.natCast_zero] at e0
     rw [e0]
     have e1:G4 .i64 ((r.Print.length:Nat):Int) 1=((r.Print.length-1:Nat):Int):=by rw [JcK (by omega) (by omega)];omega
     rw [e1,OU (by omega)]
     simp only [Option.bind_some]
     split<;>rfl
   ·have h2:Li r.Left s.Last=false:=by simpa using h2
    simp only [h2,Bool.not_false,if_true];rfl
  ·have h1':(r.From != s.Mode)=true:=by simpa using h1
   simp only [h1',Bool.not_true,Bool.false_eq_true,if_false,Option.bind_some,Bool.true_or,if_true];rfl
def Bs (t:Ad) (s:Aa):Bool:=decide (s.Mode<t.Modes)&&Li t.Accept s.Mode&&Li s.Need 0
theorem XJ (n:Nat) (t:Ad) (s:Aa):DV n t s=some (Bs t s):=by
 unfold DV Bs
 simp only [JcL]
 by_cases h1:s.Mode<t.Modes
 ·cases h2:Li t.Accept s.Mode<;>simp [h1]
 ·simp [h1]
theorem Ww (n:Nat) (t:Ad) (s:Aa):Iw n t s=some (Bs t s):=by
 unfold Iw Bs
 simp only [JcM]
 have h0:¬ (0≤s.Mode)->Li t.Accept s.Mode=false:=λ h=>by simp [Li,h]
 by_cases h:0≤s.Mode
 ·by_cases h1:s.Mode<t.Modes
  ·cases h2:Li t.Accept s.Mode<;>simp [h,h1]
  ·simp [h1]
 ·simp [h,h0 h]
theorem eqS (a b:Aa):((a.Mode==b.Mode)&&((a.Last==b.Last)&&((a.Need==b.Need)&&true)))=decide (a=b):=by
 cases a;cases b
 simp [Bool.decide_and]
 rfl
def D1 (l:List Aa) (s:Aa):Int:=match l.findIdx? (λ x=>decide (x=s)) with
 | some i=>i
 | none=>-1
theorem Wx {l:List Aa} {s:Aa} (hl:l.length<9223372036854775807):Ev (λ n=>Mx n l s) (D1 l s):=by
 have loop:Ev (λ n=>whl (λ x=>Dn n l s x) n (0:Int)) (match l.findIdx? (λ x=>decide (x=s)) with|some i=>(.inr (i:Int):Unit⊕Int)|none=>.inl ()):=by
  refine Ev.whl (body:=λ n x=>Dn n l s x) (λ k x=>∃ i:Nat,x=i∧i≤l.length∧k=l.length-i∧∀ j,j<i->∀ y,l[j]? = some y->y≠s) ?_ l.length 0 ⟨0,rfl,by omega,by omega,λ j hj=>by omega⟩
  rintro k x ⟨i,rfl,hi,rfl,hbefore⟩
  by_cases hlt:i<l.length
  ·have hg:l[i]? = some l[i]:=List.getElem?_eq_getElem hlt
   have hidx:idx l (i:Int)=some l[i]:=by
    unfold idx
    rw [if_pos (by omega)]
    simp
   by_cases he:l[i]=s
   ·right
    refine Ev.all λ n=>?_
    unfold Dn
    rw [if_pos (by simpa using hlt),hidx]
    simp only [Option.bind_some,eqS,he,decide_true,if_true]
    have:l.findIdx? (λ x=>decide (x=s))=some i:=by
     rw [List.findIdx?_eq_some_iff_getElem]
     refine ⟨hlt,by simpa using he,λ j hj=>?_⟩
     have hj':j<l.length:=by omega
     have:=hbefore j hj l[j] (List.getElem?_eq_getElem hj')
     simpa using this
    rw [this]
   ·left
    refine ⟨((i+1:Nat):Int),l.length-(i+1),by omega,⟨i+1,rfl,by omega,rfl,λ j hj y hy=>?_⟩,Ev.all λ n=>?_⟩
    ·by_cases hji:j=i
     ·subst hji;rw [hg] at hy;cases hy;exact he
     ·exact hbefore j (by omega) y hy
    ·unfold Dn
     rw [if_pos (by simpa using hlt),hidx]
     simp only [Option.bind_some,eqS,he,decide_false,Bool.false_eq_true,if_false]
     rw [PR (by omega) (by omega)]
     rfl
  ·right
   have hi':i=l.length:=by omega
   subst hi'
   refine Ev.all λ n=>?_
   unfold Dn
   rw [if_neg (by simp)]
   have:l.findIdx? (λ x=>decide (x=s))=none:=by
    rw [List.findIdx?_eq_none_iff]
    intro y hy
    obtain ⟨j,hj⟩:=List.mem_iff_getElem?.1 hy
    have:=hbefore j (Ap hj) y hj
    simpa using this
   rw [this]
 refine (Ev.bind loop (g:=λ _ y=>match y with|Sum.inl _=>some (-1)|Sum.inr z=>some z) (z:=D1 l s) ?_).congr λ n=>?_
 ·unfold D1
  cases l.findIdx? (λ x=>decide (x=s)) with
  | none=>exact Ev.const
  | some i=>exact Ev.const
 ·rfl
end Go.AI
end
section
namespace Go.AI
theorem XK (a b:Int) (h:0≤b) (h':b<256):0≤B9 .u8 a b∧B9 .u8 a b≤b:=by
 unfold B9
 have hb:(BitVec.ofInt 8 b).toNat=b.toNat:=by
  rw [BitVec.toNat_ofInt]
  omega
 have hle:(BitVec.ofInt 8 a &&& BitVec.ofInt 8 b).toNat≤b.toNat:=by
  rw [BitVec.toNat_and,hb];exact Nat.and_le_right
 have e:(BitVec.ofInt IntKind.u8.bits a &&& BitVec.ofInt IntKind.u8.bits b).toNat=(BitVec.ofInt 8 a &&& BitVec.ofInt 8 b).toNat:=rfl
 rw [e,JjV (by omega) (by omega)]
 omega
def NV (r:Av):Prop:=0≤r.To∧r.To<2∧0≤r.Right∧r.Right≤63∧r.Print.length≤3
def Hf (t:Ad):Prop:=t.Rules.length≤11∧∀ r∈t.Rules,NV r
theorem Hf.short {t:Ad} (h:Hf t):JcO t:=λ r hr=>by have:=(h.2 r hr).2.2.2.2;omega
def InU (s:Aa):Prop:=0≤s.Mode∧s.Mode<2∧0≤s.Last∧s.Last≤5∧0≤s.Need∧s.Need≤63
def Jir:List Aa:=(List.range 768).map λ i=>⟨(i / 384:Nat),(i / 64 % 6:Nat),(i % 64:Nat)⟩
theorem JcP {s:Aa} (h:InU s):s∈Jir:=by
 obtain ⟨h1,h2,h3,h4,h5,h6⟩:=h
 obtain ⟨m,l,d⟩:=s
 simp only at h1 h2 h3 h4 h5 h6
 simp only [Jir,List.mem_map,List.mem_range]
 refine ⟨m.toNat*384+l.toNat*64+d.toNat,by omega,?_⟩
 have e1:(m.toNat*384+l.toNat*64+d.toNat) / 384=m.toNat:=by omega
 have e2:(m.toNat*384+l.toNat*64+d.toNat) / 64 % 6=l.toNat:=by omega
 have e3:(m.toNat*384+l.toNat*64+d.toNat) % 64=d.toNat:=by omega
 rw [e1,e2,e3]
 congr 1<;>omega
theorem JcQ {l m:List Aa} (h:l.Nodup) (hs:∀ x∈l,x∈m):l.length≤m.length:=by
 induction l generalizing m with
 | nil=>simp
 | cons a l ih=>
  rw [List.nodup_cons] at h
  have ha:=hs a (by simp)
  have hlen:(m.erase a).length=m.length-1:=List.length_erase_of_mem ha
  have hpos:0<m.length:=List.length_pos_of_mem ha
  have:=ih (m:=m.erase a) h.2 λ x hx=>by
   have hne:x≠a:=λ e=>h.1 (e▸hx)
   exact (List.mem_erase_of_ne hne).2 (hs x (by simp [hx]))
  simp
  omega
theorem JcR {l:List Aa} (h:l.Nodup) (hs:∀ x∈l,InU x):l.length≤768:=by
 have:=JcQ h λ x hx=>JcP (hs x hx)
 simpa [Jir] using this
theorem JcS {t:Ad} (ht:Hf t) {s:Aa} (hs:InU s) {k:Int} (h:(AE t s k).2=true):InU (AE t s k).1:=by
 unfold AE at h ⊢
 split at h
 ·cases h
 ·rename_i hk
  rw [if_neg hk]
  simp only [Bool.or_eq_true,decide_eq_true_eq,not_or,Int.not_lt,ge_iff_le,Int.not_le] at hk
  have hmem:(t.Rules[k.toNat]?.getD default)∈t.Rules:=by
   have:k.toNat<t.Rules.length:=by omega
   simp [this]
  have hr:=ht.2 _ hmem
  generalize t.Rules[k.toNat]?.getD default=r at hr h ⊢
  obtain ⟨a1,a2,a3,a4,a5⟩:=hr
  obtain ⟨b1,b2,b3,b4,b5,b6⟩:=hs
  unfold Sy at h ⊢
  split at h
  ·cases h
  ·rename_i h1
   rw [if_neg h1]
   split at h
   ·rename_i h2
    rw [if_pos h2]
    split at h
    ·cases h
    ·rename_i h3
     rw [if_neg h3]
     have:=XK s.Need r.Right a3 (by omega)
     exact ⟨a1,a2,b3,b4,this.1,by show B9 .u8 s.Need r.Right≤63;omega⟩
   ·rename_i h2
    rw [if_neg h2]
    split at h
    ·cases h
    ·rename_i h3
     rw [if_neg h3]
     have:=IP (Nr r.Print (r.Print.length-1))
     exact ⟨a1,a2,by show 0≤FN _;omega,by show FN _≤5;omega,a3,a4⟩
def BK:Aa:=⟨0,0,63⟩
def Ky (t:Ad) (s:Aa) (st:List Aa) (k:Nat):List Aa:=if (AE t s k).2=true∧(AE t s k).1 ∉ st then st++[(AE t s k).1] else st
def JI (t:Ad) (s:Aa) (m:Nat) (st:List Aa):List Aa:=(List.range m).foldl (Ky t s) st
theorem JJ (t:Ad) (s:Aa) (m:Nat) (st:List Aa):JI t s (m+1) st=Ky t s (JI t s m st) m:=by
 simp [JI,List.range_succ]
def SA (t:Ad):Nat->Nat->List Aa->List Aa
 | 0,_,st=>st
 | f+1,i,st=>match st[i]? with
  | some s=>SA t f (i+1) (JI t s t.Rules.length st)
  | none=>st
def Ac (t:Ad):List Aa:=SA t 800 0 [BK]
structure F6 (t:Ad) (st:List Aa):Prop where
 nodup:st.Nodup
 inU:∀ s∈st,InU s
 first:st[0]? = some BK
 origin:∀ (j:Nat) (s:Aa),st[j]? = some s->0<j->∃ (i:Nat) (s':Aa) (k:Nat),i<j∧st[i]? = some s'∧k<t.Rules.length∧AE t s' k=(s,true)
theorem F6.len {t:Ad} {st:List Aa} (h:F6 t st):st.length≤768:=JcR h.nodup h.inU
theorem F6.add {t:Ad} (ht:Hf t) {st:List Aa} (h:F6 t st) {i:Nat} {s:Aa} (hi:st[i]? = some s) {k:Nat} (hk:k<t.Rules.length):F6 t (Ky t s st k):=by
 unfold Ky
 split
 ·rename_i hc
  have hil:=Ap hi
  refine ⟨?_,λ x hx=>?_,?_,λ j x hj h0=>?_⟩
  ·rw [List.nodup_append]
   refine ⟨h.nodup,by simp,λ a ha b hb=>?_⟩
   simp at hb
   subst hb
   exact λ e=>hc.2 (e▸ha)
  ·simp only [List.mem_append,List.mem_singleton] at hx
   rcases hx with hx|rfl
   ·exact h.inU x hx
   ·exact JcS ht (h.inU s (List.mem_of_getElem? hi)) hc.1
  ·rw [List.getElem?_append_left (by omega)];exact h.first
  ·rcases Nat.lt_or_ge j st.length with hlt|hge
   ·rw [List.getElem?_append_left hlt] at hj
    obtain ⟨i',s',k',a1,a2,a3,a4⟩:=h.origin j x hj h0
    exact ⟨i',s',k',a1,by rw [List.getElem?_append_left (by omega)];exact a2,a3,a4⟩
   ·rw [List.getElem?_append_right hge] at hj
    have:j-st.length=0:=by have:=Ap hj;simp at this;omega
    rw [this] at hj
    simp at hj
    subst hj
    refine ⟨i,s,k,by omega,by rw [List.getElem?_append_left hil];exact hi,hk,?_⟩
    exact Prod.ext rfl hc.1
 ·exact h
theorem Wy (t:Ad) (s:Aa) (st:List Aa) (k:Nat):st <+: Ky t s st k:=by
 unfold Ky
 split
 ·exact List.prefix_append _ _
 ·exact List.prefix_refl _
theorem GZ (t:Ad) (s:Aa) (st:List Aa):∀ m,st <+: JI t s m st:=by
 intro m
 induction m with
 | zero=>exact List.prefix_refl _
 | succ m ih=>rw [JJ];exact ih.trans (Wy _ _ _ _)
theorem OW {α:Type} {l m:List α} (h:l <+: m) {i:Nat} {x:α} (hi:l[i]? = some x):m[i]? = some x:=by
 obtain ⟨r,rfl⟩:=h
 rw [List.getElem?_append_left (Ap hi)];exact hi
theorem F6.exp {t:Ad} (ht:Hf t) {st:List Aa} (h:F6 t st) {i:Nat} {s:Aa} (hi:st[i]? = some s):∀ m,m≤t.Rules.length->F6 t (JI t s m st):=by
 intro m
 induction m with
 | zero=>intro _;exact h
 | succ m ih=>
  intro hm
  rw [JJ]
  exact (ih (by omega)).add ht (OW (GZ t s st m) hi) (by omega)
theorem JcT (t:Ad) (s:Aa) (st:List Aa):∀ m k:Nat,k<m->(AE t s k).2=true->(AE t s k).1∈JI t s m st:=by
 intro m
 induction m with
 | zero=>intro k hk;omega
 | succ m ih=>
  intro k hk h
  rw [JJ]
  by_cases e:k=m
  ·subst e
   unfold Ky
   by_cases hc:(AE t s k).1∈JI t s k st
   ·rw [if_neg (λ hh=>hh.2 hc)];exact hc
   ·rw [if_pos ⟨h,hc⟩];simp
  ·exact (Wy t s _ m).subset (ih k (by omega) h)
def Jis (t:Ad) (i:Nat) (st:List Aa):Prop:=∀ (j:Nat) (s:Aa),j<i->st[j]? = some s->∀ k:Nat,k<t.Rules.length->(AE t s k).2=true->(AE t s k).1∈st
theorem Jit {t:Ad} (ht:Hf t):∀ (f i:Nat) (st:List Aa),F6 t st->Jis t i st->768<f+i->F6 t (SA t f i st)∧∀ i',Jis t i' (SA t f i st):=by
 intro f
 induction f with
 | zero=>
  intro i st h hd hf
  have:=h.len
  refine ⟨h,λ i' j s hj hs=>?_⟩
  have hs:st[j]? = some s:=hs
  exact hd j s (by have:=Ap hs;omega) hs
 | succ f ih=>
  intro i st h hd hf
  simp only [SA]
  cases hi:st[i]? with
  | none=>
   refine ⟨h,λ i' j s hj hs=>?_⟩
   have hs:st[j]? = some s:=hs
   exact hd j s (by have:=Ap hs;rw [List.getElem?_eq_none_iff] at hi;omega) hs
  | some s=>
   refine ih (i+1) _ (h.exp ht hi _ (Nat.le_refl _)) (λ j x hj hx k hk hk2=>?_) (by omega)
   by_cases e:j=i
   ·subst e
    have:=OW (GZ t s st t.Rules.length) hi
    rw [this] at hx
    cases hx
    exact JcT t s st _ k hk hk2
   ·have hjl:j<st.length:=by have:=Ap hi;omega
    have hxx:st[j]? = some st[j]:=List.getElem?_eq_getElem hjl
    have:=OW (GZ t s st t.Rules.length) hxx
    rw [this] at hx
    cases hx
    exact (GZ t s st t.Rules.length).subset (hd j _ (by omega) hxx k hk hk2)
theorem Hy {t:Ad} (ht:Hf t):F6 t (Ac t)∧∀ i,Jis t i (Ac t):=by
 refine Jit ht 800 0 [BK] ⟨by simp,λ s hs=>?_,rfl,λ j s hj h0=>?_⟩ (λ j s hj=>by omega) (by omega)
 ·simp at hs;subst hs;exact ⟨by decide,by decide,by decide,by decide,by decide,by decide⟩
 ·cases j with
  | zero=>omega
  | succ j=>simp at hj
end Go.AI
end
section
namespace Go.AI
theorem Ev.whlR {σ ρ:Type} {body:Nat->σ->Option (σ⊕ρ)} {R:ρ->Prop} (I:Nat->σ->Prop) (h:∀ k x,I k x->(∃ y j,j<k∧I j y∧Ev (λ n=>body n x) (.inl y))∨∃ r,R r∧Ev (λ n=>body n x) (.inr r)):∀ (k:Nat) (x:σ),I k x->∃ r,R r∧Ev (λ n=>Go.AI.whl (body n) n x) r:=by
 have key:∀ (k:Nat) (x:σ),I k x->∃ r,R r∧∃ N c,∀ n fuel,N≤n->c≤fuel->Go.AI.whl (body n) fuel x=some r:=by
  intro k
  induction k using Nat.strongRecOn with
  | _ k ih=>
   intro x hx
   rcases h k x hx with ⟨y,j,hj,hy,N1,h1⟩|⟨r,hr,N1,h1⟩
   ·obtain ⟨r,hr,N2,c,h2⟩:=ih j hj y hy
    refine ⟨r,hr,max N1 N2,c+1,λ n fuel hn hf=>?_⟩
    cases fuel with
    | zero=>omega
    | succ fuel=>
     have e:=h1 n (by omega)
     simp only at e
     simp only [Go.AI.whl,e]
     exact h2 n fuel (by omega) (by omega)
   ·refine ⟨r,hr,N1,1,λ n fuel hn hf=>?_⟩
    cases fuel with
    | zero=>omega
    | succ fuel=>
     have e:=h1 n hn
     simp only at e
     simp only [Go.AI.whl,e]
 intro k x hx
 obtain ⟨r,hr,N,c,hh⟩:=key k x hx
 exact ⟨r,hr,max N c,λ m hm=>hh m m (by omega) (by omega)⟩
def IQ (st:List Aa) (nb:List (Aa×Int)):Prop:=∀ s,FO s nb=(st.findIdx? λ x=>decide (x=s)).map λ i=>(i:Int)
theorem CP {st:List Aa} {s:Aa} {i:Nat} (hn:st.Nodup) (h:st[i]? = some s):(st.findIdx? λ x=>decide (x=s))=some i:=by
 have hi:=Ap h
 rw [List.findIdx?_eq_some_iff_getElem]
 have he:st[i]=s:=by rw [List.getElem?_eq_getElem hi] at h;exact Option.some.inj h
 refine ⟨hi,by simpa using he,λ j hj=>?_⟩
 simp only [Bool.not_eq_true,decide_eq_false_iff_not]
 intro e
 have:=(List.getElem_inj (i:=j) (j:=i) (h₀:=by omega) (h₁:=hi) hn).1 (by rw [e,he])
 omega
theorem Hv {st:List Aa} {s:Aa} (h:s ∉ st):(st.findIdx? λ x=>decide (x=s))=none:=by
 rw [List.findIdx?_eq_none_iff]
 intro y hy
 simp only [decide_eq_false_iff_not]
 exact λ e=>h (e▸hy)
theorem ZE {κ α:Type} [DecidableEq κ] (k k':κ) (v:α) (m:List (κ×α)):FO k' (Lw k v m)=if k'=k then some v else FO k' m:=by
 induction m with
 | nil=>simp [Lw,FO]
 | cons p m ih=>
  simp only [Lw]
  by_cases h:k=p.1
  ·rw [if_pos h]
   simp only [FO]
   by_cases h':k'=k
   ·simp [h']
   ·have:k'≠p.1:=λ e=>h' (e.trans h.symm)
    simp [h',this]
  ·rw [if_neg h]
   simp only [FO]
   by_cases h':k'=p.1
   ·have:k'≠k:=λ e=>h (e▸h')
    rw [if_pos h',if_neg this,if_pos h']
   ·rw [if_neg h',if_neg h',ih]
theorem IQ.snoc {st:List Aa} {nb:List (Aa×Int)} (h:IQ st nb) (hn:st.Nodup) {p:Aa} (hp:p ∉ st):IQ (st++[p]) (Lw p (st.length:Nat) nb):=by
 intro s
 rw [ZE]
 have hnd:(st++[p]).Nodup:=by
  rw [List.nodup_append]
  exact ⟨hn,by simp,λ a ha b hb=>by simp at hb;subst hb;exact λ e=>hp (e▸ha)⟩
 by_cases e:s=p
 ·subst e
  rw [if_pos rfl,CP hnd (i:=st.length) (by simp)]
  rfl
 ·rw [if_neg e,h s]
  by_cases hs:s∈st
  ·obtain ⟨i,hi⟩:=List.mem_iff_getElem?.1 hs
   rw [CP hn hi,CP hnd (i:=i) (by rw [List.getElem?_append_left (Ap hi)];exact hi)]
  ·rw [Hv hs,Hv (by simp [hs,e])]
def HT (i m j k:Nat):Prop:=j<i∨(j=i∧k<m)
structure Da (t:Ad) (st:List Aa) (fr:List (List Int)) (i m:Nat):Prop where
 len:fr.length=st.length
 cov:∀ j s k,HT i m j k->st[j]? = some s->k<t.Rules.length->(AE t s (k:Nat)).2=true->(AE t s (k:Nat)).1∈st
 sound:∀ (n:Nat) l,fr[n]? = some l->∀ x∈l,∃ (j:Nat) (s:Aa) (k:Nat) (s':Aa),x=(j:Int)∧st[j]? = some s∧k<t.Rules.length∧st[n]? = some s'∧AE t s (k:Nat)=(s',true)
 compl:∀ (n:Nat) l,fr[n]? = some l->∀ (j:Nat) (s:Aa) (k:Nat) (s':Aa),HT i m j k->st[j]? = some s->k<t.Rules.length->st[n]? = some s'->AE t s (k:Nat)=(s',true)->(j:Int)∈l
 small:∀ (n:Nat) l,fr[n]? = some l->l.length≤i*11+m
theorem Da.snoc {t:Ad} {st:List Aa} {fr:List (List Int)} {i m:Nat} (h:Da t st fr i m) {p:Aa} (hp:p ∉ st) (hi:i<st.length):Da t (st++[p]) (fr++[[]]) i m:=by
 have hget:∀ (j:Nat) s,HT i m j 0∨j≤i->(st++[p])[j]? = some s->st[j]? = some s:=λ j s hj hs=>by
  rcases Nat.lt_or_ge j st.length with hlt|hge
  ·rwa [List.getElem?_append_left hlt] at hs
  ·rcases hj with (h1|⟨h1,_⟩)|h1<;>omega
 have hle:∀ {j k},HT i m j k->j≤i:=λ h=>by rcases h with h|⟨h,_⟩<;>omega
 refine ⟨by simp [h.len],λ j s k ht hs hk h2=>?_,λ n l hl x hx=>?_,λ n l hl j s k s' ht hs hk hs' he=>?_,λ n l hl=>?_⟩
 ·exact List.mem_append_left _ (h.cov j s k ht (hget j s (.inr (hle ht)) hs) hk h2)
 ·rcases Nat.lt_or_ge n fr.length with hlt|hge
  ·rw [List.getElem?_append_left hlt] at hl
   obtain ⟨j,s,k,s',a1,a2,a3,a4,a5⟩:=h.sound n l hl x hx
   exact ⟨j,s,k,s',a1,by rw [List.getElem?_append_left (Ap a2)];exact a2,a3,by rw [List.getElem?_append_left (Ap a4)];exact a4,a5⟩
  ·rw [List.getElem?_append_right hge] at hl
   have:n-fr.length=0:=by have:=Ap hl;simp at this;omega
   rw [this] at hl;simp at hl;subst hl;simp at hx
 ·have hs0:=hget j s (.inr (hle ht)) hs
  have hmem:s'∈st:=by have:=h.cov j s k ht hs0 hk (by rw [he]);rwa [he] at this
  rcases Nat.lt_or_ge n fr.length with hlt|hge
  ·rw [List.getElem?_append_left hlt] at hl
   rw [List.getElem?_append_left (by rw [← h.len];exact hlt)] at hs'
   exact h.compl n l hl j s k s' ht hs0 hk hs' he
  ·have hn:n=st.length:=by have:=Ap hs';simp at this;rw [h.len] at hge;omega
   subst hn
   simp at hs'
   subst hs'
   exact absurd hmem hp
 ·rcases Nat.lt_or_ge n fr.length with hlt|hge
  ·rw [List.getElem?_append_left hlt] at hl;exact h.small n l hl
  ·rw [List.getElem?_append_right hge] at hl
   have:n-fr.length=0:=by have:=Ap hl;simp at this;omega
   rw [this] at hl;simp at hl;subst hl;simp
theorem Da.put {t:Ad} {st:List Aa} {fr:List (List Int)} {i m:Nat} (h:Da t st fr i m) (hnd:st.Nodup) {s p:Aa} {q:Nat} {l:List Int} (hs:st[i]? = some s) (hm:m<t.Rules.length) (hst:AE t s (m:Nat)=(p,true)) (hq:st[q]? = some p) (hl:fr[q]? = some l):Da t st (fr.set q (l++[(i:Int)])) i (m+1):=by
 have htk:∀ {j k},HT i (m+1) j k->HT i m j k∨(j=i∧k=m):=λ {j k} h=>by
  unfold HT at *
  omega
 have hql:=Ap hl
 refine ⟨by simp [h.len],λ j x k ht hx hk h2=>?_,λ n l' hl' x hx=>?_,λ n l' hl' j x k x' ht hx hk hx' he=>?_,λ n l' hl'=>?_⟩
 ·rcases htk ht with ht|⟨rfl,rfl⟩
  ·exact h.cov j x k ht hx hk h2
  ·rw [hs] at hx;cases hx;rw [hst];exact List.mem_of_getElem? hq
 ·by_cases e:n=q
  ·subst e
   rw [List.getElem?_set_self hql] at hl'
   cases hl'
   simp only [List.mem_append,List.mem_singleton] at hx
   rcases hx with hx|rfl
   ·exact h.sound n l hl x hx
   ·exact ⟨i,s,m,p,rfl,hs,hm,hq,hst⟩
  ·rw [List.getElem?_set_ne (Ne.symm e)] at hl';exact h.sound n l' hl' x hx
 ·rcases htk ht with ht|⟨rfl,rfl⟩
  ·by_cases e:n=q
   ·subst e
    rw [List.getElem?_set_self hql] at hl'
    cases hl'
    exact List.mem_append_left _ (h.compl n l hl j x k x' ht hx hk hx' he)
   ·rw [List.getElem?_set_ne (Ne.symm e)] at hl';exact h.compl n l' hl' j x k x' ht hx hk hx' he
  ·rw [hs] at hx;cases hx
   rw [hst] at he;cases he
   have e:n=q:=by
    have h1:=Ap hx'
    have h2:=Ap hq
    rw [List.getElem?_eq_getElem h1] at hx'
    rw [List.getElem?_eq_getElem h2] at hq
    exact (List.getElem_inj (h₀:=h1) (h₁:=h2) hnd).1 ((Option.some.inj hx').trans (Option.some.inj hq).symm)
   subst e
   rw [List.getElem?_set_self hql] at hl'
   cases hl'
   simp
 ·by_cases e:n=q
  ·subst e
   rw [List.getElem?_set_self hql] at hl'
   cases hl'
   have:=h.small n l hl
   simp;omega
  ·rw [List.getElem?_set_ne (Ne.symm e)] at hl'
   have:=h.small n l' hl'
   omega
theorem Da.skip {t:Ad} {st:List Aa} {fr:List (List Int)} {i m:Nat} (h:Da t st fr i m) {s:Aa} (hs:st[i]? = some s) (hst:(AE t s (m:Nat)).2=false):Da t st fr i (m+1):=by
 have htk:∀ {j k},HT i (m+1) j k->HT i m j k∨(j=i∧k=m):=λ {j k} h=>by
  unfold HT at *
  omega
 refine ⟨h.len,λ j x k ht hx hk h2=>?_,h.sound,λ n l hl j x k x' ht hx hk hx' he=>?_,λ n l hl=>by have:=h.small n l hl;omega⟩
 ·rcases htk ht with ht|⟨rfl,rfl⟩
  ·exact h.cov j x k ht hx hk h2
  ·rw [hs] at hx;cases hx;rw [hst] at h2;cases h2
 ·rcases htk ht with ht|⟨rfl,rfl⟩
  ·exact h.compl n l hl j x k x' ht hx hk hx' he
  ·rw [hs] at hx;cases hx;rw [he] at hst;cases hst
end Go.AI
end
section
namespace Go.AI
theorem Kz {α:Type} {l:List α} {i:Nat} {x:α} (h:l[i]? = some x):idx l (i:Int)=some x:=by
 unfold idx
 rw [if_pos (by omega)]
 simpa using h
theorem U5 {α:Type} {eb:Nat} {xs ys:List α} (h:(xs.length+ys.length)*eb≤70368744177664):app eb xs ys=some (xs++ys):=by
 unfold app;rw [if_pos h]
theorem Wz {t:Ad} (ht:Hf t) {i m:Nat} {s:Aa} {st:List Aa} {fr:List (List Int)} {nb:List (Aa×Int)} (hF:F6 t st) (hi:st[i]? = some s) (hN:IQ st nb) (hR:Da t st fr i m) (hm:m<t.Rules.length) :
  ∃ fr' nb',IQ (Ky t s st m) nb'∧Da t (Ky t s st m) fr' i (m+1)∧∀ n,Br n t (i:Int) st fr nb (m:Int)=some (.inl (Ky t s st m,fr',nb',((m+1:Nat):Int))):=by
 have hil:=Ap hi
 have hlen:=hF.len
 have hrl:=ht.1
 have hinc:AL .i64 (m:Int) 1=((m+1:Nat):Int):=by rw [PR (by omega) (by omega)];rfl
 have hcond:decide ((m:Int)<((List.length t.Rules:Nat):Int))=true:=by simpa using hm
 cases hp:(AE t s (m:Nat)).2 with
 | false=>
  have ha:Ky t s st m=st:=by unfold Ky;rw [if_neg (by rw [hp];simp)]
  refine ⟨fr,nb,by rw [ha];exact hN,by rw [ha];exact hR.skip hi hp,λ n=>?_⟩
  unfold Br
  rw [if_pos hcond,Kz hi]
  simp only [Option.bind_some,QT ht.short,hp,Bool.not_false,if_true,Cb,hinc,ha]
 | true=>
  have hpe:AE t s (m:Nat)=((AE t s (m:Nat)).1,true):=Prod.ext rfl hp
  generalize hpp:(AE t s (m:Nat)).1=p at hpe
  by_cases hmem:p∈st
  ·have ha:Ky t s st m=st:=by unfold Ky;rw [if_neg (by rw [hpp];exact λ hh=>hh.2 hmem)]
   obtain ⟨q,hq⟩:=List.mem_iff_getElem?.1 hmem
   have hql:=Ap hq
   obtain ⟨lq,hfq⟩:∃ lq,fr[q]? = some lq:=⟨_,List.getElem?_eq_getElem (by rw [hR.len];exact hql)⟩
   have hsm:=hR.small q _ hfq
   have hget:FO p nb=some (q:Int):=by rw [hN p,CP hF.nodup hq];rfl
   have hiv:i<768:=by omega
   refine ⟨fr.set q (lq++[(i:Int)]),nb,by rw [ha];exact hN,by rw [ha];exact hR.put hF.nodup hi hm hpe hq hfq,λ n=>?_⟩
   unfold Br
   rw [if_pos hcond,Kz hi]
   simp only [Option.bind_some,QT ht.short,hpe,hget,Option.isSome_some,Bool.not_true,Bool.false_eq_true,if_false,Option.getD_some,Cv]
   rw [Kz hfq]
   simp only [Option.bind_some]
   rw [U5 (by simp;omega)]
   simp only [Option.bind_some,Cb,hinc,ha,Int.toNat_natCast]
  ·have ha:Ky t s st m=st++[p]:=by unfold Ky;rw [if_pos ⟨hp,by rw [hpp];exact hmem⟩,hpp]
   have hnd:(st++[p]).Nodup:=by have:=(hF.add ht hi hm).nodup;rwa [ha] at this
   have hget:FO p nb=none:=by rw [hN p,Hv hmem];rfl
   have hR':=hR.snoc hmem hil
   have hfq:(fr++[[]])[st.length]? = some ([]:List Int):=by rw [← hR.len];simp
   refine ⟨(fr++[[]]).set st.length ([]++[(i:Int)]),Lw p (st.length:Nat) nb,by rw [ha];exact hN.snoc hF.nodup hmem,by rw [ha];exact hR'.put hnd (by rw [List.getElem?_append_left hil];exact hi) hm hpe (by simp) hfq,λ n=>?_⟩
   unfold Br
   rw [if_pos hcond,Kz hi]
   simp only [Option.bind_some,QT ht.short,hpe,hget,Option.isSome_none,Bool.not_false,Bool.not_true,Bool.false_eq_true,if_true,if_false]
   rw [U5 (by simp;omega),Option.bind_some,U5 (by simp [hR.len];omega),Option.bind_some]
   simp only [Cv]
   rw [Kz hfq]
   simp only [Option.bind_some]
   rw [U5 (by simp)]
   simp only [Option.bind_some,Cb,hinc,ha,Int.toNat_natCast]
theorem Da.next {t:Ad} {st:List Aa} {fr:List (List Int)} {i:Nat} (h:Da t st fr i t.Rules.length) (hr:t.Rules.length≤11):Da t st fr (i+1) 0:=by
 have htk:∀ {j k},k<t.Rules.length->HT (i+1) 0 j k->HT i t.Rules.length j k:=λ {j k} hk h=>by
  unfold HT at *
  omega
 exact ⟨h.len,λ j s k ht hs hk=>h.cov j s k (htk hk ht) hs hk,h.sound,λ n l hl j s k s' ht hs hk=>h.compl n l hl j s k s' (htk hk ht) hs hk,λ n l hl=>by have:=h.small n l hl;omega⟩
theorem JcU {t:Ad} (ht:Hf t) {i:Nat} {s:Aa} {st:List Aa} {fr:List (List Int)} {nb:List (Aa×Int)} (hF:F6 t st) (hi:st[i]? = some s) (hN:IQ st nb) (hR:Da t st fr i 0) :
  ∃ r:List Aa×List (List Int)×List (Aa×Int),(r.1=JI t s t.Rules.length st∧IQ r.1 r.2.2∧Da t r.1 r.2.1 (i+1) 0) ∧
   Ev (λ n=>whl (λ (x:((List Aa)×(List (List Int))×(List (Aa×Int))×Int))=>Br n t (i:Int) x.1 x.2.1 x.2.2.1 x.2.2.2) n (st,fr,nb,0)) r:=by
 refine Ev.whlR (body:=λ n x=>Br n t (i:Int) x.1 x.2.1 x.2.2.1 x.2.2.2) (λ k x=>∃ m:Nat,m≤t.Rules.length∧k=t.Rules.length-m∧x.1=JI t s m st∧x.2.2.2=(m:Int)∧IQ x.1 x.2.2.1∧Da t x.1 x.2.1 i m) ?_ t.Rules.length (st,fr,nb,0) ⟨0,by omega,by omega,rfl,rfl,hN,hR⟩
 rintro k ⟨st',fr',nb',m'⟩ ⟨m,hm,rfl,h1,h2,h3,h4⟩
 simp only at h1 h2 h3 h4
 subst h1
 subst h2
 rcases Nat.lt_or_ge m t.Rules.length with hlt|hge
 ·left
  have hi':(JI t s m st)[i]? = some s:=OW (GZ t s st m) hi
  obtain ⟨fr2,nb2,g1,g2,g3⟩:=Wz ht (hF.exp ht hi m hm) hi' h3 h4 hlt
  exact ⟨_,t.Rules.length-(m+1),by omega,⟨m+1,hlt,rfl,(JJ t s m st).symm,rfl,g1,g2⟩,Ev.all g3⟩
 ·right
  have e:m=t.Rules.length:=by omega
  subst e
  refine ⟨(JI t s t.Rules.length st,fr',nb'),⟨rfl,h3,h4.next ht.1⟩,Ev.all λ n=>?_⟩
  unfold Br
  rw [if_neg (by simp)]
theorem XL {t:Ad} (ht:Hf t):∃ fr,Da t (Ac t) fr (Ac t).length 0∧Ev (λ n=>Fe n t) (Ac t,fr):=by
 have h0:F6 t [BK]:=⟨by simp,λ s hs=>by simp at hs;subst hs;exact ⟨by decide,by decide,by decide,by decide,by decide,by decide⟩,rfl,λ j s hj h0=>by cases j with|zero=>omega|succ j=>simp at hj⟩
 have loop:∃ r:List Aa×List (List Int),(r.1=Ac t∧Da t r.1 r.2 r.1.length 0) ∧
   Ev (λ n=>whl (λ (x:((List Aa)×(List (List Int))×(List (Aa×Int))×Int))=>Cc n t x.1 x.2.1 x.2.2.1 x.2.2.2) n ([BK],([[]]:List (List Int)),(Lw BK 0 []),0)) r:=by
  refine Ev.whlR (body:=λ n x=>Cc n t x.1 x.2.1 x.2.2.1 x.2.2.2) (λ k x=>∃ i:Nat,i≤x.1.length∧k=800-i∧SA t (800-i) i x.1=Ac t∧x.2.2.2=(i:Int)∧F6 t x.1∧IQ x.1 x.2.2.1∧Da t x.1 x.2.1 i 0) ?_ 800 _ ⟨0,by simp,by omega,rfl,rfl,h0,?_,?_⟩
  ·rintro k ⟨st,fr,nb,i'⟩ ⟨i,hil,rfl,hb,hi',hF,hN,hR⟩
   simp only at hil hb hi' hF hN hR
   subst hi'
   have hlen:=hF.len
   rcases Nat.lt_or_ge i st.length with hlt|hge
   ·left
    have hi:st[i]? = some st[i]:=List.getElem?_eq_getElem hlt
    obtain ⟨r,⟨g1,g2,g3⟩,g4⟩:=JcU ht hF hi hN hR
    have hexp:=hF.exp ht hi _ (Nat.le_refl _)
    refine ⟨(r.1,r.2.1,r.2.2,((i+1:Nat):Int)),800-(i+1),by omega,⟨i+1,?_,rfl,?_,rfl,by rw [g1];exact hexp,g2,g3⟩,?_⟩
    ·simp only [g1]
     have:=(GZ t st[i] st t.Rules.length).length_le
     omega
    ·simp only [g1]
     rw [← hb]
     have e:800-i=(800-(i+1))+1:=by omega
     rw [e]
     simp only [SA,hi]
    ·refine (Ev.bind g4 (g:=λ _ y2=>some (Sum.inl (y2.1,y2.2.1,y2.2.2,((i+1:Nat):Int)))) Ev.const).congr λ n=>?_
     unfold Cc
     rw [if_pos (by simpa using hlt)]
     have hinc:AL .i64 (i:Int) 1=((i+1:Nat):Int):=by rw [PR (by omega) (by omega)];rfl
     rw [hinc]
   ·right
    have e:i=st.length:=by omega
    subst e
    have hst:st=Ac t:=by
     rw [← hb]
     have e:800-st.length=(800-(st.length+1))+1:=by omega
     rw [e]
     simp [SA]
    refine ⟨(st,fr),⟨hst,hR⟩,Ev.all λ n=>?_⟩
    unfold Cc
    rw [if_neg (by simp)]
  ·intro s
   simp only [Lw,FO]
   by_cases e:s=BK
   ·subst e;simp
   ·have:¬ BK=s:=λ h=>e h.symm
    simp [e,this]
  ·refine ⟨rfl,λ j s k ht=>?_,λ n l hl x hx=>?_,λ n l hl j s k s' ht=>?_,λ n l hl=>?_⟩
   ·unfold HT at ht;omega
   ·cases n with
    | zero=>simp at hl;subst hl;simp at hx
    | succ n=>simp at hl
   ·unfold HT at ht;omega
   ·cases n with
    | zero=>simp at hl;subst hl;simp
    | succ n=>simp at hl
 obtain ⟨⟨st,fr⟩,⟨g1,g2⟩,g3⟩:=loop
 simp only at g1 g2
 subst g1
 refine ⟨fr,g2,?_⟩
 have hs:∀ n,Jo n=some BK:=λ n=>rfl
 refine (Ev.bind g3 (g:=λ _ y3=>some (y3.1,y3.2)) Ev.const).congr λ n=>?_
 unfold Fe
 rw [hs,Option.bind_some]
theorem XM {t:Ad} (ht:Hf t):Ev (λ n=>Gi n t) (Ac t):=by
 obtain ⟨fr,_,h⟩:=XL ht
 exact (Ev.bind h (g:=λ _ r=>some r.1) Ev.const).congr λ n=>rfl
end Go.AI
end
section
namespace Go.AI
def Tot {α:Type} (f:Nat->Option α) (P:α->Prop):Prop:=∃ z,P z∧Ev f z
def Rd2 {σ ρ:Type} (I:σ->Prop) (P:ρ->Prop):σ⊕ρ->Prop
 | .inl y=>I y
 | .inr r=>P r
variable {α β σ ρ:Type} {P R:α->Prop}
theorem Tot.ev {f:Nat->Option α} {z:α} (h:Tot f (λ x=>x=z)):Ev f z:=by obtain ⟨_,rfl,h⟩:=h;exact h
theorem Ev.tot {f:Nat->Option α} {z:α} (h:Ev f z) (hp:P z):Tot f P:=⟨z,hp,h⟩
theorem Tot.pure {z:α} (h:P z):Tot (λ _=>some z) P:=⟨z,h,Ev.const⟩
theorem Tot.all {f:Nat->Option α} {z:α} (h:∀ n,f n=some z) (hp:P z):Tot f P:=⟨z,hp,Ev.all h⟩
theorem Tot.mono {f:Nat->Option α} (h:Tot f R) (hp:∀ x,R x->P x):Tot f P:=by obtain ⟨z,hz,h⟩:=h;exact ⟨z,hp z hz,h⟩
theorem Tot.bind {f:Nat->Option β} {g:Nat->β->Option α} {R:β->Prop} (h:Tot f R) (k:∀ x,R x->Tot (λ n=>g n x) P):Tot (λ n=>(f n).bind (g n)) P:=by
 obtain ⟨x,hx,h⟩:=h
 obtain ⟨z,hz,h'⟩:=k x hx
 exact ⟨z,hz,Ev.bind h h'⟩
theorem Tot.bindE {f:Nat->Option β} {g:Nat->β->Option α} {x:β} (h:Ev f x) (k:Tot (λ n=>g n x) P):Tot (λ n=>(f n).bind (g n)) P:=by
 obtain ⟨z,hz,h'⟩:=k
 exact ⟨z,hz,Ev.bind h h'⟩
theorem Tot.bindC {x:Option β} {y:β} {g:Nat->β->Option α} (h:x=some y) (k:Tot (λ n=>g n y) P):Tot (λ n=>x.bind (g n)) P:=by subst h;exact k
theorem Tot.bindA {f:Nat->Option β} {y:β} {g:Nat->β->Option α} (h:∀ n,f n=some y) (k:Tot (λ n=>g n y) P):Tot (λ n=>(f n).bind (g n)) P:=Tot.bindE (Ev.all h) k
theorem Tot.ite {c:Bool} {a b:Nat->Option α} (h1:c=true->Tot a P) (h2:c=false->Tot b P):Tot (λ n=>if c=true then a n else b n) P:=by
 cases c with
 | true=>exact h1 rfl
 | false=>exact h2 rfl
theorem Tot.iteT {c:Bool} {a b:Nat->Option α} (h:c=true) (k:Tot a P):Tot (λ n=>if c=true then a n else b n) P:=by subst h;exact k
theorem Tot.iteF {c:Bool} {a b:Nat->Option α} (h:c=false) (k:Tot b P):Tot (λ n=>if c=true then a n else b n) P:=by subst h;exact k
theorem Tot.guard {c:Bool} {f:Nat->Option β} {d:β} {g:Nat->β->Option α} {R:β->Prop} (h:c=true->Tot f R) (k:∀ x,(c=true->R x)->Tot (λ n=>g n x) P):Tot (λ n=>(if c=true then f n else some d).bind (g n)) P:=by
 cases c with
 | true=>exact Tot.bind (h rfl) λ x hx=>k x λ _=>hx
 | false=>exact k d λ h=>by cases h
theorem Tot.congr {f g:Nat->Option α} (h:Tot f P) (e:∀ n,g n=f n):Tot g P:=by obtain ⟨z,hz,h⟩:=h;exact ⟨z,hz,h.congr e⟩
theorem Tot.sum {y:β⊕σ} {f:Nat->β->Option α} {g:Nat->σ->Option α} (h1:∀ b,y=.inl b->Tot (λ n=>f n b) P) (h2:∀ b,y=.inr b->Tot (λ n=>g n b) P):Tot (λ n=>match y with | .inl b=>f n b | .inr b=>g n b) P:=by
 cases y with
 | inl b=>exact h1 b rfl
 | inr b=>exact h2 b rfl
theorem Tot.whl {body:Nat->σ->Option (σ⊕ρ)} {P:ρ->Prop} (I:Nat->σ->Prop) (h:∀ k x,I k x->Tot (λ n=>body n x) (Rd2 (λ y=>∃ j,j<k∧I j y) P)):∀ (k:Nat) (x:σ),I k x->Tot (λ n=>Go.AI.whl (body n) n x) P:=by
 have key:∀ (k:Nat) (x:σ),I k x->∃ r,P r∧∃ N c,∀ n fuel,N≤n->c≤fuel->Go.AI.whl (body n) fuel x=some r:=by
  intro k
  induction k using Nat.strongRecOn with
  | _ k ih=>
   intro x hx
   obtain ⟨z,hz,N1,h1⟩:=h k x hx
   cases z with
   | inl y=>
    obtain ⟨j,hj,hy⟩:=hz
    obtain ⟨r,hr,N2,c,h2⟩:=ih j hj y hy
    refine ⟨r,hr,max N1 N2,c+1,λ n fuel hn hf=>?_⟩
    cases fuel with
    | zero=>omega
    | succ fuel=>
     have e:=h1 n (by omega)
     simp only at e
     simp only [Go.AI.whl,e]
     exact h2 n fuel (by omega) (by omega)
   | inr r=>
    refine ⟨r,hz,N1,1,λ n fuel hn hf=>?_⟩
    cases fuel with
    | zero=>omega
    | succ fuel=>
     have e:=h1 n hn
     simp only at e
     simp only [Go.AI.whl,e]
 intro k x hx
 obtain ⟨r,hr,N,c,hh⟩:=key k x hx
 exact ⟨r,hr,max N c,λ m hm=>hh m m (by omega) (by omega)⟩
theorem Tot.upto {body:Nat->σ->Option (σ⊕ρ)} {P:ρ->Prop} (N:Nat) (I:Nat->σ->Prop)
  (step:∀ i x,i<N->I i x->Tot (λ n=>body n x) (Rd2 (I (i+1)) P))
  (last:∀ x,I N x->Tot (λ n=>body n x) (Rd2 (λ _=>False) P)) (x:σ) (h0:I 0 x):Tot (λ n=>Go.AI.whl (body n) n x) P:=by
 refine Tot.whl (body:=body) (λ k x=>∃ i,i≤N∧k=N-i∧I i x) ?_ N x ⟨0,by omega,by omega,h0⟩
 rintro k x ⟨i,hi,rfl,hx⟩
 rcases Nat.lt_or_ge i N with hlt|hge
 ·refine (step i x hlt hx).mono λ z hz=>?_
  cases z with
  | inl y=>exact ⟨N-(i+1),by omega,i+1,by omega,rfl,hz⟩
  | inr r=>exact hz
 ·have:i=N:=by omega
  subst this
  refine (last x hx).mono λ z hz=>?_
  cases z with
  | inl y=>exact hz.elim
  | inr r=>exact hz
theorem G5 {l:List α} {i:Nat} {x:α} (h:l[i]? = some x):idx l (i:Int)=some x:=by
 unfold idx
 rw [if_pos (by omega)]
 simpa using h
theorem G6 {l:List α} {i:Nat} (h:i<l.length):idx l (i:Int)=some l[i]:=G5 (List.getElem?_eq_getElem h)
theorem KA {eb:Nat} {xs ys:List α} (h:(xs.length+ys.length)*eb≤70368744177664):app eb xs ys=some (xs++ys):=by
 unfold app;rw [if_pos h]
theorem HU {l:List α} {i:Nat} {y:α} (h:i<l.length):put l (i:Int) y=some (l.set i y):=by
 unfold put;rw [if_pos (by omega),Int.toNat_natCast]
theorem JcV {x y:List UInt8} (h:x.length+y.length≤9223372036854775807):cat x y=some (x++y):=by
 unfold cat;rw [if_pos h]
end Go.AI
end
section
namespace Go.AI
theorem Jez (a:Int):IntKind.i64.wrap a=if decide (a % 18446744073709551616≥9223372036854775808)=true then a % 18446744073709551616-18446744073709551616 else a % 18446744073709551616:=rfl
theorem w64 {a:Int} (h:-9223372036854775808≤a) (h':a<9223372036854775808):IntKind.i64.wrap a=a:=by
 rw [Jez]
 simp only [decide_eq_true_eq]
 split<;>omega
theorem OX {a b:Int} (h:-9223372036854775808≤a+b) (h':a+b<9223372036854775808):AL .i64 a b=a+b:=w64 h h'
theorem WA {a b:Int} (h:-9223372036854775808≤a-b) (h':a-b<9223372036854775808):G4 .i64 a b=a-b:=w64 h h'
theorem HV {i:Nat} (h:i<9223372036854775807):AL .i64 (i:Int) 1=((i+1:Nat):Int):=by rw [OX]<;>omega
theorem ZF {a m:Int} (h:0≤a) (hm:0<m):Bt a m=a % m∧0≤Bt a m∧Bt a m<m:=by
 have e:Bt a m=a % m:=by unfold Bt;rw [Int.tmod_eq_emod_of_nonneg h]
 rw [e];exact ⟨rfl,Int.emod_nonneg _ (by omega),Int.emod_lt_of_pos _ hm⟩
variable {α β σ ρ:Type}
theorem JjW [Inhabited α] {l:List α} {i:Int} (h:0≤i) (h':i<l.length):idx l i=some (l.getD i.toNat default):=by
 unfold idx
 rw [if_pos h,List.getD_eq_getElem?_getD,List.getElem?_eq_getElem (by omega)];rfl
theorem L7 [Inhabited α] {l:List α} {i:Nat} (h:i<l.length):idx l (i:Int)=some (l.getD i default):=by
 rw [JjW (by omega) (by omega),Int.toNat_natCast]
theorem JcW {l:List α} {a b:Int} (h:0≤a) (h1:a≤b) (h2:b≤l.length):sub l a b=some ((l.take b.toNat).drop a.toNat):=by
 unfold sub;rw [if_pos ⟨h,h1,h2⟩]
theorem Ys {l:List α} {k:Nat} (h:k≤l.length):sub l 0 (k:Int)=some (l.take k):=by
 rw [JcW (by omega) (by omega) (by omega)];simp
theorem SB {eb:Nat} {k:Int} {z:α} (h:0≤k) (h':k.toNat*eb≤70368744177664):mkl eb k z=some (List.replicate k.toNat z):=by
 unfold mkl;rw [if_pos ⟨h,h'⟩]
theorem Mz {b:Bool} (h:b=true):By b=some ():=by subst h;rfl
theorem XN {body:σ->Option (σ⊕ρ)} {r:ρ} (st:Nat->σ) (k:Nat) (step:∀ i,i<k->body (st i)=some (.inl (st (i+1)))) (last:body (st k)=some (.inr r)):∀ n,k<n->whl body n (st 0)=some r:=by
 have key:∀ (j n i:Nat),i+j=k->j<n->whl body n (st i)=some r:=by
  intro j
  induction j with
  | zero=>
   intro n i hi hn
   cases n with
   | zero=>omega
   | succ n=>
    have:i=k:=by omega
    subst this;simp only [whl,last]
  | succ j ih=>
   intro n i hi hn
   cases n with
   | zero=>omega
   | succ n=>simp only [whl,step i (by omega)];exact ih n (i+1) (by omega) (by omega)
 intro n hn
 exact key k n 0 (by omega) hn
theorem Ev.to {body:Nat->σ->Option (σ⊕ρ)} {r:ρ} (st:Nat->σ) (k:Nat) (h:∃ N,∀ n,N≤n->(∀ i,i<k->body n (st i)=some (.inl (st (i+1))))∧body n (st k)=some (.inr r)):Ev (λ n=>Go.AI.whl (body n) n (st 0)) r:=by
 obtain ⟨N,h⟩:=h
 exact ⟨max N (k+1),λ n hn=>XN st k (h n (by omega)).1 (h n (by omega)).2 n (by omega)⟩
def IR (N:Nat) (stop:Nat->Option ρ) (d:ρ):ρ:=((List.range N).findSome? stop).getD d
theorem ZG {N:Nat} {stop:Nat->Option ρ} {d:ρ} (h:∀ i,i<N->stop i=none):IR N stop d=d:=by
 unfold IR
 rw [List.findSome?_eq_none_iff.2 λ i hi=>h i (List.mem_range.1 hi)];rfl
theorem ZH {N:Nat} {stop:Nat->Option ρ} {d r:ρ} (k:Nat) (hk:k<N) (hr:stop k=some r) (h:∀ i,i<k->stop i=none):IR N stop d=r:=by
 unfold IR
 have:(List.range N).findSome? stop=some r:=by
  have e:List.range N=List.range k++(List.range (N-k)).map (k+·):=by rw [← List.range_add];congr 1;omega
  rw [e,List.findSome?_append,List.findSome?_eq_none_iff.2 λ i hi=>h i (List.mem_range.1 hi)]
  have:N-k=(N-k-1)+1:=by omega
  rw [this,List.range_succ_eq_map]
  simp [hr]
 rw [this];rfl
theorem Tc (N:Nat) (stop:Nat->Option ρ) (d:ρ):((∀ i,i<N->stop i=none)∧IR N stop d=d)∨∃ k r,k<N∧stop k=some r∧(∀ i,i<k->stop i=none)∧IR N stop d=r:=by
 by_cases h:∀ i,i<N->stop i=none
 ·exact .inl ⟨h,ZG h⟩
 ·right
  have hex:∃ k,k<N∧stop k≠none:=by
   apply Classical.byContradiction
   intro hh
   exact h λ i hi=>Classical.byContradiction λ hn=>hh ⟨i,hi,hn⟩
  have key:∀ m,(∃ k,k<m∧k<N∧stop k≠none)->∃ k,k<N∧stop k≠none∧∀ i,i<k->stop i=none:=by
   intro m
   induction m with
   | zero=>rintro ⟨k,hk,_⟩;omega
   | succ m ih=>
    rintro ⟨k,hk,h1,h2⟩
    by_cases hm:∃ k,k<m∧k<N∧stop k≠none
    ·exact ih hm
    ·refine ⟨k,h1,h2,λ i hi=>Classical.byContradiction λ hn=>hm ⟨i,by omega,by omega,hn⟩⟩
  obtain ⟨k0,h1,h2⟩:=hex
  obtain ⟨k,h3,h4,h5⟩:=key (k0+1) ⟨k0,by omega,h1,h2⟩
  obtain ⟨r,hr⟩:=Option.ne_none_iff_exists'.1 h4
  exact ⟨k,r,h3,hr,h5,ZH k h3 hr h5⟩
theorem ZI {body:Int->Option (Int⊕ρ)} {N:Nat} (stop:Nat->Option ρ) {d:ρ} (h1:∀ i,i<N->body (i:Int)=some (match stop i with|some r=>.inr r|none=>.inl ((i+1:Nat):Int))) (h2:body (N:Int)=some (.inr d)):∀ n,N<n->whl body n 0=some (IR N stop d):=by
 intro n hn
 rcases Tc N stop d with ⟨h,e⟩|⟨k,r,hk,hr,h,e⟩
 ·rw [e]
  exact XN (λ i=>(i:Int)) N (λ i hi=>by rw [h1 i hi,h i hi]) h2 n hn
 ·rw [e]
  exact XN (λ i=>(i:Int)) k (λ i hi=>by rw [h1 i (by omega),h i hi]) (by rw [h1 k hk,hr]) n (by omega)
theorem Ev.first {body:Nat->Int->Option (Int⊕ρ)} {N:Nat} (stop:Nat->Option ρ) {d:ρ} (h:∃ M,∀ n,M≤n->(∀ i,i<N->body n (i:Int)=some (match stop i with|some r=>.inr r|none=>.inl ((i+1:Nat):Int)))∧body n (N:Int)=some (.inr d)):Ev (λ n=>Go.AI.whl (body n) n 0) (IR N stop d):=by
 obtain ⟨M,h⟩:=h
 exact ⟨max M (N+1),λ n hn=>ZI stop (h n (by omega)).1 (h n (by omega)).2 n (by omega)⟩
theorem Tot.gE {P:α->Prop} {c:Bool} {f:Nat->Option β} {d x:β} {g:Nat->β->Option α} (hc:c=true) (h:Ev f x) (k:Tot (λ n=>g n x) P):Tot (λ n=>(if c=true then f n else some d).bind (g n)) P:=by
 subst hc;exact Tot.bindE h k
theorem Tot.gF {P:α->Prop} {c:Bool} {f:Nat->Option β} {d:β} {g:Nat->β->Option α} (hc:c=false) (k:Tot (λ n=>g n d) P):Tot (λ n=>(if c=true then f n else some d).bind (g n)) P:=by
 subst hc;exact k
theorem Ev.many {f:Nat->Nat->Option α} {z:Nat->α} (N:Nat) (h:∀ i,i<N->Ev (λ n=>f n i) (z i)):∃ M,∀ n,M≤n->∀ i,i<N->f n i=some (z i):=by
 induction N with
 | zero=>exact ⟨0,λ n _ i hi=>by omega⟩
 | succ N ih=>
  obtain ⟨M1,h1⟩:=ih λ i hi=>h i (by omega)
  obtain ⟨M2,h2⟩:=h N (by omega)
  exact ⟨max M1 M2,λ n hn i hi=>by
   by_cases e:i=N
   ·subst e;exact h2 n (by omega)
   ·exact h1 n (by omega) i (by omega)⟩
end Go.AI
end
section
namespace Go.AI
def scan {ρ:Type} (N:Nat) (stop:Nat->Option ρ):Unit⊕ρ:=match (List.range N).findSome? stop with
 | some r=>.inr r
 | none=>.inl ()
theorem MA {ρ:Type} {body:Nat->Int->Option (Int⊕(Unit⊕ρ))} (N:Nat) (stop:Nat->Option ρ)
  (h:∀ i,i<N->Ev (λ n=>body n (i:Int)) (match stop i with|some r=>.inr (.inr r)|none=>.inl ((i+1:Nat):Int)))
  (h2:Ev (λ n=>body n (N:Int)) (.inr (.inl ()))):Ev (λ n=>whl (body n) n 0) (AI.scan N stop):=by
 have key:∀ (k i:Nat),i+k=N->(List.range N).findSome? stop=((List.range k).map (i+·)).findSome? stop->∃ M c,∀ n fuel,M≤n->c≤fuel->whl (body n) fuel (i:Int)=some (AI.scan N stop):=by
  intro k
  induction k with
  | zero=>
   intro i hi hf
   have:i=N:=by omega
   subst this
   obtain ⟨M,hM⟩:=h2
   refine ⟨M,1,λ n fuel hn hfu=>?_⟩
   obtain ⟨fuel,rfl⟩:∃ f,fuel=f+1:=⟨fuel-1,by omega⟩
   have e:=hM n hn
   simp only at e
   simp only [AI.whl,e]
   unfold AI.scan
   rw [hf];rfl
  | succ k ih=>
   intro i hi hf
   obtain ⟨M,hM⟩:=h i (by omega)
   have hs:(List.range (k+1)).map (i+·)=i::(List.range k).map ((i+1)+·):=by
    rw [List.range_succ_eq_map]
    simp only [List.map_cons,Nat.add_zero,List.map_map,List.cons.injEq,true_and]
    apply List.map_congr_left
    intro a _
    simp only [Function.comp];omega
   rw [hs,List.findSome?_cons] at hf
   cases hst:stop i with
   | some r=>
    rw [hst] at hf hM
    refine ⟨M,1,λ n fuel hn hfu=>?_⟩
    obtain ⟨fuel,rfl⟩:∃ f,fuel=f+1:=⟨fuel-1,by omega⟩
    have e:=hM n hn
    simp only at e
    simp only [AI.whl,e]
    unfold AI.scan
    rw [hf]
   | none=>
    rw [hst] at hf hM
    obtain ⟨M2,c,h3⟩:=ih (i+1) (by omega) hf
    refine ⟨max M M2,c+1,λ n fuel hn hfu=>?_⟩
    obtain ⟨fuel,rfl⟩:∃ f,fuel=f+1:=⟨fuel-1,by omega⟩
    have e:=hM n (by omega)
    simp only at e
    simp only [AI.whl,e]
    exact h3 n fuel (by omega) (by omega)
 obtain ⟨M,c,hh⟩:=key N 0 (by omega) (by simp)
 exact ⟨max M c,λ m hm=>hh m m (by omega) (by omega)⟩
theorem MB {ρ:Type} {N:Nat} {stop:Nat->Option ρ} (h:∀ i,i<N->stop i=none):scan N stop=.inl ():=by
 unfold scan
 rw [List.findSome?_eq_none_iff.2 λ i hi=>h i (List.mem_range.1 hi)]
theorem MC {ρ:Type} {N:Nat} {stop:Nat->Option ρ} {i:Nat} (hi:i<N) (h:(stop i).isSome=true):∃ k r,k<N∧stop k=some r∧scan N stop=.inr r:=by
 unfold scan
 cases hf:(List.range N).findSome? stop with
 | none=>rw [List.findSome?_eq_none_iff.1 hf i (List.mem_range.2 hi)] at h;cases h
 | some r=>
  obtain ⟨k,hk,hr⟩:=List.exists_of_findSome?_eq_some hf
  exact ⟨k,r,List.mem_range.1 hk,hr,rfl⟩
def Qj (b:UInt8):Int:=(b.toNat:Int)
def F7 (b:UInt8):Bool:=decide (B9 .u8 (Qj b) 127≥32)&&decide (B9 .u8 (Qj b) 127≤126)
def HW (b:UInt8):Bool:=B9 .u8 (Qj b) 127==32
theorem SC {s:List UInt8} {i:Nat} {b:UInt8} (h:s[i]? = some b):Ny s (i:Int)=some (Qj b):=by
 rw [OU (Ap h)]
 unfold Nr Qj
 rw [h];rfl
theorem HX {i n:Nat} (h:i<n):decide ((i:Int)<((n:Nat):Int))=true:=by simpa using h
def HY (s:List UInt8):Int×Int:=match scan s.length (λ i=>if F7 (s.getD i 0) then none else some ((i:Int),(60:Int))) with
 | .inl _=>(((List.length s:Nat):Int),0)
 | .inr p=>p
theorem Do {α:Type} {l:List α} {i:Nat} {d:α} (h:i<l.length):l.getD i d=l[i]:=by
 rw [List.getD_eq_getElem?_getD,List.getElem?_eq_getElem h];rfl
theorem Yt {s:List UInt8} (hl:s.length<9223372036854775807):Ev (λ n=>FA n s) (HY s):=by
 unfold FA HY
 refine Ev.bind (MA s.length (λ i=>if F7 (s.getD i 0) then none else some ((i:Int),(60:Int))) (λ i hi=>Ev.all λ n=>?_) (Ev.all λ n=>?_)) ?_
 ·unfold Fd
  have hg:s[i]? = some s[i]:=List.getElem?_eq_getElem hi
  rw [if_pos (HX hi),SC hg,Do hi]
  have hc:Ds n (Qj s[i])=some (F7 s[i]):=rfl
  simp only [Option.bind_some,hc]
  cases F7 s[i] with
  | true=>simp [HV (show i<9223372036854775807 by omega)]
  | false=>simp
 ·unfold Fd
  rw [if_neg (by simp)]
 ·generalize scan s.length _=z;cases z<;>exact Ev.const
theorem JcX {s:List UInt8} (hl:s.length<9223372036854775807):Ev (λ n=>Ow n s) (HY s):=by
 unfold Ow HY
 refine Ev.bind (MA s.length (λ i=>if F7 (s.getD i 0) then none else some ((i:Int),(60:Int))) (λ i hi=>Ev.all λ n=>?_) (Ev.all λ n=>?_)) ?_
 ·unfold Iv
  have hg:s[i]? = some s[i]:=List.getElem?_eq_getElem hi
  rw [if_pos (HX hi),SC hg,Do hi]
  have hc:IX n (Qj s[i])=some (F7 s[i]):=rfl
  simp only [Option.bind_some,hc]
  cases F7 s[i] with
  | true=>simp [HV (show i<9223372036854775807 by omega)]
  | false=>simp
 ·unfold Iv
  rw [if_neg (by simp)]
 ·generalize scan s.length _=z;cases z<;>exact Ev.const
theorem WB {s:List UInt8} (h:s.all F7=true):HY s=(((List.length s:Nat):Int),0):=by
 unfold HY
 rw [MB λ i hi=>by rw [Do hi,List.all_eq_true.1 h _ (List.getElem_mem hi)];rfl]
theorem PS {s:List UInt8} (h:s.all F7=false):(HY s).2=60:=by
 rw [List.all_eq_false] at h
 obtain ⟨b,hb,hc⟩:=h
 obtain ⟨i,hi,e⟩:=List.getElem_of_mem hb
 unfold HY
 obtain ⟨k,r,hk,hr,hs⟩:=MC (stop:=λ i=>if F7 (s.getD i 0) then none else some ((i:Int),(60:Int))) hi (by
  rw [Do hi,e];simp only [Bool.not_eq_true] at hc;rw [hc];rfl)
 rw [hs]
 simp only at hr ⊢
 split at hr
 ·cases hr
 ·cases hr;rfl
theorem PT {s:List UInt8} (hl:s.length<9223372036854775807):Ev (λ n=>HJ n s) (s.all F7):=by
 unfold HJ
 refine Ev.bind (JcX hl) ?_
 cases h:s.all F7 with
 | true=>rw [WB h];exact Ev.const
 | false=>rw [PS h];exact Ev.const
def Gn (r:Av) (m:Int):Bool:=
 r.Print.all F7&&decide (r.Print.length≤4)&&decide (1≤r.Cells.length)&&decide (r.Cells.length≤4) &&
 (decide (1≤r.Left)&&decide (r.Left≤63)&&decide (1≤r.Right)&&decide (r.Right≤63)&&decide (0≤r.From)&&decide (r.From<m)&&decide (0≤r.To)&&decide (r.To<m)) &&
 r.Cells.all (λ c=>decide (c<63)) &&
 (bif r.Print.any HW then decide (r.Print.length=1)&&decide (r.Cells.length=1)&&r.Cells.any (λ c=>c==0) else !r.Cells.any (λ c=>c==0))
end Go.AI
end
section
namespace Go.AI
theorem ZJ {r:Av} (hl:r.Print.length<9223372036854775807):Ev (λ n=>whl (λ (x:(Bool×Int))=>Ef n r x.1 x.2) n (false,0)) (r.Print.any HW):=by
 refine Ev.whl (body:=λ n x=>Ef n r x.1 x.2) (λ k x=>∃ i:Nat,x.2=(i:Int)∧i≤r.Print.length∧k=r.Print.length-i∧x.1=(r.Print.take i).any HW) ?_ r.Print.length (false,0) ⟨0,rfl,by omega,by omega,by simp⟩
 rintro k ⟨b,i'⟩ ⟨i,h1,hi,rfl,h2⟩
 simp only at h1 h2
 subst h1
 subst h2
 rcases Nat.lt_or_ge i r.Print.length with hlt|hge
 ·left
  have hg:r.Print[i]? = some r.Print[i]:=List.getElem?_eq_getElem hlt
  have hcond:decide ((i:Int)<((List.length r.Print:Nat):Int))=true:=by simpa using hlt
  refine ⟨((r.Print.take (i+1)).any HW,((i+1:Nat):Int)),r.Print.length-(i+1),by omega,⟨i+1,rfl,by omega,rfl,rfl⟩,Ev.all λ n=>?_⟩
  unfold Ef
  rw [if_pos hcond]
  have ht:(r.Print.take (i+1)).any HW=((r.Print.take i).any HW||HW r.Print[i]):=by
   rw [List.take_add_one,hg];simp only [Option.toList_some,List.any_append,List.any_cons,List.any_nil,Bool.or_false]
  have hsp:∀ n,Pn n (Qj r.Print[i])=some (HW r.Print[i]):=λ n=>rfl
  rw [ht,PR (by omega) (by omega),SC hg]
  cases (r.Print.take i).any HW with
  | true=>simp
  | false=>simp [hsp]
 ·right
  have e:i=r.Print.length:=by omega
  subst e
  refine Ev.all λ n=>?_
  unfold Ef
  rw [if_neg (by simp),List.take_length]
theorem Ev.upto {σ ρ:Type} {body:Nat->σ->Option (σ⊕ρ)} {R:ρ->Prop} (N:Nat) (I:Nat->σ->Prop)
  (step:∀ i x,i<N->I i x->(∃ y,I (i+1) y∧Ev (λ n=>body n x) (.inl y))∨∃ r,R r∧Ev (λ n=>body n x) (.inr r))
  (last:∀ x,I N x->∃ r,R r∧Ev (λ n=>body n x) (.inr r)) (x:σ) (h0:I 0 x):∃ r,R r∧Ev (λ n=>Go.AI.whl (body n) n x) r:=by
 refine Ev.whlR (body:=body) (λ k x=>∃ i,i≤N∧k=N-i∧I i x) ?_ N x ⟨0,by omega,by omega,h0⟩
 rintro k x ⟨i,hi,rfl,hx⟩
 rcases Nat.lt_or_ge i N with hlt|hge
 ·rcases step i x hlt hx with ⟨y,hy,hE⟩|h
  ·exact .inl ⟨y,N-(i+1),by omega,⟨i+1,by omega,rfl,hy⟩,hE⟩
  ·exact .inr h
 ·have:i=N:=by omega
  subst this
  exact .inr (last x hx)
theorem ZK {r:Av} (hl:r.Cells.length<9223372036854775807) (y:Bool):∃ z:Bool⊕Bool,(if r.Cells.all (λ c=>decide (c<63))=true then z=.inl (r.Cells.any (λ c=>c==0)) else z=.inr false)∧Ev (λ n=>whl (λ (x:(Bool×Int))=>Dm n r y x.1 x.2) n (false,0)) z:=by
 refine Ev.upto (body:=λ n x=>Dm n r y x.1 x.2) r.Cells.length (λ i x=>x.2=(i:Int)∧x.1=(r.Cells.take i).any (λ c=>c==0)∧(r.Cells.take i).all (λ c=>decide (c<63))=true) ?_ ?_ (false,0) ⟨rfl,by simp,by simp⟩
 ·rintro i ⟨b,i'⟩ hlt ⟨h1,h2,h3⟩
  simp only at h1 h2
  subst h1
  subst h2
  have hg:r.Cells[i]? = some r.Cells[i]:=List.getElem?_eq_getElem hlt
  have hcond:decide ((i:Int)<((List.length r.Cells:Nat):Int))=true:=by simpa using hlt
  by_cases hc:r.Cells[i]<63
  ·left
   refine ⟨((r.Cells.take (i+1)).any (λ c=>c==0),((i+1:Nat):Int)),⟨rfl,rfl,?_⟩,Ev.all λ n=>?_⟩
   ·rw [List.take_add_one,hg];simp only [Option.toList_some,List.all_append,h3,List.all_cons,decide_eq_true hc,List.all_nil,Bool.and_self]
   ·unfold Dm
    have ht:(r.Cells.take (i+1)).any (λ c=>c==0)=((r.Cells.take i).any (λ c=>c==0)||r.Cells[i]==0):=by
     rw [List.take_add_one,hg];simp only [Option.toList_some,List.any_append,List.any_cons,List.any_nil,Bool.or_false]
    rw [if_pos hcond,Kz hg,Option.bind_some,if_neg (by simpa using hc),ht,PR (by omega) (by omega)]
    cases (r.Cells.take i).any (λ c=>c==0) with
    | true=>simp
    | false=>simp
  ·right
   refine ⟨.inr false,?_,Ev.all λ n=>?_⟩
   ·rw [if_neg]
    intro h
    rw [List.all_eq_true] at h
    exact hc (by simpa using h r.Cells[i] (List.getElem_mem hlt))
   ·unfold Dm
    rw [if_pos hcond,Kz hg,Option.bind_some,if_pos (by simp;omega)]
 ·rintro ⟨b,i'⟩ ⟨h1,h2,h3⟩
  simp only at h1 h2
  subst h1
  subst h2
  rw [List.take_length] at h3 ⊢
  refine ⟨.inl (r.Cells.any (λ c=>c==0)),by rw [if_pos h3],Ev.all λ n=>?_⟩
  unfold Dm
  rw [if_neg (by simp)]
theorem JcY {r:Av} (hp:r.Print.length<9223372036854775807) (hc:r.Cells.length<9223372036854775807) (m:Int):Ev (λ n=>Mv n r m) (Gn r m):=by
 obtain ⟨z,hz,hE⟩:=ZK hc (r.Print.any HW)
 have h1:=PT hp
 have h2:=ZJ (r:=r) hp
 unfold Mv
 refine Ev.bind h1 ?_
 unfold Gn
 generalize r.Print.all F7=a
 by_cases g1:((((!a)||(decide (((List.length r.Print:Nat):Int)>4)))||(decide (((List.length r.Cells:Nat):Int)<1)))||(decide (((List.length r.Cells:Nat):Int)>4)))=true
 ·simp only [g1,if_true]
  have:(a&&decide (r.Print.length≤4)&&decide (1≤r.Cells.length)&&decide (r.Cells.length≤4))=false:=by
   rw [← Bool.not_eq_true]
   intro h
   simp only [Bool.and_eq_true,decide_eq_true_eq] at h
   simp only [Bool.or_eq_true,decide_eq_true_eq,Bool.not_eq_true'] at g1
   rcases g1 with ((g|g)|g)|g
   ·rw [g] at h;simp at h
   all_goals omega
  rw [this]
  exact Ev.const
 ·simp only [g1]
  by_cases g2:((((((((decide (r.Left<1))||(decide (r.Left>63)))||(decide (r.Right<1)))||(decide (r.Right>63)))||(decide (r.From<0)))||(decide (r.From≥m)))||(decide (r.To<0)))||(decide (r.To≥m)))=true
  ·simp only [g2,if_true]
   have:(decide (1≤r.Left)&&decide (r.Left≤63)&&decide (1≤r.Right)&&decide (r.Right≤63)&&decide (0≤r.From)&&decide (r.From<m)&&decide (0≤r.To)&&decide (r.To<m))=false:=by
    rw [← Bool.not_eq_true]
    intro h
    simp only [Bool.and_eq_true,decide_eq_true_eq] at h
    simp only [Bool.or_eq_true,decide_eq_true_eq] at g2
    omega
   rw [this,Bool.and_false]
   exact Ev.const
  ·have e1:(a&&decide (r.Print.length≤4)&&decide (1≤r.Cells.length)&&decide (r.Cells.length≤4))=true:=by
    simp only [Bool.or_eq_true,decide_eq_true_eq,Bool.not_eq_true',not_or] at g1
    simp only [Bool.and_eq_true,decide_eq_true_eq]
    refine ⟨⟨⟨by simpa using g1.1.1.1,?_⟩,?_⟩,?_⟩<;>omega
   have e2:(decide (1≤r.Left)&&decide (r.Left≤63)&&decide (1≤r.Right)&&decide (r.Right≤63)&&decide (0≤r.From)&&decide (r.From<m)&&decide (0≤r.To)&&decide (r.To<m))=true:=by
    simp only [Bool.or_eq_true,decide_eq_true_eq,not_or] at g2
    simp only [Bool.and_eq_true,decide_eq_true_eq]
    omega
   rw [e1,e2]
   simp only [g2,Bool.false_eq_true,if_false]
   refine Ev.bind h2 (Ev.bind hE ?_)
   split at hz
   ·rename_i h
    subst hz
    rw [h]
    generalize r.Print.any HW=b
    cases b with
    | false=>exact Ev.const
    | true=>
     refine Ev.all λ n=>?_
     simp only [Bool.not_true,Bool.false_eq_true,if_false,Bool.and_true,Bool.true_and,cond_true]
     congr 3<;>rw [Bool.eq_iff_iff]<;>simp<;>omega
   ·rename_i h
    subst hz
    rw [Bool.not_eq_true] at h
    rw [h]
    exact Ev.const
end Go.AI
end
section
namespace Go.AI
theorem Ev.iteT {α:Type} {c:Bool} {a b:Nat->Option α} {z:α} (h:c=true) (k:Ev a z):Ev (λ n=>if c=true then a n else b n) z:=by subst h;exact k
theorem Ev.iteF {α:Type} {c:Bool} {a b:Nat->Option α} {z:α} (h:c=false) (k:Ev b z):Ev (λ n=>if c=true then a n else b n) z:=by subst h;exact k
theorem Ev.bindC {α β:Type} {x:Option β} {y:β} {g:Nat->β->Option α} {z:α} (h:x=some y) (k:Ev (λ n=>g n y) z):Ev (λ n=>x.bind (g n)) z:=by subst h;exact k
theorem Ev.guard {α β:Type} {c:Bool} {f:Nat->Option β} {d x:β} {g:Nat->β->Option α} {z:α} (h:c=true->Ev f x) (k:Ev (λ n=>g n (if c=true then x else d)) z):Ev (λ n=>(if c=true then f n else some d).bind (g n)) z:=by
 cases c with
 | true=>exact Ev.bind (h rfl) k
 | false=>exact k
theorem XO {α β:Type} {a:List α} {b:List β}:(((List.length a:Nat):Int) != ((List.length b:Nat):Int))=decide (a.length≠b.length):=by
 rw [Bool.eq_iff_iff]
 simp only [bne_iff_ne,ne_eq,decide_eq_true_eq]
 omega
theorem TQ {α:Type} [DecidableEq α] [Inhabited α] (a b:List α) (h:a.length=b.length):scan a.length (λ i=>if a.getD i default=b.getD i default then none else some false)=if a=b then .inl () else .inr false:=by
 by_cases e:a=b
 ·subst e
  rw [if_pos rfl]
  exact MB λ i _=>by rw [if_pos rfl]
 ·rw [if_neg e]
  have:∃ i,i<a.length∧a.getD i default≠b.getD i default:=by
   apply Classical.byContradiction
   intro hn
   refine e (List.ext_getElem h λ i h1 h2=>?_)
   have:=Classical.byContradiction λ hc=>hn ⟨i,h1,hc⟩
   rwa [Do h1,Do h2] at this
  obtain ⟨i,hi,hne⟩:=this
  obtain ⟨k,r,_,hr,hs⟩:=MC (stop:=λ i=>if a.getD i default=b.getD i default then none else some false) hi (by rw [if_neg hne];rfl)
  rw [hs]
  split at hr
  ·cases hr
  ·cases hr;rfl
theorem U6 (a b:List Int) (ha:a.length<9223372036854775807):Ev (λ n=>CU n a b) (decide (a=b)):=by
 unfold CU
 rw [XO]
 by_cases h:a.length=b.length
 ·refine Ev.iteF (by simp [h]) ?_
  refine Ev.bind (MA a.length (λ i=>if a.getD i default=b.getD i default then none else some false) (λ i hi=>Ev.all λ n=>?_) (Ev.all λ n=>?_)) ?_
  ·unfold Cs
   rw [if_pos (HX hi),L7 hi,L7 (by omega)]
   simp only [Option.bind_some]
   by_cases e:a.getD i default=b.getD i default
   ·rw [if_neg (by simp only [bne_iff_ne,ne_eq];exact λ hh=>hh e),if_pos e,HV (by omega)]
   ·rw [if_pos (by simp only [bne_iff_ne,ne_eq];exact e),if_neg e]
  ·unfold Cs
   rw [if_neg (by simp)]
  ·rw [TQ a b h]
   by_cases e:a=b
   ·rw [if_pos e,decide_eq_true e];exact Ev.const
   ·rw [if_neg e,decide_eq_false e];exact Ev.const
 ·refine Ev.iteT (by simp [h]) ?_
  rw [decide_eq_false (λ e=>h (by rw [e]))]
  exact Ev.const
theorem JeA (a b:Av):decide (a=b)=(a.Print==b.Print&&decide (a.Cells=b.Cells)&&a.Left==b.Left&&a.Right==b.Right&&a.From==b.From&&a.To==b.To):=by
 rw [Bool.eq_iff_iff]
 cases a;cases b
 simp only [decide_eq_true_eq,Av.mk.injEq,Bool.and_eq_true,beq_iff_eq]
 exact ⟨λ ⟨h1,h2,h3,h4,h5,h6⟩=>⟨⟨⟨⟨⟨h1,h2⟩,h3⟩,h4⟩,h5⟩,h6⟩,λ ⟨⟨⟨⟨⟨h1,h2⟩,h3⟩,h4⟩,h5⟩,h6⟩=>⟨h1,h2,h3,h4,h5,h6⟩⟩
theorem WC (a b:Av) (ha:a.Cells.length<9223372036854775807):Ev (λ n=>Hp n a b) (decide (a=b)):=by
 unfold Hp
 refine Ev.guard (λ _=>U6 a.Cells b.Cells ha) (Ev.all λ n=>?_)
 rw [JeA]
 cases h:(a.Print==b.Print)<;>simp
end Go.AI
end
section
namespace Go.AI
def JcZ (r:Av):Prop:=r.Print.length<9223372036854775807∧r.Cells.length<9223372036854775807
def KB (t:Ad):Prop:=t.Rules.length<9223372036854775807∧∀ r∈t.Rules,JcZ r
def ZL (t:Ad) (i:Nat):Unit⊕(Int×Int):=scan i (λ k=>if t.Rules.getD k default=t.Rules.getD i default then some ((i:Int),(20:Int)) else none)
def L8 (t:Ad) (i:Nat):Option (Int×Int):=if Gn (t.Rules.getD i default) t.Modes=true then (match ZL t i with | .inl _=>none | .inr p=>some p) else some ((i:Int),20)
def XP (t:Ad):Bool:=decide (t.Modes<1)||decide (t.Modes>8)||(t.Accept==0)||decide (IntKind.i64.wrap t.Accept≥SQ .i64 1 t.Modes)||decide (((List.length t.Rules:Nat):Int)<1)||decide (((List.length t.Rules:Nat):Int)>64)
def U7 (t:Ad):Int×Int:=if XP t=true then (-1,1) else match scan t.Rules.length (L8 t) with
 | .inl _=>(0,0)
 | .inr p=>p
theorem KB.get {t:Ad} (h:KB t) {i:Nat} (hi:i<t.Rules.length):JcZ (t.Rules.getD i default):=by
 rw [Do hi];exact h.2 _ (List.getElem_mem hi)
theorem ZM {t:Ad} (ht:KB t) {i:Nat} (hi:i<t.Rules.length):Ev (λ n=>whl (λ (x:Int)=>FC n t (i:Int) x) n 0) (ZL t i):=by
 refine MA i _ (λ k hk=>?_) (Ev.all λ n=>?_)
 ·unfold FC
  refine Ev.iteT (by simpa using hk) (Ev.bindC (L7 (by omega)) (Ev.bindC (L7 hi) (Ev.bind (WC _ _ (ht.get (by omega)).2) (Ev.all λ n=>?_))))
  by_cases e:t.Rules.getD k default=t.Rules.getD i default
  ·rw [if_pos (decide_eq_true e),if_pos e]
  ·rw [if_neg (by simpa using e),if_neg e,HV (by have:=ht.1;omega)]
 ·unfold FC
  rw [if_neg (by simp)]
theorem ZN {t:Ad} (ht:KB t):Ev (λ n=>whl (λ (x:Int)=>FD n t x) n 0) (scan t.Rules.length (L8 t)):=by
 refine MA _ _ (λ i hi=>?_) (Ev.all λ n=>?_)
 ·unfold FD
  refine Ev.iteT (HX hi) (Ev.bindC (L7 hi) (Ev.bind (JcY (ht.get hi).1 (ht.get hi).2 t.Modes) ?_))
  unfold L8
  cases Gn (t.Rules.getD i default) t.Modes with
  | false=>exact Ev.iteT rfl Ev.const
  | true=>
   refine Ev.iteF rfl (Ev.bind (ZM ht hi) ?_)
   cases ZL t i with
   | inl u=>refine Ev.all λ n=>?_;simp [HV (show i<9223372036854775807 by have:=ht.1;omega)]
   | inr p=>exact Ev.const
 ·unfold FD
  rw [if_neg (by simp)]
theorem Jc0 {t:Ad} (ht:KB t):Ev (λ n=>Mw n t) (U7 t):=by
 unfold Mw U7
 refine Ev.bindC (y:=()) ?_ ?_
 ·split
  ·rename_i h
   simp only [Bool.not_eq_true',Bool.or_eq_false_iff,decide_eq_false_iff_not] at h
   exact Mz (by simp;omega)
  ·rfl
 ·show Ev (λ n=>if XP t=true then _ else _) _
  cases XP t with
  | true=>exact Ev.iteT rfl Ev.const
  | false=>
   refine Ev.iteF rfl (Ev.bind (ZN ht) ?_)
   generalize scan t.Rules.length _=z
   cases z<;>exact Ev.const
def E4 (t:Ad):Bool:=!XP t&&t.Rules.all (λ r=>Gn r t.Modes)&&decide t.Rules.Nodup
theorem U9 (t:Ad):((U7 t).2==0)=E4 t:=by
 unfold U7 E4
 cases XP t with
 | true=>rfl
 | false=>
  simp only [Bool.false_eq_true,if_false,Bool.not_false,Bool.true_and]
  have h20:∀ i p,L8 t i=some p->p.2=20:=by
   intro i p h
   unfold L8 at h
   split at h
   ·split at h
    ·cases h
    ·rename_i q hq
     cases h
     unfold ZL scan at hq
     split at hq
     ·rename_i r hr
      cases hq
      obtain ⟨k,_,hk⟩:=List.exists_of_findSome?_eq_some hr
      split at hk
      ·cases hk;rfl
      ·cases hk
     ·cases hq
   ·cases h;rfl
  have hiff:(∀ i,i<t.Rules.length->L8 t i=none)↔(t.Rules.all (λ r=>Gn r t.Modes)&&decide t.Rules.Nodup)=true:=by
   simp only [Bool.and_eq_true,List.all_eq_true,decide_eq_true_eq]
   constructor
   ·intro h
    have hs:∀ i,i<t.Rules.length->Gn (t.Rules.getD i default) t.Modes=true:=by
     intro i hi
     have:=h i hi
     unfold L8 at this
     split at this
     ·assumption
     ·cases this
    refine ⟨λ r hr=>?_,?_⟩
    ·obtain ⟨i,hi,e⟩:=List.getElem_of_mem hr
     have:=hs i hi
     rwa [Do hi,e] at this
    ·rw [List.Nodup,List.pairwise_iff_getElem]
     intro k i hk hi hlt e
     have h0:=h i hi
     unfold L8 at h0
     rw [if_pos (hs i hi)] at h0
     obtain ⟨_,r,_,_,hsc⟩:=MC (N:=i) (stop:=λ k=>if t.Rules.getD k default=t.Rules.getD i default then some ((i:Int),(20:Int)) else none) hlt (by rw [Do hk,Do hi,if_pos e];rfl)
     unfold ZL at h0
     rw [hsc] at h0
     cases h0
   ·rintro ⟨h1,h2⟩ i hi
    unfold L8
    rw [if_pos (by rw [Do hi];exact h1 _ (List.getElem_mem hi))]
    have:ZL t i=.inl ():=MB λ k hk=>by
     rw [Do (show k<t.Rules.length by omega),Do hi,if_neg]
     rw [List.Nodup,List.pairwise_iff_getElem] at h2
     exact h2 k i (by omega) hi hk
    rw [this]
  cases hv:(t.Rules.all (λ r=>Gn r t.Modes)&&decide t.Rules.Nodup) with
  | true=>rw [MB (hiff.2 hv)];rfl
  | false=>
   have:¬∀ i,i<t.Rules.length->L8 t i=none:=λ h=>by rw [hiff.1 h] at hv;cases hv
   have:∃ i,i<t.Rules.length∧L8 t i≠none:=Classical.byContradiction λ hn=>this λ i hi=>Classical.byContradiction λ hc=>hn ⟨i,hi,hc⟩
   obtain ⟨i,hi,hne⟩:=this
   obtain ⟨k,r,_,hr,hs⟩:=MC hi (Option.isSome_iff_ne_none.2 hne)
   rw [hs]
   show (r.2==0)=false
   rw [h20 k r hr];rfl
theorem Jc1 {t:Ad} (ht:KB t):Ev (λ n=>Po n t) (E4 t):=by
 rw [← U9]
 exact Ev.bind (Jc0 ht) Ev.const
theorem XQ {t:Ad} {l:List Av} (h:E4 t=true) (hl:l.Sublist t.Rules) (h1:1≤l.length):E4 ⟨t.Modes,t.Accept,l⟩=true:=by
 unfold E4 XP at h ⊢
 simp only [Bool.and_eq_true,Bool.not_eq_true',Bool.or_eq_false_iff,decide_eq_false_iff_not,List.all_eq_true,decide_eq_true_eq] at h ⊢
 have hle:=hl.length_le
 exact ⟨⟨⟨⟨h.1.1.1.1,by omega⟩,by omega⟩,λ r hr=>h.1.2 r (hl.subset hr)⟩,hl.nodup h.2⟩
theorem Hw {t:Ad} (h:E4 t=true):∀ r∈t.Rules,Gn r t.Modes=true:=by
 unfold E4 at h
 simp only [Bool.and_eq_true,List.all_eq_true] at h
 exact h.1.2
end Go.AI
end
section
namespace Go.AI
def WD (r:Int):Ad:=(Jp 0 r).getD default
theorem Va (n:Nat) (k:Int) (h0:0≤k):Jp n k=some (WD (Bt k 8))∧0≤Bt k 8∧Bt k 8<8:=by
 have e:Bt k 8=k % 8:=by unfold Bt;rw [Int.tmod_eq_emod_of_nonneg h0]
 have hr:Bt k 8=0∨Bt k 8=1∨Bt k 8=2∨Bt k 8=3∨Bt k 8=4∨Bt k 8=5∨Bt k 8=6∨Bt k 8=7:=by rw [e];omega
 rcases hr with h|h|h|h|h|h|h|h
 all_goals
  refine ⟨?_,by omega,by omega⟩
  unfold Jp
  rw [h]
  rfl
def Vb (r:Av):Bool:=decide (0≤r.To)&&decide (r.To<2)&&decide (0≤r.Right)&&decide (r.Right≤63)&&decide (r.Print.length≤3)
theorem XR {r:Av} (h:Vb r=true):NV r:=by
 simp only [Vb,Bool.and_eq_true,decide_eq_true_eq] at h
 obtain ⟨⟨⟨⟨h1,h2⟩,h3⟩,h4⟩,h5⟩:=h
 exact ⟨h1,h2,h3,h4,h5⟩
def Vc (t:Ad):Bool:=decide (t.Rules.length≤8)&&t.Rules.all Vb&&decide (1≤t.Modes)&&decide (t.Modes≤2)&&E4 t
theorem JeB {r:Int} (h:0≤r) (h':r<8):Vc (WD r)=true:=by
 have:∀ k:Nat,k<8->Vc (WD (k:Int))=true:=by decide +kernel
 have e:=this r.toNat (by omega)
 rwa [Int.toNat_of_nonneg h] at e
def U8 (n:Int):Prop:=0≤n∧n<256
def Yu (x:C8):Prop:=(∀ a∈x.P,U8 a)∧(∀ a∈x.C,U8 a)∧U8 x.L∧U8 x.R∧U8 x.W.a0∧U8 x.W.a1
theorem D2 {a m:Int} (h:0≤a) (hm:0<m):0≤Bt a m∧Bt a m<m:=(ZF h hm).2
theorem NW {α:Type} {l:List α} {i:Int} (h:0≤i) (h':i<l.length):∃ x,x∈l∧idx l i=some x:=by
 have hl:i.toNat<l.length:=by omega
 refine ⟨l[i.toNat],List.getElem_mem hl,?_⟩
 unfold idx
 rw [if_pos h]
 exact List.getElem?_eq_getElem hl
theorem JeC {α:Type} {l:List α} {i:Int} (h:0≤i) (h':i<l.length):∃ z,z.length=1∧sub l i (i+1)=some z:=by
 refine ⟨(l.take (i+1).toNat).drop i.toNat,?_,?_⟩
 ·simp;omega
 ·unfold sub
  rw [if_pos (by omega)]
def Yv (a b:Av):Prop:=a.Left=b.Left∧a.Right=b.Right∧a.From=b.From∧a.To=b.To
theorem Jc2 (x:C8) (hx:∀ a∈x.P,U8 a) (r0:Av) (h0:r0.Print=[]):Tot (λ n=>whl (λ (y:(Av×Int))=>Fi n x y.1 y.2) n (r0,0)) (λ r=>r.Print.length≤3∧Yv r r0):=by
 refine Tot.upto (body:=λ n y=>Fi n x y.1 y.2) (min x.P.length 3) (λ i y=>y.2=(i:Int)∧y.1.Print.length=i∧Yv y.1 r0) ?_ ?_ (r0,0) ⟨rfl,by simp [h0],rfl,rfl,rfl,rfl⟩
 ·rintro i ⟨r,i'⟩ hi ⟨h1,h2,h3⟩
  simp only at h1 h2 h3
  subst h1
  obtain ⟨c,hcm,hci⟩:=NW (l:=x.P) (i:=(i:Int)) (by omega) (by omega)
  have hu:=hx c hcm
  have hr:=D2 (m:=9) hu.1 (by omega)
  have hw:IntKind.i64.wrap (Bt c 9)=Bt c 9:=Sx (by omega) (by omega)
  obtain ⟨z,hz1,hz⟩:=JeC (l:=([97,98,99,65,66,49,50,45,46]:List UInt8)) (i:=Bt c 9) hr.1 (by simpa using hr.2)
  unfold Fi
  refine Tot.iteT (by simp only [Bool.and_eq_true,decide_eq_true_eq];omega) (Tot.bindC hci ?_)
  simp only [hw]
  rw [OX (by omega) (by omega)]
  refine Tot.bindC hz (Tot.bindC (JcV (by omega)) (Tot.pure ⟨HV (by omega),by simp [h2,hz1],h3⟩))
 ·rintro ⟨r,i'⟩ ⟨h1,h2,h3⟩
  simp only at h1 h2 h3
  subst h1
  unfold Fi
  exact Tot.iteF (by rw [← Bool.not_eq_true];simp only [Bool.and_eq_true,decide_eq_true_eq];omega) (Tot.pure ⟨by show r.Print.length≤3;omega,h3⟩)
theorem Jc3 (x:C8) (hx:∀ a∈x.C,U8 a) (r0:Av) (h0:r0.Cells.length=1):Tot (λ n=>whl (λ (y:(Av×Int))=>Fj n x y.1 y.2) n (r0,0)) (λ r=>(r.Cells.length≤3∧1≤r.Cells.length)∧r.Print=r0.Print∧Yv r r0):=by
 refine Tot.upto (body:=λ n y=>Fj n x y.1 y.2) (min x.C.length 2) (λ i y=>y.2=(i:Int)∧y.1.Cells.length=i+1∧y.1.Print=r0.Print∧Yv y.1 r0) ?_ ?_ (r0,0) ⟨rfl,by simp [h0],rfl,rfl,rfl,rfl,rfl⟩
 ·rintro i ⟨r,i'⟩ hi ⟨h1,h2,h3,h4⟩
  simp only at h1 h2 h3 h4
  subst h1
  obtain ⟨c,hcm,hci⟩:=NW (l:=x.C) (i:=(i:Int)) (by omega) (by omega)
  have hu:=hx c hcm
  have hr:=D2 (m:=8) hu.1 (by omega)
  obtain ⟨z,_,hz⟩:=NW (l:=([1,3,9,5,7,32,44,60]:List Int)) (i:=Bt c 8) hr.1 (by simpa using hr.2)
  unfold Fj
  refine Tot.iteT (by simp only [Bool.and_eq_true,decide_eq_true_eq];omega) (Tot.bindC hci (Tot.bindC hz (Tot.bindC (KA (by simp;omega)) (Tot.pure ⟨HV (by omega),by simp [h2],h3,h4⟩))))
 ·rintro ⟨r,i'⟩ ⟨h1,h2,h3,h4⟩
  simp only at h1 h2 h3 h4
  subst h1
  unfold Fj
  exact Tot.iteF (by rw [← Bool.not_eq_true];simp only [Bool.and_eq_true,decide_eq_true_eq];omega) (Tot.pure ⟨by show r.Cells.length≤3∧1≤r.Cells.length;omega,h3,h4⟩)
theorem JeD {x:C8} (hx:Yu x) {m:Int} (hm:1≤m) (hm':m≤2):Tot (λ n=>Ov n x m) (λ r=>NV r∧(r.Cells.length≤3∧1≤r.Cells.length)∧0≤r.From∧r.From<m∧0≤r.To∧r.To<m):=by
 obtain ⟨hP,hC,hL,hR,hW0,hW1⟩:=hx
 have l8:=D2 (m:=8) hL.1 (by omega)
 have r8:=D2 (m:=8) hR.1 (by omega)
 obtain ⟨a,ham,ha⟩:=NW (l:=([63,63,2,8,17,62,4,1]:List Int)) (i:=Bt x.L 8) l8.1 (by simpa using l8.2)
 obtain ⟨b,hbm,hb⟩:=NW (l:=([63,63,2,8,17,62,4,1]:List Int)) (i:=Bt x.R 8) r8.1 (by simpa using r8.2)
 have hq:0≤JdN .u8 x.L 8:=by unfold JdN;exact (Wu _).1
 have q8:=D2 (m:=8) hq (by omega)
 obtain ⟨c,_,hc⟩:=NW (l:=([1,3,9,5,7,32,44,60]:List Int)) (i:=Bt (JdN .u8 x.L 8) 8) q8.1 (by simpa using q8.2)
 have hg:By (!(m==0))=some ():=Mz (by simp;omega)
 have w0:IntKind.i64.wrap x.W.a0=x.W.a0:=Sx (by have:=hW0.1;omega) (by have:=hW0.2;omega)
 have w1:IntKind.i64.wrap x.W.a1=x.W.a1:=Sx (by have:=hW1.1;omega) (by have:=hW1.2;omega)
 have hfr:=D2 (a:=x.W.a0) (m:=m) hW0.1 (by omega)
 have hto:=D2 (a:=x.W.a1) (m:=m) hW1.1 (by omega)
 have hbr:0≤b∧b≤63:=by
  simp at hbm
  omega
 unfold Ov
 refine Tot.bindC ha (Tot.bindC hb (Tot.bindC hg (Tot.bindC hg (Tot.bind (Jc2 x hP _ rfl) ?_))))
 rintro r1 ⟨p1,p2,p3,p4,p5⟩
 refine Tot.bindC hc (Tot.bind (Jc3 x hC _ rfl) ?_)
 rintro r2 ⟨q1,q2,q3,q4,q5,q6⟩
 simp only at q2 q3 q4 q5 q6
 rw [p3] at q4
 rw [p4] at q5
 rw [p5] at q6
 simp only [w0,w1] at q5 q6 q4
 refine Tot.pure ⟨⟨?_,?_,?_,?_,?_⟩,q1,?_,?_,?_,?_⟩
 all_goals first|(rw [q6];omega)|(rw [q4];omega)|(rw [q5];omega)|(rw [q2];exact p1)
def OY (x:MM):Prop:=0≤x.Base∧∀ r∈x.More,Yu r
structure Jc (t:Ad):Prop where
 tab:Hf t
 lo:1≤t.Modes
 hi:t.Modes≤2
 valid:E4 t=true
theorem Jc.sound {t:Ad} (h:Jc t):∀ r∈t.Rules,Gn r t.Modes=true:=Hw h.valid
theorem HZ {r:Av} {m:Int} (h:Gn r m=true):r.Print.length≤4∧1≤r.Cells.length∧r.Cells.length≤4:=by
 simp only [Gn,Bool.and_eq_true,decide_eq_true_eq] at h
 omega
theorem Jc.small {t:Ad} (h:Jc t):KB t:=⟨by have:=h.tab.1;omega,λ r hr=>by have:=HZ (h.sound r hr);exact ⟨by omega,by omega⟩⟩
theorem Jc4 (x:MM) (b:Ad) (hb:b.Rules.length≤8):Tot (λ n=>whl (λ (y:(Ad×Int))=>Fk n x b y.1 y.2) n (({ Modes:=b.Modes,Accept:=b.Accept,Rules:=[] }:Ad),0)) (λ t=>t.Modes=b.Modes∧t.Accept=b.Accept∧t.Rules.Sublist b.Rules):=by
 refine Tot.upto (body:=λ n y=>Fk n x b y.1 y.2) b.Rules.length (λ i y=>y.2=(i:Int)∧y.1.Modes=b.Modes∧y.1.Accept=b.Accept∧y.1.Rules.Sublist (b.Rules.take i)) ?_ ?_ _ ⟨rfl,rfl,rfl,by simp⟩
 ·rintro i ⟨t,i'⟩ hi ⟨h1,h2,h3,h4⟩
  simp only at h1 h2 h3 h4
  subst h1
  have ht:b.Rules.take (i+1)=b.Rules.take i++[b.Rules.getD i default]:=by rw [List.take_add_one,Do hi,List.getElem?_eq_getElem hi];rfl
  have hlen:=h4.length_le
  rw [List.length_take] at hlen
  unfold Fk
  refine Tot.iteT (HX hi) (Tot.bindC (Mz (by simp)) (Tot.ite (λ _=>Tot.bindC (L7 hi) (Tot.bindC (KA (by simp;omega)) ?_)) λ _=>?_))
  ·unfold GL
   exact Tot.pure ⟨HV (by omega),h2,h3,by rw [ht];exact h4.append (List.Sublist.refl _)⟩
  ·unfold GL
   exact Tot.pure ⟨HV (by omega),h2,h3,by rw [ht];exact h4.trans (List.sublist_append_left _ _)⟩
 ·rintro ⟨t,i'⟩ ⟨h1,h2,h3,h4⟩
  simp only at h1 h2 h3 h4
  subst h1
  rw [List.take_length] at h4
  unfold Fk
  exact Tot.iteF (by simp) (Tot.pure ⟨h2,h3,h4⟩)
structure Jiu (b t:Ad):Prop where
 modes:t.Modes=b.Modes
 accept:t.Accept=b.Accept
 rules:∀ r∈t.Rules,NV r∧r.Cells.length≤4
 valid:t.Rules=[]∨E4 t=true
theorem ZO {t:Ad} (hl:t.Rules.length≤11) (h:∀ r∈t.Rules,NV r∧r.Cells.length≤4):KB t:=⟨by omega,λ r hr=>⟨by have:=(h r hr).1.2.2.2.2;omega,by have:=(h r hr).2;omega⟩⟩
theorem Jc5 (x:MM) (hx:∀ r∈x.More,Yu r) (b t0:Ad) (hlo:1≤b.Modes) (hhi:b.Modes≤2) (h0:Jiu b t0) (hl0:t0.Rules.length≤8):Tot (λ n=>whl (λ (y:(Ad×Int))=>Fl n x b y.1 y.2) n (t0,0)) (λ t=>Jiu b t∧t.Rules.length≤10):=by
 refine Tot.upto (body:=λ n y=>Fl n x b y.1 y.2) (min x.More.length 2) (λ i y=>y.2=(i:Int)∧Jiu b y.1∧y.1.Rules.length≤8+i) ?_ ?_ _ ⟨rfl,h0,by simpa using hl0⟩
 ·rintro i ⟨t,i'⟩ hi ⟨h1,h2,h3⟩
  simp only at h1 h2 h3
  subst h1
  unfold Fl
  refine Tot.iteT (by simp only [Bool.and_eq_true,decide_eq_true_eq];omega) (Tot.bindC (G6 (by omega)) ?_)
  rw [h2.modes]
  refine Tot.bind (JeD (hx _ (List.getElem_mem _)) hlo hhi) ?_
  rintro r ⟨hr1,hr2,-⟩
  refine Tot.bindC (KA (by simp;omega)) ?_
  have hall:∀ q∈t.Rules++[r],NV q∧q.Cells.length≤4:=by
   intro q hq
   simp only [List.mem_append,List.mem_singleton] at hq
   rcases hq with hq|rfl
   ·exact h2.rules q hq
   ·exact ⟨hr1,by omega⟩
  refine Tot.bindE (Jc1 (ZO (t:=⟨b.Modes,t.Accept,t.Rules++[r]⟩) (by simp;omega) hall)) ?_
  refine Tot.ite (λ _=>?_) λ hv=>?_
  ·have e:G4 .i64 ((List.length (t.Rules++[r]):Nat):Int) 1=(t.Rules.length:Nat):=by
    rw [WA (by simp<;>omega) (by simp<;>omega)];simp
   rw [e]
   refine Tot.bindC (Ys (by simp)) ?_
   unfold GM
   rw [List.take_left' rfl]
   exact Tot.pure ⟨HV (by omega),⟨rfl,h2.accept,h2.rules,by have:=h2.valid;have hm:=h2.modes;cases t;simp only at hm this ⊢;subst hm;exact this⟩,by simp only;omega⟩
  ·unfold GM
   exact Tot.pure ⟨HV (by omega),⟨rfl,h2.accept,hall,.inr (by simpa using hv)⟩,by simp;omega⟩
 ·rintro ⟨t,i'⟩ ⟨h1,h2,h3⟩
  simp only at h1 h2 h3
  subst h1
  unfold Fl
  exact Tot.iteF (by rw [← Bool.not_eq_true];simp only [Bool.and_eq_true,decide_eq_true_eq];omega) (Tot.pure ⟨h2,by show t.Rules.length≤10;omega⟩)
theorem ZP {x:MM} (hx:OY x):∃ t,(Jc t∧1≤t.Rules.length∧t.Rules.length≤10)∧Ev (λ n=>Jq n x) t:=by
 have hb:∀ n,Jp n x.Base=some (WD (Bt x.Base 8)):=λ n=>(Va n x.Base hx.1).1
 have hok:=JeB (Va 0 x.Base hx.1).2.1 (Va 0 x.Base hx.1).2.2
 generalize WD (Bt x.Base 8)=b at *
 unfold Vc at hok
 simp only [Bool.and_eq_true,decide_eq_true_eq,List.all_eq_true] at hok
 obtain ⟨⟨⟨⟨o1,o2⟩,o3⟩,o4⟩,o5⟩:=hok
 have gb:∀ r∈b.Rules,NV r∧r.Cells.length≤4:=λ r hr=>⟨XR (o2 r hr),(HZ (Hw o5 r hr)).2.2⟩
 have hne:∀ t:Ad,E4 t=true->1≤t.Rules.length:=λ t h=>by
  unfold E4 XP at h
  simp only [Bool.and_eq_true,Bool.not_eq_true',Bool.or_eq_false_iff,decide_eq_false_iff_not] at h
  omega
 have:Tot (λ n=>Jq n x) (λ t=>Jc t∧1≤t.Rules.length∧t.Rules.length≤10):=by
  unfold Jq
  refine Tot.bindA hb (Tot.bind (Jc4 x b o1) ?_)
  rintro t1 ⟨a1,a2,a3⟩
  refine Tot.bind (Jc5 x hx.2 b t1 o3 o4 ⟨a1,a2,λ r hr=>gb r (a3.subset hr),?_⟩ (by have:=a3.length_le;omega)) ?_
  ·rcases Nat.eq_zero_or_pos t1.Rules.length with h|h
   ·exact .inl (List.length_eq_zero_iff.1 h)
   ·right
    have:=XQ o5 a3 h
    cases t1
    simp only at a1 a2 this ⊢
    subst a1 a2
    exact this
  rintro t2 ⟨b1,b2⟩
  refine Tot.ite (λ h=>?_) λ h=>?_
  ·unfold GN
   have e:(⟨t2.Modes,t2.Accept,b.Rules⟩:Ad)=b:=by rw [b1.modes,b1.accept]
   rw [e]
   exact Tot.pure ⟨⟨⟨by omega,λ r hr=>(gb r hr).1⟩,o3,o4,o5⟩,hne b o5,by omega⟩
  ·unfold GN
   have hv:E4 t2=true:=b1.valid.resolve_left λ e=>by rw [e] at h;cases h
   exact Tot.pure ⟨⟨⟨by omega,λ r hr=>(b1.rules r hr).1⟩,by rw [b1.modes];exact o3,by rw [b1.modes];exact o4,hv⟩,hne t2 hv,b2⟩
 obtain ⟨t,ht,hE⟩:=this
 exact ⟨t,ht,hE⟩
end Go.AI
end
section
namespace Go.AI
def D3 (t:Ad) (k:Int):Av:=t.Rules[k.toNat]?.getD default
theorem Dx {t:Ad} {s:Aa} {k:Int} (h:(AE t s k).2=true):0≤k∧k<t.Rules.length:=by
 unfold AE at h
 split at h
 ·cases h
 ·rename_i hk
  simp only [Bool.or_eq_true,decide_eq_true_eq,not_or] at hk
  omega
theorem SD {t:Ad} {k:Int} (h:0≤k) (h':k<t.Rules.length):idx t.Rules k=some (D3 t k):=Sz h h'
theorem Gp {t:Ad} {k:Int} (h:0≤k) (h':k<t.Rules.length):D3 t k∈t.Rules:=by
 unfold D3
 rw [List.getElem?_eq_getElem (by omega)]
 exact List.getElem_mem _
end Go.AI
end
section
namespace Go.AI
theorem JeE {st:List Aa} (hn:st.Nodup) {i j:Nat} {s:Aa} (h:st[i]? = some s) (h':st[j]? = some s):i=j:=by
 have a:=CP hn h
 rw [CP hn h'] at a
 cases a;rfl
theorem DO {i:Nat} (h:i<9223372036854775807):AL .i64 (i:Int) 1=((i+1:Nat):Int):=by
 rw [PR (by omega) (by omega)];rfl
theorem Db {st:List Aa} {s:Aa} (h:s∈st):∃ i:Nat,D1 st s=i∧st[i]? = some s:=by
 unfold D1
 cases hf:st.findIdx? (λ x=>decide (x=s)) with
 | none=>
  rw [List.findIdx?_eq_none_iff] at hf
  have:=hf s h
  simp at this
 | some i=>
  rw [List.findIdx?_eq_some_iff_getElem] at hf
  obtain ⟨hi,h1,_⟩:=hf
  refine ⟨i,rfl,?_⟩
  rw [List.getElem?_eq_getElem hi]
  simpa using h1
theorem XS {st:List Aa} {s:Aa} (h:s ∉ st):D1 st s=-1:=by
 unfold D1
 rw [Hv h]
theorem SE {st:List Aa} {s:Aa}:D1 st s<0↔s ∉ st:=by
 constructor
 ·intro h hm
  obtain ⟨i,e,_⟩:=Db hm
  omega
 ·intro h
  rw [XS h];omega
theorem WE {t:Ad} (ht:Hf t) {st:List Aa} (hF:F6 t st) {i:Nat} {s:Aa} (hi:st[i]? = some s):Tot (λ n=>whl (λ (x:((List Aa)×Int))=>DC n t (i:Int) x.1 x.2) n (st,0)) (λ r=>r=JI t s t.Rules.length st):=by
 have hr:=ht.1
 refine Tot.upto (body:=λ n x=>DC n t (i:Int) x.1 x.2) t.Rules.length (λ k x=>x.2=(k:Int)∧x.1=JI t s k st) ?_ ?_ _ ⟨rfl,rfl⟩
 ·rintro k ⟨l,k'⟩ hk ⟨e1,e2⟩
  simp only at e1 e2
  subst e1 e2
  have hFk:=hF.exp ht hi k (by omega)
  have hik:=OW (GZ t s st k) hi
  have hlen:=hFk.len
  unfold DC
  refine Tot.iteT (by simpa using hk) (Tot.bindC (G5 hik) (Tot.bindA (λ n=>Wv ht.short n s k) (Tot.guard (R:=λ z=>z=D1 (JI t s k st) (AE t s k).1) (λ _=>(Wx (by dsimp only;omega)).tot rfl) (λ z hz=>?_))))
  have hJ:∀ l',l'=JI t s (k+1) st->Tot (λ n=>Ez n (k:Int) l') (Rd2 (λ x:List Aa×Int=>x.2=((k+1:Nat):Int)∧x.1=JI t s (k+1) st) (λ r=>r=JI t s t.Rules.length st)):=by
   intro l' hl'
   unfold Ez
   exact Tot.pure ⟨DO (by omega),hl'⟩
  have hx:JI t s (k+1) st=Ky t s (JI t s k st) k:=JJ t s k st
  refine Tot.ite (λ hc=>?_) (λ hc=>?_)
  ·simp only [Bool.and_eq_true,decide_eq_true_eq] at hc
   refine Tot.bindC (KA (by simp;omega)) (hJ _ ?_)
   rw [hx]
   unfold Ky
   rw [if_pos ⟨hc.1,SE.1 (by rw [← hz hc.1];exact hc.2)⟩]
  ·refine hJ _ ?_
   rw [hx]
   unfold Ky
   rw [if_neg]
   rintro ⟨h1,h2⟩
   rw [h1,hz h1,decide_eq_true (SE.2 h2)] at hc
   cases hc
 ·rintro ⟨l,k'⟩ ⟨e1,e2⟩
  simp only at e1 e2
  subst e1 e2
  unfold DC
  exact Tot.iteF (by simp) (Tot.pure rfl)
theorem Jiv (t:Ad):F6 t [BK]:=⟨by simp,λ s hs=>by simp at hs;subst hs;exact ⟨by decide,by decide,by decide,by decide,by decide,by decide⟩,rfl,λ j s hj h0=>by cases j with|zero=>omega|succ j=>simp at hj⟩
theorem WF {t:Ad} (ht:Hf t):Ev (λ n=>J3 n t) (Ac t):=by
 have loop:Tot (λ n=>whl (λ (x:((List Aa)×Int))=>EA n t x.1 x.2) n ([BK],0)) (λ r=>r=Ac t):=by
  refine Tot.whl (body:=λ n x=>EA n t x.1 x.2) (λ k x=>∃ i:Nat,i≤x.1.length∧k=800-i∧SA t (800-i) i x.1=Ac t∧x.2=(i:Int)∧F6 t x.1) ?_ 800 _ ⟨0,by simp,by omega,rfl,rfl,Jiv t⟩
  rintro k ⟨st,i'⟩ ⟨i,hil,rfl,hb,hi',hF⟩
  simp only at hil hb hi' hF
  subst hi'
  have hlen:=hF.len
  unfold EA
  refine Tot.ite (λ hc=>?_) (λ hc=>?_)
  ·have hlt:i<st.length:=by simpa using hc
   have hi:st[i]? = some st[i]:=List.getElem?_eq_getElem hlt
   have hexp:=hF.exp ht hi _ (Nat.le_refl _)
   refine Tot.bind (WE ht hF hi) ?_
   rintro _ rfl
   refine Tot.pure ⟨800-(i+1),by omega,i+1,?_,rfl,?_,?_,hexp⟩
   ·have:=(GZ t st[i] st t.Rules.length).length_le
    dsimp only
    omega
   ·dsimp only
    rw [← hb]
    have e:800-i=(800-(i+1))+1:=by omega
    rw [e]
    simp only [SA,hi]
   ·exact DO (by omega)
  ·have hge:st.length≤i:=by simpa using hc
   have e:i=st.length:=by omega
   subst e
   refine Tot.pure ?_
   show st=Ac t
   rw [← hb]
   have e:800-st.length=(800-(st.length+1))+1:=by omega
   rw [e]
   simp [SA]
 refine Tot.ev ?_
 unfold J3
 exact Tot.bindA (y:=BK) (λ n=>rfl) (Tot.bind loop λ _ h=>Tot.pure h)
end Go.AI
end
section
namespace Go.AI
def Edge (t:Ad) (st:List Aa) (i:Nat) (k:Nat) (j:Nat):Prop:=∃ s s',st[i]? = some s∧k<t.Rules.length∧st[j]? = some s'∧AE t s (k:Nat)=(s',true)
inductive WG (t:Ad) (st:List Aa):Nat->Prop
 | acc (i:Nat) (s:Aa) (h:st[i]? = some s) (ha:Bs t s=true):WG t st i
 | step (i k j:Nat) (h:Edge t st i k j) (hj:WG t st j):WG t st i
def SF (t:Ad) (st:List Aa) (l:List Bool):Prop:=l.length=st.length∧∀ i:Nat,l[i]? = some true↔WG t st i
theorem WG.lt {t:Ad} {st:List Aa} {i:Nat} (h:WG t st i):i<st.length:=by
 cases h with
 | acc _ s h ha=>exact Ap h
 | step _ k j h hj=>obtain ⟨s,s',h,_⟩:=h;exact Ap h
theorem SF.uniq {t:Ad} {st:List Aa} {l m:List Bool} (h:SF t st l) (h':SF t st m):l=m:=by
 refine List.ext_getElem? λ i=>?_
 rcases Nat.lt_or_ge i st.length with hi|hi
 ·have h1:i<l.length:=by rw [h.1];exact hi
  have h2:i<m.length:=by rw [h'.1];exact hi
  have e:=(h.2 i).trans (h'.2 i).symm
  rw [List.getElem?_eq_getElem h1,List.getElem?_eq_getElem h2] at e ⊢
  cases ha:l[i]<;>cases hb:m[i]<;>simp_all
 ·rw [List.getElem?_eq_none_iff.2 (by rw [h.1];exact hi),List.getElem?_eq_none_iff.2 (by rw [h'.1];exact hi)]
theorem SF.of {t:Ad} {st:List Aa} {l:List Bool} (hl:l.length=st.length) (hs:∀ i,l[i]? = some true->WG t st i) (ha:∀ (i:Nat) s,st[i]? = some s->Bs t s=true->l[i]? = some true) (hc:∀ i k j,Edge t st i k j->l[j]? = some true->l[i]? = some true):SF t st l:=by
 refine ⟨hl,λ i=>⟨hs i,λ h=>?_⟩⟩
 induction h with
 | acc i s h h'=>exact ha i s h h'
 | step i k j h _ ih=>exact hc i k j h ih
def JeF (l:List Bool):Nat:=l.count false
structure Jc6 (t:Ad) (st:List Aa) (out0 out:List Bool) (g:Bool) (i m:Nat):Prop where
 len:out.length=st.length
 snd:∀ j:Nat,out[j]? = some true->WG t st j
 acc:∀ (j:Nat) s,st[j]? = some s->Bs t s=true->out[j]? = some true
 same:g=false->out=out0
 less:g=true->JeF out<JeF out0
 cl:g=false->∀ i' k j,(i'<i∨(i'=i∧k<m))->Edge t st i' k j->out[j]? = some true->out[i']? = some true
theorem Jc6.stop {t:Ad} {st:List Aa} {out0 out:List Bool} {g:Bool} {i m:Nat} (h:Jc6 t st out0 out g i m) (hm:t.Rules.length≤m∨out[i]? = some true):Jc6 t st out0 out g (i+1) 0:=by
 refine ⟨h.len,h.snd,h.acc,h.same,h.less,λ hg i' k j hi he hj=>?_⟩
 rcases Nat.lt_or_ge i' i with hlt|hge
 ·exact h.cl hg i' k j (.inl hlt) he hj
 ·have:i'=i:=by omega
  subst this
  rcases hm with hm|hm
  ·obtain ⟨s,s',_,hk,_⟩:=id he
   exact h.cl hg i' k j (.inr ⟨rfl,by omega⟩) he hj
  ·exact hm
end Go.AI
end
section
namespace Go.AI
def Jfh (t:Ad) (st:List Aa) (near:List Bool) (out:List Int) (D:Nat):Prop:=
 ∃ rk:Nat->Nat,∀ j:Nat,near[j]? = some true->rk j≤D∧((∃ s,st[j]? = some s∧Bs t s=true)∨∃ k j':Nat,out[j]? = some (k:Int)∧Edge t st j k j'∧near[j']? = some true∧rk j'<rk j)
structure WH (t:Ad) (st:List Aa) (near ring:List Bool) (out:List Int) (D:Nat) (g:Bool) (i m:Nat):Prop where
 len:ring.length=st.length
 oln:out.length=st.length
 sub:∀ j:Nat,near[j]? = some true->ring[j]? = some true
 new:∀ j:Nat,ring[j]? = some true->near[j]? = some true∨∃ k j':Nat,out[j]? = some (k:Int)∧Edge t st j k j'∧near[j']? = some true
 hom:Jfh t st near out D
 same:g=false->ring=near
 less:g=true->JeF ring<JeF near
 cl:g=false->∀ i' k j,(i'<i∨(i'=i∧k<m))->Edge t st i' k j->near[j]? = some true->ring[i']? = some true
theorem WH.stop {t:Ad} {st:List Aa} {near ring:List Bool} {out:List Int} {D:Nat} {g:Bool} {i m:Nat} (h:WH t st near ring out D g i m) (hm:t.Rules.length≤m∨ring[i]? = some true):WH t st near ring out D g (i+1) 0:=by
 refine ⟨h.len,h.oln,h.sub,h.new,h.hom,h.same,h.less,λ hg i' k j hi he hj=>?_⟩
 rcases Nat.lt_or_ge i' i with hlt|hge
 ·exact h.cl hg i' k j (.inl hlt) he hj
 ·have:i'=i:=by omega
  subst this
  rcases hm with hm|hm
  ·obtain ⟨s,s',_,hk,_⟩:=id he
   exact h.cl hg i' k j (.inr ⟨rfl,by omega⟩) he hj
  ·exact hm
theorem WH.ring {t:Ad} {st:List Aa} {near ring:List Bool} {out:List Int} {D:Nat} {g:Bool} {i m:Nat} (h:WH t st near ring out D g i m):Jfh t st ring out (D+1):=by
 obtain ⟨rk,hrk⟩:=h.hom
 refine ⟨λ j=>if near[j]? = some true then rk j else D+1,λ j hj=>?_⟩
 by_cases hn:near[j]? = some true
 ·simp only [hn,if_true]
  obtain ⟨h1,h2⟩:=hrk j hn
  refine ⟨by omega,h2.imp id ?_⟩
  rintro ⟨k,j',a,b,c,d⟩
  exact ⟨k,j',a,b,h.sub j' c,by rw [if_pos c];exact d⟩
 ·simp only [if_neg hn]
  refine ⟨by omega,?_⟩
  rcases h.new j hj with hh|⟨k,j',a,b,c⟩
  ·exact absurd hh hn
  ·exact .inr ⟨k,j',a,b,h.sub j' c,by rw [if_pos c];have:=(hrk j' c).1;omega⟩
end Go.AI
end
section
namespace Go.AI
def Ii (t:Ad) (s:Aa):List Int->Aa->Prop
 | [],s'=>s=s'
 | k::p,s'=>(AE t s k).2=true∧Ii t (AE t s k).1 p s'
theorem Ii.snoc {t:Ad}:∀ {p:List Int} {s s':Aa} {k:Int},Ii t s p s'->(AE t s' k).2=true->Ii t s (p++[k]) (AE t s' k).1
 | [],s,s',k,h,h'=>by
  unfold Ii at h
  subst h
  exact ⟨h',rfl⟩
 | a::p,s,s',k,h,h'=>⟨h.1,Ii.snoc h.2 h'⟩
theorem Ii.mem {t:Ad}:∀ {p:List Int} {s s':Aa},Ii t s p s'->∀ k∈p,0≤k∧k<t.Rules.length
 | [],_,_,_,k,hk=>by cases hk
 | a::p,s,s',h,k,hk=>by
  rcases List.mem_cons.1 hk with rfl|hk
  ·exact Dx h.1
  ·exact Ii.mem h.2 k hk
def DK (t:Ad) (p:List Int):List UInt8:=p.flatMap λ k=>(D3 t k).Print
def cellsOf (t:Ad) (p:List Int):List Int:=p.flatMap λ k=>(D3 t k).Cells
end Go.AI
end
section
namespace Go.AI
def Way (t:Ad) (q:Aa) (x:List UInt8) (p:List Int):Prop:=(∃ q',Ii t q p q'∧Bs t q'=true)∧DK t p=x
def E5 (t:Ad) (p:List Int):Nat:=(cellsOf t p).length
def L9 (t:Ad) (q:Aa) (x:List UInt8) (v:Int):Prop:=(v=-1∧∀ p,¬Way t q x p)∨∃ p,Way t q x p∧v=(E5 t p:Nat)∧∀ p',Way t q x p'->E5 t p≤E5 t p'
theorem Yw (t:Ad) (q:Aa) (x:List UInt8):∃ v,L9 t q x v:=by
 by_cases h:∃ p,Way t q x p
 ·obtain ⟨p,hp⟩:=h
  have key:∀ (n:Nat) (p:List Int),E5 t p=n->Way t q x p->∃ v,L9 t q x v:=by
   intro n
   induction n using Nat.strongRecOn with
   | _ n ih=>
    intro p hn hp
    by_cases hm:∃ p',Way t q x p'∧E5 t p'<n
    ·obtain ⟨p',h1,h2⟩:=hm
     exact ih _ h2 p' rfl h1
    ·exact ⟨(E5 t p:Nat),.inr ⟨p,hp,rfl,λ p' hp'=>Nat.le_of_not_lt λ hlt=>hm ⟨p',hp',by omega⟩⟩⟩
  exact key _ p rfl hp
 ·exact ⟨-1,.inl ⟨rfl,λ p hp=>h ⟨p,hp⟩⟩⟩
theorem L9.uniq {t:Ad} {q:Aa} {x:List UInt8} {v w:Int} (h:L9 t q x v) (h':L9 t q x w):v=w:=by
 rcases h with ⟨h1,h2⟩|⟨p,h1,h2,h3⟩
 ·rcases h' with ⟨g1,g2⟩|⟨p',g1,g2,g3⟩
  ·omega
  ·exact absurd g1 (h2 p')
 ·rcases h' with ⟨g1,g2⟩|⟨p',g1,g2,g3⟩
  ·exact absurd h1 (g2 p)
  ·have:=h3 p' g1
   have:=g3 p h1
   omega
noncomputable def AQ (t:Ad) (q:Aa) (x:List UInt8):Int:=Classical.choose (Yw t q x)
theorem OZ (t:Ad) (q:Aa) (x:List UInt8):L9 t q x (AQ t q x):=Classical.choose_spec (Yw t q x)
theorem Jc7 {t:Ad} {q:Aa} {x:List UInt8} {v:Int} (h:L9 t q x v):AQ t q x=v:=(OZ t q x).uniq h
theorem Ma {t:Ad} {q:Aa} {x:List UInt8} {p:List Int} (h:Way t q x p):0≤AQ t q x∧AQ t q x≤(E5 t p:Nat):=by
 rcases OZ t q x with ⟨h1,h2⟩|⟨p',h1,h2,h3⟩
 ·exact absurd h (h2 p)
 ·have:=h3 p h
  omega
theorem Gq {t:Ad} {q:Aa} {x:List UInt8} (h:0≤AQ t q x):∃ p,Way t q x p∧AQ t q x=(E5 t p:Nat):=by
 rcases OZ t q x with ⟨h1,h2⟩|⟨p',h1,h2,h3⟩
 ·omega
 ·exact ⟨p',h1,h2⟩
theorem WI (t:Ad) (q:Aa) (x:List UInt8):-1≤AQ t q x:=by
 rcases OZ t q x with h1|⟨p',h1,h2,h3⟩<;>omega
abbrev prt (t:Ad) (k:Int):List UInt8:=(D3 t k).Print
abbrev cls (t:Ad) (k:Int):List Int:=(D3 t k).Cells
theorem IS (t:Ad) (k:Int) (p:List Int):DK t (k::p)=prt t k++DK t p:=by simp [DK]
theorem Fu (t:Ad) (k:Int) (p:List Int):E5 t (k::p)=(cls t k).length+E5 t p:=by simp [E5,cellsOf]
theorem Way.cons {t:Ad} {q:Aa} {x:List UInt8} {p:List Int} {k:Int} (hk:(AE t q k).2=true) (h:Way t (AE t q k).1 x p):Way t q (prt t k++x) (k::p):=by
 obtain ⟨⟨q',h1,h2⟩,h3⟩:=h
 exact ⟨⟨q',⟨hk,h1⟩,h2⟩,by rw [IS,h3]⟩
theorem Way.uncons {t:Ad} {q:Aa} {x:List UInt8} {p:List Int} {k:Int} (h:Way t q x (k::p)):(AE t q k).2=true∧∃ y,x=prt t k++y∧Way t (AE t q k).1 y p:=by
 obtain ⟨⟨q',h1,h2⟩,h3⟩:=h
 exact ⟨h1.1,DK t p,by rw [← h3,IS],⟨q',h1.2,h2⟩,rfl⟩
theorem Way.nil {t:Ad} {q:Aa} {x:List UInt8} (h:Way t q x []):x=[]∧Bs t q=true:=by
 obtain ⟨⟨q',h1,h2⟩,h3⟩:=h
 unfold Ii at h1
 subst h1
 exact ⟨h3.symm,h2⟩
noncomputable def NX (t:Ad) (q:Aa) (x:List UInt8) (k:Int):Int:=
 if (AE t q k).2=true∧prt t k <+: x∧0≤AQ t (AE t q k).1 (x.drop (prt t k).length) then AQ t (AE t q k).1 (x.drop (prt t k).length)+(cls t k).length else -1
theorem Jc8 {t:Ad} {S:Aa->Prop} {x:List UInt8} {f:Aa->Int}
  (ach:∀ q,S q->f q=-1∨∃ p,Way t q x p∧f q=(E5 t p:Nat))
  (acc:∀ q,S q->x=[]->Bs t q=true->f q=0)
  (rel:∀ q k,S q->(AE t q k).2=true->prt t k≠[]->∀ y,x=prt t k++y->0≤AQ t (AE t q k).1 y->0≤f q∧f q≤AQ t (AE t q k).1 y+(cls t k).length)
  (sil:∀ q k,S q->(AE t q k).2=true->prt t k=[]->S (AE t q k).1∧(0≤f (AE t q k).1->0≤f q∧f q≤f (AE t q k).1+(cls t k).length)) :
  ∀ q,S q->L9 t q x (f q):=by
 have low:∀ (p:List Int) (q:Aa),S q->Way t q x p->0≤f q∧f q≤(E5 t p:Nat):=by
  intro p
  induction p with
  | nil=>
   intro q hq h
   obtain ⟨h1,h2⟩:=h.nil
   rw [acc q hq h1 h2]
   omega
  | cons k p ih=>
   intro q hq h
   obtain ⟨h1,y,h2,h3⟩:=h.uncons
   rw [Fu]
   by_cases he:prt t k=[]
   ·obtain ⟨g1,g2⟩:=sil q k hq h1 he
    rw [he,List.nil_append] at h2
    subst h2
    have h4:=ih _ g1 h3
    have:=g2 h4.1
    omega
   ·have h4:=Ma h3
    have:=rel q k hq h1 he y h2 h4.1
    omega
 intro q hq
 rcases ach q hq with h|⟨p,h1,h2⟩
 ·exact .inl ⟨h,λ p hp=>by have:=low p q hq hp;omega⟩
 ·exact .inr ⟨p,h1,h2,λ p' hp'=>by have:=low p' q hq hp';omega⟩
inductive H1 (t:Ad):Aa->List UInt8->List Int->Prop
 | nil {q:Aa} {x:List UInt8} (h:AQ t q x≤0):H1 t q x []
 | cons {q:Aa} {x:List UInt8} {k:Nat} {p:List Int} (h:0<AQ t q x) (hk:NX t q x k=AQ t q x) (hm:∀ j:Nat,j<k->NX t q x j≠AQ t q x) (hp:H1 t (AE t q k).1 (x.drop (prt t k).length) p):H1 t q x (k::p)
theorem H1.uniq {t:Ad} {q:Aa} {x:List UInt8} {p p':List Int} (h:H1 t q x p) (h':H1 t q x p'):p=p':=by
 induction h generalizing p' with
 | nil h=>
  cases h' with
  | nil=>rfl
  | cons g=>omega
 | cons h hk hm _ ih=>
  cases h' with
  | nil g=>omega
  | cons g gk gm gp=>
   rename_i k _ _ k' _
   have:k=k':=by
    rcases Nat.lt_trichotomy k k' with hlt|he|hgt
    ·exact absurd hk (gm _ hlt)
    ·exact he
    ·exact absurd gk (hm _ hgt)
   subst this
   rw [ih gp]
theorem TR {t:Ad} {q:Aa} {x:List UInt8} {k:Int} (h:0≤NX t q x k):(AE t q k).2=true∧(∃ y,x=prt t k++y∧x.drop (prt t k).length=y)∧0≤AQ t (AE t q k).1 (x.drop (prt t k).length)∧NX t q x k=AQ t (AE t q k).1 (x.drop (prt t k).length)+(cls t k).length:=by
 unfold NX at h ⊢
 split at h
 ·rename_i hc
  rw [if_pos hc]
  obtain ⟨y,hy⟩:=hc.2.1
  exact ⟨hc.1,⟨y,hy.symm,by rw [← hy,List.drop_left]⟩,hc.2.2,rfl⟩
 ·omega
theorem ZQ {t:Ad} (hc:∀ r∈t.Rules,1≤r.Cells.length) {q:Aa} {x:List UInt8} (h:AQ t q x=0):Way t q x []:=by
 obtain ⟨p,hp,he⟩:=Gq (t:=t) (q:=q) (x:=x) (by omega)
 cases p with
 | nil=>exact hp
 | cons k p=>
  obtain ⟨h1,_⟩:=hp.uncons
  have hk:=Dx h1
  have:=hc _ (Gp hk.1 hk.2)
  rw [Fu] at he
  simp only [cls] at he
  omega
theorem H1.way {t:Ad} (hc:∀ r∈t.Rules,1≤r.Cells.length) {q:Aa} {x:List UInt8} {p:List Int} (h:H1 t q x p) (h0:0≤AQ t q x):Way t q x p∧AQ t q x=(E5 t p:Nat):=by
 induction h with
 | nil h=>exact ⟨ZQ hc (by omega),by simp [E5,cellsOf];omega⟩
 | cons h hk hm _ ih=>
  obtain ⟨h1,⟨y,h2,h3⟩,h4,h5⟩:=TR (by rw [hk];omega)
  obtain ⟨i1,i2⟩:=ih h4
  rw [h3] at i1 i2 h5
  refine ⟨by rw [h2];exact i1.cons h1,?_⟩
  rw [Fu]
  omega
end Go.AI
end
section
namespace Go.AI
def WJ (l:List Int):Nat:=l.countP λ v=>decide (0≤v)
def phi (B:Nat) (l:List Int):Nat:=(l.map λ v=>if v<0 then B else v.toNat).sum
theorem JeG {B:Nat} {l:List Int} {j:Nat} {v c:Int} (h:l[j]? = some v) (hc:0≤c) (hlt:c<if v<0 then (B:Int) else v):phi B (l.set j c)<phi B l:=by
 induction l generalizing j with
 | nil=>simp at h
 | cons a l ih=>
  cases j with
  | zero=>
   simp only [List.getElem?_cons_zero,Option.some.injEq] at h
   subst h
   simp only [phi,List.set_cons_zero,List.map_cons,List.sum_cons]
   split at hlt
   ·rename_i h1;rw [if_pos h1,if_neg (by omega)];omega
   ·rename_i h1;rw [if_neg h1,if_neg (by omega)];omega
  | succ j=>
   simp only [List.getElem?_cons_succ] at h
   have:=ih h
   simp only [phi,List.set_cons_succ,List.map_cons,List.sum_cons] at this ⊢
   omega
theorem Jc9 {l:List Int} {j:Nat} {v c:Int} (h:l[j]? = some v) (hc:0≤c):WJ (l.set j c)=WJ l+(if v<0 then 1 else 0):=by
 induction l generalizing j with
 | nil=>simp at h
 | cons a l ih=>
  cases j with
  | zero=>
   simp only [List.getElem?_cons_zero,Option.some.injEq] at h
   subst h
   simp only [WJ,List.set_cons_zero,List.countP_cons,decide_eq_true_eq]
   rw [if_pos hc]
   by_cases h0:a<0
   ·rw [if_pos h0,if_neg (by omega)]
   ·rw [if_neg h0,if_pos (by omega)]
  | succ j=>
   simp only [List.getElem?_cons_succ] at h
   have:=ih h
   simp only [WJ,List.set_cons_succ,List.countP_cons] at this ⊢
   omega
theorem QU (l:List Int):WJ l≤l.length:=List.countP_le_length
structure Col (t:Ad) (x:List UInt8) (D:Nat) (qs:List Aa) (cur:List Int):Prop where
 len:cur.length=qs.length
 ach:∀ (j:Nat) q,qs[j]? = some q->∃ v,cur[j]? = some v∧(v=-1∨∃ p,Way t q x p∧v=(E5 t p:Nat))
 acc:∀ (j:Nat) q,qs[j]? = some q->x=[]->Bs t q=true->cur[j]? = some 0
 bnd:∀ (j:Nat) v,cur[j]? = some v->v≤((D+4*WJ cur:Nat):Int)
theorem Col.top {t:Ad} {x:List UInt8} {D:Nat} {qs:List Aa} {cur:List Int} (h:Col t x D qs cur) {j:Nat} {v:Int} (hv:cur[j]? = some v):-1≤v∧v≤((D+4*qs.length:Nat):Int):=by
 have h1:=h.bnd j v hv
 have h2:=QU cur
 rw [h.len] at h2
 have hj:j<qs.length:=by rw [← h.len];exact Ap hv
 obtain ⟨w,hw,hd⟩:=h.ach j _ (List.getElem?_eq_getElem hj)
 rw [hv] at hw
 cases hw
 refine ⟨?_,by omega⟩
 rcases hd with rfl|⟨p,_,rfl⟩<;>omega
theorem Col.get {t:Ad} {x:List UInt8} {D:Nat} {qs:List Aa} {cur:List Int} (h:Col t x D qs cur) {j:Nat} (hj:j<qs.length):∃ v,cur[j]? = some v:=⟨_,List.getElem?_eq_getElem (by rw [h.len];exact hj)⟩
theorem Col.lower {t:Ad} {x:List UInt8} {D:Nat} {qs:List Aa} {cur:List Int} (h:Col t x D qs cur) {j:Nat} {q:Aa} {v c:Int} (hq:qs[j]? = some q) (hv:cur[j]? = some v)
  (hp:∃ p,Way t q x p∧c=(E5 t p:Nat)) (hlt:v<0∨c<v) (hb:c≤((D+4*WJ cur+4:Nat):Int)) {B:Nat} (hB:c<(B:Int)):Col t x D qs (cur.set j c)∧phi B (cur.set j c)<phi B cur:=by
 have hc:0≤c:=by obtain ⟨p,_,rfl⟩:=hp;omega
 have hjl:=Ap hv
 refine ⟨⟨by rw [List.length_set];exact h.len,λ i q' hi=>?_,λ i q' hi hx ha=>?_,λ i w hw=>?_⟩,JeG hv hc (by split<;>omega)⟩
 ·by_cases e:j=i
  ·subst e
   rw [hq] at hi;cases hi
   exact ⟨c,List.getElem?_set_self hjl,.inr hp⟩
  ·rw [List.getElem?_set_ne e];exact h.ach i q' hi
 ·by_cases e:j=i
  ·subst e
   rw [h.acc j q' hi hx ha] at hv
   cases hv
   omega
  ·rw [List.getElem?_set_ne e];exact h.acc i q' hi hx ha
 ·rw [Jc9 hv hc]
  by_cases e:j=i
  ·subst e
   rw [List.getElem?_set_self hjl] at hw
   cases hw
   have:=h.bnd j v hv
   split<;>omega
  ·rw [List.getElem?_set_ne e] at hw
   have:=h.bnd i w hw
   omega
structure JjX (t:Ad) (x:List UInt8) (qs:List Aa) (cur:List Int):Prop where
 rel:∀ (j:Nat) q (k:Nat),qs[j]? = some q->(AE t q k).2=true->prt t k≠[]->∀ y,x=prt t k++y->0≤AQ t (AE t q k).1 y->∃ v,cur[j]? = some v∧0≤v∧v≤AQ t (AE t q k).1 y+(cls t k).length
structure JjY (t:Ad) (qs:List Aa) (cur:List Int):Prop where
 sil:∀ (j:Nat) q (k:Nat),qs[j]? = some q->(AE t q k).2=true->prt t k=[]->∃ (i:Nat) (w:Int),qs[i]? = some (AE t q k).1∧cur[i]? = some w∧(0≤w->∃ v,cur[j]? = some v∧0≤v∧v≤w+(cls t k).length)
theorem Col.exact {t:Ad} {x:List UInt8} {D:Nat} {qs:List Aa} {cur:List Int} (h:Col t x D qs cur) (hn:qs.Nodup) (h1:JjX t x qs cur) (h2:JjY t qs cur) {j:Nat} {q:Aa} (hq:qs[j]? = some q):cur[j]? = some (AQ t q x):=by
 let f:Aa->Int:=λ q=>cur.getD ((qs.findIdx? λ x=>decide (x=q)).getD 0) (-1)
 have hf:∀ (j:Nat) q v,qs[j]? = some q->cur[j]? = some v->f q=v:=by
  intro j q v hj hv
  show cur.getD ((qs.findIdx? λ x=>decide (x=q)).getD 0) (-1)=v
  rw [CP hn hj,Option.getD_some,List.getD_eq_getElem?_getD,hv];rfl
 have key:=Jc8 (t:=t) (S:=λ q=>∃ j:Nat,qs[j]? = some q) (x:=x) (f:=f) ?_ ?_ ?_ ?_ q ⟨j,hq⟩
 ·obtain ⟨v,hv⟩:=h.get (Ap hq)
  rw [hf j q v hq hv] at key
  rw [hv,Jc7 key]
 ·rintro q ⟨j,hj⟩
  obtain ⟨v,hv,hd⟩:=h.ach j q hj
  rw [hf j q v hj hv];exact hd
 ·rintro q ⟨j,hj⟩ hx ha
  exact hf j q 0 hj (h.acc j q hj hx ha)
 ·rintro q k ⟨j,hj⟩ hs hp y hy hc
  obtain ⟨k,rfl⟩:∃ n:Nat,k=n:=⟨k.toNat,by have:=Dx hs;omega⟩
  obtain ⟨v,hv,g1,g2⟩:=h1.rel j q k hj hs hp y hy hc
  rw [hf j q v hj hv];exact ⟨g1,g2⟩
 ·rintro q k ⟨j,hj⟩ hs hp
  obtain ⟨k,rfl⟩:∃ n:Nat,k=n:=⟨k.toNat,by have:=Dx hs;omega⟩
  obtain ⟨i,w,hi,hw,hh⟩:=h2.sil j q k hj hs hp
  refine ⟨⟨i,hi⟩,?_⟩
  rw [hf i _ w hi hw]
  intro h0
  obtain ⟨v,hv,g1,g2⟩:=hh h0
  rw [hf j q v hj hv];exact ⟨g1,g2⟩
theorem O2 {t:Ad} {q:Aa} {k:Int} {y:List UInt8} {c:Int} (hs:(AE t q k).2=true) (h:∃ p,Way t (AE t q k).1 y p∧c=(E5 t p:Nat)):∃ p,Way t q (prt t k++y) p∧c+((cls t k).length:Nat)=(E5 t p:Nat):=by
 obtain ⟨p,hp,rfl⟩:=h
 exact ⟨k::p,hp.cons hs,by rw [Fu];omega⟩
end Go.AI
end
section
namespace Go.AI
structure G0 (t:Ad):Prop where
 tab:Hf t
 cl:∀ r∈t.Rules,1≤r.Cells.length∧r.Cells.length≤4
theorem G0.one {t:Ad} (h:G0 t):∀ r∈t.Rules,1≤r.Cells.length:=λ r hr=>(h.cl r hr).1
theorem G0.pr {t:Ad} (h:G0 t) {k:Int} {q:Aa} (hk:(AE t q k).2=true):(prt t k).length≤3∧1≤(cls t k).length∧(cls t k).length≤4:=by
 have h1:=Dx hk
 have hm:=Gp h1.1 h1.2
 exact ⟨(h.tab.2 _ hm).2.2.2.2,h.cl _ hm⟩
theorem SG {α:Type} (l:List α) (i:Nat) (d:α):l.set i (l.getD i d)=l:=by
 apply List.ext_getElem?
 intro j
 rw [List.getElem?_set]
 split
 ·rename_i e;subst e
  split
  ·rename_i hl;rw [List.getD_eq_getElem?_getD,List.getElem?_eq_getElem hl];rfl
  ·rename_i hl;rw [List.getElem?_eq_none (by omega)]
 ·rfl
theorem G1 {α:Type} {l:List α} {i:Nat} (h:i<l.length) (y d:α):(l.set i y).getD i d=y:=by
 rw [List.getD_eq_getElem?_getD,List.getElem?_set_self h];rfl
theorem IT {α:Type} {l:List α} {i j:Nat} (h:i≠j) (y d:α):(l.set i y).getD j d=l.getD j d:=by
 rw [List.getD_eq_getElem?_getD,List.getElem?_set_ne h,← List.getD_eq_getElem?_getD]
theorem E6 {α:Type} {l:List α} {i:Nat} (d:α) (h:i<l.length):idx l (i:Int)=some (l.getD i d):=by
 rw [G6 h,Do h]
theorem ZR {s pr:List UInt8} {i:Nat} (hi:i≤s.length) (hs:s.length<1000000) (hp:pr.length<1000000) (n:Nat):J4 n s (i:Int) pr=some (pr.isPrefixOf (s.drop i)):=by
 unfold J4
 have e:AL .i64 (i:Int) ((List.length pr:Nat):Int)=((i+pr.length:Nat):Int):=by rw [OX]<;>omega
 rw [e]
 by_cases h:i+pr.length≤s.length
 ·rw [if_pos (by simp;omega),JcW (by omega) (by omega) (by omega),Option.bind_some]
  congr 1
  rw [Bool.eq_iff_iff,Bool.and_eq_true,beq_iff_eq,List.isPrefixOf_iff_prefix]
  have e2:(s.take ((i+pr.length:Nat):Int).toNat).drop (i:Int).toNat=(s.drop i).take pr.length:=by
   rw [Int.toNat_natCast,Int.toNat_natCast,List.drop_take];congr 1;omega
  rw [e2]
  constructor
  ·rintro ⟨_,h2⟩;rw [← h2];exact List.take_prefix _ _
  ·intro h2;exact ⟨by simp;omega,(List.prefix_iff_eq_take.1 h2).symm⟩
 ·rw [if_neg (by simp;omega),Option.bind_some]
  congr 1
  have:decide (((i+pr.length:Nat):Int)≤((List.length s:Nat):Int))=false:=by simp;omega
  rw [this,Bool.false_and,eq_comm,← Bool.not_eq_true,List.isPrefixOf_iff_prefix]
  intro hp'
  have:=hp'.length_le
  rw [List.length_drop] at this
  omega
theorem D4 {s pr:List UInt8} {i:Nat} (h:pr.isPrefixOf (s.drop i)=true):s.drop i=pr++s.drop (i+pr.length)∧(i≤s.length->i+pr.length≤s.length):=by
 rw [List.isPrefixOf_iff_prefix] at h
 obtain ⟨y,hy⟩:=h
 have:s.drop (i+pr.length)=y:=by rw [← List.drop_drop,← hy,List.drop_left]
 rw [this,hy]
 refine ⟨rfl,λ hi=>?_⟩
 have:=congrArg List.length hy
 rw [List.length_append,List.length_drop] at this
 omega
def KC (t:Ad) (s:List UInt8) (out:List (List Int)) (i:Nat) (q:Aa) (k:Nat):Int:=
 if (AE t q k).2=true∧(prt t k).isPrefixOf (s.drop i)=true then
  (if (out.getD (i+(prt t k).length) []).getD (D1 (Ac t) (AE t q k).1).toNat 0<0 then -1 else (out.getD (i+(prt t k).length) []).getD (D1 (Ac t) (AE t q k).1).toNat 0+(cls t k).length) else -1
structure Ns (t:Ad) (s:List UInt8) (i:Nat) (row:List Int):Prop where
 len:row.length=(Ac t).length
 val:∀ (j:Nat) q,(Ac t)[j]? = some q->row[j]? = some (AQ t q (s.drop i))
 bnd:∀ (j:Nat) v,row[j]? = some v->v≤((3072*(s.length-i+1):Nat):Int)
structure Suf (t:Ad) (s:List UInt8) (i:Nat) (out:List (List Int)):Prop where
 len:out.length=s.length+1
 rows:∀ i',i<i'->i'≤s.length->Ns t s i' (out.getD i' [])
 col:Col t (s.drop i) (3072*(s.length-i)) (Ac t) (out.getD i [])
section
variable {t:Ad} (hT:G0 t) {s:List UInt8} (hs:s.length≤4000)
include hT
theorem GC {q:Aa} (hq:q∈Ac t) {k:Nat} (hk:(AE t q k).2=true):(AE t q k).1∈Ac t:=by
 obtain ⟨j,hj,e⟩:=List.getElem_of_mem hq
 have h:=Dx hk
 exact (Hy hT.tab).2 (j+1) j q (by omega) (by rw [← e];exact List.getElem?_eq_getElem hj) k (by omega) hk
theorem KD:(Ac t).length≤768:=(Hy hT.tab).1.len
theorem Jda:(Ac t).Nodup:=(Hy hT.tab).1.nodup
include hs
theorem XT {i:Nat} (hi:i≤s.length) {out:List (List Int)} (hol:out.length=s.length+1) (hR:∀ i',i≤i'->i'≤s.length->(out.getD i' []).length=(Ac t).length∧∀ (j:Nat) v,(out.getD i' [])[j]? = some v->-1≤v∧v≤13000000) {q:Aa} (hq:q∈Ac t) {k:Nat} (hk:k<t.Rules.length):Ev (λ n=>Js n t ⟨s,i,q,Ac t⟩ k out) (KC t s out i q k):=by
 have hlen:=KD hT
 unfold Js KC
 refine Ev.bind (Ev.all λ n=>Wv hT.tab.short n q k) ?_
 cases hst:(AE t q k).2 with
 | false=>
  refine Ev.all λ n=>?_
  simp
 | true=>
  obtain ⟨p1,p2,p3⟩:=hT.pr hst
  have hr:=SD (t:=t) (k:=(k:Int)) (by omega) (by omega)
  refine Ev.all (f:=λ n=>_) (λ n=>?_) |>.bind (x:=D3 t k) ?_
  ·simp [hr]
  refine Ev.bind (x:=(prt t k).isPrefixOf (s.drop i)) (Ev.all λ n=>?_) ?_
  ·rw [if_pos (by simp)]
   exact ZR hi (by omega) (by simp only [prt] at p1;omega) n
  cases hb:(prt t k).isPrefixOf (s.drop i) with
  | false=>exact Ev.iteT (by simp) (by simp;exact Ev.const)
  | true=>
   obtain ⟨q1,q2⟩:=D4 hb
   have q2:=q2 hi
   refine Ev.iteF (by simp) (Ev.bindC hr ?_)
   have e:AL .i64 (i:Int) ((List.length (D3 t k).Print:Nat):Int)=((i+(prt t k).length:Nat):Int):=by rw [OX]<;>simp only [prt] at*<;> omega
   rw [show (({ S:=s,I:=(i:Int),State:=q,L:=Ac t }:R1).I)=(i:Int) from rfl,e]
   refine Ev.bindC (E6 [] (by omega)) ?_
   have hmem:=GC hT hq hst
   obtain ⟨m,hm,hmg⟩:=Db hmem
   refine Ev.bind (Wx (l:=Ac t) (s:=(AE t q k).1) (by omega)) ?_
   rw [hm]
   have hml:=Ap hmg
   obtain ⟨hrl,hrb⟩:=hR (i+(prt t k).length) (by omega) q2
   refine Ev.bindC (E6 0 (by rw [hrl];exact hml)) ?_
   simp only [Int.toNat_natCast,and_self,if_true]
   generalize hv:(out.getD (i+(prt t k).length) []).getD m 0=v
   have hvg:(out.getD (i+(prt t k).length) [])[m]? = some v:=by
    rw [← hv,List.getD_eq_getElem?_getD (l:=out.getD (i+(prt t k).length) []),List.getElem?_eq_getElem (by rw [hrl];exact hml)];rfl
   have hvb:=hrb m v hvg
   by_cases hneg:v<0
   ·rw [if_pos hneg]
    exact Ev.iteT (by simpa using hneg) Ev.const
   ·rw [if_neg hneg]
    refine Ev.iteF (by simpa using hneg) (Ev.bindC hr (Ev.all λ n=>?_))
    rw [OX (by simp only [cls] at *;omega) (by simp only [cls] at *;omega)]
theorem SH {i:Nat} {row:List Int} (h:Ns t s i row):row.length=(Ac t).length∧∀ (j:Nat) v,row[j]? = some v->-1≤v∧v≤13000000:=by
 have _:=hT
 refine ⟨h.len,λ j v hv=>?_⟩
 have h1:=h.bnd j v hv
 have hj:j<(Ac t).length:=by rw [← h.len];exact Ap hv
 have h2:=h.val j _ (List.getElem?_eq_getElem hj)
 rw [hv] at h2
 have:=WI t (Ac t)[j] (s.drop i)
 simp only [Option.some.injEq] at h2
 omega
theorem Jdb {i:Nat} (hi:i≤s.length) {out:List (List Int)} (ho:Suf t s i out) {q:Aa} (hq:q∈Ac t) {k:Nat} (hk:k<t.Rules.length):Ev (λ n=>Js n t ⟨s,i,q,Ac t⟩ k out) (KC t s out i q k):=by
 refine XT hT hs hi ho.len (λ i' h1 h2=>?_) hq hk
 rcases Nat.eq_or_lt_of_le h1 with rfl|hlt
 ·refine ⟨ho.col.len,λ j v hv=>?_⟩
  have h1:=ho.col.top hv
  have:=KD hT
  omega
 ·exact SH hT hs (ho.rows i' hlt h2)
omit hs in
theorem JeH {i:Nat} (hi:i≤s.length) {out:List (List Int)} (ho:Suf t s i out) {q:Aa} (hq:q∈Ac t) {k:Nat} (h:0≤KC t s out i q k) :
  (∃ p,Way t q (s.drop i) p∧KC t s out i q k=(E5 t p:Nat))∧KC t s out i q k≤((3072*(s.length-i)+4*WJ (out.getD i [])+4:Nat):Int):=by
 unfold KC at h ⊢
 split at h
 ·rename_i hc
  rw [if_pos hc]
  obtain ⟨hst,hb⟩:=hc
  obtain ⟨p1,p2,p3⟩:=hT.pr hst
  obtain ⟨q1,q2⟩:=D4 hb
  have q2:=q2 hi
  obtain ⟨m,hm,hmg⟩:=Db (GC hT hq hst)
  rw [hm,Int.toNat_natCast] at h ⊢
  split at h
  ·omega
  ·rename_i hneg
   rw [if_neg hneg]
   rcases Nat.eq_zero_or_pos (prt t k).length with h0|h0
   ·have hp0:prt t k=[]:=List.length_eq_zero_iff.1 h0
    rw [h0,Nat.add_zero] at h hneg ⊢
    obtain ⟨v,hv,hd⟩:=ho.col.ach m _ hmg
    have hvv:(out.getD i []).getD m 0=v:=by rw [List.getD_eq_getElem?_getD (l:=out.getD i []),hv];rfl
    rw [hvv] at h hneg ⊢
    have hbn:=ho.col.bnd m v hv
    refine ⟨?_,by omega⟩
    have:=O2 hst (hd.resolve_left (by omega))
    rw [hp0,List.nil_append] at this
    exact this
   ·have hR:=ho.rows _ (show i<i+(prt t k).length by omega) q2
    have hv:=hR.val m _ hmg
    have hvv:(out.getD (i+(prt t k).length) []).getD m 0=AQ t (AE t q k).1 (s.drop (i+(prt t k).length)):=by
     rw [List.getD_eq_getElem?_getD (l:=out.getD (i+(prt t k).length) []),hv];rfl
    have hbn:=hR.bnd m _ hv
    rw [hvv] at h hneg ⊢
    refine ⟨?_,?_⟩
    ·have:=O2 hst (Gq (x:=s.drop (i+(prt t k).length)) (by omega))
     rwa [← q1] at this
    ·have:3072*(s.length-(i+(prt t k).length)+1)≤3072*(s.length-i):=by omega
     omega
 ·omega
def Jiw (t:Ad) (s:List UInt8) (i:Nat) (out:List (List Int)) (j k:Nat):Prop:=∀ q,(Ac t)[j]? = some q->0≤KC t s out i q k->∃ v,(out.getD i [])[j]? = some v∧0≤v∧v≤KC t s out i q k
omit hs in
theorem Jdc {i:Nat} (hi:i≤s.length) {out:List (List Int)} (ho:Suf t s i out) (h:∀ j k,j<(Ac t).length->k<t.Rules.length->Jiw t s i out j k):Ns t s i (out.getD i []):=by
 have hx:∀ (j:Nat) q,(Ac t)[j]? = some q->(out.getD i [])[j]? = some (AQ t q (s.drop i)):=by
  intro j q hq
  refine ho.col.exact (Jda hT) ⟨λ j q k hj hst hp y hy hc=>?_⟩ ⟨λ j q k hj hst hp=>?_⟩ hq
  ·have hk:=Dx hst
   have hb:(prt t k).isPrefixOf (s.drop i)=true:=by rw [List.isPrefixOf_iff_prefix,hy];exact List.prefix_append _ _
   obtain ⟨q1,q2⟩:=D4 hb
   have q2:=q2 hi
   have hyy:s.drop (i+(prt t k).length)=y:=by rw [q1] at hy;exact List.append_cancel_left hy
   have hlp:0<(prt t k).length:=List.length_pos_iff.2 hp
   obtain ⟨m,hm,hmg⟩:=Db (GC hT (List.mem_of_getElem? hj) hst)
   have hv:=(ho.rows _ (show i<i+(prt t k).length by omega) q2).val m _ hmg
   have ha:KC t s out i q k=AQ t (AE t q k).1 y+(cls t k).length:=by
    unfold KC
    rw [if_pos ⟨hst,hb⟩,hm,Int.toNat_natCast,List.getD_eq_getElem?_getD (l:=out.getD (i+(prt t k).length) []),hv,Option.getD_some,hyy,if_neg (by omega)]
   have:=h j k (Ap hj) (by omega) q hj (by omega)
   rwa [ha] at this
  ·have hk:=Dx hst
   obtain ⟨m,hm,hmg⟩:=Db (GC hT (List.mem_of_getElem? hj) hst)
   obtain ⟨w,hw,_⟩:=ho.col.ach m _ hmg
   refine ⟨m,w,hmg,hw,λ h0=>?_⟩
   have ha:KC t s out i q k=w+(cls t k).length:=by
    unfold KC
    rw [if_pos ⟨hst,by rw [hp];rfl⟩,hm,Int.toNat_natCast,hp,List.length_nil,Nat.add_zero,List.getD_eq_getElem?_getD (l:=out.getD i []),hw,Option.getD_some,if_neg (by omega)]
   have:=h j k (Ap hj) (by omega) q hj (by omega)
   rwa [ha] at this
 refine ⟨ho.col.len,hx,λ j v hv=>?_⟩
 have h1:=(ho.col.top hv).2
 have:=KD hT
 omega
end
end Go.AI
end
section
namespace Go.AI
section
variable {t:Ad} (hT:G0 t) {s:List UInt8} (hs:s.length≤4000)
include hT
def CW (t:Ad) (x:List UInt8) (q:Aa):Int:=if x=[]∧Bs t q=true then 0 else -1
omit hT in
theorem TT (t:Ad) (x:List UInt8) (D:Nat) (qs:List Aa):Col t x D qs (qs.map (CW t x)):=by
 refine ⟨by simp,λ j q hj=>⟨CW t x q,by simp [hj],?_⟩,λ j q hj hx ha=>by simp [hj,CW,hx,ha],λ j v hv=>?_⟩
 ·unfold CW
  split
  ·rename_i h;exact .inr ⟨[],⟨⟨q,rfl,h.2⟩,by rw [h.1];rfl⟩,by simp [E5,cellsOf]⟩
  ·exact .inl rfl
 ·rw [List.getElem?_map,Option.map_eq_some_iff] at hv
  obtain ⟨q,_,rfl⟩:=hv
  unfold CW
  split<;>omega
include hs
omit hT in
theorem WK {i:Nat} (hi:i≤s.length):(((i:Nat):Int)==((List.length s:Nat):Int))=decide (s.drop i=[]):=by
 have _:=hs
 rw [Bool.eq_iff_iff]
 simp only [beq_iff_eq,decide_eq_true_eq,List.drop_eq_nil_iff]
 omega
theorem JeI {i:Nat} (hi:i≤s.length) (out0:List (List Int)) (hl:out0.length=s.length+1) (hr:(out0.getD i []).length=(Ac t).length) :
  Tot (λ n=>whl (λ (x:((List (List Int))×Int))=>CH n t s (Ac t) (i:Int) x.1 x.2) n (out0,0)) (λ out=>out=out0.set i ((Ac t).map (CW t (s.drop i)))):=by
 have hlen:=KD hT
 refine Tot.upto (body:=λ n x=>CH n t s (Ac t) (i:Int) x.1 x.2) (Ac t).length (λ k x=>x.2=(k:Int)∧∃ row,x.1=out0.set i row∧row.length=(Ac t).length∧∀ (j:Nat) q,j<k->(Ac t)[j]? = some q->row[j]? = some (CW t (s.drop i) q)) ?_ ?_ _ ⟨rfl,out0.getD i [],(SG _ _ _).symm,hr,by omega⟩
 ·rintro k ⟨out,k'⟩ hk ⟨e1,row,e2,e3,e4⟩
  simp only at e1 e2
  subst e1 e2
  have hJ:∀ v,v=CW t (s.drop i) (Ac t)[k]->∀ out',out'=out0.set i (row.set k v)->Tot (λ n=>Du n (k:Int) out') (Rd2 (λ x:List (List Int)×Int=>x.2=((k+1:Nat):Int)∧∃ row,x.1=out0.set i row∧row.length=(Ac t).length∧∀ (j:Nat) q,j<k+1->(Ac t)[j]? = some q->row[j]? = some (CW t (s.drop i) q)) (λ out=>out=out0.set i ((Ac t).map (CW t (s.drop i))))):=by
   intro v hv out' ho'
   unfold Du
   refine Tot.pure ⟨DO (by omega),_,ho',by rw [List.length_set];exact e3,λ j q hj hq=>?_⟩
   by_cases e:k=j
   ·subst e
    rw [List.getElem?_set_self (by omega),hv]
    rw [List.getElem?_eq_getElem hk] at hq
    cases hq;rfl
   ·rw [List.getElem?_set_ne e];exact e4 j q (by omega) hq
  unfold CH
  have hil:i<(out0.set i row).length:=by rw [List.length_set];omega
  have hg:(out0.set i row).getD i []=row:=G1 (by omega) _ _
  refine Tot.iteT (HX hk) (Tot.bindC (E6 [] hil) ?_)
  rw [hg]
  refine Tot.bindC (E6 0 (by omega)) (Tot.bindC (HU (by omega)) ?_)
  rw [WK hs hi,Int.toNat_natCast,List.set_set]
  by_cases hd:s.drop i=[]
  ·refine Tot.gE (decide_eq_true hd) (Ev.all λ n=>G6 hk) (Tot.gE (decide_eq_true hd) (Ev.all λ n=>Ww n t _) (Tot.ite (λ h=>?_) λ h=>?_))
   ·have ha:Bs t (Ac t)[k]=true:=by simpa [hd] using h
    refine Tot.bindC (E6 [] (by rw [List.length_set];omega)) ?_
    rw [G1 (by omega)]
    refine Tot.bindC (E6 0 (by rw [List.length_set];omega)) (Tot.bindC (HU (by rw [List.length_set];omega)) (hJ 0 ?_ _ ?_))
    ·unfold CW;rw [if_pos ⟨hd,ha⟩]
    ·rw [List.set_set,List.set_set]
   ·have ha:Bs t (Ac t)[k]=false:=by simpa [hd] using h
    refine hJ (-1) ?_ _ rfl
    unfold CW;rw [if_neg (by rw [ha];simp)]
  ·refine Tot.gF (decide_eq_false hd) (Tot.gF (decide_eq_false hd) (Tot.iteF (by simp [hd]) (hJ (-1) ?_ _ rfl)))
   unfold CW;rw [if_neg (λ h=>hd h.1)]
 ·rintro ⟨out,k'⟩ ⟨e1,row,e2,e3,e4⟩
  simp only at e1 e2
  subst e1 e2
  unfold CH
  refine Tot.iteF (by simp) (Tot.pure ?_)
  refine congrArg (out0.set i) (List.ext_getElem? λ j=>?_)
  rcases Nat.lt_or_ge j (Ac t).length with h|h
  ·rw [e4 j _ h (List.getElem?_eq_getElem h),List.getElem?_map,List.getElem?_eq_getElem h];rfl
  ·rw [List.getElem?_eq_none (by omega),List.getElem?_eq_none (by simpa using h)]
structure O3 (t:Ad) (s:List UInt8) (i:Nat) (B:Nat) (out0 out:List (List Int)) (ch:Bool) (k r:Nat):Prop where
 suf:Suf t s i out
 same:ch=false->out=out0∧∀ j m,(j<k∨(j=k∧m<r))->m<t.Rules.length->Jiw t s i out0 j m
 less:ch=true->phi B (out.getD i [])<phi B (out0.getD i [])
omit hT hs in
theorem Jdd (n:Nat) (a c:Int) (hc:0≤c):My n a c=some (if a<0∨c<a then c else a):=by
 unfold My
 by_cases h:a<0∨c<a
 ·rw [if_pos h,if_pos (by simp only [Bool.or_eq_true,Bool.and_eq_true,decide_eq_true_eq];omega)]
 ·rw [if_neg h,if_neg (by simp only [Bool.or_eq_true,Bool.and_eq_true,decide_eq_true_eq];omega)]
theorem JeJ {i:Nat} (hi:i≤s.length) {B:Nat} (hB:13000000≤B) {out0 out1:List (List Int)} {ch1:Bool} {k:Nat} (hk:k<(Ac t).length) (h1:O3 t s i B out0 out1 ch1 k 0) :
  Tot (λ n=>whl (λ (x:((List (List Int))×Bool×Int))=>CI n t s (Ac t) (i:Int) (k:Int) x.1 x.2.1 x.2.2) n (out1,ch1,0)) (λ y=>O3 t s i B out0 y.1 y.2 k t.Rules.length):=by
 have hlen:=KD hT
 have hrl:=hT.tab.1
 refine Tot.upto (body:=λ n x=>CI n t s (Ac t) (i:Int) (k:Int) x.1 x.2.1 x.2.2) t.Rules.length (λ r x=>x.2.2=(r:Int)∧O3 t s i B out0 x.1 x.2.1 k r) ?_ ?_ _ ⟨rfl,h1⟩
 ·rintro r ⟨out,ch,r'⟩ hr ⟨e1,hP⟩
  simp only at e1 hP
  subst e1
  have hq:(Ac t)[k]? = some (Ac t)[k]:=List.getElem?_eq_getElem hk
  have hqm:(Ac t)[k]∈Ac t:=List.getElem_mem hk
  have hA:=hP.suf
  have hJ:∀ out' ch',O3 t s i B out0 out' ch' k (r+1)->Tot (λ n=>Dv n (r:Int) out' ch') (Rd2 (λ x:List (List Int)×Bool×Int=>x.2.2=((r+1:Nat):Int)∧O3 t s i B out0 x.1 x.2.1 k (r+1)) (λ y=>O3 t s i B out0 y.1 y.2 k t.Rules.length)):=by
   intro out' ch' h
   unfold Dv
   exact Tot.pure ⟨DO (by omega),h⟩
  have hskip:Jiw t s i out k r->O3 t s i B out0 out ch k (r+1):=by
   intro hrel
   refine ⟨hA,λ hc=>⟨(hP.same hc).1,λ j m hjm hm=>?_⟩,hP.less⟩
   by_cases e:j=k∧m=r
   ·obtain ⟨rfl,rfl⟩:=e
    rw [← (hP.same hc).1];exact hrel
   ·exact (hP.same hc).2 j m (by omega) hm
  unfold CI
  refine Tot.iteT (HX hr) (Tot.bindC (G5 hq) (Tot.bindE (Jdb hT hs hi hA hqm hr) ?_))
  have hil:i<out.length:=by rw [hA.len];omega
  rw [Int.toNat_natCast]
  simp only [SG]
  have hcl:=hA.col.len
  obtain ⟨v,hv⟩:=hA.col.get hk
  have hvd:(out.getD i []).getD k 0=v:=by rw [List.getD_eq_getElem?_getD (l:=out.getD i []),hv];rfl
  by_cases hc:0≤KC t s out i (Ac t)[k] r
  ·obtain ⟨u1,u2⟩:=JeH hT hi hA hqm hc
   have hgd:decide (KC t s out i (Ac t)[k] r≥0)=true:=by simpa using hc
   refine Tot.gE hgd (Ev.all λ n=>E6 [] hil) (Tot.gE hgd (Ev.all λ n=>E6 0 (by omega)) ?_)
   rw [hvd]
   refine Tot.gE hgd (Ev.all λ n=>Jdd n v _ hc) (Tot.gE hgd (Ev.all λ n=>E6 [] hil) (Tot.gE hgd (Ev.all λ n=>E6 0 (by omega)) ?_))
   rw [hvd]
   by_cases hlt:v<0∨KC t s out i (Ac t)[k] r<v
   ·rw [if_pos hlt]
    refine Tot.iteT (by simp only [Bool.and_eq_true,bne_iff_ne,ne_eq];exact ⟨hgd,by omega⟩) ?_
    have hfin:=QU (out.getD i [])
    obtain ⟨g1,g2⟩:=hA.col.lower hq hv u1 (hlt.imp id id) u2 (B:=B) (by omega)
    refine Tot.bindC (E6 [] hil) (Tot.bindC (E6 0 (by omega)) (Tot.bindC (HU (by omega)) (hJ _ _ ?_)))
    have hgs:(out.set i ((out.getD i []).set k (KC t s out i (Ac t)[k] r))).getD i []=(out.getD i []).set k (KC t s out i (Ac t)[k] r):=G1 hil _ _
    refine ⟨⟨by rw [List.length_set];exact hA.len,λ i' h1 h2=>by rw [IT (by omega)];exact hA.rows i' h1 h2,by rw [hgs];exact g1⟩,(λ h=>by cases h),λ _=>?_⟩
    rw [hgs]
    cases hch:ch with
    | false=>rw [(hP.same hch).1] at g2 ⊢;exact g2
    | true=>have:=hP.less hch;omega
   ·rw [if_neg hlt]
    refine Tot.iteF (by simp) (hJ _ _ (hskip λ q hq' _=>?_))
    rw [hq] at hq'
    cases hq'
    exact ⟨v,hv,by omega,by omega⟩
  ·have hgd:decide (KC t s out i (Ac t)[k] r≥0)=false:=by simpa using hc
   refine Tot.gF hgd (Tot.gF hgd (Tot.gF hgd (Tot.gF hgd (Tot.gF hgd (Tot.iteF (by rw [hgd];rfl) (hJ _ _ (hskip λ q hq' h0=>?_)))))))
   rw [hq] at hq'
   cases hq'
   exact absurd h0 hc
 ·rintro ⟨out,ch,r'⟩ ⟨e1,hP⟩
  simp only at e1 hP
  subst e1
  unfold CI
  exact Tot.iteF (by simp) (Tot.pure hP)
theorem JeK {i:Nat} (hi:i≤s.length) {B:Nat} (hB:13000000≤B) {out0:List (List Int)} (h1:Suf t s i out0) :
  Tot (λ n=>whl (λ (x:((List (List Int))×Bool×Int))=>CJ n t s (Ac t) (i:Int) x.1 x.2.1 x.2.2) n (out0,false,0)) (λ y=>O3 t s i B out0 y.1 y.2 (Ac t).length 0):=by
 have hlen:=KD hT
 refine Tot.upto (body:=λ n x=>CJ n t s (Ac t) (i:Int) x.1 x.2.1 x.2.2) (Ac t).length (λ k x=>x.2.2=(k:Int)∧O3 t s i B out0 x.1 x.2.1 k 0) ?_ ?_ _ ⟨rfl,h1,λ _=>⟨rfl,λ j m h=>by omega⟩,λ h=>by cases h⟩
 ·rintro k ⟨out,ch,k'⟩ hk ⟨e1,hP⟩
  simp only at e1 hP
  subst e1
  unfold CJ
  refine Tot.iteT (HX hk) (Tot.bind (JeJ hT hs hi hB hk hP) ?_)
  rintro ⟨out',ch'⟩ hP'
  exact Tot.pure ⟨DO (by omega),hP'.suf,λ hc=>⟨(hP'.same hc).1,λ j m hjm hm=>(hP'.same hc).2 j m (by omega) hm⟩,hP'.less⟩
 ·rintro ⟨out,ch,k'⟩ ⟨e1,hP⟩
  simp only at e1 hP
  subst e1
  unfold CJ
  exact Tot.iteF (by simp) (Tot.pure hP)
theorem JeL {i:Nat} (hi:i≤s.length) {out0:List (List Int)} (h1:Suf t s i out0) :
  Tot (λ n=>whl (λ (x:((List (List Int))×Bool))=>Dw n t s (Ac t) (i:Int) x.1 x.2) n (out0,true)) (λ out=>out.length=s.length+1∧∀ i',i≤i'->i'≤s.length->Ns t s i' (out.getD i' [])):=by
 refine Tot.whl (body:=λ n x=>Dw n t s (Ac t) (i:Int) x.1 x.2) (λ m x=>Suf t s i x.1∧((x.2=true∧m=phi 13000000 (x.1.getD i [])+1)∨(x.2=false∧m=0∧Ns t s i (x.1.getD i [])))) ?_ (phi 13000000 (out0.getD i [])+1) (out0,true) ⟨h1,.inl ⟨rfl,rfl⟩⟩
 rintro m ⟨out,ch⟩ ⟨hS,hm⟩
 simp only at hS hm
 unfold Dw
 rcases hm with ⟨rfl,rfl⟩|⟨rfl,rfl,hR⟩
 ·refine Tot.iteT rfl (Tot.bind (JeK hT hs hi (Nat.le_refl _) hS) ?_)
  rintro ⟨out',ch'⟩ hP
  simp only at hP
  cases ch' with
  | false=>
   obtain ⟨e,hrel⟩:=hP.same rfl
   subst e
   exact Tot.pure ⟨0,by omega,hS,.inr ⟨rfl,rfl,Jdc hT hi hS λ j k hj hk=>hrel j k (by omega) hk⟩⟩
  | true=>
   have:=hP.less rfl
   exact Tot.pure ⟨phi 13000000 (out'.getD i [])+1,by omega,hP.suf,.inl ⟨rfl,rfl⟩⟩
 ·refine Tot.iteF rfl (Tot.pure ⟨hS.len,λ i' h1 h2=>?_⟩)
  rcases Nat.eq_or_lt_of_le h1 with rfl|h
  ·exact hR
  ·exact hS.rows i' h h2
theorem Mb:Tot (λ n=>Hq n t s) (λ out=>out.length=s.length+1∧∀ i,i≤s.length->Ns t s i (out.getD i [])):=by
 have hlen:=KD hT
 unfold Hq
 have e1:AL .i64 ((List.length s:Nat):Int) 1=((s.length+1:Nat):Int):=DO (by omega)
 refine Tot.bindE (WF hT.tab) ?_
 rw [e1]
 refine Tot.bindC (SB (by omega) (by omega)) ?_
 rw [Int.toNat_natCast]
 refine Tot.bind (R:=λ out=>out.length=s.length+1∧∀ i,i≤s.length->Ns t s i (out.getD i [])) ?_ (λ out h=>Tot.pure h)
 refine Tot.whl (body:=λ n x=>EW n t s (Ac t) x.1 x.2) (λ m x=>x.2=(m:Int)-1∧x.1.length=s.length+1∧m≤s.length+1∧∀ i',m≤i'->i'≤s.length->Ns t s i' (x.1.getD i' [])) ?_ (s.length+1) _ ⟨by simp,by simp,by omega,by omega⟩
 rintro m ⟨out,i'⟩ ⟨e2,e3,e4,e5⟩
 simp only at e2 e3 e5
 subst e2
 unfold EW
 cases m with
 | zero=>exact Tot.iteF (by simp) (Tot.pure ⟨e3,λ i hi=>e5 i (by omega) hi⟩)
 | succ i=>
  have ei:((i+1:Nat):Int)-1=(i:Int):=by omega
  rw [ei]
  refine Tot.iteT (by simp) (Tot.bindC (E6 [] (show i<out.length by omega)) (Tot.bindC (SB (by omega) (by omega)) ?_))
  rw [Int.toNat_natCast,Int.toNat_natCast]
  refine Tot.bind (JeI hT hs (show i≤s.length by omega) (out.set i (List.replicate (Ac t).length 0)) (by rw [List.length_set];exact e3) (by rw [G1 (by omega),List.length_replicate])) ?_
  rintro out1 rfl
  rw [List.set_set]
  refine Tot.bind (JeL hT hs (show i≤s.length by omega) ⟨by rw [List.length_set];exact e3,λ i' h1 h2=>?_,?_⟩) ?_
  ·rw [IT (by omega)];exact e5 i' (by omega) h2
  ·rw [G1 (by omega)];exact TT t _ _ _
  ·rintro out2 ⟨h1,h2⟩
   refine Tot.pure ⟨i,by omega,?_,h1,by omega,h2⟩
   show G4 .i64 (i:Int) 1=(i:Int)-1
   rw [WA (by omega) (by omega)]
end
end Go.AI
end
section
namespace Go.AI
def Rch (t:Ad) (s:List UInt8) (i:Nat) (q:Aa):Prop:=i≤s.length∧∃ p,Ii t BK p q∧DK t p=s.take i
theorem Rch.start (t:Ad) (s:List UInt8):Rch t s 0 BK:=⟨by omega,[],rfl,by simp [DK]⟩
theorem Mc (t:Ad) (p:List Int) (k:Int):DK t (p++[k])=DK t p++prt t k:=by simp [DK]
theorem Rch.next {t:Ad} {s:List UInt8} {i:Nat} {q:Aa} {k:Int} (h:Rch t s i q) (hk:(AE t q k).2=true) (hb:(prt t k).isPrefixOf (s.drop i)=true):Rch t s (i+(prt t k).length) (AE t q k).1:=by
 obtain ⟨h1,p,h2,h3⟩:=h
 obtain ⟨q1,q2⟩:=D4 hb
 refine ⟨q2 h1,p++[k],h2.snoc hk,?_⟩
 rw [Mc,h3,List.take_add,q1,List.take_left' rfl]
theorem Rch.ind {t:Ad} {s:List UInt8} {A:Nat->Aa->Prop} (h0:A 0 BK) (h1:∀ i q (k:Nat),i≤s.length->A i q->(AE t q k).2=true->(prt t k).isPrefixOf (s.drop i)=true->A (i+(prt t k).length) (AE t q k).1):∀ {i:Nat} {q:Aa},Rch t s i q->A i q:=by
 have key:∀ (p:List Int) (i:Nat) (q q':Aa),A i q->i≤s.length->Ii t q p q'->(∃ y,s.drop i=DK t p++y)->A (i+(DK t p).length) q':=by
  intro p
  induction p with
  | nil=>
   intro i q q' hA _ hg _
   unfold Ii at hg
   subst hg
   simpa [DK] using hA
  | cons k p ih=>
   intro i q q' hA hi hg hy
   obtain ⟨g1,g2⟩:=hg
   obtain ⟨y,hy⟩:=hy
   obtain ⟨k,rfl⟩:∃ n:Nat,k=n:=⟨k.toNat,by have:=Dx g1;omega⟩
   rw [IS,List.append_assoc] at hy
   have hb:(prt t k).isPrefixOf (s.drop i)=true:=by rw [List.isPrefixOf_iff_prefix];exact ⟨_,hy.symm⟩
   obtain ⟨q1,q2⟩:=D4 hb
   have:=ih _ _ q' (h1 i q k hi hA g1 hb) (q2 hi) g2 ⟨y,by rw [q1] at hy;exact List.append_cancel_left hy⟩
   rw [IS,List.length_append,← Nat.add_assoc]
   exact this
 rintro i q ⟨hi,p,hg,ht⟩
 have:=key p 0 BK q h0 (by omega) hg ⟨s.drop i,by rw [ht,List.drop_zero,List.take_append_drop]⟩
 rw [ht,List.length_take,Nat.zero_add,Nat.min_eq_left hi] at this
 exact this
def TU (s:List UInt8) (i:Nat):Int:=if i<s.length then FN (Nr s i) else 0
theorem WL (s:List UInt8) (i:Nat):0≤TU s i∧TU s i≤5:=by
 unfold TU
 split
 ·have:=IP (Nr s i);omega
 ·omega
def XU (t:Ad) (s:List UInt8) (i:Nat):Prop:=∃ q,Rch t s i q∧Li q.Need (TU s i)=true
def TV (t:Ad) (s:List UInt8) (v:Int):Prop:=(∃ i:Nat,v=i∧XU t s i)∧∀ i:Nat,XU t s i->(i:Int)≤v
theorem TV.uniq {t:Ad} {s:List UInt8} {v w:Int} (h:TV t s v) (h':TV t s w):v=w:=by
 obtain ⟨⟨i,e1,h1⟩,h2⟩:=h
 obtain ⟨⟨j,e2,g1⟩,g2⟩:=h'
 have:=h2 j g1
 have:=g2 i h1
 omega
theorem JjZ (t:Ad) (s:List UInt8):XU t s 0:=by
 refine ⟨BK,.start t s,?_⟩
 have h:=WL s 0
 generalize TU s 0=c at h
 have:c=0∨c=1∨c=2∨c=3∨c=4∨c=5:=by omega
 rcases this with rfl|rfl|rfl|rfl|rfl|rfl<;>decide +kernel
def SI (t:Ad) (s:List UInt8) (i:Nat) (v:Int):Prop:=(∃ j:Nat,v=j∧(j=0∨(j<i∧XU t s j)))∧∀ j:Nat,j<i->XU t s j->(j:Int)≤v
theorem SI.stop {t:Ad} {s:List UInt8} {i:Nat} (hs:XU t s i):SI t s (i+1) (i:Nat):=⟨⟨i,rfl,.inr ⟨by omega,hs⟩⟩,λ j h _=>by omega⟩
theorem SI.skip {t:Ad} {s:List UInt8} {i:Nat} {v:Int} (h:SI t s i v) (hs:¬XU t s i):SI t s (i+1) v:=by
 obtain ⟨⟨j,e,h1⟩,h2⟩:=h
 refine ⟨⟨j,e,h1.imp id λ h=>⟨by omega,h.2⟩⟩,λ k hk hS=>?_⟩
 by_cases e:k=i
 ·subst e;exact absurd hS hs
 ·exact h2 k (by omega) hS
theorem SI.all {t:Ad} {s:List UInt8} {v:Int} (h:SI t s (s.length+1) v):TV t s v:=by
 obtain ⟨⟨j,e,h1⟩,h2⟩:=h
 refine ⟨⟨j,e,?_⟩,λ i hi=>h2 i ?_ hi⟩
 ·rcases h1 with rfl|h1
  ·exact JjZ t s
  ·exact h1.2
 ·obtain ⟨q,hq,_⟩:=hi
  have:=hq.1
  omega
section
variable {t:Ad} (hT:G0 t) {s:List UInt8} (hs:s.length≤4000)
def Mk (m:List (List Bool)) (i j:Nat):Prop:=(m.getD i [])[j]? = some true
structure Rea (t:Ad) (s:List UInt8) (i:Nat) (m:List (List Bool)):Prop where
 len:m.length=s.length+1
 rows:∀ i,i≤s.length->(m.getD i []).length=(Ac t).length
 sound:∀ i j,i≤s.length->Mk m i j->∃ q,(Ac t)[j]? = some q∧Rch t s i q
 first:Mk m 0 0
 done:∀ i',i'<i->∀ j k:Nat,∀ q,Mk m i' j->(Ac t)[j]? = some q->(AE t q k).2=true->(prt t k).isPrefixOf (s.drop i')=true->∃ j',(Ac t)[j']? = some (AE t q k).1∧Mk m (i'+(prt t k).length) j'
theorem Mk.set {m:List (List Bool)} {i j:Nat} (hi:i<m.length) (hj:j<(m.getD i []).length) {i' j':Nat}:Mk (m.set i ((m.getD i []).set j true)) i' j'↔(i=i'∧j=j')∨Mk m i' j':=by
 unfold Mk
 by_cases e:i=i'
 ·subst e
  rw [G1 hi]
  by_cases e2:j=j'
  ·subst e2;rw [List.getElem?_set_self hj];simp
  ·rw [List.getElem?_set_ne e2];simp [e2]
 ·rw [IT e];simp [e]
include hT hs
omit hs in
theorem Rea.all {i:Nat} {m:List (List Bool)} (h:Rea t s (i+1) m) {j:Nat} {q:Aa} (hq:(Ac t)[j]? = some q):Rch t s i q↔i≤s.length∧Mk m i j:=by
 constructor
 ·intro hr
  refine ⟨hr.1,?_⟩
  have key:∀ {i' q},Rch t s i' q->i'≤i->∃ j,(Ac t)[j]? = some q∧Mk m i' j:=λ {i' q} hr=>Rch.ind (A:=λ i' q=>i'≤i->∃ j,(Ac t)[j]? = some q∧Mk m i' j) (λ _=>⟨0,(Hy hT.tab).1.first,h.first⟩) (λ i' q k hi' hA hst hpf hle=>by
   obtain ⟨j,h1,h2⟩:=hA (by omega)
   exact h.done i' (by omega) j k q h2 h1 hst hpf) hr
  obtain ⟨j',h1,h2⟩:=key hr (Nat.le_refl _)
  rwa [JeE (Jda hT) hq h1]
 ·rintro ⟨h1,h2⟩
  obtain ⟨q',g1,g2⟩:=h.sound i j h1 h2
  rw [hq] at g1;cases g1
  exact g2
end
end Go.AI
end
section
namespace Go.AI
def Jj0 (t:Ad) (q:Aa) (k:Nat):Option A5:=if (AE t q k).2=true then some ⟨k,D1 (Ac t) (AE t q k).1⟩ else none
def Jix (t:Ad) (q:Aa):List A5:=(List.range t.Rules.length).filterMap (Jj0 t q)
structure Jde (t:Ad) (s:List UInt8) (w:Af):Prop where
 tt:w.T=t
 ss:w.S=s
 st:w.States=Ac t
 al:w.Arcs.length=(Ac t).length
 arc:∀ (j:Nat) q,(Ac t)[j]? = some q->w.Arcs[j]? = some (Jix t q)
section
variable {t:Ad} (hT:G0 t) {s:List UInt8} (hs:s.length≤4000)
include hT hs
omit hs in
theorem JeM {nb:List (Aa×Int)} (hN:IQ (Ac t) nb) {q:Aa} (hq:q∈Ac t):Option.getD (FO q nb) 0=D1 (Ac t) q:=by
 obtain ⟨j,hj,hg⟩:=Db hq
 rw [hN q,CP (Jda hT) hg,hj];rfl
end
end Go.AI
end
section
namespace Go.AI
def Lj (w:Af) (p:Nat):List Int:=(w.Columns.getD p default).States
def InC (w:Af) (p:Nat) (v:Int):Prop:=v∈Lj w p
structure Kn (t:Ad) (s:List UInt8) (place:Nat) (w:Af) (kn:List (List Bool)):Prop where
 base:Jde t s w
 clen:w.Columns.length=s.length+1
 cost:∀ p,(w.Columns.getD p default).Costs=[]
 klen:kn.length=5
 rows:∀ c,c<5->(kn.getD c []).length=(Ac t).length
 nod:∀ p,(Lj w p).Nodup
 ok:∀ p v,InC w p v->∃ (j:Nat) (q:Aa),v=(j:Int)∧(Ac t)[j]? = some q∧Rch t s p q
 row:∀ p,place≤p->p<place+5->∀ j:Nat,(kn.getD (p % 5) [])[j]? = some true↔InC w p (j:Int)
 far:∀ p,place+5≤p->Lj w p=[]
structure O4 (w w':Af):Prop where
 last:w'.Last=w.Last
 pre:∀ p,Lj w p <+: Lj w' p
theorem O4.refl (w:Af):O4 w w:=⟨rfl,λ _=>List.prefix_rfl⟩
theorem O4.trans {w w' w'':Af} (h:O4 w w') (h':O4 w' w''):O4 w w'':=⟨h'.last.trans h.last,λ p=>(h.pre p).trans (h'.pre p)⟩
theorem O4.inc {w w':Af} (h:O4 w w') {p:Nat} {v:Int} (hv:InC w p v):InC w' p v:=(h.pre p).subset hv
theorem Jdf {w:Af} {p:Nat} (hp:p<w.Columns.length) (c:AB) (p':Nat) (a b d:Int) (x:List Av):((w.Columns.set p c).getD p' default)=if p=p' then c else w.Columns.getD p' default:=by
 split
 ·rename_i e;subst e;exact G1 hp _ _
 ·rename_i e;exact IT e _ _
section
variable {t:Ad} (hT:G0 t) {s:List UInt8} (hs:s.length≤4000)
include hT hs
omit hs in
theorem Kn.len {place:Nat} {w:Af} {kn:List (List Bool)} (h:Kn t s place w kn) (p:Nat):(Lj w p).length≤(Ac t).length:=by
 have _:=hT
 have hsub:∀ v∈Lj w p,v∈(List.range (Ac t).length).map (λ j:Nat=>(j:Int)):=by
  intro v hv
  obtain ⟨j,q,rfl,hq,_⟩:=h.ok p v hv
  exact List.mem_map.2 ⟨j,List.mem_range.2 (Ap hq),rfl⟩
 have:=(h.nod p).length_le_of_subset hsub
 simpa using this
def Clo (t:Ad) (s:List UInt8) (w:Af) (p:Nat) (q:Aa):Prop:=∀ k:Nat,(AE t q k).2=true->(prt t k).isPrefixOf (s.drop p)=true->∃ j:Nat,(Ac t)[j]? = some (AE t q k).1∧InC w (p+(prt t k).length) (j:Int)
omit hT hs in
theorem Clo.ext {w w':Af} {p:Nat} {q:Aa} (h:Clo t s w p q) (he:O4 w w'):Clo t s w' p q:=λ k h1 h2=>by
 obtain ⟨j,g1,g2⟩:=h k h1 h2
 exact ⟨j,g1,he.inc g2⟩
omit hT hs in
theorem Kn.last {place:Nat} {w:Af} {kn:List (List Bool)} (h:Kn t s place w kn) (v:Int):Kn t s place { w with Last:=v } kn:=⟨⟨h.base.tt,h.base.ss,h.base.st,h.base.al,h.base.arc⟩,h.clen,h.cost,h.klen,h.rows,h.nod,h.ok,h.row,h.far⟩
end
end Go.AI
end
section
namespace Go.AI
def SJ (t:Ad) (w:Af) (p:Nat):List Aa:=(Lj w p).map λ v=>(Ac t).getD v.toNat default
abbrev Qk (w:Af) (p:Nat):List Int:=(w.Columns.getD p default).Costs
structure PI (t:Ad) (s:List UInt8) (place:Nat) (w:Af):Prop where
 base:Jde t s w
 clen:w.Columns.length=s.length+1
 nod:∀ p,(Lj w p).Nodup
 ok:∀ p v,InC w p v->∃ (j:Nat) (q:Aa),v=(j:Int)∧(Ac t)[j]? = some q∧Rch t s p q
 all:∀ p (j:Nat) q,(Ac t)[j]? = some q->Rch t s p q->InC w p (j:Int)
 sort:∀ p,p≤s.length->(Lj w p).Pairwise (·≤·)
 later:∀ p,place<p->p≤s.length->(∀ (i:Nat) q,(SJ t w p)[i]? = some q->(Qk w p)[i]? = some (AQ t q (s.drop p)))∧∀ (i:Nat) v,(Qk w p)[i]? = some v->v≤((3072*(s.length-p+1):Nat):Int)
 col:Col t (s.drop place) (3072*(s.length-place)) (SJ t w place) (Qk w place)
section
variable {t:Ad} (hT:G0 t) {s:List UInt8} (hs:s.length≤4000)
include hT
omit hT in
theorem Jiy {w:Af} {p:Nat} (hok:∀ v,InC w p v->∃ (j:Nat) (q:Aa),v=(j:Int)∧(Ac t)[j]? = some q∧Rch t s p q) {i:Nat} {q:Aa}:(SJ t w p)[i]? = some q↔∃ j:Nat,(Lj w p)[i]? = some (j:Int)∧(Ac t)[j]? = some q:=by
 unfold SJ
 rw [List.getElem?_map,Option.map_eq_some_iff]
 constructor
 ·rintro ⟨v,hv,rfl⟩
  obtain ⟨j,q,rfl,hq,_⟩:=hok v (List.mem_of_getElem? hv)
  refine ⟨j,hv,?_⟩
  rw [Int.toNat_natCast,List.getD_eq_getElem?_getD,hq];rfl
 ·rintro ⟨j,hv,hq⟩
  refine ⟨_,hv,?_⟩
  rw [Int.toNat_natCast,List.getD_eq_getElem?_getD,hq];rfl
theorem PI.pos {place:Nat} {w:Af} (h:PI t s place w) {p:Nat} {q:Aa} (hr:Rch t s p q) (hq:q∈Ac t):∃ d:Nat,(Lj w p)[d]? = some (D1 (Ac t) q)∧(SJ t w p)[d]? = some q:=by
 have _:=hT
 obtain ⟨j,hj,hg⟩:=Db hq
 obtain ⟨d,hd,e⟩:=List.getElem_of_mem (h.all p j q hg hr)
 have:(Lj w p)[d]? = some (j:Int):=by rw [← e];exact List.getElem?_eq_getElem hd
 exact ⟨d,by rw [hj];exact this,(Jiy (h.ok p)).2 ⟨j,this,hg⟩⟩
include hs in
end
end Go.AI
end
section
namespace Go.AI
def ZS (w:Af) (p:Nat) (cs:List Int):Af:={ w with Columns:=w.Columns.set p ⟨(w.Columns.getD p default).States,cs⟩ }
theorem Dc {w:Af} {p:Nat} (hp:p<w.Columns.length) (cs:List Int) (p':Nat):Lj (ZS w p cs) p'=Lj w p'∧Qk (ZS w p cs) p'=if p=p' then cs else Qk w p':=by
 have h:=Jdf hp ⟨(w.Columns.getD p default).States,cs⟩ p' 0 0 0 []
 unfold Lj Qk ZS
 simp only
 rw [h]
 split
 ·rename_i e;subst e;exact ⟨rfl,rfl⟩
 ·exact ⟨rfl,rfl⟩
theorem QV {t:Ad} {w:Af} {p:Nat} (hp:p<w.Columns.length) (cs:List Int) (p':Nat):SJ t (ZS w p cs) p'=SJ t w p':=by
 unfold SJ
 rw [(Dc hp cs p').1]
theorem PI.set {t:Ad} {s:List UInt8} {place:Nat} {w:Af} (h:PI t s place w) (hpl:place≤s.length) {cs:List Int} (hc:Col t (s.drop place) (3072*(s.length-place)) (SJ t w place) cs):PI t s place (ZS w place cs):=by
 have hp:place<w.Columns.length:=by rw [h.clen];omega
 refine ⟨⟨h.base.tt,h.base.ss,h.base.st,h.base.al,h.base.arc⟩,?_,λ p=>?_,λ p v hv=>?_,λ p j q h1 h2=>?_,λ p hp'=>?_,λ p h1 h2=>?_,?_⟩
 ·show (w.Columns.set _ _).length=_
  rw [List.length_set];exact h.clen
 ·rw [(Dc hp cs p).1];exact h.nod p
 ·unfold InC at hv;rw [(Dc hp cs p).1] at hv;exact h.ok p v hv
 ·unfold InC;rw [(Dc hp cs p).1];exact h.all p j q h1 h2
 ·rw [(Dc hp cs p).1];exact h.sort p hp'
 ·rw [QV hp,(Dc hp cs p).2,if_neg (by omega)];exact h.later p h1 h2
 ·rw [QV hp,(Dc hp cs place).2,if_pos rfl];exact hc
section
variable {t:Ad} (hT:G0 t) {s:List UInt8} (hs:s.length≤4000)
include hT hs
end
end Go.AI
end
section
namespace Go.AI
structure PB (t:Ad) (s:List UInt8) (m:Nat) (w:Af):Prop where
 base:Jde t s w
 clen:w.Columns.length=s.length+1
 nod:∀ p,(Lj w p).Nodup
 ok:∀ p v,InC w p v->∃ (j:Nat) (q:Aa),v=(j:Int)∧(Ac t)[j]? = some q∧Rch t s p q
 all:∀ p (j:Nat) q,(Ac t)[j]? = some q->Rch t s p q->InC w p (j:Int)
 sort:∀ p,p≤s.length->(Lj w p).Pairwise (·≤·)
 later:∀ p,m≤p->p≤s.length->(∀ (i:Nat) q,(SJ t w p)[i]? = some q->(Qk w p)[i]? = some (AQ t q (s.drop p)))∧∀ (i:Nat) v,(Qk w p)[i]? = some v->v≤((3072*(s.length-p+1):Nat):Int)
theorem PB.set {t:Ad} {s:List UInt8} {place:Nat} {w:Af} (h:PB t s (place+1) w) (hpl:place≤s.length) {cs:List Int} (hc:Col t (s.drop place) (3072*(s.length-place)) (SJ t w place) cs):PI t s place (ZS w place cs):=by
 have hp:place<w.Columns.length:=by rw [h.clen];omega
 refine ⟨⟨h.base.tt,h.base.ss,h.base.st,h.base.al,h.base.arc⟩,?_,λ p=>?_,λ p v hv=>?_,λ p j q h1 h2=>?_,λ p hp'=>?_,λ p h1 h2=>?_,?_⟩
 ·show (w.Columns.set _ _).length=_
  rw [List.length_set];exact h.clen
 ·rw [(Dc hp cs p).1];exact h.nod p
 ·unfold InC at hv;rw [(Dc hp cs p).1] at hv;exact h.ok p v hv
 ·unfold InC;rw [(Dc hp cs p).1];exact h.all p j q h1 h2
 ·rw [(Dc hp cs p).1];exact h.sort p hp'
 ·rw [QV hp,(Dc hp cs p).2,if_neg (by omega)];exact h.later p (by omega) h2
 ·rw [QV hp,(Dc hp cs place).2,if_pos rfl];exact hc
section
variable {t:Ad} (hT:G0 t) {s:List UInt8} (hs:s.length≤4000)
include hT hs
end
end Go.AI
end
section
namespace Go.AI
structure Jdg (t:Ad) (s:List UInt8) (w:AT) (a e:Int):Prop where
 bad:(HY s).2≠0->w=⟨[],[]⟩∧a=(HY s).1∧e=(HY s).2
 none:(HY s).2=0->AQ t BK s<0->w=⟨[],[]⟩∧TV t s a∧e=61
 path:(HY s).2=0->0≤AQ t BK s->e=0∧a=(s.length:Int)∧∃ p,H1 t BK s p∧w=⟨cellsOf t p,p⟩
theorem Jdg.uniq {t:Ad} {s:List UInt8} {w w':AT} {a a' e e':Int} (h:Jdg t s w a e) (h':Jdg t s w' a' e'):w=w'∧a=a'∧e=e':=by
 by_cases h1:(HY s).2=0
 ·by_cases h2:AQ t BK s<0
  ·obtain ⟨g1,g2,g3⟩:=h.none h1 h2
   obtain ⟨k1,k2,k3⟩:=h'.none h1 h2
   exact ⟨g1.trans k1.symm,g2.uniq k2,g3.trans k3.symm⟩
  ·obtain ⟨g1,g2,p,g3,g4⟩:=h.path h1 (by omega)
   obtain ⟨k1,k2,p',k3,k4⟩:=h'.path h1 (by omega)
   have:=g3.uniq k3
   subst this
   exact ⟨g4.trans k4.symm,g2.trans k2.symm,g1.trans k1.symm⟩
 ·obtain ⟨g1,g2,g3⟩:=h.bad h1
  obtain ⟨k1,k2,k3⟩:=h'.bad h1
  exact ⟨g1.trans k1.symm,g2.trans k2.symm,g3.trans k3.symm⟩
theorem Ii.app {t:Ad}:∀ {p:List Int} {q q' q'':Aa} {p':List Int},Ii t q p q'->Ii t q' p' q''->Ii t q (p++p') q''
 | [],q,q',q'',p',h,h'=>by unfold Ii at h;subst h;exact h'
 | a::p,q,q',q'',p',h,h'=>⟨h.1,Ii.app h.2 h'⟩
theorem TW (t:Ad) (p:List Int) (k:Int):E5 t (p++[k])=E5 t p+(cls t k).length:=by simp [E5,cellsOf]
section
variable {t:Ad} (hT:G0 t) {s:List UInt8} (hs:s.length≤4000)
include hT
include hs
structure Jdh (t:Ad) (s:List UInt8) (p0:List Int) (place:Nat) (q:Aa):Prop where
 goes:Ii t BK p0 q
 text:DK t p0=s.take place
 le:place≤s.length
 greedy:∀ p1,H1 t q (s.drop place) p1->H1 t BK s (p0++p1)
 len:E5 t p0+(AQ t q (s.drop place)).toNat≤(AQ t BK s).toNat
 plen:p0.length≤E5 t p0
 pos:0≤AQ t q (s.drop place)
omit hs in
theorem Jdh.next {p0:List Int} {place:Nat} {q:Aa} (h:Jdh t s p0 place q) {k:Nat} (hc:0<AQ t q (s.drop place)) (hk:NX t q (s.drop place) k=AQ t q (s.drop place)) (hm:∀ j:Nat,j<k->NX t q (s.drop place) j≠AQ t q (s.drop place)):Jdh t s (p0++[(k:Int)]) (place+(prt t k).length) (AE t q k).1:=by
 obtain ⟨g1,⟨y,g2,g3⟩,g4,g5⟩:=TR (t:=t) (q:=q) (x:=s.drop place) (k:=(k:Int)) (by omega)
 rw [List.drop_drop] at g3 g4 g5
 have hpf:(prt t k).isPrefixOf (s.drop place)=true:=by rw [List.isPrefixOf_iff_prefix,g2];exact List.prefix_append _ _
 obtain ⟨q1,q2⟩:=D4 hpf
 obtain ⟨p1,p2,p3⟩:=hT.pr g1
 refine ⟨h.goes.snoc g1,?_,q2 h.le,λ p' hp'=>?_,?_,?_,g4⟩
 ·rw [Mc,h.text,List.take_add,q1,List.take_left' rfl]
 ·rw [List.append_assoc]
  exact h.greedy _ (.cons hc hk hm (by rw [List.drop_drop];exact hp'))
 ·rw [TW];have:=h.len;omega
 ·rw [TW,List.length_append];have:=h.plen;simp only [List.length_cons,List.length_nil];omega
omit hT hs in
theorem Jdh.start {t:Ad} {s:List UInt8} (h:0≤AQ t BK s):Jdh t s [] 0 BK:=⟨rfl,by simp [DK],by omega,λ p hp=>by simpa using hp,by simp [E5,cellsOf],by simp,h⟩
omit hs in
theorem Rch.mem {i:Nat} {q:Aa} (h:Rch t s i q):q∈Ac t:=by
 obtain ⟨j,hj⟩:=Rch.ind (A:=λ _ q=>∃ j:Nat,(Ac t)[j]? = some q) ⟨0,(Hy hT.tab).1.first⟩ (λ i' q k _ hA hst _=>by
  obtain ⟨j,hj⟩:=hA
  obtain ⟨d,_,hd⟩:=Db (GC hT (List.mem_of_getElem? hj) hst)
  exact ⟨d,hd⟩) h
 exact List.mem_of_getElem? hj
end
end Go.AI
end
section
namespace Go.AI
section
variable {t:Ad} (hT:G0 t) {s:List UInt8} (hs:s.length≤4000)
include hT
include hs
end
theorem Yx (a b:List Int) (ha:a.length<9223372036854775807):Ev (λ n=>DY n a b) (decide (a=b)):=by
 unfold DY
 by_cases hl:a.length=b.length
 ·refine Ev.iteF (by rw [XO];simp [hl]) ?_
  refine Ev.bind (MA a.length (λ i=>if a.getD i default=b.getD i default then none else some false) (λ i hi=>Ev.all λ n=>?_) (Ev.all λ n=>?_)) ?_
  ·unfold Fg
   rw [if_pos (HX hi),L7 hi,Option.bind_some,L7 (by omega),Option.bind_some]
   by_cases h:a.getD i default=b.getD i default
   ·rw [if_neg (by simpa using h),if_pos h,DO (by omega)]
   ·rw [if_pos (by simpa using h),if_neg h]
  ·unfold Fg
   rw [if_neg (by simp)]
  ·rw [TQ a b hl]
   by_cases e:a=b
   ·rw [if_pos e,decide_eq_true e];exact Ev.const
   ·rw [if_neg e,decide_eq_false e];exact Ev.const
 ·refine Ev.iteT (by rw [XO];simp [hl]) ?_
  rw [show decide (a=b)=false by simp;intro h;exact hl (by rw [h])]
  exact Ev.const
end Go.AI
end
section
namespace Go.AI
def SK (t:Ad) (s:List UInt8):Prop:=s.length≤12∧∃ p:List Int,(∀ k∈p,0≤k∧k<t.Rules.length)∧DK t p=s
theorem XV {t:Ad} (ht:t.Rules.length<1000000) (hpr:∀ r∈t.Rules,r.Print.length≤1000) {l:List Int} (hl:∀ a∈l,U8 a):Tot (λ n=>GO n t l) (SK t):=by
 unfold GO
 refine Tot.bind (R:=SK t) ?_ λ y hy=>Tot.pure hy
 refine Tot.upto (body:=λ n x=>D0 n t l x.1 x.2) (min (min l.length 12) (t.Rules.length*13)) (λ i x=>x.2=(i:Int)∧SK t x.1) ?_ ?_ _ ⟨rfl,by simp,[],by simp,rfl⟩
 ·rintro i ⟨s,x⟩ hi ⟨h1,h2,p,h3,h4⟩
  simp only at h1 h2 h4
  subst h1
  unfold D0
  obtain ⟨a,ham,hai⟩:=NW (l:=l) (i:=(i:Int)) (by omega) (by omega)
  have hu:=hl a ham
  have hw:IntKind.i64.wrap a=a:=w64 (by unfold U8 at hu;omega) (by unfold U8 at hu;omega)
  have hrr:=D2 (a:=a) (m:=((List.length t.Rules:Nat):Int)) hu.1 (by omega)
  have hrule:=SD (t:=t) hrr.1 hrr.2
  have hp:=hpr _ (Gp (t:=t) hrr.1 hrr.2)
  refine Tot.iteT (by simp;omega) (Tot.bindC hai (Tot.bindC (Mz (by simp;intro h;rw [h] at hi;simp at hi)) ?_))
  rw [hw]
  refine Tot.bindC hrule ?_
  have hJ:∀ s',SK t s'->Tot (λ n=>DZ n (i:Int) s') (Rd2 (λ x=>x.2=((i+1:Nat):Int)∧SK t x.1) (SK t)):=λ s' hs'=>by
   unfold DZ
   exact Tot.pure ⟨DO (by omega),hs'⟩
  have e1:AL .i64 ((List.length s:Nat):Int) ((List.length (D3 t (Bt a ((List.length t.Rules:Nat):Int))).Print:Nat):Int)=((s.length+(D3 t (Bt a ((List.length t.Rules:Nat):Int))).Print.length:Nat):Int):=by rw [OX]<;>omega
  simp only [e1]
  refine Tot.ite (λ hc=>Tot.bindC (JcV (by simp only [decide_eq_true_eq] at hc;omega)) (hJ _ ⟨by simp only [decide_eq_true_eq] at hc;rw [List.length_append];omega,p++[Bt a ((List.length t.Rules:Nat):Int)],?_,by simp [Mc,h4]⟩)) (λ hc=>hJ _ ⟨h2,p,h3,h4⟩)
  intro k hk
  rcases List.mem_append.1 hk with hk|hk
  ·exact h3 k hk
  ·cases List.mem_singleton.1 hk;exact hrr
 ·rintro ⟨s,x⟩ ⟨h1,h2⟩
  simp only at h1 h2
  subst h1
  unfold D0
  refine Tot.iteF ?_ (Tot.pure h2)
  simp
  intro h3 h4
  have:t.Rules.length*13≤12∨¬ t.Rules.length*13≤12:=Classical.em _
  apply Classical.byContradiction
  intro h5
  have:0<t.Rules.length:=List.length_pos_iff.2 h5
  omega
theorem Jc.six {t:Ad} (h:Jc t):G0 t:=⟨h.tab,λ r hr=>by have:=HZ (h.sound r hr);exact ⟨by omega,by omega⟩⟩
end Go.AI
end
section
namespace Go.AI
theorem TX {t:Ad} (hc:∀ r∈t.Rules,1≤r.Cells.length):∀ {p:List Int},(∀ k∈p,0≤k∧k<t.Rules.length)->p.length≤E5 t p
 | [],_=>by simp
 | k::p,h=>by
  have h1:=h k (by simp)
  have h2:=hc _ (Gp h1.1 h1.2)
  have h3:=TX (t:=t) hc (p:=p) λ a ha=>h a (by simp [ha])
  rw [Fu,List.length_cons]
  simp only [cls];omega
theorem Way.mem {t:Ad} {q:Aa} {x:List UInt8} {p:List Int} (h:Way t q x p):∀ k∈p,0≤k∧k<t.Rules.length:=by
 obtain ⟨⟨q',h1,_⟩,_⟩:=h
 exact h1.mem
section
variable {t:Ad} (hT:G0 t) {s:List UInt8} (hs:s.length≤4000)
include hT hs
theorem Jdi:AQ t BK s≤13000000:=by
 obtain ⟨out,⟨_,hR⟩,_⟩:=Mb hT hs
 have hf:=(Hy hT.tab).1.first
 exact ((SH hT hs (hR 0 (by omega))).2 0 _ ((hR 0 (by omega)).val 0 _ hf)).2
theorem Jdg.size {w:AT} {a e:Int} (h:Jdg t s w a e):w.Cells.length≤13000000∧w.Path.length≤13000000:=by
 by_cases h1:(HY s).2=0
 ·by_cases h2:AQ t BK s<0
  ·obtain ⟨rfl,_⟩:=h.none h1 h2
   simp
  ·obtain ⟨_,_,p,g3,rfl⟩:=h.path h1 (by omega)
   have g4:=g3.way hT.one (by omega)
   have g5:=TX hT.one g4.1.mem
   have g6:=Jdi hT hs
   have:E5 t p=(cellsOf t p).length:=rfl
   simp only;omega
 ·obtain ⟨rfl,_⟩:=h.bad h1
  simp
end
theorem Way.last {t:Ad} {s:List UInt8} {p:List Int} (h:Way t BK s p):TV t s (s.length:Int):=by
 obtain ⟨⟨q,h1,h2⟩,h3⟩:=h
 refine ⟨⟨s.length,rfl,q,⟨by omega,p,h1,by rw [h3,List.take_length]⟩,?_⟩,λ i ⟨q,hq,_⟩=>by have:=hq.1;omega⟩
 unfold Bs at h2
 simp only [Bool.and_eq_true] at h2
 unfold TU
 rw [if_neg (by omega)]
 exact h2.2
end Go.AI
end
section
namespace Go.AI
structure Vd (t:Ad):Prop where
 tab:Hf t
 valid:E4 t=true
theorem Vd.six {t:Ad} (h:Vd t):G0 t:=⟨h.tab,λ r hr=>by have:=HZ (Hw h.valid r hr);exact ⟨by omega,by omega⟩⟩
theorem Vd.small {t:Ad} (h:Vd t):KB t:=⟨by have:=h.tab.1;omega,λ r hr=>by have:=HZ (Hw h.valid r hr);exact ⟨by omega,by omega⟩⟩
theorem XW {x:MM} (hx:OY x):∃ t,(Jc t∧t.Rules.length≤10)∧Ev (λ n=>Jq n x) t:=by
 obtain ⟨t,h,hE⟩:=ZP hx
 exact ⟨t,⟨h.1,h.2.2⟩,hE⟩
structure ZT (t:Ad):Prop where
 modes:t.Modes=1
 accept:t.Accept=1
 rules:∀ r∈t.Rules,r.From=0∧r.To=0∧r.Left=63∧r.Right=63
def WM (q:Aa):Prop:=q.Mode=0∧q.Need=63∧0≤q.Last∧q.Last≤5
theorem Jfi {c:Int} (h:0≤c) (h':c≤5):Li 63 c=true:=by
 have:c=0∨c=1∨c=2∨c=3∨c=4∨c=5:=by omega
 rcases this with rfl|rfl|rfl|rfl|rfl|rfl<;>decide +kernel
theorem ZT.step {t:Ad} (h:ZT t) {q:Aa} (hq:WM q) {k:Int} (h0:0≤k) (h1:k<t.Rules.length):(AE t q k).2=true∧WM (AE t q k).1:=by
 obtain ⟨q1,q2,q3,q4⟩:=hq
 obtain ⟨r1,r2,r3,r4⟩:=h.rules _ (Gp h0 h1)
 unfold AE
 rw [if_neg (by simp;omega)]
 show (Sy (D3 t k) q).2=true∧WM (Sy (D3 t k) q).1
 unfold Sy
 have e63:B9 .u8 63 63=63:=by decide +kernel
 rw [r1,r2,r3,r4,q1,q2,Jfi q3 q4,e63]
 rw [if_neg (by simp)]
 have hc:=IP (Nr (D3 t k).Print 0)
 have hc2:=IP (Nr (D3 t k).Print ((D3 t k).Print.length-1))
 split
 ·rw [if_neg (by simp)]
  exact ⟨rfl,rfl,rfl,q3,q4⟩
 ·rw [Jfi (by omega) (by omega),if_neg (by simp)]
  exact ⟨rfl,rfl,rfl,by show 0≤FN _;omega,by show FN _≤5;omega⟩
theorem ZT.goes {t:Ad} (h:ZT t):∀ (p:List Int) (q:Aa),WM q->(∀ k∈p,0≤k∧k<t.Rules.length)->∃ q',Ii t q p q'∧WM q'
 | [],q,hq,_=>⟨q,rfl,hq⟩
 | k::p,q,hq,hk=>by
  have h1:=hk k (by simp)
  obtain ⟨h2,h3⟩:=h.step hq h1.1 h1.2
  obtain ⟨q',h4,h5⟩:=h.goes p _ h3 λ a ha=>hk a (by simp [ha])
  exact ⟨q',⟨h2,h4⟩,h5⟩
theorem ZT.way {t:Ad} (h:ZT t) {p:List Int} (hk:∀ k∈p,0≤k∧k<t.Rules.length):Way t BK (DK t p) p:=by
 obtain ⟨q',h1,h2,h3,h4⟩:=h.goes p BK ⟨rfl,rfl,by decide,by decide⟩ hk
 refine ⟨⟨q',h1,?_⟩,rfl⟩
 unfold Bs
 rw [h.modes,h.accept,h2,h3]
 decide +kernel
end Go.AI
end
section
namespace Go.AI
noncomputable def BR (t:Ad) (x:List UInt8):List Int:=(Ac t).map λ q=>AQ t q x
def E7 (a v:Int):Int:=if 0≤v∧(a<0∨v<a) then v else a
def Dd (l:List Int):Int:=l.foldl E7 (-1)
def Dy (l:List Int):List Int:=l.map λ v=>if v<0 then -1 else v-Dd l
noncomputable def IU (t:Ad) (s:List UInt8):Bg:=⟨s,(List.range (s.length+1)).map λ i=>Dy (BR t (s.drop i)),(List.range (s.length+1)).map λ i=>Dd (BR t (s.drop i))⟩
theorem Ns.eq {t:Ad} {s:List UInt8} {i:Nat} {row:List Int} (h:Ns t s i row):row=BR t (s.drop i):=by
 refine List.ext_getElem? λ j=>?_
 unfold BR
 rw [List.getElem?_map]
 rcases Nat.lt_or_ge j (Ac t).length with hj|hj
 ·rw [h.val j _ (List.getElem?_eq_getElem hj),List.getElem?_eq_getElem hj];rfl
 ·rw [List.getElem?_eq_none (by rw [h.len];exact hj),List.getElem?_eq_none hj];rfl
theorem WN (l:List Int):∀ a,(l.foldl E7 a=a∨l.foldl E7 a∈l)∧(0≤a->0≤l.foldl E7 a∧l.foldl E7 a≤a)∧∀ v∈l,0≤v->0≤l.foldl E7 a∧l.foldl E7 a≤v:=by
 induction l with
 | nil=>intro a;exact ⟨.inl rfl,λ h=>⟨h,Int.le_refl _⟩,λ v hv=>by cases hv⟩
 | cons x l ih=>
  intro a
  obtain ⟨h1,h2,h3⟩:=ih (E7 a x)
  rw [List.foldl_cons]
  have hm:E7 a x=a∨E7 a x=x:=by unfold E7;split<;>simp
  have hb:(0≤a->0≤E7 a x∧E7 a x≤a)∧(0≤x->0≤E7 a x∧E7 a x≤x):=by unfold E7;split<;>omega
  refine ⟨?_,λ ha=>?_,λ v hv h0=>?_⟩
  ·rcases h1 with h1|h1
   ·rcases hm with hm|hm
    ·exact .inl (h1.trans hm)
    ·exact .inr (by rw [h1,hm];simp)
   ·exact .inr (List.mem_cons_of_mem _ h1)
  ·have:=hb.1 ha;have:=h2 this.1;omega
  ·rcases List.mem_cons.1 hv with rfl|hv
   ·have:=hb.2 h0;have:=h2 this.1;omega
   ·exact h3 v hv h0
theorem Ve {l:List Int} {v:Int} (hv:v∈l) (h0:0≤v):0≤Dd l∧Dd l≤v:=(WN l (-1)).2.2 v hv h0
theorem XX (l:List Int):Dd l=-1∨Dd l∈l:=(WN l (-1)).1
theorem TY {l:List Int} {B:Int} (hB:-1≤B) (h:∀ v∈l,-1≤v∧v≤B):-1≤Dd l∧Dd l≤B:=by
 rcases XX l with h1|h1
 ·omega
 ·exact h _ h1
theorem TZ {l:List Int} {k:Nat} (h:k<l.length) (a:Int):(l.take (k+1)).foldl E7 a=E7 ((l.take k).foldl E7 a) l[k]:=by
 rw [List.take_add_one,List.getElem?_eq_getElem h,List.foldl_append]
 rfl
theorem Jdj {out:List (List Int)} {i:Nat} {row:List Int} (hr:out[i]? = some row) (hl:row.length<1000000) (m:Bg):Tot (λ n=>whl (λ (x:(Int×Int))=>Fm n out m (i:Int) x.1 x.2) n (-1,0)) (λ y=>y=Dd row):=by
 have hi:=G5 hr
 refine Tot.upto (body:=λ n x=>Fm n out m (i:Int) x.1 x.2) row.length (λ k x=>x.2=(k:Int)∧x.1=(row.take k).foldl E7 (-1)) ?_ ?_ _ ⟨rfl,rfl⟩
 ·rintro k ⟨a,k'⟩ hk ⟨e1,e2⟩
  simp only at e1 e2
  subst e1
  have hv:=G6 hk
  have hJ:∀ b,b=E7 a row[k]->Tot (λ n=>GP n (k:Int) b) (Rd2 (λ x:Int×Int=>x.2=((k+1:Nat):Int)∧x.1=(row.take (k+1)).foldl E7 (-1)) (λ y=>y=Dd row)):=by
   intro b hb
   unfold GP
   exact Tot.pure ⟨DO (by omega),by rw [TZ hk,← e2];exact hb⟩
  unfold Fm
  refine Tot.bindC hi (Tot.iteT (HX hk) (Tot.bindC hi (Tot.bindC hv ?_)))
  by_cases h0:0≤row[k]
  ·by_cases h1:a<0
   ·refine Tot.gF (by simp [h1]) (Tot.gF (by simp [h1]) (Tot.iteT (by simp [h0,h1]) (Tot.bindC hi (Tot.bindC hv (hJ _ ?_)))))
    unfold E7;rw [if_pos ⟨h0,.inl h1⟩]
   ·refine Tot.gE (by simp;omega) (Ev.all λ _=>hi) (Tot.gE (by simp;omega) (Ev.all λ _=>hv) (Tot.ite (λ h=>Tot.bindC hi (Tot.bindC hv (hJ _ ?_))) λ h=>hJ _ ?_))
    ·unfold E7
     simp only [Bool.and_eq_true,Bool.or_eq_true,decide_eq_true_eq] at h
     rw [if_pos ⟨h0,h.2⟩]
    ·unfold E7
     rw [if_neg]
     intro hc
     rw [← Bool.not_eq_true] at h
     refine h ?_
     simp only [Bool.and_eq_true,Bool.or_eq_true,decide_eq_true_eq]
     exact ⟨h0,hc.2⟩
  ·refine Tot.gF (by simp;omega) (Tot.gF (by simp;omega) (Tot.iteF (by simp;omega) (hJ _ ?_)))
   unfold E7;rw [if_neg λ h=>h0 h.1]
 ·rintro ⟨a,k'⟩ ⟨e1,e2⟩
  simp only at e1 e2
  subst e1
  rw [List.take_length] at e2
  unfold Fm
  exact Tot.bindC hi (Tot.iteF (by simp) (Tot.pure e2))
theorem Jdk {out:List (List Int)} {i:Nat} {row:List Int} (hr:out[i]? = some row) (hl:row.length<1000000) (hb:∀ v∈row,-1≤v∧v≤13000000) (m:Bg):Tot (λ n=>whl (λ (x:((List Int)×Int))=>Fn n out m (i:Int) (Dd row) x.1 x.2) n ([],0)) (λ y=>y=Dy row):=by
 have hi:=G5 hr
 have hlr:=TY (by decide) hb
 refine Tot.upto (body:=λ n x=>Fn n out m (i:Int) (Dd row) x.1 x.2) row.length (λ k x=>x.2=(k:Int)∧x.1=(row.take k).map λ v=>if v<0 then -1 else v-Dd row) ?_ ?_ _ ⟨rfl,by simp⟩
 ·rintro k ⟨a,k'⟩ hk ⟨e1,e2⟩
  simp only at e1 e2
  subst e1
  have hv:=G6 hk
  have hbk:=hb _ (List.getElem_mem hk)
  have hla:a.length=k:=by rw [e2];simp;omega
  have hJ:∀ b,b=a++[if row[k]<0 then -1 else row[k]-Dd row]->Tot (λ n=>GQ n (k:Int) b) (Rd2 (λ x:List Int×Int=>x.2=((k+1:Nat):Int)∧x.1=(row.take (k+1)).map λ v=>if v<0 then -1 else v-Dd row) (λ y=>y=Dy row)):=by
   intro b h
   unfold GQ
   refine Tot.pure ⟨DO (by omega),?_⟩
   rw [h,e2,List.take_add_one,List.getElem?_eq_getElem hk,List.map_append]
   rfl
  unfold Fn
  refine Tot.bindC hi (Tot.iteT (HX hk) (Tot.bindC hi (Tot.bindC hv (Tot.ite (λ h=>Tot.bindC (KA (by simp;omega)) (hJ _ ?_)) λ h=>Tot.bindC hi (Tot.bindC hv (Tot.bindC (KA (by simp;omega)) (hJ _ ?_)))))))
  ·rw [decide_eq_true_eq] at h
   rw [if_pos h]
  ·rw [decide_eq_false_iff_not] at h
   rw [if_neg h,WA (by omega) (by omega)]
 ·rintro ⟨a,k'⟩ ⟨e1,e2⟩
  simp only at e1 e2
  subst e1
  rw [List.take_length] at e2
  unfold Fn
  exact Tot.bindC hi (Tot.iteF (by simp) (Tot.pure e2))
section
variable {t:Ad} (hT:G0 t) {s:List UInt8} (hs:s.length≤4000)
include hT hs
theorem QW {i:Nat} (hi:i≤s.length):(BR t (s.drop i)).length=(Ac t).length∧∀ v∈BR t (s.drop i),-1≤v∧v≤((3072*(s.length-i+1):Nat):Int):=by
 refine ⟨by simp [BR],λ v hv=>?_⟩
 obtain ⟨out,⟨_,hR⟩,_⟩:=Mb hT hs
 have h:=hR i hi
 rw [← h.eq] at hv
 obtain ⟨j,hj⟩:=List.mem_iff_getElem?.1 hv
 exact ⟨((SH hT hs h).2 j v hj).1,h.bnd j v hj⟩
theorem Yy {i:Nat} (hi:i≤s.length) {v:Int} (hv:v∈BR t (s.drop i)):-1≤v∧v≤13000000:=by
 have:=(QW hT hs hi).2 v hv
 omega
theorem Yz:Ev (λ n=>LG n t s) (IU t s):=by
 have hlen:=KD hT
 refine Tot.ev ?_
 unfold LG
 refine Tot.bind (Mb hT hs) ?_
 rintro out ⟨hol,hR⟩
 refine Tot.bind (R:=λ y=>y=IU t s) ?_ (λ y h=>Tot.pure h)
 refine Tot.upto (body:=λ n x=>GS n out x.1 x.2) (s.length+1) (λ k x=>x.2=(k:Int)∧x.1=⟨s,(List.range k).map λ i=>Dy (BR t (s.drop i)),(List.range k).map λ i=>Dd (BR t (s.drop i))⟩) ?_ ?_ _ ⟨rfl,rfl⟩
 ·rintro k ⟨m,k'⟩ hk ⟨e1,e2⟩
  simp only at e1 e2
  subst e1 e2
  have hRk:=hR k (by omega)
  have hg:out[k]? = some (BR t (s.drop k)):=by
   rw [← hRk.eq,List.getD_eq_getElem?_getD,List.getElem?_eq_getElem (by omega)];rfl
  have hrr:=QW hT hs (show k≤s.length by omega)
  unfold GS
  refine Tot.iteT (by rw [hol];exact HX hk) (Tot.bind (Jdj hg (by omega) _) ?_)
  rintro _ rfl
  refine Tot.bind (Jdk hg (by omega) (λ v hv=>Yy hT hs (by omega) hv) _) ?_
  rintro _ rfl
  refine Tot.bindC (KA (by simp;omega)) (Tot.bindC (KA (by simp;omega)) (Tot.pure ⟨DO (by omega),?_⟩))
  simp only [List.range_succ,List.map_append,List.map_cons,List.map_nil]
 ·rintro ⟨m,k'⟩ ⟨e1,e2⟩
  simp only at e1 e2
  subst e1
  unfold GS
  exact Tot.iteF (by rw [hol];simp) (Tot.pure e2)
end
theorem Jdl (a b:Bg) (h1:a.Least.length<1000000) (h2:a.Costs.length<1000000) (h3:∀ l∈a.Costs,l.length<1000000):Ev (λ n=>Jt n a b) (decide (a=b)):=by
 refine Tot.ev ?_
 unfold Jt
 obtain ⟨at',ac,al⟩:=a
 obtain ⟨bt,bc,bl⟩:=b
 simp only at h1 h2 h3 ⊢
 by_cases ht:at'=bt
 ·by_cases hc:ac.length=bc.length
  ·refine Tot.gE (by simp [ht,hc]) (Yx al bl (by omega)) ?_
   by_cases hl:al=bl
   ·refine Tot.iteF (by simp [ht,hc,hl]) ?_
    subst ht hl
    refine Tot.bind (R:=λ y:Unit⊕Bool=>(y=.inl ()∧ac=bc)∨(y=.inr false∧ac≠bc)) ?_ ?_
    ·refine Tot.upto (body:=λ n x=>GT n ⟨at',ac,al⟩ ⟨at',bc,al⟩ x) ac.length (λ k x=>x=(k:Int)∧ac.take k=bc.take k) ?_ ?_ _ ⟨rfl,rfl⟩
     ·rintro k _ hk ⟨rfl,e⟩
      have hkb:k<bc.length:=by omega
      unfold GT
      refine Tot.iteT (HX hk) (Tot.bindC (G6 hk) (Tot.bindC (G6 hkb) (Tot.bindE (Yx _ _ (by have:=h3 _ (List.getElem_mem hk);omega)) (Tot.ite (λ h=>?_) λ h=>?_))))
      ·refine Tot.pure (.inr ⟨rfl,λ he=>?_⟩)
       subst he
       simp at h
      ·refine Tot.pure ⟨DO (by omega),?_⟩
       have:ac[k]=bc[k]:=by simpa using h
       rw [List.take_add_one,List.take_add_one,e,List.getElem?_eq_getElem hk,List.getElem?_eq_getElem hkb,this]
     ·rintro _ ⟨rfl,e⟩
      unfold GT
      refine Tot.iteF (by simp) (Tot.pure (.inl ⟨rfl,?_⟩))
      rwa [List.take_length,hc,List.take_length] at e
    ·rintro y (⟨rfl,h⟩|⟨rfl,h⟩)
     ·exact Tot.pure (by simp [h])
     ·exact Tot.pure (by simp [h])
   ·refine Tot.iteT (by simp [hl]) (Tot.pure ?_)
    simp [hl]
  ·have hc':((ac.length:Nat):Int)≠((bc.length:Nat):Int):=by omega
   refine Tot.gF (by simp [ht,hc']) (Tot.iteT (by simp [ht,hc']) (Tot.pure ?_))
   simp only [Bg.mk.injEq]
   exact (decide_eq_false λ h=>hc (by rw [h.2.1])).symm
 ·refine Tot.gF (by simp [ht]) (Tot.iteT (by simp [ht]) (Tot.pure ?_))
  simp [ht]
theorem WO {t:Ad} (hT:G0 t) {s:List UInt8} (hs:s.length≤4000) (b:Bg):Ev (λ n=>Jt n (IU t s) b) (decide (IU t s=b)):=by
 have hlen:=KD hT
 refine Jdl _ _ (by simp [IU];omega) (by simp [IU];omega) λ l hl=>?_
 simp only [IU,List.mem_map] at hl
 obtain ⟨i,_,rfl⟩:=hl
 simp only [Dy,BR,List.length_map]
 omega
end Go.AI
end
section
namespace Go.AI
def Gr (t:Ad) (q:Aa) (k:Nat):Option NB:=if (AE t q k).2=true then some ⟨prt t k,((cls t k).length:Nat),D1 (Ac t) (AE t q k).1⟩ else none
def Bb (t:Ad) (q:Aa):List NB:=(List.range t.Rules.length).filterMap (Gr t q)
def BX (t:Ad):AK:=⟨(Ac t).map (Bb t),(Ac t).map (Bs t)⟩
theorem PU {t:Ad} {q:Aa} {a:NB}:a∈Bb t q↔∃ k:Nat,k<t.Rules.length∧(AE t q k).2=true∧a=⟨prt t k,((cls t k).length:Nat),D1 (Ac t) (AE t q k).1⟩:=by
 unfold Bb
 rw [List.mem_filterMap]
 constructor
 ·rintro ⟨k,hk,h⟩
  unfold Gr at h
  split at h
  ·rename_i hs;cases h;exact ⟨k,List.mem_range.1 hk,hs,rfl⟩
  ·cases h
 ·rintro ⟨k,hk,hs,rfl⟩
  exact ⟨k,List.mem_range.2 hk,by unfold Gr;rw [if_pos hs]⟩
theorem T0 (t:Ad) (q:Aa):(Bb t q).length≤t.Rules.length:=by
 have:=List.length_filterMap_le (Gr t q) (List.range t.Rules.length)
 simpa [Bb] using this
section
variable {t:Ad} (hT:G0 t)
include hT
theorem JeN:Tot (λ n=>whl (λ (x:((List (Aa×Int))×Int))=>BT n t (Ac t) x.1 x.2) n ([],0)) (IQ (Ac t)):=by
 have hlen:=KD hT
 refine Tot.upto (body:=λ n y=>BT n t (Ac t) y.1 y.2) (Ac t).length (λ k y=>y.2=(k:Int)∧IQ ((Ac t).take k) y.1) ?_ ?_ _ ⟨rfl,λ q=>rfl⟩
 ·rintro k ⟨nb,k'⟩ hk ⟨e1,hN⟩
  simp only at e1 hN
  subst e1
  unfold BT
  refine Tot.iteT (HX hk) (Tot.bindC (G6 hk) (Tot.pure ⟨DO (by omega),?_⟩))
  have hn:=Jda hT
  have e:(Ac t).take (k+1)=(Ac t).take k++[(Ac t)[k]]:=by rw [List.take_add_one,List.getElem?_eq_getElem hk];rfl
  have hnd:((Ac t).take (k+1)).Nodup:=(List.take_sublist _ _).nodup hn
  rw [e] at hnd
  have hp:(Ac t)[k] ∉ (Ac t).take k:=by
   intro hm
   exact (List.nodup_append.1 hnd).2.2 _ hm _ (by simp) rfl
  have:=IQ.snoc hN ((List.take_sublist _ _).nodup hn) hp
  rw [← e,List.length_take,Nat.min_eq_left (by omega)] at this
  exact this
 ·rintro ⟨nb,k'⟩ ⟨e1,hN⟩
  simp only at e1 hN
  subst e1
  rw [List.take_length] at hN
  unfold BT
  exact Tot.iteF (by simp) (Tot.pure hN)
theorem Jdm {nb:List (Aa×Int)} (hN:IQ (Ac t) nb) {j:Nat} {q:Aa} (hq:(Ac t)[j]? = some q) (g0:AK) (hl:g0.Arcs.length=(Ac t).length) (h0:g0.Arcs[j]? = some []) :
  Tot (λ n=>whl (λ (x:(AK×Int))=>BU n t (Ac t) nb (j:Int) q x.1 x.2) n (g0,0)) (λ g=>g={ g0 with Arcs:=g0.Arcs.set j (Bb t q) }):=by
 have hrl:=hT.tab.1
 have hjl:=Ap hq
 refine Tot.upto (body:=λ n x=>BU n t (Ac t) nb (j:Int) q x.1 x.2) t.Rules.length (λ k x=>x.2=(k:Int)∧x.1={ g0 with Arcs:=g0.Arcs.set j ((List.range k).filterMap (Gr t q)) }∧((List.range k).filterMap (Gr t q)).length≤k) ?_ ?_ _ ⟨rfl,?_,by simp⟩
 ·rintro k ⟨g,k'⟩ hk ⟨e1,e2,e3⟩
  simp only at e1 e2 e3
  subst e1
  have hJ:∀ g',g'={ g0 with Arcs:=g0.Arcs.set j ((List.range (k+1)).filterMap (Gr t q)) }->Tot (λ n=>Cg n (k:Int) g') (Rd2 (λ x:AK×Int=>x.2=((k+1:Nat):Int)∧x.1={ g0 with Arcs:=g0.Arcs.set j ((List.range (k+1)).filterMap (Gr t q)) }∧((List.range (k+1)).filterMap (Gr t q)).length≤k+1) (λ g=>g={ g0 with Arcs:=g0.Arcs.set j (Bb t q) })):=by
   intro g' hg
   unfold Cg
   refine Tot.pure ⟨DO (by omega),hg,?_⟩
   exact Nat.le_trans (List.length_filterMap_le _ _) (by simp)
  unfold BU
  have hir:idx t.Rules (k:Int)=some (D3 t k):=SD (by omega) (by omega)
  refine Tot.iteT (HX hk) (Tot.bindC hir (Tot.bindA (λ n=>QT hT.tab.short n q k) (Tot.ite (λ h=>?_) λ h=>?_)))
  ·subst e2
   refine Tot.bindC (E6 [] (by rw [List.length_set];omega)) ?_
   rw [G1 (by omega)]
   refine Tot.bindC (KA (by simp;omega)) (hJ _ ?_)
   rw [JeM hT hN (GC hT (List.mem_of_getElem? hq) h)]
   simp only [Int.toNat_natCast,List.set_set,List.range_succ,List.filterMap_append]
   have:(List.filterMap (Gr t q) [k])=[⟨prt t k,((cls t k).length:Nat),D1 (Ac t) (AE t q k).1⟩]:=by
    simp only [List.filterMap_cons,Gr,h,if_true,List.filterMap_nil]
   rw [this]
  ·refine hJ _ ?_
   rw [e2]
   simp only [List.range_succ,List.filterMap_append]
   have:(List.filterMap (Gr t q) [k])=[]:=by
    simp only [List.filterMap_cons,Gr,h,Bool.false_eq_true,if_false,List.filterMap_nil]
   rw [this,List.append_nil]
 ·rintro ⟨g,k'⟩ ⟨e1,e2,e3⟩
  simp only at e1 e2
  subst e1
  unfold BU
  exact Tot.iteF (by simp) (Tot.pure e2)
 ·show g0={ g0 with Arcs:=g0.Arcs.set j [] }
  have:g0.Arcs.set j []=g0.Arcs:=by
   have:=SG g0.Arcs j []
   rwa [List.getD_eq_getElem?_getD,h0] at this
  rw [this]
theorem Jdn:Ev (λ n=>Dk n t) (BX t):=by
 have hlen:=KD hT
 refine Tot.ev ?_
 unfold Dk
 refine Tot.bindE (XM hT.tab) (Tot.bind (JeN hT) ?_)
 intro nb hN
 refine Tot.bindC (SB (by omega) (by omega)) (Tot.bindC (SB (by omega) (by omega)) ?_)
 simp only [Int.toNat_natCast]
 refine Tot.bind (R:=λ g=>g=BX t) ?_ (λ g h=>Tot.pure h)
 refine Tot.upto (body:=λ n x=>Ch n t (Ac t) nb x.1 x.2) (Ac t).length (λ k x=>x.2=(k:Int)∧∃ A B,x.1=(⟨A,B⟩:AK)∧(A.length=(Ac t).length∧(∀ (j:Nat) q,j<k->(Ac t)[j]? = some q->A[j]? = some (Bb t q))∧∀ j,k≤j->j<(Ac t).length->A[j]? = some [])∧B.length=(Ac t).length∧∀ (j:Nat) q,j<k->(Ac t)[j]? = some q->B[j]? = some (Bs t q)) ?_ ?_ _ ⟨rfl,_,_,rfl,⟨by simp,by omega,λ j _ h=>by rw [List.getElem?_replicate,if_pos h]⟩,by simp,by omega⟩
 ·rintro k ⟨g,k'⟩ hk ⟨e1,A,B,e2,⟨a1,a2,a3⟩,b1,b2⟩
  simp only at e1 e2
  subst e1 e2
  have hq:(Ac t)[k]? = some (Ac t)[k]:=List.getElem?_eq_getElem hk
  unfold Ch
  refine Tot.iteT (HX hk) (Tot.bindC (G5 hq) (Tot.bindA (λ n=>XJ n t _) (Tot.bindC (E6 false (show k<B.length by omega)) (Tot.bindC (HU (show k<B.length by omega)) (Tot.bind (Jdm hT hN hq _ a1 (a3 k (Nat.le_refl _) hk)) ?_)))))
  rintro _ rfl
  refine Tot.pure ⟨DO (by omega),_,_,rfl,⟨by rw [List.length_set];exact a1,λ j q hj hjq=>?_,λ j h1 h2=>?_⟩,by rw [List.length_set];exact b1,λ j q hj hjq=>?_⟩
  ·by_cases e:k=j
   ·subst e
    rw [hq] at hjq;cases hjq
    exact List.getElem?_set_self (show k<A.length by omega)
   ·rw [List.getElem?_set_ne e];exact a2 j q (by omega) hjq
  ·rw [List.getElem?_set_ne (by omega)];exact a3 j (by omega) h2
  ·by_cases e:k=j
   ·subst e
    rw [hq] at hjq;cases hjq
    exact List.getElem?_set_self (show k<B.length by omega)
   ·rw [List.getElem?_set_ne e];exact b2 j q (by omega) hjq
 ·rintro ⟨g,k'⟩ ⟨e1,A,B,e2,⟨a1,a2,a3⟩,b1,b2⟩
  simp only at e1 e2
  subst e1 e2
  unfold Ch
  refine Tot.iteF (by simp) (Tot.pure ?_)
  show (⟨A,B⟩:AK)=⟨(Ac t).map (Bb t),(Ac t).map (Bs t)⟩
  congr 1
  ·refine List.ext_getElem? λ j=>?_
   rcases Nat.lt_or_ge j (Ac t).length with h|h
   ·rw [a2 j _ h (List.getElem?_eq_getElem h),List.getElem?_map,List.getElem?_eq_getElem h];rfl
   ·rw [List.getElem?_eq_none (by omega),List.getElem?_eq_none (by simpa using h)]
  ·refine List.ext_getElem? λ j=>?_
   rcases Nat.lt_or_ge j (Ac t).length with h|h
   ·rw [b2 j _ h (List.getElem?_eq_getElem h),List.getElem?_map,List.getElem?_eq_getElem h];rfl
   ·rw [List.getElem?_eq_none (by omega),List.getElem?_eq_none (by simpa using h)]
end
theorem XY:Ev (λ n=>HI n) true:=Ev.of (λ n m h=>Tb h) (n:=60) (by kernel_rfl)
end Go.AI
end
section
namespace Go.AI
section
variable {α:Type}
theorem EN {l ys:List α} {lo k:Nat} (h:lo+ys.length≤l.length) (hk:k<ys.length):(spl l lo ys)[lo+k]? = ys[k]? := by
 unfold spl
 have e:(l.take lo).length=lo:=by simp;omega
 rw [List.append_assoc,List.getElem?_append_right (by omega),e,List.getElem?_append_left (by omega)]
 congr 1;omega
theorem O5 {l ys:List α} {lo j:Nat} (h:lo+ys.length≤l.length) (hj:j<lo∨lo+ys.length≤j):(spl l lo ys)[j]? = l[j]? := by
 unfold spl
 have e:(l.take lo).length=lo:=by simp;omega
 rw [List.append_assoc]
 rcases hj with hj|hj
 ·rw [List.getElem?_append_left (by omega),List.getElem?_take_of_lt hj]
 ·rw [List.getElem?_append_right (by omega),List.getElem?_append_right (by omega),List.getElem?_drop]
  congr 1;omega
theorem H2 {l ys:List α} {lo:Nat} (h:lo+ys.length≤l.length):(spl l lo ys).length=l.length:=by
 unfold spl
 simp
 omega
theorem Md {l ys:List α} {lo k:Nat} (h:lo+ys.length≤l.length) (hk:k<ys.length) (v:α):(spl l lo ys).set (lo+k) v=spl l lo (ys.set k v):=by
 have h':lo+(ys.set k v).length≤l.length:=by rw [List.length_set];exact h
 refine List.ext_getElem? λ j=>?_
 by_cases e:lo+k=j
 ·subst e
  rw [List.getElem?_set_self (by rw [H2 h];omega),EN h' (by rw [List.length_set];exact hk),List.getElem?_set_self hk]
 ·rw [List.getElem?_set_ne e]
  by_cases hj:j<lo∨lo+ys.length≤j
  ·rw [O5 h hj,O5 h' (by rw [List.length_set];exact hj)]
  ·obtain ⟨m,rfl⟩:∃ m,j=lo+m:=⟨j-lo,by omega⟩
   rw [EN h (by omega),EN h' (by rw [List.length_set];omega),List.getElem?_set_ne (by omega)]
theorem Jdo {l:List α} {lo S:Nat} (h:lo+S≤l.length):spl l lo ((l.drop lo).take S)=l:=by
 unfold spl
 have e:((l.drop lo).take S).length=S:=by simp;omega
 rw [e,List.append_assoc]
 have:(l.drop lo).take S++l.drop (lo+S)=l.drop lo:=by
  rw [← List.drop_drop];exact List.take_append_drop _ _
 rw [this,List.take_append_drop]
theorem ZU {l ys:List α} {lo:Nat} (h:lo+ys.length≤l.length):((spl l lo ys).drop lo).take ys.length=ys:=by
 refine List.ext_getElem? λ j=>?_
 rw [List.getElem?_take,List.getElem?_drop]
 split
 ·rename_i hj;exact EN h hj
 ·rename_i hj;rw [List.getElem?_eq_none (by omega)]
theorem XZ {l ys:List α} {lo lo' S:Nat} (h:lo+ys.length≤l.length) (hd:lo'+S≤lo∨lo+ys.length≤lo'):((spl l lo ys).drop lo').take S=(l.drop lo').take S:=by
 refine List.ext_getElem? λ j=>?_
 rw [List.getElem?_take,List.getElem?_take]
 split
 ·rename_i hj
  rw [List.getElem?_drop,List.getElem?_drop,O5 h (by omega)]
 ·rfl
theorem Jiz {n k:Nat} (h:k<n):inB n (k:Int)=some ():=by
 unfold inB By
 rw [if_pos (by simp;omega)]
theorem KE {l:List α} {lo S k:Nat} {v:α} (hk:k<S) (h:l[lo+k]? = some v):ixP l (lo,S) (k:Int)=some v:=by
 unfold ixP
 rw [Jiz hk,Option.bind_some,Int.toNat_natCast]
 exact G5 h
end
def Me (S n:Nat):List (Nat×Nat):=(List.range n).map λ i=>(i*S,S)
theorem Jdp {S n i:Nat} (h:i<n):idx (Me S n) (i:Int)=some (i*S,S):=by
 refine G5 ?_
 simp [Me,h]
theorem MD {S n i:Nat} (h:i<n):i*S+S≤S*n:=by
 have:(i+1)*S≤n*S:=Nat.mul_le_mul_right S h
 rw [Nat.add_mul,Nat.one_mul,Nat.mul_comm n S] at this
 exact this
theorem Vf {S i j:Nat} (h:i<j):i*S+S≤j*S:=by
 have:(i+1)*S≤j*S:=Nat.mul_le_mul_right S h
 rw [Nat.add_mul,Nat.one_mul] at this
 exact this
structure Lat (t:Ad) (s:List UInt8) (i:Nat) (l ls:List Int):Prop where
 len:l.length=(Ac t).length*(s.length+1)
 ll:ls.length=s.length+1
 col:∀ p,i<p->p≤s.length->(l.drop (p*(Ac t).length)).take (Ac t).length=Dy (BR t (s.drop p))
 lst:∀ p,i<p->p≤s.length->ls[p]? = some (Dd (BR t (s.drop p)))
def Low (a b:List Int):Prop:=∀ (j:Nat) v,a[j]? = some v->0≤v->∃ w,b[j]? = some w∧0≤w∧w≤v
theorem Low.refl (a:List Int):Low a a:=λ _ v h h0=>⟨v,h,h0,Int.le_refl _⟩
theorem Low.set {a:List Int} {k:Nat} {v c:Int} (hv:a[k]? = some v) (hc:0≤c) (hlt:v<0∨c<v):Low a (a.set k c):=by
 intro j w hw h0
 by_cases e:k=j
 ·subst e
  rw [hv] at hw
  cases hw
  exact ⟨c,List.getElem?_set_self (Ap hv),hc,by omega⟩
 ·exact ⟨w,by rw [List.getElem?_set_ne e];exact hw,h0,Int.le_refl _⟩
def A1 (t:Ad) (x:List UInt8) (cur:List Int) (j:Nat) (g:NB):Prop:=g.Print≠[]->∀ y,x=g.Print++y->∀ q',(Ac t)[g.To.toNat]? = some q'->0≤AQ t q' y->∃ v,cur[j]? = some v∧0≤v∧v≤AQ t q' y+g.Cells
def A2 (cur:List Int) (j:Nat) (g:NB):Prop:=g.Print=[]->∀ w,cur[g.To.toNat]? = some w->0≤w->∃ v,cur[j]? = some v∧0≤v∧v≤w+g.Cells
theorem A1.low {t:Ad} {x:List UInt8} {a b:List Int} {j:Nat} {g:NB} (h:A1 t x a j g) (hl:Low a b):A1 t x b j g:=by
 intro hp y hy q' hq' h0
 obtain ⟨v,h1,h2,h3⟩:=h hp y hy q' hq' h0
 obtain ⟨w,g1,g2,g3⟩:=hl j v h1 h2
 exact ⟨w,g1,g2,by omega⟩
section
variable {t:Ad} (hT:G0 t) {s:List UInt8} (hs:s.length≤4000)
include hT hs
theorem WQ {p:Nat} (hp:p≤s.length) {j:Nat} {q:Aa} (hq:(Ac t)[j]? = some q):-1≤AQ t q (s.drop p)∧AQ t q (s.drop p)≤((3072*(s.length-p+1):Nat):Int):=by
 refine (QW hT hs hp).2 _ ?_
 unfold BR
 exact List.mem_map.2 ⟨q,List.mem_of_getElem? hq,rfl⟩
omit hT hs in
theorem JiA (p:Nat) {j:Nat} {q:Aa} (hq:(Ac t)[j]? = some q) :
  (Dy (BR t (s.drop p)))[j]? = some (if AQ t q (s.drop p)<0 then -1 else AQ t q (s.drop p)-Dd (BR t (s.drop p)))∧(0≤AQ t q (s.drop p)->0≤Dd (BR t (s.drop p))∧Dd (BR t (s.drop p))≤AQ t q (s.drop p)):=by
 have hr:(BR t (s.drop p))[j]? = some (AQ t q (s.drop p)):=by unfold BR;rw [List.getElem?_map,hq];rfl
 refine ⟨by rw [Dy,List.getElem?_map,hr];rfl,λ h0=>Ve (List.mem_of_getElem? hr) h0⟩
theorem X0 {i:Nat} {l ls cur:List Int} (hL:Lat t s i l ls) (hc:cur.length=(Ac t).length) (hi:i≤s.length) {p:Nat} (h1:i<p) (h2:p≤s.length) {j:Nat} {q:Aa} (hq:(Ac t)[j]? = some q) (x:List UInt8) (n:Nat) :
  Ff n x (p:Int) (j:Int) (Me (Ac t).length (s.length+1)) ls (spl l (i*(Ac t).length) cur)=some (AQ t q (s.drop p)):=by
 have hjl:=Ap hq
 have hlo:i*(Ac t).length+cur.length≤l.length:=by rw [hc,hL.len];exact MD (by omega)
 obtain ⟨n1,n2⟩:=JiA p hq
 have hrng:=WQ hT hs h2 hq
 have hv:(spl l (i*(Ac t).length) cur)[p*(Ac t).length+j]? = some (if AQ t q (s.drop p)<0 then -1 else AQ t q (s.drop p)-Dd (BR t (s.drop p))):=by
  have:=Vf (S:=(Ac t).length) h1
  rw [O5 hlo (by omega),← n1,← hL.col p h1 h2,List.getElem?_take_of_lt hjl,List.getElem?_drop]
 unfold Ff
 rw [Jdp (by omega),Option.bind_some]
 by_cases h0:AQ t q (s.drop p)<0
 ·rw [if_pos h0] at hv
  rw [KE hjl hv,Option.bind_some,if_pos (by simp)]
  congr 1;omega
 ·rw [if_neg h0] at hv
  have:=n2 (by omega)
  rw [KE hjl hv,Option.bind_some,if_neg (by simp;omega),G5 (hL.lst p h1 h2),Option.bind_some,Option.bind_some,KE hjl hv,Option.bind_some,OX (by omega) (by omega)]
  congr 1;omega
omit hT hs in
theorem WR {l cur:List Int} {lo k:Nat} {v rest cells:Int} (hlo:lo+cur.length≤l.length) (hv:cur[k]? = some v) (hr:-1≤rest∧rest≤100000000) (hc:0≤cells∧cells≤100) (n:Nat) :
  Bn n (k:Int) rest cells (lo,cur.length) (spl l lo cur)=some (if rest<0∨(0≤v∧v≤rest+cells) then (spl l lo cur,false) else (spl l lo (cur.set k (rest+cells)),true)):=by
 have hk:=Ap hv
 have hix:ixP (spl l lo cur) (lo,cur.length) (k:Int)=some v:=KE hk (by rw [EN hlo hk];exact hv)
 unfold Bn
 rw [hix]
 by_cases h0:rest<0
 ·rw [if_neg (by simp;omega),Option.bind_some,if_neg (by simp;omega),Option.bind_some,if_pos (by simp [h0]),if_pos (.inl h0)]
 ·rw [if_pos (by simp;omega),Option.bind_some]
  have e:AL .i64 rest cells=rest+cells:=OX (by omega) (by omega)
  rw [e]
  by_cases h1:0≤v
  ·rw [if_pos (by simp;omega),Option.bind_some]
   by_cases h2:v≤rest+cells
   ·rw [if_pos (by simp;omega),if_pos (.inr ⟨h1,h2⟩)]
   ·rw [if_neg (by simp;omega),if_neg (by omega),Option.bind_some,Int.toNat_natCast,HU (by rw [H2 hlo];omega),Option.bind_some,Md hlo hk]
  ·rw [if_neg (by simp;omega),Option.bind_some,if_neg (by simp;omega),if_neg (by omega),Option.bind_some,Int.toNat_natCast,HU (by rw [H2 hlo];omega),Option.bind_some,Md hlo hk]
theorem JeO {i:Nat} (hi:i≤s.length) {l cur0:List Int} (hc:cur0.length=(Ac t).length) (hlo:i*(Ac t).length+cur0.length≤l.length) (offs:List (Nat×Nat)) (ls:List Int) :
  Tot (λ n=>whl (λ (x:((List Int)×Int))=>A6 n (i:Int) s (BX t) offs ls (i*(Ac t).length,(Ac t).length) x.1 x.2) n (spl l (i*(Ac t).length) cur0,0)) (λ y=>y=spl l (i*(Ac t).length) ((Ac t).map (CW t (s.drop i)))):=by
 have hlen:=KD hT
 generalize hlo':i*(Ac t).length=lo at *
 refine Tot.upto (body:=λ n x=>A6 n (i:Int) s (BX t) offs ls (lo,(Ac t).length) x.1 x.2) (Ac t).length (λ k x=>x.2=(k:Int)∧∃ cur,x.1=spl l lo cur∧cur.length=(Ac t).length∧∀ (j:Nat) q,j<k->(Ac t)[j]? = some q->cur[j]? = some (CW t (s.drop i) q)) ?_ ?_ _ ⟨rfl,cur0,rfl,hc,by omega⟩
 ·rintro k ⟨c,k'⟩ hk ⟨e1,cur,e2,e3,e4⟩
  simp only at e1 e2
  subst e1 e2
  have hlc:lo+cur.length≤l.length:=by omega
  have hJ:∀ v,v=CW t (s.drop i) (Ac t)[k]->∀ c',c'=spl l lo (cur.set k v)->Tot (λ n=>Bj n (k:Int) c') (Rd2 (λ x:List Int×Int=>x.2=((k+1:Nat):Int)∧∃ cur,x.1=spl l lo cur∧cur.length=(Ac t).length∧∀ (j:Nat) q,j<k+1->(Ac t)[j]? = some q->cur[j]? = some (CW t (s.drop i) q)) (λ y=>y=spl l lo ((Ac t).map (CW t (s.drop i))))):=by
   intro v hv c' hc'
   unfold Bj
   refine Tot.pure ⟨DO (by omega),_,hc',by rw [List.length_set];exact e3,λ j q hj hq=>?_⟩
   by_cases e:k=j
   ·subst e
    rw [List.getElem?_set_self (by omega),hv]
    rw [List.getElem?_eq_getElem hk] at hq
    cases hq;rfl
   ·rw [List.getElem?_set_ne e];exact e4 j q (by omega) hq
  unfold A6
  have hg:(spl l lo cur)[lo+k]? = some cur[k]:=by rw [EN hlc (by omega)];exact List.getElem?_eq_getElem (by omega)
  refine Tot.iteT (by simpa using hk) (Tot.bindC (KE hk hg) ?_)
  rw [Int.toNat_natCast]
  refine Tot.bindC (HU (by rw [H2 hlc];omega)) ?_
  rw [Md hlc (by omega),WK hs hi]
  have hacc:idx (BX t).Accepts (k:Int)=some (Bs t (Ac t)[k]):=G5 (by simp [BX,hk])
  by_cases hd:s.drop i=[]
  ·refine Tot.gE (decide_eq_true hd) (Ev.all λ n=>hacc) (Tot.ite (λ h=>?_) λ h=>?_)
   ·have ha:Bs t (Ac t)[k]=true:=by simpa [hd] using h
    have hls:lo+(cur.set k (-1)).length≤l.length:=by rw [List.length_set];exact hlc
    refine Tot.bindC (KE hk (v:=-1) (by rw [EN hls (by rw [List.length_set];omega),List.getElem?_set_self (by omega)])) (Tot.bindC (HU (by rw [H2 hls];omega)) (hJ 0 ?_ _ ?_))
    ·unfold CW;rw [if_pos ⟨hd,ha⟩]
    ·rw [Md hls (by rw [List.length_set];omega),List.set_set]
   ·have ha:Bs t (Ac t)[k]=false:=by simpa [hd] using h
    refine hJ (-1) ?_ _ rfl
    unfold CW;rw [if_neg (by rw [ha];simp)]
  ·refine Tot.gF (decide_eq_false hd) (Tot.iteF (by simp [hd]) (hJ (-1) ?_ _ rfl))
   unfold CW;rw [if_neg (λ h=>hd h.1)]
 ·rintro ⟨c,k'⟩ ⟨e1,cur,e2,e3,e4⟩
  simp only at e1 e2
  subst e1 e2
  unfold A6
  refine Tot.iteF (by simp) (Tot.pure ?_)
  refine congrArg (spl l lo) (List.ext_getElem? λ j=>?_)
  rcases Nat.lt_or_ge j (Ac t).length with h|h
  ·rw [e4 j _ h (List.getElem?_eq_getElem h),List.getElem?_map,List.getElem?_eq_getElem h];rfl
  ·rw [List.getElem?_eq_none (by omega),List.getElem?_eq_none (by simpa using h)]
end
end Go.AI
end
section
namespace Go.AI
structure Vg (t:Ad) (x:List UInt8) (D B:Nat) (cur0 cur:List Int) (ch:Bool) (k a:Nat):Prop where
 col:Col t x D (Ac t) cur
 all:∀ (j:Nat) q,(Ac t)[j]? = some q->∀ g∈Bb t q,A1 t x cur j g
 same:ch=false->cur=cur0∧(∀ (j:Nat) q,j<k->(Ac t)[j]? = some q->∀ g∈Bb t q,A2 cur0 j g)∧∀ q,(Ac t)[k]? = some q->∀ g∈(Bb t q).take a,A2 cur0 k g
 less:ch=true->phi B cur<phi B cur0
section
variable {t:Ad} (hT:G0 t) {s:List UInt8} (hs:s.length≤4000)
include hT hs
omit hs in
theorem WS {q:Aa} (hq:q∈Ac t) {g:NB} (hg:g∈Bb t q):∃ (k m:Nat),(AE t q k).2=true∧g=⟨prt t k,((cls t k).length:Nat),(m:Nat)⟩∧(Ac t)[m]? = some (AE t q k).1∧(prt t k).length≤3∧1≤(cls t k).length∧(cls t k).length≤4:=by
 obtain ⟨k,hk,hst,rfl⟩:=PU.1 hg
 obtain ⟨m,hm,hmg⟩:=Db (GC hT hq hst)
 exact ⟨k,m,hst,by rw [hm],hmg,hT.pr hst⟩
theorem JeP {i:Nat} (hi:i≤s.length) {l ls cur1:List Int} (hL:Lat t s i l ls) {k:Nat} {q:Aa} (hq:(Ac t)[k]? = some q) (h1:Col t (s.drop i) (3072*(s.length-i)) (Ac t) cur1) (gr:AK) :
  Tot (λ n=>whl (λ (x:((List Int)×Int))=>A7 n (i:Int) s gr (Me (Ac t).length (s.length+1)) ls (i*(Ac t).length,(Ac t).length) (k:Int) (Bb t q) x.1 x.2) n (spl l (i*(Ac t).length) cur1,0))
   (λ y=>∃ cur,y=spl l (i*(Ac t).length) cur∧Col t (s.drop i) (3072*(s.length-i)) (Ac t) cur∧Low cur1 cur∧∀ g∈Bb t q,A1 t (s.drop i) cur k g):=by
 have hlen:=KD hT
 have hrl:=hT.tab.1
 have hgl:=T0 t q
 have hkl:=Ap hq
 have hlo0:i*(Ac t).length+(Ac t).length≤l.length:=by rw [hL.len];exact MD (by omega)
 refine Tot.upto (body:=λ n x=>A7 n (i:Int) s gr (Me (Ac t).length (s.length+1)) ls (i*(Ac t).length,(Ac t).length) (k:Int) (Bb t q) x.1 x.2) (Bb t q).length (λ a x=>x.2=(a:Int)∧∃ cur,x.1=spl l (i*(Ac t).length) cur∧Col t (s.drop i) (3072*(s.length-i)) (Ac t) cur∧Low cur1 cur∧∀ g∈(Bb t q).take a,A1 t (s.drop i) cur k g) ?_ ?_ _ ⟨rfl,cur1,rfl,h1,.refl _,by simp⟩
 ·rintro a ⟨c,a'⟩ ha ⟨e1,cur,e2,hC,hlw,hA⟩
  simp only at e1 e2
  subst e1 e2
  have hcl:=hC.len
  have hlo:i*(Ac t).length+cur.length≤l.length:=by omega
  obtain ⟨r,m,hst,hge,hm,p1,p2,p3⟩:=WS hT (List.mem_of_getElem? hq) (List.getElem_mem ha)
  obtain ⟨v,hv⟩:=hC.get hkl
  have hJ:∀ cur',Col t (s.drop i) (3072*(s.length-i)) (Ac t) cur'->Low cur cur'->A1 t (s.drop i) cur' k (Bb t q)[a]->Tot (λ n=>Bk n (a:Int) (spl l (i*(Ac t).length) cur')) (Rd2 (λ x:List Int×Int=>x.2=((a+1:Nat):Int)∧∃ cur,x.1=spl l (i*(Ac t).length) cur∧Col t (s.drop i) (3072*(s.length-i)) (Ac t) cur∧Low cur1 cur∧∀ g∈(Bb t q).take (a+1),A1 t (s.drop i) cur k g) (λ y=>∃ cur,y=spl l (i*(Ac t).length) cur∧Col t (s.drop i) (3072*(s.length-i)) (Ac t) cur∧Low cur1 cur∧∀ g∈Bb t q,A1 t (s.drop i) cur k g)):=by
   intro cur' hC' hl' hA'
   unfold Bk
   refine Tot.pure ⟨DO (by omega),cur',rfl,hC',λ j w hw h0=>?_,λ g hg=>?_⟩
   ·obtain ⟨w1,g1,g2,g3⟩:=hlw j w hw h0
    obtain ⟨w2,g4,g5,g6⟩:=hl' j w1 g1 g2
    exact ⟨w2,g4,g5,by omega⟩
   ·rw [List.take_add_one,List.getElem?_eq_getElem ha,List.mem_append] at hg
    rcases hg with hg|hg
    ·exact (hA g hg).low hl'
    ·simp at hg;subst hg;exact hA'
  unfold A7
  refine Tot.iteT (HX ha) (Tot.bindC (G6 ha) ?_)
  rw [hge] at hJ ⊢
  simp only
  by_cases hp:prt t r=[]
  ·refine Tot.gF (by simp [hp]) (Tot.gF (by simp [hp]) (Tot.iteF (by simp [hp]) (hJ cur hC (.refl _) λ h=>absurd hp h)))
  ·have hpl:0<(prt t r).length:=List.length_pos_iff.2 hp
   refine Tot.gE (x:=s.drop i) (by simp [hp]) (Ev.all λ n=>?_) (Tot.gE (x:=(prt t r).isPrefixOf (s.drop i)) (by simp [hp]) (Ev.all λ n=>?_) (Tot.ite (λ h=>?_) λ h=>?_))
   ·rw [JcW (by omega) (by omega) (by omega)];simp
   ·unfold DB Et
    by_cases hle:(prt t r).length≤(s.drop i).length
    ·have hd:decide (((List.length (s.drop i):Nat):Int)≥((List.length (prt t r):Nat):Int))=true:=by simp only [ge_iff_le,decide_eq_true_eq];omega
     rw [if_pos hd,Ys (by omega),Option.bind_some,hd,Bool.true_and,Option.bind_some]
     congr 1
     rw [Bool.eq_iff_iff,beq_iff_eq,List.isPrefixOf_iff_prefix]
     constructor
     ·intro h2
      have:=List.take_prefix (prt t r).length (s.drop i)
      rw [h2] at this;exact this
     ·intro h2;exact (List.prefix_iff_eq_take.1 h2).symm
    ·have hd:decide (((List.length (s.drop i):Nat):Int)≥((List.length (prt t r):Nat):Int))=false:=by simp only [ge_iff_le,decide_eq_false_iff_not];omega
     rw [if_neg (by rw [hd];simp),Option.bind_some,hd,Bool.false_and,Option.bind_some]
     congr 1
     rw [eq_comm,← Bool.not_eq_true,List.isPrefixOf_iff_prefix]
     intro hp'
     exact hle hp'.length_le
   ·have hb:(prt t r).isPrefixOf (s.drop i)=true:=by simpa [hp] using h
    obtain ⟨q1,q2⟩:=D4 hb
    have q2:=q2 hi
    rw [OX (by omega) (by omega)]
    have ep:(i:Int)+((List.length (prt t r):Nat):Int)=((i+(prt t r).length:Nat):Int):=by omega
    rw [ep]
    have hrg:=WQ hT hs q2 hm
    refine Tot.bindA (λ n=>X0 hT hs hL hcl hi (by omega) q2 hm s n) ?_
    have hlq:=λ n=>WR (l:=l) (cur:=cur) (lo:=i*(Ac t).length) (k:=k) (v:=v) (rest:=AQ t (AE t q r).1 (s.drop (i+(prt t r).length))) (cells:=((cls t r).length:Nat)) hlo hv (by omega) (by omega) n
    rw [hcl] at hlq
    refine Tot.bindA hlq ?_
    have hy:∀ y,s.drop i=prt t r++y->y=s.drop (i+(prt t r).length):=λ y hy=>by
     rw [q1] at hy
     exact (List.append_cancel_left hy).symm
    by_cases hc:AQ t (AE t q r).1 (s.drop (i+(prt t r).length))<0∨(0≤v∧v≤AQ t (AE t q r).1 (s.drop (i+(prt t r).length))+((cls t r).length:Nat))
    ·rw [if_pos hc]
     refine hJ cur hC (.refl _) λ _ y hyy q' hq' h0=>?_
     simp only [Int.toNat_natCast] at hq' hyy ⊢
     rw [hm] at hq'
     cases hq'
     rw [hy y hyy] at h0 ⊢
     exact ⟨v,hv,by omega,by omega⟩
    ·rw [if_neg hc]
     have hfin:=QU cur
     have hbd:AQ t (AE t q r).1 (s.drop (i+(prt t r).length))≤((3072*(s.length-i):Nat):Int):=by
      have:3072*(s.length-(i+(prt t r).length)+1)≤3072*(s.length-i):=by omega
      omega
     have hlow:=hC.lower (c:=AQ t (AE t q r).1 (s.drop (i+(prt t r).length))+((cls t r).length:Nat)) hq hv (by
      have:=O2 hst (Gq (t:=t) (q:=(AE t q r).1) (x:=s.drop (i+(prt t r).length)) (by omega))
      rwa [← q1] at this) (by omega) (by omega) (B:=20000000) (by omega)
     refine hJ _ hlow.1 (.set hv (by omega) (by omega)) λ _ y hyy q' hq' h0=>?_
     simp only [Int.toNat_natCast] at hq' hyy ⊢
     rw [hm] at hq'
     cases hq'
     rw [hy y hyy]
     exact ⟨_,List.getElem?_set_self (by omega),by omega,by omega⟩
   ·have hb:(prt t r).isPrefixOf (s.drop i)=false:=by simpa [hp] using h
    refine hJ cur hC (.refl _) λ _ y hyy=>?_
    simp only at hyy
    rw [hyy] at hb
    rw [← Bool.not_eq_true,List.isPrefixOf_iff_prefix] at hb
    exact absurd (List.prefix_append _ _) hb
 ·rintro ⟨c,a'⟩ ⟨e1,cur,e2,hC,hlw,hA⟩
  simp only at e1 e2
  subst e1 e2
  rw [List.take_length] at hA
  unfold A7
  exact Tot.iteF (by simp) (Tot.pure ⟨cur,rfl,hC,hlw,hA⟩)
theorem JeQ {i:Nat} (hi:i≤s.length) {l ls cur1:List Int} (hL:Lat t s i l ls) (h1:Col t (s.drop i) (3072*(s.length-i)) (Ac t) cur1) :
  Tot (λ n=>whl (λ (x:((List Int)×Int))=>A8 n (i:Int) s (BX t) (Me (Ac t).length (s.length+1)) ls (i*(Ac t).length,(Ac t).length) x.1 x.2) n (spl l (i*(Ac t).length) cur1,0))
   (λ y=>∃ cur,y=spl l (i*(Ac t).length) cur∧Col t (s.drop i) (3072*(s.length-i)) (Ac t) cur∧∀ (j:Nat) q,(Ac t)[j]? = some q->∀ g∈Bb t q,A1 t (s.drop i) cur j g):=by
 have hlen:=KD hT
 have hgl:(BX t).Arcs.length=(Ac t).length:=by simp [BX]
 refine Tot.upto (body:=λ n x=>A8 n (i:Int) s (BX t) (Me (Ac t).length (s.length+1)) ls (i*(Ac t).length,(Ac t).length) x.1 x.2) (Ac t).length (λ k x=>x.2=(k:Int)∧∃ cur,x.1=spl l (i*(Ac t).length) cur∧Col t (s.drop i) (3072*(s.length-i)) (Ac t) cur∧∀ (j:Nat) q,j<k->(Ac t)[j]? = some q->∀ g∈Bb t q,A1 t (s.drop i) cur j g) ?_ ?_ _ ⟨rfl,cur1,rfl,h1,by omega⟩
 ·rintro k ⟨c,k'⟩ hk ⟨e1,cur,e2,hC,hA⟩
  simp only at e1 e2
  subst e1 e2
  have hq:(Ac t)[k]? = some (Ac t)[k]:=List.getElem?_eq_getElem hk
  unfold A8
  have hix:idx (BX t).Arcs (k:Int)=some (Bb t (Ac t)[k]):=G5 (by simp [BX,hk])
  refine Tot.iteT (by rw [hgl];exact HX hk) (Tot.bindC hix (Tot.bind (JeP hT hs hi hL hq hC (BX t)) ?_))
  rintro _ ⟨cur',rfl,hC',hlw,hA'⟩
  refine Tot.pure ⟨DO (by omega),cur',rfl,hC',λ j q hj hjq g hg=>?_⟩
  by_cases e:k=j
  ·subst e
   rw [hq] at hjq;cases hjq
   exact hA' g hg
  ·exact (hA j q (by omega) hjq g hg).low hlw
 ·rintro ⟨c,k'⟩ ⟨e1,cur,e2,hC,hA⟩
  simp only at e1 e2
  subst e1 e2
  unfold A8
  exact Tot.iteF (by rw [hgl];simp) (Tot.pure ⟨cur,rfl,hC,λ j q hq=>hA j q (Ap hq) hq⟩)
end
end Go.AI
end
section
namespace Go.AI
section
variable {t:Ad} (hT:G0 t) {s:List UInt8} (hs:s.length≤4000)
include hT hs
theorem JeR {i lo:Nat} {l:List Int} (hlo0:lo+(Ac t).length≤l.length) {cur0 cur1:List Int} {ch1:Bool} {k:Nat} {q:Aa} (hq:(Ac t)[k]? = some q) (h1:Vg t (s.drop i) (3072*(s.length-i)) 20000000 cur0 cur1 ch1 k 0) (x0:List UInt8) (gr:AK) (offs:List (Nat×Nat)) (ls:List Int) :
  Tot (λ n=>whl (λ (x:((List Int)×Bool×Int))=>A9 n x0 gr offs ls (lo,(Ac t).length) (k:Int) (Bb t q) x.1 x.2.1 x.2.2) n (spl l lo cur1,ch1,0))
   (λ y=>∃ cur,y.1=spl l lo cur∧Vg t (s.drop i) (3072*(s.length-i)) 20000000 cur0 cur y.2 k (Bb t q).length):=by
 have hlen:=KD hT
 have hrl:=hT.tab.1
 have hgl:=T0 t q
 have hkl:=Ap hq
 refine Tot.upto (body:=λ n x=>A9 n x0 gr offs ls (lo,(Ac t).length) (k:Int) (Bb t q) x.1 x.2.1 x.2.2) (Bb t q).length (λ a x=>x.2.2=(a:Int)∧∃ cur,x.1=spl l lo cur∧Vg t (s.drop i) (3072*(s.length-i)) 20000000 cur0 cur x.2.1 k a) ?_ ?_ _ ⟨rfl,cur1,rfl,h1⟩
 ·rintro a ⟨c,ch,a'⟩ ha ⟨e1,cur,e2,hP⟩
  simp only at e1 e2 hP
  subst e1 e2
  have hC:=hP.col
  have hcl:=hC.len
  have hlo:lo+cur.length≤l.length:=by omega
  obtain ⟨r,m,hst,hge,hm,p1,p2,p3⟩:=WS hT (List.mem_of_getElem? hq) (List.getElem_mem ha)
  obtain ⟨v,hv⟩:=hC.get hkl
  have hml:=Ap hm
  obtain ⟨w,hw⟩:=hC.get hml
  have hJ:∀ cur' ch',Vg t (s.drop i) (3072*(s.length-i)) 20000000 cur0 cur' ch' k (a+1)->Tot (λ n=>A3 n (a:Int) (spl l lo cur') ch') (Rd2 (λ x:List Int×Bool×Int=>x.2.2=((a+1:Nat):Int)∧∃ cur,x.1=spl l lo cur∧Vg t (s.drop i) (3072*(s.length-i)) 20000000 cur0 cur x.2.1 k (a+1)) (λ y=>∃ cur,y.1=spl l lo cur∧Vg t (s.drop i) (3072*(s.length-i)) 20000000 cur0 cur y.2 k (Bb t q).length)):=by
   intro cur' ch' h
   unfold A3
   exact Tot.pure ⟨DO (by omega),cur',rfl,h⟩
  have hskip:A2 cur k (Bb t q)[a]->Vg t (s.drop i) (3072*(s.length-i)) 20000000 cur0 cur ch k (a+1):=by
   intro hA
   refine ⟨hC,hP.all,λ hc=>?_,hP.less⟩
   obtain ⟨g1,g2,g3⟩:=hP.same hc
   refine ⟨g1,g2,λ q' hq' g hg=>?_⟩
   rw [hq] at hq'
   cases hq'
   rw [List.take_add_one,List.getElem?_eq_getElem ha,List.mem_append] at hg
   rcases hg with hg|hg
   ·exact g3 q hq g hg
   ·simp at hg;subst hg;rw [← g1];exact hA
  unfold A9
  refine Tot.iteT (HX ha) (Tot.bindC (G6 ha) ?_)
  rw [hge] at hskip ⊢
  simp only
  by_cases hp:prt t r=[]
  ·have hpd:(prt t r==[])=true:=by simp [hp]
   have hix:ixP (spl l lo cur) (lo,(Ac t).length) (m:Int)=some w:=KE hml (by rw [EN hlo (by omega)];exact hw)
   refine Tot.gE hpd (Ev.all λ n=>hix) (Tot.iteT hpd ?_)
   have hwt:=hC.top hw
   have hlq:=λ n=>WR (l:=l) (cur:=cur) (lo:=lo) (k:=k) (v:=v) (rest:=w) (cells:=((cls t r).length:Nat)) hlo hv (by omega) (by omega) n
   rw [hcl] at hlq
   refine Tot.bindA hlq ?_
   by_cases hc:w<0∨(0≤v∧v≤w+((cls t r).length:Nat))
   ·rw [if_pos hc]
    refine Tot.iteF (by simp) (hJ cur ch (hskip λ _ w' hw' h0=>?_))
    simp only [Int.toNat_natCast] at hw' ⊢
    rw [hw] at hw'
    cases hw'
    exact ⟨v,hv,by omega,by omega⟩
   ·rw [if_neg hc]
    refine Tot.iteT (by simp [hp]) ?_
    obtain ⟨v',hv',hd⟩:=hC.ach m _ hm
    rw [hw] at hv'
    cases hv'
    have hbn:=hC.bnd m w hw
    have hfin:=QU cur
    have hlow:=hC.lower (c:=w+((cls t r).length:Nat)) hq hv (by
     have:=O2 hst (hd.resolve_left (by omega))
     rwa [hp,List.nil_append] at this) (by omega) (by omega) (B:=20000000) (by omega)
    refine hJ _ _ ⟨hlow.1,λ j q' hj g hg=>(hP.all j q' hj g hg).low (.set hv (by omega) (by omega)),(λ h=>by cases h),λ _=>?_⟩
    cases hch:ch with
    | false=>rw [← (hP.same hch).1];exact hlow.2
    | true=>have:=hP.less hch;have:=hlow.2;omega
  ·have hpd:(prt t r==[])=false:=by simp [hp]
   refine Tot.gF hpd (Tot.iteF hpd (Tot.iteF (by simp) (hJ cur ch (hskip λ h=>absurd h hp))))
 ·rintro ⟨c,ch,a'⟩ ⟨e1,cur,e2,hP⟩
  simp only at e1 e2 hP
  subst e1 e2
  unfold A9
  exact Tot.iteF (by simp) (Tot.pure ⟨cur,rfl,hP⟩)
theorem JeS {i lo:Nat} {l:List Int} (hlo0:lo+(Ac t).length≤l.length) {cur0:List Int} (h1:Col t (s.drop i) (3072*(s.length-i)) (Ac t) cur0) (h2:∀ (j:Nat) q,(Ac t)[j]? = some q->∀ g∈Bb t q,A1 t (s.drop i) cur0 j g) (x0:List UInt8) (offs:List (Nat×Nat)) (ls:List Int) :
  Tot (λ n=>whl (λ (x:((List Int)×Bool×Int))=>Ba n x0 (BX t) offs ls (lo,(Ac t).length) x.1 x.2.1 x.2.2) n (spl l lo cur0,false,0))
   (λ y=>∃ cur,y.1=spl l lo cur∧Vg t (s.drop i) (3072*(s.length-i)) 20000000 cur0 cur y.2 (Ac t).length 0):=by
 have hlen:=KD hT
 have hgl:(BX t).Arcs.length=(Ac t).length:=by simp [BX]
 refine Tot.upto (body:=λ n x=>Ba n x0 (BX t) offs ls (lo,(Ac t).length) x.1 x.2.1 x.2.2) (Ac t).length (λ k x=>x.2.2=(k:Int)∧∃ cur,x.1=spl l lo cur∧Vg t (s.drop i) (3072*(s.length-i)) 20000000 cur0 cur x.2.1 k 0) ?_ ?_ _ ⟨rfl,cur0,rfl,h1,h2,λ _=>⟨rfl,by omega,by simp⟩,λ h=>by cases h⟩
 ·rintro k ⟨c,ch,k'⟩ hk ⟨e1,cur,e2,hP⟩
  simp only at e1 e2 hP
  subst e1 e2
  have hq:(Ac t)[k]? = some (Ac t)[k]:=List.getElem?_eq_getElem hk
  unfold Ba
  have hix:idx (BX t).Arcs (k:Int)=some (Bb t (Ac t)[k]):=G5 (by simp [BX,hk])
  refine Tot.iteT (by rw [hgl];exact HX hk) (Tot.bindC hix (Tot.bind (JeR hT hs hlo0 hq hP x0 (BX t) offs ls) ?_))
  rintro ⟨_,ch'⟩ ⟨cur',rfl,hP'⟩
  refine Tot.pure ⟨DO (by omega),cur',rfl,hP'.col,hP'.all,λ hc=>?_,hP'.less⟩
  obtain ⟨g1,g2,g3⟩:=hP'.same hc
  refine ⟨g1,λ j q hj hjq g hg=>?_,by simp⟩
  by_cases e:k=j
  ·subst e
   rw [hq] at hjq;cases hjq
   exact g3 _ hq g (by rw [List.take_length];exact hg)
  ·exact g2 j q (by omega) hjq g hg
 ·rintro ⟨c,ch,k'⟩ ⟨e1,cur,e2,hP⟩
  simp only at e1 e2 hP
  subst e1 e2
  unfold Ba
  exact Tot.iteF (by rw [hgl];simp) (Tot.pure ⟨cur,rfl,hP⟩)
theorem JeT {i lo:Nat} {l:List Int} (hlo0:lo+(Ac t).length≤l.length) {cur0:List Int} (h1:Col t (s.drop i) (3072*(s.length-i)) (Ac t) cur0) (h2:∀ (j:Nat) q,(Ac t)[j]? = some q->∀ g∈Bb t q,A1 t (s.drop i) cur0 j g) (x0:List UInt8) (offs:List (Nat×Nat)) (ls:List Int) :
  Tot (λ n=>whl (λ (x:((List Int)×Bool))=>Bl n x0 (BX t) offs ls (lo,(Ac t).length) x.1 x.2) n (spl l lo cur0,true))
   (λ y=>y=spl l lo (BR t (s.drop i))):=by
 refine Tot.whl (body:=λ n x=>Bl n x0 (BX t) offs ls (lo,(Ac t).length) x.1 x.2) (λ m x=>∃ cur,x.1=spl l lo cur∧Col t (s.drop i) (3072*(s.length-i)) (Ac t) cur∧(∀ (j:Nat) q,(Ac t)[j]? = some q->∀ g∈Bb t q,A1 t (s.drop i) cur j g)∧((x.2=true∧m=phi 20000000 cur+1)∨(x.2=false∧m=0∧∀ (j:Nat) q,(Ac t)[j]? = some q->∀ g∈Bb t q,A2 cur j g))) ?_ (phi 20000000 cur0+1) (spl l lo cur0,true) ⟨cur0,rfl,h1,h2,.inl ⟨rfl,rfl⟩⟩
 rintro m ⟨c,ch⟩ ⟨cur,e2,hC,hA,hm⟩
 simp only at e2 hm
 subst e2
 unfold Bl
 rcases hm with ⟨rfl,rfl⟩|⟨rfl,rfl,hR⟩
 ·refine Tot.iteT rfl (Tot.bind (JeS hT hs hlo0 hC hA x0 offs ls) ?_)
  rintro ⟨_,ch'⟩ ⟨cur',rfl,hP⟩
  simp only at hP
  cases ch' with
  | false=>
   obtain ⟨g1,g2,_⟩:=hP.same rfl
   subst g1
   exact Tot.pure ⟨0,by omega,cur',rfl,hC,hA,.inr ⟨rfl,rfl,λ j q hq=>g2 j q (Ap hq) hq⟩⟩
  | true=>
   have:=hP.less rfl
   exact Tot.pure ⟨phi 20000000 cur'+1,by omega,cur',rfl,hP.col,hP.all,.inl ⟨rfl,rfl⟩⟩
 ·refine Tot.iteF rfl (Tot.pure ?_)
  show spl l lo cur=spl l lo (BR t (s.drop i))
  congr 1
  refine List.ext_getElem? λ j=>?_
  rcases Nat.lt_or_ge j (Ac t).length with hj|hj
  ·have hq:(Ac t)[j]? = some (Ac t)[j]:=List.getElem?_eq_getElem hj
   rw [hC.exact (Jda hT) ⟨λ j q k hjq hst hp y hy hc=>?_⟩ ⟨λ j q k hjq hst hp=>?_⟩ hq]
   ·unfold BR;rw [List.getElem?_map,hq];rfl
   ·have hk:=Dx hst
    obtain ⟨m,hm,hmg⟩:=Db (GC hT (List.mem_of_getElem? hjq) hst)
    have:=hA j q hjq _ (PU.2 ⟨k,by omega,hst,rfl⟩) hp y hy (AE t q k).1 (by rw [hm];simpa using hmg) hc
    simpa using this
   ·have hk:=Dx hst
    obtain ⟨m,hm,hmg⟩:=Db (GC hT (List.mem_of_getElem? hjq) hst)
    obtain ⟨w,hw⟩:=hC.get (Ap hmg)
    refine ⟨m,w,hmg,hw,λ h0=>?_⟩
    exact hR j q hjq _ (PU.2 ⟨k,by omega,hst,rfl⟩) hp w (by rw [hm];simpa using hw) h0
  ·rw [List.getElem?_eq_none (by rw [hC.len];exact hj),List.getElem?_eq_none (by simp [BR];exact hj)]
omit hT hs in
theorem JeU {l cur:List Int} {lo:Nat} (hlo:lo+cur.length≤l.length) (hl:cur.length<1000000):Tot (λ n=>whl (λ (x:(Int×Int))=>Cq n (lo,cur.length) (spl l lo cur) x.1 x.2) n (-1,0)) (λ y=>y=Dd cur):=by
 refine Tot.upto (body:=λ n x=>Cq n (lo,cur.length) (spl l lo cur) x.1 x.2) cur.length (λ k x=>x.2=(k:Int)∧x.1=(cur.take k).foldl E7 (-1)) ?_ ?_ _ ⟨rfl,rfl⟩
 ·rintro k ⟨a,k'⟩ hk ⟨e1,e2⟩
  simp only at e1 e2
  subst e1
  have hJ:∀ b,b=E7 a cur[k]->Tot (λ n=>CS n (k:Int) b) (Rd2 (λ x:Int×Int=>x.2=((k+1:Nat):Int)∧x.1=(cur.take (k+1)).foldl E7 (-1)) (λ y=>y=Dd cur)):=by
   intro b hb
   unfold CS
   exact Tot.pure ⟨DO (by omega),by rw [TZ hk,← e2];exact hb⟩
  unfold Cq
  refine Tot.iteT (HX hk) (Tot.bindC (KE hk (v:=cur[k]) (by rw [EN hlo hk];exact List.getElem?_eq_getElem hk)) (Tot.ite (λ h=>hJ _ ?_) λ h=>hJ _ ?_))
  ·simp only [Bool.and_eq_true,Bool.or_eq_true,decide_eq_true_eq] at h
   unfold E7;rw [if_pos ⟨h.1,h.2⟩]
  ·unfold E7
   rw [if_neg]
   intro hc
   rw [← Bool.not_eq_true] at h
   refine h ?_
   simp only [Bool.and_eq_true,Bool.or_eq_true,decide_eq_true_eq]
   exact ⟨hc.1,hc.2⟩
 ·rintro ⟨a,k'⟩ ⟨e1,e2⟩
  simp only at e1 e2
  subst e1
  rw [List.take_length] at e2
  unfold Cq
  exact Tot.iteF (by simp) (Tot.pure e2)
omit hT hs in
theorem JeV {l cur:List Int} {lo:Nat} (hlo:lo+cur.length≤l.length) (hl:cur.length<1000000) (hb:∀ v∈cur,-1≤v∧v≤13000000):Tot (λ n=>whl (λ (x:((List Int)×Int))=>Cr n (lo,cur.length) (Dd cur) x.1 x.2) n (spl l lo cur,0)) (λ y=>y=spl l lo (Dy cur)):=by
 have hlr:=TY (by decide) hb
 refine Tot.upto (body:=λ n x=>Cr n (lo,cur.length) (Dd cur) x.1 x.2) cur.length (λ k x=>x.2=(k:Int)∧x.1=spl l lo ((Dy cur).take k++cur.drop k)) ?_ ?_ _ ⟨rfl,by simp⟩
 ·rintro k ⟨c,k'⟩ hk ⟨e1,e2⟩
  simp only at e1 e2
  subst e1 e2
  have hnl:(Dy cur).length=cur.length:=by simp [Dy]
  have hml:((Dy cur).take k++cur.drop k).length=cur.length:=by simp;omega
  have hlm:lo+((Dy cur).take k++cur.drop k).length≤l.length:=by omega
  have htk:((Dy cur).take k).length=k:=by simp;omega
  have hg:((Dy cur).take k++cur.drop k)[k]? = some cur[k]:=by
   rw [List.getElem?_append_right (by omega),htk,List.getElem?_drop,Nat.sub_self,Nat.add_zero]
   exact List.getElem?_eq_getElem hk
  have hbk:=hb _ (List.getElem_mem hk)
  have hn:(Dy cur)[k]? = some (if cur[k]<0 then -1 else cur[k]-Dd cur):=by rw [Dy,List.getElem?_map,List.getElem?_eq_getElem hk];rfl
  have hset:∀ v,(Dy cur)[k]? = some v->((Dy cur).take k++cur.drop k).set k v=(Dy cur).take (k+1)++cur.drop (k+1):=by
   intro v hv
   refine List.ext_getElem? λ j=>?_
   by_cases e:k=j
   ·subst e
    rw [List.getElem?_set_self (by omega),List.getElem?_append_left (by simp;omega),List.getElem?_take_of_lt (by omega),hv]
   ·rw [List.getElem?_set_ne e]
    by_cases hj:j<k
    ·rw [List.getElem?_append_left (by omega),List.getElem?_append_left (by simp;omega),List.getElem?_take_of_lt hj,List.getElem?_take_of_lt (by omega)]
    ·have:((Dy cur).take (k+1)).length=k+1:=by simp;omega
     rw [List.getElem?_append_right (by omega),List.getElem?_append_right (by omega),List.getElem?_drop,List.getElem?_drop]
     congr 1;omega
  have hJ:∀ c',c'=spl l lo ((Dy cur).take (k+1)++cur.drop (k+1))->Tot (λ n=>CT n (k:Int) c') (Rd2 (λ x:List Int×Int=>x.2=((k+1:Nat):Int)∧x.1=spl l lo ((Dy cur).take (k+1)++cur.drop (k+1))) (λ y=>y=spl l lo (Dy cur))):=by
   intro c' hc'
   unfold CT
   exact Tot.pure ⟨DO (by omega),hc'⟩
  have hix:ixP (spl l lo ((Dy cur).take k++cur.drop k)) (lo,cur.length) (k:Int)=some cur[k]:=KE hk (by rw [EN hlm (by omega)];exact hg)
  unfold Cr
  refine Tot.iteT (HX hk) (Tot.bindC hix (Tot.ite (λ h=>?_) λ h=>hJ _ ?_))
  ·have h0:0≤cur[k]:=by simpa using h
   have hle:=Ve (List.getElem_mem hk) h0
   refine Tot.bindC hix ?_
   rw [Int.toNat_natCast]
   refine Tot.bindC (HU (by rw [H2 hlm];omega)) (hJ _ ?_)
   rw [Md hlm (by omega),WA (by omega) (by omega),hset _ (by rw [hn,if_neg (by omega)])]
  ·have h0:cur[k]<0:=by simpa using h
   rw [← hset (-1) (by rw [hn,if_pos h0])]
   refine congrArg (spl l lo) ?_
   refine List.ext_getElem? λ j=>?_
   by_cases e:k=j
   ·subst e
    rw [List.getElem?_set_self (by omega),hg]
    congr 1;omega
   ·rw [List.getElem?_set_ne e]
 ·rintro ⟨c,k'⟩ ⟨e1,e2⟩
  simp only at e1 e2
  subst e1 e2
  unfold Cr
  refine Tot.iteF (by simp) (Tot.pure ?_)
  show spl l lo _=_
  rw [List.drop_length,List.append_nil,List.take_of_length_le (by simp [Dy])]
theorem JiB {i:Nat} (hi:i≤s.length) {l ls:List Int} (hL:Lat t s i l ls) :
  Ev (λ n=>BB n (i:Int) s (BX t) (Me (Ac t).length (s.length+1)) ls l) (spl l (i*(Ac t).length) (Dy (BR t (s.drop i))),Dd (BR t (s.drop i))):=by
 have hlen:=KD hT
 have hlo0:i*(Ac t).length+(Ac t).length≤l.length:=by rw [hL.len];exact MD (by omega)
 have hr:=QW hT hs hi
 refine Tot.ev ?_
 unfold BB
 refine Tot.bindC (Jdp (by omega)) ?_
 have hcut:=Jdo hlo0
 have hcl:((l.drop (i*(Ac t).length)).take (Ac t).length).length=(Ac t).length:=by simp;omega
 have h1:=JeO hT hs hi (l:=l) (cur0:=(l.drop (i*(Ac t).length)).take (Ac t).length) hcl (by omega) (Me (Ac t).length (s.length+1)) ls
 rw [hcut] at h1
 refine Tot.bind h1 ?_
 rintro _ rfl
 refine Tot.bind (JeQ hT hs hi hL (TT t _ _ _)) ?_
 rintro _ ⟨cur,rfl,hC,hA⟩
 refine Tot.bind (JeT hT hs hlo0 hC hA s _ ls) ?_
 rintro _ rfl
 refine Tot.bind (R:=λ y=>y=(spl l (i*(Ac t).length) (Dy (BR t (s.drop i))),Dd (BR t (s.drop i)))) ?_ (λ y hy=>by subst hy;exact Tot.pure rfl)
 have hlr:i*(Ac t).length+(BR t (s.drop i)).length≤l.length:=by omega
 have r1:=JeU hlr (by omega)
 have r2:=JeV hlr (by omega) (λ v hv=>Yy hT hs hi hv)
 rw [hr.1] at r1 r2
 unfold HG
 refine Tot.bind r1 ?_
 rintro _ rfl
 refine Tot.bind r2 ?_
 rintro _ rfl
 exact Tot.pure rfl
end
end Go.AI
end
section
namespace Go.AI
structure Gs (t:Ad) (s:List UInt8) (P:Nat->Prop) (l ls:List Int):Prop where
 len:l.length=(Ac t).length*(s.length+1)
 ll:ls.length=s.length+1
 col:∀ p,P p->p≤s.length->(l.drop (p*(Ac t).length)).take (Ac t).length=Dy (BR t (s.drop p))
 lst:∀ p,P p->p≤s.length->ls[p]? = some (Dd (BR t (s.drop p)))
theorem Gs.mono {t:Ad} {s:List UInt8} {P R:Nat->Prop} {l ls:List Int} (h:Gs t s P l ls) (hr:∀ p,p≤s.length->R p->P p):Gs t s R l ls:=⟨h.len,h.ll,λ p hp hl=>h.col p (hr p hl hp) hl,λ p hp hl=>h.lst p (hr p hl hp) hl⟩
theorem Gs.lat {t:Ad} {s:List UInt8} {i:Nat} {P:Nat->Prop} {l ls:List Int} (h:Gs t s P l ls) (hr:∀ p,p≤s.length->i<p->P p):Lat t s i l ls:=⟨h.len,h.ll,λ p h1 h2=>h.col p (hr p h2 h1) h2,λ p h1 h2=>h.lst p (hr p h2 h1) h2⟩
section
variable {t:Ad} (hT:G0 t) {s:List UInt8} (hs:s.length≤4000)
theorem JeW (t:Ad) (x:List UInt8):(Dy (BR t x)).length=(Ac t).length:=by simp [Dy,BR]
theorem Gs.set {P:Nat->Prop} {l ls:List Int} (h:Gs t s P l ls) {i:Nat} (hi:i≤s.length):Gs t s (λ p=>P p∨p=i) (spl l (i*(Ac t).length) (Dy (BR t (s.drop i)))) (ls.set i (Dd (BR t (s.drop i)))):=by
 have hnl:=JeW t (s.drop i)
 have hlo0:i*(Ac t).length+(Dy (BR t (s.drop i))).length≤l.length:=by rw [h.len,hnl];exact MD (by omega)
 have hll:=h.ll
 refine ⟨by rw [H2 hlo0];exact h.len,by rw [List.length_set];exact h.ll,λ p h1 h2=>?_,λ p h1 h2=>?_⟩
 ·by_cases e:p=i
  ·subst e
   have:=ZU hlo0
   rwa [hnl] at this
  ·rw [XZ hlo0]
   ·exact h.col p (h1.resolve_right e) h2
   ·rw [hnl]
    rcases Nat.lt_or_gt_of_ne e with e|e
    ·exact .inl (Vf e)
    ·exact .inr (Vf e)
 ·by_cases e:i=p
  ·subst e
   exact List.getElem?_set_self (by omega)
  ·rw [List.getElem?_set_ne e]
   exact h.lst p (h1.resolve_right λ h=>e h.symm) h2
theorem Gs.memo {P:Nat->Prop} {l ls:List Int} (h:Gs t s P l ls) (hp:∀ p,p≤s.length->P p):Zh l (Me (Ac t).length (s.length+1))=some ()∧(⟨s,Pi l (Me (Ac t).length (s.length+1)),ls⟩:Bg)=IU t s:=by
 constructor
 ·unfold Zh By
  rw [if_pos]
  rw [List.all_eq_true]
  intro x hx
  simp only [Me,List.mem_map,List.mem_range] at hx
  obtain ⟨i,hi,rfl⟩:=hx
  rw [decide_eq_true_eq,h.len]
  exact MD hi
 ·unfold IU Pi Me
  rw [List.map_map]
  congr 1
  ·refine List.map_congr_left λ i hi=>?_
   have:=List.mem_range.1 hi
   exact h.col i (hp i (by omega)) (by omega)
  ·refine List.ext_getElem? λ j=>?_
   rw [List.getElem?_map]
   rcases Nat.lt_or_ge j (s.length+1) with hj|hj
   ·rw [h.lst j (hp j (by omega)) (by omega),List.getElem?_range hj];rfl
   ·rw [List.getElem?_eq_none (by rw [h.ll];exact hj),List.getElem?_eq_none (by simpa using hj)];rfl
include hT hs
theorem Jdq:Ev (λ n=>B1 n s (BX t)) (Me (Ac t).length (s.length+1),List.replicate (s.length+1) 0,List.replicate ((Ac t).length*(s.length+1)) 0):=by
 have hlen:=KD hT
 have hgl:(BX t).Arcs.length=(Ac t).length:=by simp [BX]
 have hmul:(Ac t).length*(s.length+1)≤768*4001:=Nat.mul_le_mul hlen (by omega)
 refine Tot.ev ?_
 unfold B1
 have e1:AL .i64 ((List.length s:Nat):Int) 1=((s.length+1:Nat):Int):=DO (by omega)
 rw [e1,hgl]
 have e2:JZ .i64 (((Ac t).length:Nat):Int) ((s.length+1:Nat):Int)=(((Ac t).length*(s.length+1):Nat):Int):=by
  have:(((Ac t).length:Nat):Int)*((s.length+1:Nat):Int)=(((Ac t).length*(s.length+1):Nat):Int):=by push_cast;rfl
  unfold JZ;rw [this];exact w64 (by omega) (by omega)
 rw [e2]
 refine Tot.bindC (SB (by omega) (by omega)) (Tot.bindC (SB (by omega) (by omega)) (Tot.bindC (SB (by omega) (by omega)) ?_))
 simp only [Int.toNat_natCast,List.length_replicate]
 refine Tot.bind (R:=λ y=>y=Me (Ac t).length (s.length+1)) ?_ (λ y hy=>by subst hy;exact Tot.pure rfl)
 refine Tot.upto (body:=λ n x=>BA n s (BX t) _ _ x.1 x.2) (s.length+1) (λ k x=>x.2=(k:Int)∧x.1.length=s.length+1∧∀ j,j<k->x.1[j]? = some (j*(Ac t).length,(Ac t).length)) ?_ ?_ _ ⟨rfl,by simp,by omega⟩
 ·rintro k ⟨m,k'⟩ hk ⟨e3,h1,h2⟩
  simp only at e3 h1 h2
  subst e3
  unfold BA
  rw [e1,hgl]
  have hk1:(k+1)*(Ac t).length≤4001*768:=Nat.mul_le_mul (by omega) hlen
  have hk0:(k+1)*(Ac t).length=k*(Ac t).length+(Ac t).length:=by rw [Nat.add_mul,Nat.one_mul]
  have hle:=MD (S:=(Ac t).length) hk
  have i1:AL .i64 (k:Int) 1=((k+1:Nat):Int):=DO (by omega)
  have i2:JZ .i64 (k:Int) (((Ac t).length:Nat):Int)=((k*(Ac t).length:Nat):Int):=by
   have:(k:Int)*(((Ac t).length:Nat):Int)=((k*(Ac t).length:Nat):Int):=by push_cast;rfl
   unfold JZ;rw [this];exact w64 (by omega) (by omega)
  have i3:JZ .i64 ((k+1:Nat):Int) (((Ac t).length:Nat):Int)=(((k+1)*(Ac t).length:Nat):Int):=by
   have:((k+1:Nat):Int)*(((Ac t).length:Nat):Int)=(((k+1)*(Ac t).length:Nat):Int):=by push_cast;rfl
   unfold JZ;rw [this];exact w64 (by omega) (by omega)
  rw [i1,i2,i3,List.length_replicate]
  have hcut:Ja1 ((Ac t).length*(s.length+1)) ((k*(Ac t).length:Nat):Int) (((k+1)*(Ac t).length:Nat):Int) (((k+1)*(Ac t).length:Nat):Int)=some ():=by
   unfold Ja1 By
   rw [if_pos]
   simp only [Bool.and_eq_true,decide_eq_true_eq]
   omega
  refine Tot.iteT (HX hk) (Tot.bindC hcut (Tot.bindC (G6 (show k<m.length by omega)) (Tot.bindC (HU (show k<m.length by omega)) (Tot.pure ⟨rfl,by simp only [List.length_set];exact h1,λ j hj=>?_⟩))))
  by_cases e:k=j
  ·subst e
   rw [List.getElem?_set_self (show k<m.length by omega)]
   simp only [Int.toNat_natCast,Nat.zero_add]
   congr 2;omega
  ·rw [List.getElem?_set_ne e];exact h2 j (by omega)
 ·rintro ⟨m,k'⟩ ⟨e3,h1,h2⟩
  simp only at e3 h1 h2
  subst e3
  unfold BA
  rw [e1]
  refine Tot.iteF (by simp) (Tot.pure (List.ext_getElem? λ j=>?_))
  rcases Nat.lt_or_ge j (s.length+1) with hj|hj
  ·rw [h2 j hj];simp [Me,hj]
  ·rw [List.getElem?_eq_none (show m.length≤j by omega),List.getElem?_eq_none (by simpa [Me] using hj)]
omit hT hs in
theorem X1 (t:Ad) (s:List UInt8):Gs t s (λ _=>False) (List.replicate ((Ac t).length*(s.length+1)) 0) (List.replicate (s.length+1) 0):=⟨by simp,by simp,λ _ h=>h.elim,λ _ h=>h.elim⟩
theorem WT (hx:s.all F7=true):Ev (λ n=>CF n t s) (IU t s,0):=by
 refine Tot.ev ?_
 unfold CF
 have ht:=Yt (s:=s) (by omega)
 rw [WB hx] at ht
 refine Tot.bindE ht (Tot.iteF rfl (Tot.bindE (Jdn hT) (Tot.bindE (Jdq hT hs) (Tot.bindC (y:=()) rfl ?_))))
 refine Tot.bind (R:=λ y=>Gs t s (λ _=>True) y.2 y.1) ?_ ?_
 ·refine Tot.whl (body:=λ n x=>D9 n s (BX t) _ x.1 x.2.1 x.2.2) (λ m x=>x.2.2=(m:Int)-1∧m≤s.length+1∧Gs t s (λ p=>m≤p) x.2.1 x.1) ?_ (s.length+1) _ ⟨by simp,Nat.le_refl _,(X1 t s).mono λ p h1 h2=>by omega⟩
  rintro m ⟨ls,l,i'⟩ ⟨e2,e3,hC⟩
  simp only at e2 hC
  subst e2
  unfold D9
  cases m with
  | zero=>exact Tot.iteF (by simp) (Tot.pure (hC.mono λ p _ _=>by omega))
  | succ i=>
   have ei:((i+1:Nat):Int)-1=(i:Int):=by omega
   rw [ei]
   have hll:=hC.ll
   refine Tot.iteT (by simp) (Tot.bindE (JiB hT hs (show i≤s.length by omega) (hC.lat λ p _ h=>by omega)) (Tot.bindC (G6 (show i<ls.length by omega)) (Tot.bindC (HU (show i<ls.length by omega)) (Tot.pure ⟨i,by omega,?_,by omega,?_⟩))))
   ·show G4 .i64 (i:Int) 1=(i:Int)-1
    rw [WA (by omega) (by omega)]
   ·exact (hC.set (show i≤s.length by omega)).mono λ p _ h=>by omega
 ·rintro ⟨ls,l⟩ hC
  obtain ⟨h1,h2⟩:=hC.memo λ _ _=>trivial
  refine Tot.bindC h1 (Tot.pure ?_)
  rw [h2]
omit hT in
theorem ZV (hx:s.all F7=false):Ev (λ n=>CF n t s) (⟨[],[],[]⟩,60):=by
 refine Tot.ev ?_
 unfold CF
 refine Tot.bindE (Yt (s:=s) (by omega)) (Tot.iteT ?_ (Tot.pure ?_))
 ·rw [PS hx];rfl
 ·rw [PS hx]
end
end Go.AI
end
section
namespace Go.AI
def Sh (t:Ad) (d:Int) (x x':List UInt8):Prop:=∀ q∈Ac t,(AQ t q x<0∧AQ t q x'<0)∨(0≤AQ t q x∧0≤AQ t q x'∧AQ t q x'=AQ t q x+d)
def EqC (t:Ad) (d:Int) (x x':List UInt8):Prop:=Dy (BR t x)=Dy (BR t x')∧(0≤Dd (BR t x)->Dd (BR t x')-Dd (BR t x)=d)
theorem JiC {t:Ad} {x:List UInt8} {j:Nat} {q:Aa} (hq:(Ac t)[j]? = some q):(BR t x)[j]? = some (AQ t q x):=by unfold BR;rw [List.getElem?_map,hq];rfl
theorem QX {t:Ad} {x:List UInt8} {v:Int}:v∈BR t x↔∃ q∈Ac t,v=AQ t q x:=by
 unfold BR
 rw [List.mem_map]
 constructor
 ·rintro ⟨q,h,rfl⟩;exact ⟨q,h,rfl⟩
 ·rintro ⟨q,h,rfl⟩;exact ⟨q,h,rfl⟩
theorem ME {t:Ad} (x:List UInt8):(Dd (BR t x)=-1∧∀ q∈Ac t,AQ t q x<0)∨(0≤Dd (BR t x)∧(∃ q∈Ac t,Dd (BR t x)=AQ t q x)∧∀ q∈Ac t,0≤AQ t q x->Dd (BR t x)≤AQ t q x):=by
 by_cases h:∃ q∈Ac t,0≤AQ t q x
 ·obtain ⟨q,hq,h0⟩:=h
  have h1:=Ve (QX.2 ⟨q,hq,rfl⟩) h0
  refine .inr ⟨h1.1,?_,λ q' hq' h0'=>(Ve (QX.2 ⟨q',hq',rfl⟩) h0').2⟩
  rcases XX (BR t x) with h2|h2
  ·omega
  ·exact QX.1 h2
 ·have hn:∀ q∈Ac t,AQ t q x<0:=λ q hq=>Int.not_le.1 λ h0=>h ⟨q,hq,h0⟩
  refine .inl ⟨?_,hn⟩
  rcases XX (BR t x) with h2|h2
  ·exact h2
  ·obtain ⟨q,hq,e⟩:=QX.1 h2
   have:=hn q hq
   have:=WI t q x
   omega
theorem Jdr {t:Ad} {x:List UInt8} {j:Nat} {q:Aa} (hq:(Ac t)[j]? = some q):(Dy (BR t x))[j]? = some (if AQ t q x<0 then -1 else AQ t q x-Dd (BR t x)):=by
 rw [Dy,List.getElem?_map,JiC hq];rfl
theorem EqC.sh {t:Ad} {d:Int} {x x':List UInt8} (h:EqC t d x x'):Sh t d x x':=by
 intro q hq
 obtain ⟨j,hj,e⟩:=List.getElem_of_mem hq
 have hg:(Ac t)[j]? = some q:=by rw [List.getElem?_eq_getElem hj,e]
 have he:=Jdr (x:=x) hg
 rw [h.1,Jdr hg] at he
 simp only [Option.some.injEq] at he
 have g:=h.2
 rcases ME (t:=t) x with ⟨a1,a2⟩|⟨a1,_,a3⟩
 ·have b1:=a2 q hq
  rcases ME (t:=t) x' with ⟨c1,c2⟩|⟨c1,_,c3⟩
  ·exact .inl ⟨b1,c2 q hq⟩
  ·refine .inl ⟨b1,Int.not_le.1 λ h0=>?_⟩
   have:=c3 q hq h0
   rw [if_neg (by omega),if_pos b1] at he
   omega
 ·rcases ME (t:=t) x' with ⟨c1,c2⟩|⟨c1,_,c3⟩
  ·have:=g a1;
   have b2:=c2 q hq
   refine .inl ⟨Int.not_le.1 λ h0=>?_,b2⟩
   have:=a3 q hq h0
   rw [if_pos b2,if_neg (by omega)] at he
   omega
  ·have hd:=g a1
   by_cases h0:AQ t q x<0
   ·refine .inl ⟨h0,Int.not_le.1 λ h1=>?_⟩
    have:=c3 q hq h1
    rw [if_neg (by omega),if_pos h0] at he
    omega
   ·by_cases h1:AQ t q x'<0
    ·have:=a3 q hq (by omega)
     rw [if_pos h1,if_neg h0] at he
     omega
    ·rw [if_neg h1,if_neg h0] at he
     exact .inr ⟨by omega,by omega,by omega⟩
theorem Sh.lst {t:Ad} {d:Int} {x x':List UInt8} (h:Sh t d x x'):Dd (BR t x')=if Dd (BR t x)<0 then -1 else Dd (BR t x)+d:=by
 rcases ME (t:=t) x with ⟨a1,a2⟩|⟨a1,⟨q,hq,e⟩,a3⟩
 ·rw [if_pos (by omega)]
  rcases ME (t:=t) x' with ⟨c1,c2⟩|⟨c1,⟨q',hq',e'⟩,c3⟩
  ·exact c1
  ·rcases h q' hq' with h1|h1
   ·omega
   ·have:=a2 q' hq';omega
 ·rw [if_neg (by omega)]
  have hh:=h q hq
  rcases ME (t:=t) x' with ⟨c1,c2⟩|⟨c1,⟨q',hq',e'⟩,c3⟩
  ·have:=c2 q hq;omega
  ·have g1:=c3 q hq (by omega)
   have g2:=h q' hq'
   have g3:=a3 q' hq' (by omega)
   omega
section
variable {t:Ad} (hT:G0 t)
include hT
theorem Jds {d:Int} {x x':List UInt8} (h3:3≤x.length) (ht:x.take 3=x'.take 3) (hS:∀ k,1≤k->k≤3->∀ q∈Ac t,0≤AQ t q (x.drop k)->0≤AQ t q (x'.drop k)∧AQ t q (x'.drop k)≤AQ t q (x.drop k)+d) :
  ∀ (p:List Int) (q:Aa),q∈Ac t->Way t q x p->∃ p',Way t q x' p'∧((E5 t p':Nat):Int)≤(E5 t p:Nat)+d:=by
 intro p
 induction p with
 | nil=>intro q _ h;have:=h.nil.1;subst this;simp at h3
 | cons k p ih=>
  intro q hq h
  obtain ⟨h1,y,h2,hw⟩:=h.uncons
  rw [Fu]
  obtain ⟨n,rfl⟩:∃ n:Nat,k=n:=⟨k.toNat,by have:=Dx h1;omega⟩
  have hq':=GC hT hq h1
  by_cases he:prt t n=[]
  ·rw [he,List.nil_append] at h2
   subst h2
   obtain ⟨p',g1,g2⟩:=ih _ hq' hw
   have:=g1.cons h1
   rw [he,List.nil_append] at this
   exact ⟨_,this,by rw [Fu];omega⟩
  ·have hpl:=(hT.pr h1).1
   have hp0:0<(prt t n).length:=List.length_pos_iff.2 he
   have hy:y=x.drop (prt t n).length:=by rw [h2,List.drop_left]
   have hx':x'=prt t n++x'.drop (prt t n).length:=by
    have e1:x.take (prt t n).length=prt t n:=by rw [h2,List.take_left]
    have e2:x'.take (prt t n).length=x.take (prt t n).length:=by
     have:=congrArg (List.take (prt t n).length) ht
     rwa [List.take_take,List.take_take,Nat.min_eq_left hpl,eq_comm] at this
    have:=List.take_append_drop (prt t n).length x'
    rw [e2,e1] at this
    exact this.symm
   have hc:=Ma hw
   rw [hy] at hc
   have g:=hS _ hp0 hpl _ hq' hc.1
   obtain ⟨p',g1,g2⟩:=Gq g.1
   have hn:=g1.cons h1
   rw [← hx'] at hn
   exact ⟨_,hn,by rw [Fu];omega⟩
theorem Sh.step {d:Int} {x x':List UInt8} (h3:3≤x.length) (h3':3≤x'.length) (ht:x.take 3=x'.take 3) (hS:∀ k,1≤k->k≤3->Sh t d (x.drop k) (x'.drop k)):Sh t d x x':=by
 have f1:=Jds hT (d:=d) h3 ht λ k h1 h2 q hq h0=>by
  rcases hS k h1 h2 q hq with h|h<;>omega
 have f2:=Jds hT (d:=-d) h3' ht.symm λ k h1 h2 q hq h0=>by
  rcases hS k h1 h2 q hq with h|h<;>omega
 intro q hq
 by_cases h0:0≤AQ t q x
 ·obtain ⟨p,hp,e⟩:=Gq h0
  obtain ⟨p',hp',e'⟩:=f1 p q hq hp
  have g:=Ma hp'
  obtain ⟨p2,hp2,e2⟩:=Gq g.1
  obtain ⟨p3,hp3,e3⟩:=f2 p2 q hq hp2
  have g3:=Ma hp3
  exact .inr ⟨h0,g.1,by omega⟩
 ·refine .inl ⟨by omega,Int.not_le.1 λ h1=>?_⟩
  obtain ⟨p,hp,e⟩:=Gq h1
  obtain ⟨p',hp',e'⟩:=f2 p q hq hp
  have:=(Ma hp').1
  omega
theorem Sh.all {d:Int} {s s':List UInt8} {i a:Nat} (ha:i+3≤a) (hl:a≤s.length) (hl':a≤s'.length) (ht:s.take a=s'.take a) (hS:∀ j,i≤j->j≤i+2->Sh t d (s.drop j) (s'.drop j)):∀ m j,j+m=i->Sh t d (s.drop j) (s'.drop j):=by
 intro m
 induction m using Nat.strongRecOn with
 | _ m ih=>
  intro j hj
  rcases Nat.eq_zero_or_pos m with rfl|h0
  ·exact hS j (by omega) (by omega)
  ·refine Sh.step hT (by simp;omega) (by simp;omega) ?_ λ k h1 h2=>?_
   ·have:=congrArg (λ l=>(List.drop j l).take 3) ht
    simp only [List.drop_take,List.take_take] at this
    rwa [Nat.min_eq_left (by omega)] at this
   ·rw [List.drop_drop,List.drop_drop]
    by_cases hk:k≤m
    ·exact ih (m-k) (by omega) (j+k) (by omega)
    ·exact hS (j+k) (by omega) (by omega)
end
end Go.AI
end
section
namespace Go.AI
def Jfj (t:Ad) (s s':List UInt8) (a i:Nat):Prop:=i+3≤a∧∃ d,∀ j,i≤j->j≤i+3->EqC t d (s.drop j) (s'.drop j)
def Jdt (t:Ad) (s s':List UInt8) (a b r:Nat):Prop:=r≤b∧(∀ j,r<j->j<b->¬Jfj t s s' a j)∧(r=0∨Jfj t s s' a r)
theorem Jdt.uniq {t:Ad} {s s':List UInt8} {a b r r':Nat} (hab:a≤b) (h:Jdt t s s' a b r) (h':Jdt t s s' a b r'):r=r':=by
 obtain ⟨h1,h2,h3⟩:=h
 obtain ⟨g1,g2,g3⟩:=h'
 rcases Nat.lt_trichotomy r r' with h|h|h
 ·rcases g3 with g3|g3
  ·omega
  ·exact absurd g3 (h2 r' h (by have:=g3.1;omega))
 ·exact h
 ·rcases h3 with h3|h3
  ·omega
  ·exact absurd h3 (g2 r h (by have:=h3.1;omega))
section
variable {t:Ad} (hT:G0 t)
include hT
variable {s:List UInt8} (hs:s.length≤4000) {s':List UInt8} (hs':s'.length≤4000)
include hs
include hs'
end
end Go.AI
end
section
namespace Go.AI
theorem X2 {t:Ad} {s:List UInt8} (ht:Jc t) (h:SK t s):s.all F7=true:=by
 obtain ⟨_,p,hp,rfl⟩:=h
 rw [List.all_eq_true]
 intro b hb
 simp only [DK,List.mem_flatMap] at hb
 obtain ⟨k,hk,hb⟩:=hb
 have:=hp k hk
 have hm:=Gp this.1 this.2
 have hs:=ht.sound _ hm
 simp only [Gn,Bool.and_eq_true] at hs
 exact List.all_eq_true.1 hs.1.1.1.1.1.1 b hb
theorem Jj1 {x:MM} (hx:OY x) {l:List Int} (hl:∀ a∈l,U8 a) (s:List UInt8):Ev (λ n=>Eg n x l s) true:=by
 obtain ⟨t,⟨ht,_⟩,hE⟩:=XW hx
 have h6:=ht.six
 have hrl:=h6.tab.1
 have hlen:=KD h6
 refine Tot.ev ?_
 unfold Eg
 obtain ⟨r,hr,hrE⟩:=XV (t:=t) (by omega) (λ r hr=>by have:=(h6.tab.2 r hr).2.2.2.2;omega) hl
 have hr4:r.length≤4000:=by have:=hr.1;omega
 refine Tot.bindE XY (Tot.bindE hE (Tot.bindE hrE (Tot.bindE (WT h6 hr4 (X2 ht hr)) ?_)))
 refine Tot.gE (by rfl) hrE (Tot.gE (by rfl) (Yz h6 hr4) (Tot.gE (by rfl) (WO h6 hr4 _) ?_))
 rw [decide_eq_true (rfl:IU t r=IU t r)]
 refine Tot.iteF (by rfl) (Tot.ite (λ _=>Tot.pure rfl) λ h12=>?_)
 have hs4:s.length≤4000:=by
  have:((s.length:Nat):Int)≤12:=by simpa using h12
  omega
 cases hc:s.all F7 with
 | false=>
  have hi:=PT (s:=s) (by omega)
  rw [hc] at hi
  exact Tot.bindE (ZV hs4 hc) (Tot.bindE hi (Tot.iteT rfl (Tot.pure rfl)))
 | true=>
  have hi:=PT (s:=s) (by omega)
  rw [hc] at hi
  refine Tot.bindE (WT h6 hs4 hc) (Tot.bindE hi (Tot.iteF rfl (Tot.gE (by rfl) (Yz h6 hs4) (Tot.gE (by rfl) (WO h6 hs4 _) (Tot.pure ?_)))))
  rw [decide_eq_true (rfl:IU t s=IU t s)]
  rfl
end Go.AI
end
section
namespace Go.AI
theorem Mf {n:Int} (h:okI .u8 n):U8 n:=by
 unfold okI Lit.wf at h
 have:IntKind.u8.min=0∧IntKind.u8.max=255:=by decide
 unfold U8
 simp only [Bool.and_eq_true,decide_eq_true_eq] at h
 omega
theorem Td {r:C8} (h:Kj r):Yu r:=by
 obtain ⟨a,b,c,d,e,f⟩:=h
 exact ⟨λ y hy=>Mf (a y hy),λ y hy=>Mf (b y hy),Mf c,Mf d,Mf e,Mf f⟩
theorem ZW {x:MM} (h:XH x):OY x:=⟨(Mf h.1).1,λ r hr=>Td (h.2.2 r hr)⟩
theorem JiD {l:List Int} (h:∀ a∈l,okI .u8 a):∀ a∈l,U8 a:=λ a ha=>Mf (h a ha)
theorem JiE:∀ x l s,XH x->(∀ a∈l,okI .u8 a)->True->∃ n,Eg n x l s=some true:=λ _ _ s h hl _=>(Jj1 (ZW h) (JiD hl) s).out
end Go.AI
end
section
namespace Go.Proofs.Ytjaogfjfamffnaa
open Go.AI Go.ChangeShapes Go.WideShapes Go.ChangeAt Go.RowKit
theorem own:ownKnob Try.prog.godebug=none:=by kernel_rfl
set_option maxRecDepth 100000 in
theorem JiF (os:Os) (started:os.Started) (H:Type) (enc:TypeId×Value->H) :
  ReturnsInHanded {} Try.checked os 3 .any (Rows.reviseStartsSpec.pre6 enc Try.prog Try.f3 Rows.reviseStartsRow.domain false) (Rows.reviseStartsSpec.post enc Try.prog Try.f3 false true false false):=by
 refine returnsInHanded_of_change (C:=Try.checked) own started (by kernel_rfl) Try.func3
  (ChangeSpec.witness6 (enc:=enc) (C:=Try.checked) false ⟨#[],#[.agg #[.int .u8 0,.int .u8 0,.slice none 0 0],.slice none 0 0,.string ⟨#[]⟩],[]⟩ 8 (by kernel_rfl) (by kernel_rfl) (by kernel_rfl) (by kernel_rfl)) ?_
 intro W base args ds gs before hval0 hW hcnd _
 have hval:∀ (j:Nat) t v,Try.f3.params[j]? = some t->args[j]? = some v->Value.okWide Try.prog W .any base t v:=hval0
 have hW':=hW
 obtain ⟨p,q,hA0,hV,rfl,hfz,hnd⟩:=hW
 have hA:DataW.TrodAll enc Try.prog W 0 (λ _=>true) true Try.f3.params.toList args.toList ds p:=hA0
 have hlt:=hA.lt
 rw [Try.params3] at hA hval
 obtain ⟨v0,vs0,d0,ds0,p0,q0,hargs,rfl,rfl,h0,r0⟩:=trodAll_cons hA
 obtain ⟨v1,vs1,d1,ds1,p1,q1,rfl,rfl,rfl,h1,r1⟩:=trodAll_cons r0
 obtain ⟨v2,vs2,d2,ds2,p2,q2,rfl,rfl,rfl,h2,r2⟩:=trodAll_cons r1
 obtain ⟨rfl,rfl,rfl⟩:=trodAll_nil r2
 obtain rfl:args=#[v0,v1,v2]:=by cases args;simp_all
 obtain ⟨rfl,rfl⟩:=trodVars_none hV
 obtain ⟨cs0,hc0,_⟩:=okWide_struct Try.underlying24 (hval 0 24 v0 rfl rfl)
 obtain ⟨a0,k0,rep0⟩:=Jey hc0 h0 Jkz
 obtain ⟨x1,y1,z1,hc1⟩:=okWide_slice Try.underlying25 (hval 1 25 v1 rfl rfl)
 obtain ⟨a1,k1,rep1⟩:=Yq (y:=λ a=>.sl (List.map eU8 a)) (by rw [hc1];rfl) h1 Jiq (λ _=>rfl)
 obtain ⟨x2,hc2⟩:=okWide_string Try.underlying9 (hval 2 9 v2 rfl rfl)
 obtain ⟨a2,k2,rep2⟩:=Yq (y:=λ a=>.str a) (by rw [hc2];rfl) h2 rd9 (λ _=>rfl)
 clear hA0 hval0
 simp only [List.append_nil] at hW' hlt
 obtain ⟨n,hn⟩:=JiE a0 a1 a2 k0 k1 k2
 refine (JcH (MT hn) (UW rep0 (UW rep1 (UW rep2 Jip)))).mono λ e W' ⟨he,hg,hold⟩=>?_
 subst he
 exact ⟨_,rfl,ZC (pv:=[]) hW' (λ _ _ _=>(trodAll_cons_mk (shut_bool Try.underlying4 _) trodAll_mk0)) (λ sp hsp=>trodAll_cons_mk (JcI (by kernel_rfl) (by kernel_rfl) (of_decide_eq_true (by kernel_rfl)) h0 (λ p hp=>hlt p (by simp [hp])) (λ p hp=>hsp p (by simp [hp])) hold) (trodAll_cons_mk (JcI (by kernel_rfl) (by kernel_rfl) (of_decide_eq_true (by kernel_rfl)) h1 (λ p hp=>hlt p (by simp [hp])) (λ p hp=>hsp p (by simp [hp])) hold) (trodAll_cons_mk (JcI (by kernel_rfl) (by kernel_rfl) (of_decide_eq_true (by kernel_rfl)) h2 (λ p hp=>hlt p (by simp [hp])) (λ p hp=>hsp p (by simp [hp])) hold) trodAll_mk0))) (λ _ _=>rfl) (by simp) (hg _) hold (ok_one (by kernel_rfl) rfl (okWide_bool_mk Try.underlying4 _))⟩
theorem JkA:Rows.reviseStartsRow.holds Try.pinned (OpenSpec.ofChange Rows.reviseStartsSpec):=
 OpenClaim.holds_of_wide 3 Try.f3 rfl rfl rfl rfl rfl rfl rfl ⟨rfl,rfl,rfl,rfl,rfl⟩ rfl rfl rfl rfl rfl (by kernel_rfl) Try.func3 (by kernel_rfl)
  (of_decide_eq_true (by kernel_rfl)) (by unfold Func.isWrapper;first|(rw [if_pos (by decide +kernel)];kernel_rfl)|(rw [if_neg (by decide +kernel)];exact ⟨rfl,rfl⟩))
  (λ os started H enc _=>JiF os started H enc)
theorem reviseStarts_holds:Rows.ReviseStartsSaid:=JkA
end Go.Proofs.Ytjaogfjfamffnaa
end
