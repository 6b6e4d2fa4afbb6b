/- Part 6 of 7 of the proof: lemmas about the model and the program's functions, with no condition beyond those that each states. -/
import Derived.Test.YtjaogfjfamffnaaGreatLE
import Derived.ChangeArms
import Derived.WalkKit
import Derived.ProofKit
import Derived.OpenShut
import Derived.Carry
import Derived.WideKeyArgs
import Derived.ChangeSame
import Derived.KernelRfl
section
namespace Go.AI
def CRd (F:Nat->Option Obj) (l:List D) (cs:List Value):Prop:=l.length=cs.length/\∀ (i:Nat) (y:D) (v:Value),l[i]? = some y->cs[i]? = some v->Bw F y v
def IZ {α:Type} (P:Program) (t:TypeId) (enc:α->List D) (ok:α->Prop):Prop:=
 ∀ (H:Type) (e:TypeId×Value->H) (w:World) (base:Nat) (spare:Nat->Bool) (held:Bool) (fuel:Nat) (cs:List Value) (x:DataW H×List MemPlace),DataW.trod e P w base spare held fuel t cs=some x->∃ a:α,ok a/\CRd (λ b=>w.heap[b]?) (enc a) cs
theorem Vx {F:Nat->Option Obj} {y:D} {v:Value} (h:Bw F y v):CRd F [y] [v]:=by
 refine ⟨rfl,λ i a b ha hb=>?_⟩
 cases i with
 | zero=>simp at ha hb;subst ha;subst hb;exact h
 | succ i=>simp at ha
theorem Jaj {P:Program} {t:TypeId} {k:IntKind} (ht:P.underlying t=some (.int k)):IZ P t (λ n=>[.int k n]) (λ n=>(Lit.int k n).wf=true):=by
 intro H e w base spare held fuel cs x h
 obtain ⟨n,rfl,_,hw⟩:=DataW.trod_int ht h
 exact ⟨n,hw,Vx (.int k n)⟩
theorem Xd {α:Type} {Q:Nat->α->Prop}:∀ n,(∀ i,i<n->∃ a,Q i a)->∃ l:List α,l.length=n/\∀ i a,l[i]? = some a->Q i a:=by
 intro n
 induction n with
 | zero=>intro _;exact ⟨[],rfl,λ i a h=>by simp at h⟩
 | succ n ih=>
  intro h
  obtain ⟨l,hl,hq⟩:=ih λ i hi=>h i (by omega)
  obtain ⟨a,ha⟩:=h n (by omega)
  refine ⟨l++[a],by simp [hl],λ i b hb=>?_⟩
  rcases Nat.lt_or_ge i l.length with hlt|hge
  ·rw [JlH hlt] at hb;exact hq i b hb
  ·rw [JlS hge] at hb
   have:i-l.length=0:=by have:=Ag hb;simp at this;omega
   rw [this] at hb
   simp at hb
   subst hb
   have:i=n:=by omega
   subst this
   exact ha
theorem Xe {α β:Type} {f:α->Option β}:∀ {l:List α} {r:List β},l.mapM f=some r->r.length=l.length/\∀ (i:Nat) (a:α),l[i]? = some a->r[i]? = f a:=by
 intro l
 induction l with
 | nil=>intro r h;simp at h;subst h;exact ⟨rfl,λ i a h=>by simp at h⟩
 | cons a l ih=>
  intro r h
  rw [List.mapM_cons] at h
  simp only [Option.bind_eq_bind,Option.bind_eq_some_iff,Option.pure_def,JlK] at h
  obtain ⟨b,hb,r',hr',rfl⟩:=h
  obtain ⟨h1,h2⟩:=ih hr'
  refine ⟨by simp [h1],λ i x hx=>?_⟩
  cases i with
  | zero=>simp at hx;subst hx;simp [hb]
  | succ i=>simpa using h2 i x (by simpa using hx)
theorem QP {α:Type} {P:Program} {t e:TypeId} {enc:α->List D} {ok:α->Prop} {sz:Nat} (ht:P.underlying t=some (.slice e)) (hsz:P.cellsOf e=sz) (h1:Nat.ble 1 sz=true) (hl:∀ a,(enc a).length=sz) (he:IZ P e enc ok):IZ P t (eL enc) (λ l=>∀ a∈l,ok a):=by
 intro H en w base spare held fuel cs x h
 have h1:=JlP h1
 rcases DataW.trod_slice ht h with ⟨rfl,_⟩|⟨a,len,cap,elems,rest,n,_,rfl,_,_,hcap,_,hel,hget,_,_⟩
 ·exact ⟨[],λ a h=>by simp at h,Vx (.sl0 _ _)⟩
 ·rw [hsz] at hget
  have hex:∀ i,i<len->∃ y:α,ok y/\∃ ci,w.cells? base (a.add (i*sz)) sz=some ci/\CRd (λ b=>w.heap[b]?) (enc y) ci:=λ i hi=>by
   have hg:=hget i hi
   rw [Jlz (show i<elems.length by omega)] at hg
   simp only [Option.bind_eq_some_iff] at hg
   obtain ⟨ci,hc,htr⟩:=hg
   obtain ⟨y,hy,hcr⟩:=he H en w base spare held n ci _ htr
   exact ⟨y,hy,ci,hc,hcr⟩
  obtain ⟨l,hll,hq⟩:=Xd len hex
  refine ⟨l,λ y hy=>?_,Vx ?_⟩
  ·obtain ⟨i,hi⟩:=List.mem_iff_getElem?.1 hy
   exact (hq i y hi).1
  ·rcases Nat.eq_zero_or_pos len with h0|hpos
   ·have:l=[]:=List.length_eq_zero_iff.1 (by omega)
    subst this;subst h0
    exact .sl0 _ _
   ·
    have hcell:∀ i y,l[i]? = some y->∀ j,j<sz->∃ v,w.cell? ((a.add (i*sz)).add j)=some v/\∀ d,(enc y)[j]? = some d->Bw (λ b=>w.heap[b]?) d v:=λ i y hy j hj=>by
     obtain ⟨_,ci,hc,hcr⟩:=hq i y hy
     unfold World.cells? at hc
     split at hc
     ·obtain ⟨g1,g2⟩:=Xe hc
      have:=g2 j j (by simp [hj])
      have hjc:j<ci.length:=by rw [g1];simpa using hj
      rw [Jlz hjc] at this
      exact ⟨ci[j],this.symm,λ d hd=>hcr.2 j d _ hd (Jlz hjc)⟩
     ·cases hc
    have h0:l[0]? = some l[0]:=Jlz (by omega)
    obtain ⟨v0,hv0,_⟩:=hcell 0 _ h0 0 (by omega)
    have ha0:(a.add (0*sz)).add 0=a:=by simp [Addr.add]
    rw [ha0] at hv0
    obtain ⟨b,off,spot⟩:=a
    unfold World.cell? at hv0
    simp only at hv0
    split at hv0
    ·rename_i c ty fr hblk
     cases spot with
     | some s=>simp at hv0
     | none=>
      have hcell':∀ i y,l[i]? = some y->∀ j d,(enc y)[j]? = some d->∃ v,c[off+i*sz+j]? = some v/\Bw (λ b=>w.heap[b]?) d v:=λ i y hy j d hd=>by
       have hj:j<sz:=by rw [← hl y];exact Ag hd
       obtain ⟨v,hv,hr⟩:=hcell i y hy j hj
       rw [Ce,Ce,LL hblk] at hv
       exact ⟨v,hv,hr d hd⟩
      have hlen:(l.map enc).length=len:=by simp [hll]
      have:=Bw.sl (F:=λ b=>w.heap[b]?) (l.map enc) b off cap sz c ty fr (λ i j=>(c[off+i*sz+j]?).getD undef) hblk (λ e he=>by
        simp only [List.mem_map] at he
        obtain ⟨y,_,rfl⟩:=he
        exact hl y) (by omega) (λ i e hi j d hd=>by
        simp only [JlD,JlC] at hi
        obtain ⟨y,hy,rfl⟩:=hi
        obtain ⟨v,hv,_⟩:=hcell' i y hy j d hd
        simp only [hv,Option.getD_some]) (λ i e hi j d hd=>by
        simp only [JlD,JlC] at hi
        obtain ⟨y,hy,rfl⟩:=hi
        obtain ⟨v,hv,hr⟩:=hcell' i y hy j d hd
        simp only [hv,Option.getD_some]
        exact hr)
      rw [hlen] at this
      exact this
    ·cases hv0
theorem Dt {F:Nat->Option Obj} {l m:List D} {cs:List Value} {o n:Nat} (h:CRd F l ((cs.drop o).take n)) (hn:Nat.beq l.length n=true) (h':CRd F m (cs.drop (o+n))):CRd F (l++m) (cs.drop o):=by
 have hn:=JlG hn
 have e:cs.drop o=(cs.drop o).take n++cs.drop (o+n):=by rw [← List.drop_drop,List.take_append_drop]
 rw [e]
 refine ⟨by simp only [List.length_append,h.1,h'.1],λ i y v hy hv=>?_⟩
 rcases Nat.lt_or_ge i l.length with hlt|hge
 ·rw [JlH hlt] at hy
  rw [JlH (by rw [← h.1];exact hlt)] at hv
  exact h.2 i y v hy hv
 ·rw [JlS hge] at hy
  rw [JlS (by rw [← h.1];exact hge),← h.1] at hv
  exact h'.2 _ y v hy hv
theorem Rr {F:Nat->Option Obj} {cs:List Value} {o:Nat} (h:cs.length<=o):CRd F [] (cs.drop o):=by
 rw [List.drop_eq_nil_of_le h];exact ⟨rfl,λ i y v hy=>by simp at hy⟩
theorem Yo {H:Type} {enc:TypeId×Value->H} {P:Program} {w:World} {base:Nat} {spare:Nat->Bool} {held:Bool} {fuel:Nat} {t e:TypeId} {n:Nat} {cs:List Value} {x:DataW H×List MemPlace} (ht:P.underlying t=some (.array n e)) (h:DataW.trod enc P w base spare held fuel t cs=some x) :
  ∃ m,cs.length=P.cellsOf t/\∀ i,i<n->∃ y,DataW.trod enc P w base spare held m e ((cs.drop (i*P.cellsOf e)).take (P.cellsOf e))=some y:=by
 cases fuel with
 | zero=>simp [DataW.trod] at h
 | succ m=>
  unfold DataW.trod at h
  rw [ht] at h
  split at h<;>simp_all
  obtain ⟨xs,hp,_⟩:=h.2
  refine ⟨m,λ i hi=>?_⟩
  obtain ⟨g1,g2⟩:=Xe hp
  have:=g2 i i (by simp [hi])
  have hlt:i<xs.length:=by rw [g1];simpa using hi
  rw [Jlz hlt] at this
  exact ⟨_,_,this.symm⟩
end Go.AI
end
section
namespace Go.AI
open Go.ChangeShapes Go.WideShapes Go.ChangeAt Go.RowKit
variable {P:Program} {H:Type} {en:TypeId×Value->H} {W W':World} {base:Nat} {spare:Nat->Bool} {held:Bool} {t e:TypeId} {v:Value} {d:DataW H} {ps:List MemPlace} {α:Type} {enc:α->List D} {ok:α->Prop}
theorem Za {cs:Array Value} (hv:v=.agg cs) (hd:DataW.Trod en P W base spare held t v d ps) (hr:IZ P t enc ok):∃ a,ok a/\Ah (λ b=>W.heap[b]?) noR (.agg ((enc a).map .d)) v:=by
 subst hv
 obtain ⟨fuel,hf⟩:=hd
 obtain ⟨a,h1,h2,h3⟩:=hr H en W base spare held fuel _ _ hf
 refine ⟨a,h1,.agg _ _ (by simpa [Value.cells] using h2) λ i x u hx hu=>?_⟩
 simp only [JlD,JlC] at hx
 obtain ⟨y,hy,rfl⟩:=hx
 exact .d _ _ (h3 i y u hy (by simpa [Value.cells] using hu))
theorem Jff {y:α->D} (hc:v.cells=#[v]) (hd:DataW.Trod en P W base spare held t v d ps) (hr:IZ P t enc ok) (he:∀ a,enc a=[y a]):∃ a,ok a/\Ah (λ b=>W.heap[b]?) noR (.d (y a)) v:=by
 obtain ⟨fuel,hf⟩:=hd
 obtain ⟨a,h1,h2,h3⟩:=hr H en W base spare held fuel _ _ hf
 refine ⟨a,h1,.d _ _ (h3 0 (y a) v (by rw [he];rfl) (by rw [hc];rfl))⟩
theorem Jjg {F:Nat->Option Obj} {ρ:Nat->Option Loc}:CR F ρ [] []:=⟨rfl,λ i a v h=>by simp at h⟩
theorem Vy {F:Nat->Option Obj} {ρ:Nat->Option Loc} {a:AV} {v:Value} {l:List AV} {vs:List Value} (h:Ah F ρ a v) (h':CR F ρ l vs):CR F ρ (a::l) (v::vs):=by
 refine ⟨by simp [h'.1],λ i x u hx hu=>?_⟩
 cases i with
 | zero=>simp at hx hu;subst hx;subst hu;exact h
 | succ i=>exact h'.2 i x u (by simpa using hx) (by simpa using hu)
theorem fld {w:World} {fuel:Nat} {cs:List Value} {fs:Array Field} {xs:List (DataW H×List MemPlace)} (hg:∀ (i:Nat) (f:Field),fs[i]? = some f->DataW.trod en P w base spare held fuel f.type ((cs.drop f.offset).take (P.cellsOf f.type))=xs[i]?) (hxl:xs.length=fs.size) (i:Nat) {f:Field} (hf:fs[i]? = some f) (u o n:Nat) (hu:f.type=u) (ho:f.offset=o) (hn:P.cellsOf u=n) (hr:IZ P u enc ok) :
  ∃ a,ok a/\CRd (λ b=>w.heap[b]?) (enc a) ((cs.drop o).take n):=by
 have:=hg i f hf
 have hi:i<xs.length:=by rw [hxl];exact Ap hf
 rw [Jlz hi,hu,ho,hn] at this
 exact hr H en w base spare held fuel _ _ this
theorem JkR {w:World} {fuel:Nat} {cs:List Value} {m:Nat} (hg:∀ i,i<m->∃ y,DataW.trod en P w base spare held fuel e ((cs.drop (i*P.cellsOf e)).take (P.cellsOf e))=some y) (i:Nat) (hi:Nat.ble (i+1) m=true) (o n:Nat) (hn:P.cellsOf e=n) (ho:i*n=o) (hr:IZ P e enc ok) :
  ∃ a,ok a/\CRd (λ b=>w.heap[b]?) (enc a) ((cs.drop o).take n):=by
 obtain ⟨y,hy⟩:=hg i (JlP hi)
 rw [hn,ho] at hy
 exact hr H en w base spare held fuel _ _ hy
theorem Jdr {f:FuncId} {args:List AV} {vs:Array Value} (hc:AD P f args (.d (.bool true))) (hcr:CR (λ b=>W.heap[b]?) noR args vs.toList):Calls P f vs W λ e W'=>e=.returned (.bool true)/\(∀ before:List MemPlace,W.keptBut W' (·∈before))/\∀ b,b<W.heap.size->W'.heap[b]? = W.heap[b]? := by
 refine (hc.2 (λ b=>W.heap[b]?) W vs hcr λ b o h=>h).mono λ e W' h=>?_
 obtain ⟨v,F',ρ,rfl,hS,hr,hmu⟩:=h
 have hv:v=.bool true:=by
  have:(BV true 0 (.d (.bool true))).1=.d (.bool true):=rfl
  rw [this] at hr
  exact hr.bool
 subst hv
 have hold:∀ b,b<W.heap.size->W'.heap[b]? = W.heap[b]? := λ b hb=>hS.old b (by omega)
 refine ⟨rfl,λ before=>World.keptBut_mono (λ p hp=>hp.elim) (?_:W.keptBut W' λ _=>False),hold⟩
 refine ⟨hmu.1,hmu.2.1,λ i hi=>?_⟩
 rw [hold i hi]
 cases hh:W.heap[i]? with
 | none=>rfl
 | some o=>cases o<;>first|exact ⟨rfl,rfl,rfl,λ _ _=>rfl⟩|exact .inr ⟨rfl,rfl⟩|rfl
theorem Jak {f:Func} {s:ChangeSpec} {apart fresh handsOn again:Bool} {args:Array Value} {ds gs:List (DataW H)} {before pa pv:List MemPlace}
  (hW:DataW.Whole en P f.params.toList s.vars apart W args.toList ds gs before)
  (hres:∀ (b:Nat) (sp:Nat->Bool) (hd:Bool),DataW.TrodAll en P W' b sp hd f.resultTypes.toList (v.resultList f.resultTypes.size) (s.fn H (ds++gs)).results [])
  (hargs:∀ sp:Nat->Bool,(∀ p∈before,sp p.block=true)->DataW.TrodAll en P W' 0 sp true f.params.toList args.toList (s.fn H (ds++gs)).args pa)
  (hvars:∀ sp:Nat->Bool,(∀ p∈before,sp p.block=true)->DataW.TrodVars en P W' sp s.vars (s.fn H (ds++gs)).vars pv)
  (hps:before=pa++pv) (hk:W.keptBut W' (·∈before)) (hold:∀ b,b<W.heap.size->W'.heap[b]? = W.heap[b]?)
  (hok:∀ (j:Nat) (t:TypeId) (r:Value),f.resultTypes[j]? = some t->(v.resultList f.resultTypes.size)[j]? = some r->Value.okWide P W' .any 0 t r) :
  s.post en P f apart fresh handsOn again W args v W':=by
 have hin:∀ p∈before,(λ b=>decide (b<W.heap.size)) p.block=true:=λ p hp=>by simpa using hW.lt p hp
 have hlt:=hW.lt
 refine ⟨ds,gs,before,[],pa,pv,hW,hres _ _ _,hargs _ hin,hvars _ hin,World.keptBut_mono (λ p hp=>⟨hp,?_⟩) hk,λ _=>?_⟩
 ·rw [hps,List.mem_append] at hp
  exact Or.inr hp
 ·obtain ⟨_,_,_,_,_,hz,hn⟩:=hW
  refine ⟨hok,_,_,([]++pa)++pv,⟨[]++pa,pv,trodAll_append (hargs _ (λ _ _=>rfl)) (hres _ _ _),hvars _ (λ _ _=>rfl),rfl,?_,?_⟩,?_⟩
  ·intro b off hp
   have hp:MemPlace.cell b off∈before:=by rw [hps];simpa using hp
   have:=hz b off hp
   simp only [World.frozen?,hold b (hlt _ hp)] at this ⊢
   exact this
  ·intro ha
   have:=hn ha
   rw [hps] at this
   simpa using this
  ·intro p hp _
   rw [hps]
   simpa using hp
theorem Jds (hl:laidOutB P=true) (hr:P.readableRec t=true) (hrow:t<P.types.size) (h:DataW.Trod en P W 0 (λ _=>true) true t v d ps) (hb:∀ p∈ps,p.block<W.heap.size) {sp:Nat->Bool} (hs:∀ p∈ps,sp p.block=true) (hold:∀ b,b<W.heap.size->W'.heap[b]? = W.heap[b]?):DataW.Trod en P W' 0 sp true t v d ps:=by
 refine WideElems.Trod_stays hl hr hrow h (λ p hp=>?_) hs
 have:=hb p hp
 cases p with
 | cell b o=>exact World.cell?_of_block (w:=W) (hold b this)
 | map b=>exact hold b this
end Go.AI
end
section
namespace Go.AI
open Go.Proofs Go.ChangeShapes Go.WideShapes Go.ChangeAt Go.RowKit
def okI (k:IntKind) (n:Int):Prop:=(Lit.int k n).wf=true
theorem rd5:IZ Tryz.prog 5 eU8 (okI .u8):=Jaj Tryz.underlying5
theorem Jfg:IZ Tryz.prog 25 (eL eU8) (λ l=>∀ a∈l,okI .u8 a):=QP (sz:=1) Tryz.underlying25 (by kernel_rfl) rfl (λ _=>rfl) rd5
theorem Jlt:IZ Tryz.prog 69 (Jks eU8) (λ x=>okI .u8 x.a0/\okI .u8 x.a1):=by
 intro H e w base spare held fuel cs x h
 obtain ⟨m,hcl,hg⟩:=Yo Tryz.underlying69 h
 have hcl:cs.length=2:=hcl.trans (by kernel_rfl)
 obtain ⟨a0,k0,c0⟩:=JkR hg 0 rfl 0 1 (by kernel_rfl) rfl rd5
 obtain ⟨a1,k1,c1⟩:=JkR hg 1 rfl 1 1 (by kernel_rfl) rfl rd5
 refine ⟨⟨a0,a1⟩,⟨k0,k1⟩,?_⟩
 have:=Dt c0 rfl (Dt c1 rfl (Rr (Nat.le_of_eq hcl)))
 exact this
def KE (x:Dq):Prop:=(∀ a∈x.P,okI .u8 a)/\(∀ a∈x.C,okI .u8 a)/\okI .u8 x.L/\okI .u8 x.R/\(okI .u8 x.W.a0/\okI .u8 x.W.a1)
theorem Jlu:IZ Tryz.prog 71 FG KE:=by
 intro H e w base spare held fuel cs x h
 obtain ⟨xs,n,_,_,hcl,hxl,hg⟩:=DataW.trod_struct Tryz.underlying71 h
 have hcl:cs.length=6:=hcl.trans (by kernel_rfl)
 obtain ⟨a0,k0,c0⟩:=fld hg hxl 0 rfl 25 0 1 rfl rfl (by kernel_rfl) Jfg
 obtain ⟨a1,k1,c1⟩:=fld hg hxl 1 rfl 25 1 1 rfl rfl (by kernel_rfl) Jfg
 obtain ⟨a2,k2,c2⟩:=fld hg hxl 2 rfl 5 2 1 rfl rfl (by kernel_rfl) rd5
 obtain ⟨a3,k3,c3⟩:=fld hg hxl 3 rfl 5 3 1 rfl rfl (by kernel_rfl) rd5
 obtain ⟨a4,k4,c4⟩:=fld hg hxl 4 rfl 69 4 2 rfl rfl (by kernel_rfl) Jlt
 refine ⟨⟨a0,a1,a2,a3,a4⟩,⟨k0,k1,k2,k3,k4⟩,?_⟩
 have:=Dt c0 rfl (Dt c1 rfl (Dt c2 rfl (Dt c3 rfl (Dt c4 rfl (Rr (Nat.le_of_eq hcl))))))
 exact this
theorem Jlv:IZ Tryz.prog 22 (eL FG) (λ l=>∀ a∈l,KE a):=QP (sz:=6) Tryz.underlying22 (by kernel_rfl) rfl (λ _=>rfl) Jlu
def Yp (x:Nf):Prop:=okI .u8 x.Base/\okI .u8 x.Drop/\(∀ a∈x.More,KE a)
theorem Jlw:IZ Tryz.prog 24 Jkt Yp:=by
 intro H e w base spare held fuel cs x h
 obtain ⟨xs,n,_,_,hcl,hxl,hg⟩:=DataW.trod_struct Tryz.underlying24 h
 have hcl:cs.length=3:=hcl.trans (by kernel_rfl)
 obtain ⟨a0,k0,c0⟩:=fld hg hxl 0 rfl 5 0 1 rfl rfl (by kernel_rfl) rd5
 obtain ⟨a1,k1,c1⟩:=fld hg hxl 1 rfl 5 1 1 rfl rfl (by kernel_rfl) rd5
 obtain ⟨a2,k2,c2⟩:=fld hg hxl 2 rfl 22 2 1 rfl rfl (by kernel_rfl) Jlv
 refine ⟨⟨a0,a1,a2⟩,⟨k0,k1,k2⟩,?_⟩
 have:=Dt c0 rfl (Dt c1 rfl (Dt c2 rfl (Rr (Nat.le_of_eq hcl))))
 exact this
def FZ (x:Bz):Prop:=okI .u8 x.At/\okI .u8 x.Cut/\(∀ a∈x.L,okI .u8 a)
theorem Jlx:IZ Tryz.prog 27 PV FZ:=by
 intro H e w base spare held fuel cs x h
 obtain ⟨xs,n,_,_,hcl,hxl,hg⟩:=DataW.trod_struct Tryz.underlying27 h
 have hcl:cs.length=3:=hcl.trans (by kernel_rfl)
 obtain ⟨a0,k0,c0⟩:=fld hg hxl 0 rfl 5 0 1 rfl rfl (by kernel_rfl) rd5
 obtain ⟨a1,k1,c1⟩:=fld hg hxl 1 rfl 5 1 1 rfl rfl (by kernel_rfl) rd5
 obtain ⟨a2,k2,c2⟩:=fld hg hxl 2 rfl 25 2 1 rfl rfl (by kernel_rfl) Jfg
 refine ⟨⟨a0,a1,a2⟩,⟨k0,k1,k2⟩,?_⟩
 have:=Dt c0 rfl (Dt c1 rfl (Dt c2 rfl (Rr (Nat.le_of_eq hcl))))
 exact this
end Go.AI
end
section
namespace Go.AI
def Le {α:Type} (a b:Option α):Prop:=∀ z,a=some z->b=some z
theorem Le.refl {α:Type} (a:Option α):Le a a:=λ _ h=>h
theorem Le.bind {α β:Type} {a a':Option α} {f f':α->Option β} (h:Le a a') (hf:∀ x,Le (f x) (f' x)):Le (a.bind f) (a'.bind f'):=by
 intro z hz
 obtain ⟨x,h1,h2⟩:=bind_some hz
 rw [h x h1]
 exact hf x z h2
theorem Le.ite {α:Type} {c:Prop} [Decidable c] {a a' b b':Option α} (h:Le a a') (h':Le b b'):Le (if c then a else b) (if c then a' else b'):=by
 split
 ·exact h
 ·exact h'
theorem Le.whl {σ ρ:Type} {body body':σ->Option (σ⊕ρ)} (hb:∀ x,Le (body x) (body' x)):∀ {n m:Nat},n<=m->∀ x,Le (whl body n x) (whl body' m x):=by
 intro n
 induction n with
 | zero=>intro m _ x z hz;cases hz
 | succ n ih=>
  intro m hm x z hz
  cases m with
  | zero=>omega
  | succ m=>
   simp only [Go.AI.whl] at hz ⊢
   cases hx:body x with
   | none=>rw [hx] at hz;cases hz
   | some y=>
    rw [hb x y hx]
    rw [hx] at hz
    cases y with
    | inl y=>exact ih (by omega) y z hz
    | inr r=>exact hz
theorem Le.sum {α β γ:Type} {y:α⊕β} {f f':α->Option γ} {g g':β->Option γ} (hf:∀ a,Le (f a) (f' a)) (hg:∀ b,Le (g b) (g' b)):Le (match y with | .inl a=>f a | .inr b=>g b) (match y with | .inl a=>f' a | .inr b=>g' b):=by
 cases y with
 | inl a=>exact hf a
 | inr b=>exact hg b
def Ev {α:Type} (f:Nat->Option α) (z:α):Prop:=∃ n,∀ m,n<=m->f m=some z
theorem Ev.const {α:Type} {z:α}:Ev (λ _=>some z) z:=⟨0,λ _ _=>rfl⟩
theorem Ev.of {α:Type} {f:Nat->Option α} {z:α} (hm:∀ n m,n<=m->Le (f n) (f m)) {n:Nat} (h:f n=some z):Ev f z:=⟨n,λ m hnm=>hm n m hnm z h⟩
theorem Ev.all {α:Type} {f:Nat->Option α} {z:α} (h:∀ n,f n=some z):Ev f z:=⟨0,λ m _=>h m⟩
theorem Ev.bind {α β:Type} {f:Nat->Option α} {g:Nat->α->Option β} {x:α} {z:β} (h:Ev f x) (hg:Ev (λ n=>g n x) z):Ev (λ n=>(f n).bind (g n)) z:=by
 obtain ⟨n,hn⟩:=h
 obtain ⟨m,hm⟩:=hg
 refine ⟨max n m,λ k hk=>?_⟩
 show (f k).bind (g k)=_
 rw [hn k (by omega)]
 exact hm k (by omega)
theorem Ev.out {α:Type} {f:Nat->Option α} {z:α} (h:Ev f z):∃ n,f n=some z:=by
 obtain ⟨n,hn⟩:=h
 exact ⟨n,hn n (Nat.le_refl n)⟩
theorem Ev.congr {α:Type} {f g:Nat->Option α} {z:α} (h:Ev f z) (e:∀ n,g n=f n):Ev g z:=by
 obtain ⟨n,hn⟩:=h
 exact ⟨n,λ m hm=>by rw [e m];exact hn m hm⟩
theorem Ev.whl {σ ρ:Type} {body:Nat->σ->Option (σ⊕ρ)} {r:ρ} (I:Nat->σ->Prop) (h:∀ k x,I k x->(∃ y j,j<k/\I j y/\Ev (λ n=>body n x) (.inl y))\/Ev (λ n=>body n x) (.inr r)):∀ (k:Nat) (x:σ),I k x->Ev (λ n=>Go.AI.whl (body n) n x) r:=by
 have key:∀ (k:Nat) (x:σ),I k x->∃ N c,∀ n fuel,N<=n->c<=fuel->Go.AI.whl (body n) fuel x=some r:=by
  intro k
  induction k using Nat.strongRecOn with
  | _ k ih=>
   intro x hx
   rcases h k x hx with ⟨y,j,hj,hy,N1,h1⟩|⟨N1,h1⟩
   ·obtain ⟨N2,c,h2⟩:=ih j hj y hy
    refine ⟨max N1 N2,c+1,λ n fuel hn hf=>?_⟩
    cases fuel with
    | zero=>omega
    | succ fuel=>
     have e:=h1 n (by omega)
     simp only at e
     simp only [Go.AI.whl,e]
     exact h2 n fuel (by omega) (by omega)
   ·refine ⟨N1,1,λ n fuel hn hf=>?_⟩
    cases fuel with
    | zero=>omega
    | succ fuel=>
     have e:=h1 n hn
     simp only at e
     simp only [Go.AI.whl,e]
 intro k x hx
 obtain ⟨N,c,hh⟩:=key k x hx
 exact ⟨max N c,λ m hm=>hh m m (by omega) (by omega)⟩
end Go.AI
end
section
namespace Go.AI
theorem lr {α:Type} {x:Option α}:Le x x:=Le.refl x
theorem Qc {n m} (_:n<=m) (a b):Le (GN n a b) (GN m a b):=.ite (.bind lr λ _=>.bind lr λ _=>.bind lr λ _=>lr) lr
theorem TO {n m} (h:n<=m):Le (Kj n) (Kj m):=.bind (Le.whl (λ _=>Qc h _ _) h _) λ _=>lr
theorem Oh {n m} (_:n<=m) (a):Le (DM n a) (DM m a):=lr
theorem S1 {n m} (h:n<=m) (a b):Le (Fv n a b) (Fv m a b):=.ite (.bind lr λ _=>.bind (Oh h _) λ _=>.ite lr lr) lr
theorem I0 {n m} (h:n<=m) (a):Le (FS n a) (FS m a):=.bind (Le.whl (λ _=>S1 h _ _) h _) λ y2=>by rcases y2 with _|_;exact lr;exact lr
theorem Vz {n m} (_:n<=m):Le (JF n) (JF m):=lr
theorem KF {n m} (_:n<=m) (a b):Le (Hy n a b) (Hy m a b):=.bind (Le.ite (lr) (lr)) λ _=>lr
theorem HJ {n m} (_:n<=m) (a):Le (Es n a) (Es m a):=.ite lr (.ite lr (.ite lr (.ite lr lr)))
theorem Mw {n m} (h:n<=m) (a b c):Le (G1 n a b c) (G1 m a b c):=.ite lr (.bind lr λ _=>.bind (Le.ite (KF h _ _) (lr)) λ _=>.ite lr (.ite (.ite lr lr) (.bind lr λ _=>.bind (HJ h _) λ _=>.bind (KF h _ _) λ _=>.ite lr (.bind lr λ _=>.bind (HJ h _) λ _=>lr))))
theorem I1 {n m} (_:n<=m) (a b c d):Le (Cj n a b c d) (Cj m a b c d):=lr
theorem I2 {n m} (h:n<=m) (a b c d e f):Le (CM n a b c d e f) (CM m a b c d e f):=.bind lr λ _=>.bind lr λ _=>I1 h _ _ _ _
theorem Pm {n m} (h:n<=m) (a b c d e f):Le (Bx n a b c d e f) (Bx m a b c d e f):=.ite (.bind lr λ _=>.bind (Mw h _ _ _) λ _=>.ite (I1 h _ _ _ _) (.ite (.bind lr λ _=>.bind lr λ _=>I2 h _ _ _ _ _ _) (I2 h _ _ _ _ _ _))) lr
theorem Pn {n m} (h:n<=m) (a b c d e):Le (Ck n a b c d e) (Ck m a b c d e):=.ite (.bind (Le.whl (λ _=>Pm h _ _ _ _ _ _) h _) λ _=>lr) lr
theorem S2 {n m} (h:n<=m) (a):Le (Fw n a) (Fw m a):=.bind (Vz h) λ _=>.bind (Le.whl (λ _=>Pn h _ _ _ _ _) h _) λ _=>lr
theorem NO {n m} (h:n<=m) (a):Le (GC n a) (GC m a):=.bind (S2 h _) λ _=>lr
theorem Mx {n m} (h:n<=m) (a b):Le (Ed n a b) (Ed m a b):=.bind (Le.ite (KF h _ _) (lr)) λ _=>.bind (Le.ite (KF h _ _) (lr)) λ _=>lr
theorem Qd {n m} (_:n<=m) (a b):Le (EP n a b) (EP m a b):=.bind (Le.ite (lr) (lr)) λ _=>lr
theorem JU {n m} (h:n<=m) (a b):Le (DU n a b) (DU m a b):=.bind (Qd h _ _) λ _=>lr
theorem Oi {n m} (_:n<=m) (a b c d):Le (B1 n a b c d) (B1 m a b c d):=.ite (.bind lr λ _=>lr) lr
theorem H9 {n m} (_:n<=m) (a b):Le (Cp n a b) (Cp m a b):=lr
theorem Oj {n m} (h:n<=m) (a b c d e f g):Le (B2 n a b c d e f g) (B2 m a b c d e f g):=.ite (.bind lr λ _=>.bind (Mw h _ _ _) λ _=>.ite (.bind lr λ _=>.bind lr λ _=>H9 h _ _) (H9 h _ _)) lr
theorem Ok {n m} (h:n<=m) (a b c d e):Le (Cq n a b c d e) (Cq m a b c d e):=.ite (.bind lr λ _=>.bind (Mx h _ _) λ _=>.bind lr λ _=>.bind lr λ _=>.bind (Le.whl (λ _=>Oj h _ _ _ _ _ _ _) h _) λ _=>lr) lr
theorem Ls {n m} (h:n<=m) (a):Le (DD n a) (DD m a):=.bind (NO h _) λ _=>.bind (Le.whl (λ _=>Oi h _ _ _ _) h _) λ _=>.bind lr λ _=>.bind lr λ _=>.bind (Le.whl (λ _=>Ok h _ _ _ _ _) h _) λ _=>lr
theorem KG {n m} (_:n<=m) (a b c d e f):Le (BH n a b c d e f) (BH m a b c d e f):=.ite (.bind lr λ _=>.bind lr λ _=>.bind lr λ _=>lr) lr
theorem Hr {n m} (h:n<=m) (a b):Le (B8 n a b) (B8 m a b):=.bind lr λ _=>.bind lr λ _=>.bind lr λ _=>.bind (Le.whl (λ _=>KG h _ _ _ _ _ _) h _) λ _=>lr
theorem He {n m} (_:n<=m) (a b c d e):Le (C4 n a b c d e) (C4 m a b c d e):=lr
theorem S3 {n m} (_:n<=m) (a b c d e f):Le (Fx n a b c d e f) (Fx m a b c d e f):=.bind lr λ _=>.bind lr λ _=>.ite lr (.bind lr λ _=>.bind lr λ _=>.bind lr λ _=>lr)
theorem E4 {n m} (_:n<=m) (a b c d e):Le (Bs n a b c d e) (Bs m a b c d e):=.bind (Le.ite (lr) (lr)) λ _=>.bind (Le.ite (lr) (lr)) λ _=>.ite lr (.bind lr λ _=>.bind lr λ _=>lr)
theorem JV {n m} (_:n<=m) (a b):Le (C7 n a b) (C7 m a b):=lr
theorem Qe {n m} (h:n<=m) (a b c d):Le (CE n a b c d) (CE m a b c d):=.ite (.bind lr λ _=>.ite (JV h _ _) (JV h _ _)) lr
theorem JW {n m} (_:n<=m) (a b):Le (C8 n a b) (C8 m a b):=lr
theorem Qf {n m} (h:n<=m) (a b c d):Le (CF n a b c d) (CF m a b c d):=.ite (.bind lr λ _=>.ite (.bind lr λ _=>.bind lr λ _=>JW h _ _) (JW h _ _)) lr
theorem TP {n m} (h:n<=m) (a b):Le (HY n a b) (HY m a b):=.bind (Le.whl (λ _=>Qe h _ _ _ _) h _) λ _=>.bind (Le.whl (λ _=>Qf h _ _ _ _) h _) λ _=>lr
theorem EG {n m} (_:n<=m) (a b):Le (Bo n a b) (Bo m a b):=lr
theorem Ip {n m} (h:n<=m) (a b c d e f g i):Le (Ba n a b c d e f g i) (Ba m a b c d e f g i):=.ite (.bind lr λ _=>.bind lr λ _=>.bind (Le.ite (lr) (lr)) λ _=>.ite (.bind lr λ _=>.bind lr λ _=>EG h _ _) (EG h _ _)) lr
theorem EH {n m} (_:n<=m) (a b):Le (Bp n a b) (Bp m a b):=lr
theorem Iq {n m} (h:n<=m) (a b c d e f g i j k):Le (Bb n a b c d e f g i j k) (Bb m a b c d e f g i j k):=.ite (.bind lr λ _=>.bind (Le.ite (lr) (lr)) λ _=>.bind (Le.ite (JU h _ _) (lr)) λ _=>.ite (.bind (S3 h _ _ _ _ _ _) λ _=>.bind (E4 h _ _ _ _ _) λ _=>EH h _ _) (EH h _ _)) lr
theorem Ir {n m} (h:n<=m) (a b c d e f g i):Le (Bc n a b c d e f g i) (Bc m a b c d e f g i):=.ite (.bind lr λ _=>.bind (Le.whl (λ _=>Iq h _ _ _ _ _ _ _ _ _ _) h _) λ _=>lr) lr
theorem B7 {n m} (_:n<=m) (a b c):Le (A6 n a b c) (A6 m a b c):=lr
theorem Is {n m} (h:n<=m) (a b c d e f g i j k):Le (Bd n a b c d e f g i j k) (Bd m a b c d e f g i j k):=.ite (.bind lr λ _=>.bind (Le.ite (lr) (lr)) λ _=>.ite (.bind (E4 h _ _ _ _ _) λ _=>.ite (B7 h _ _ _) (B7 h _ _ _)) (.ite (B7 h _ _ _) (B7 h _ _ _))) lr
theorem Iu {n m} (h:n<=m) (a b c d e f g i):Le (Be n a b c d e f g i) (Be m a b c d e f g i):=.ite (.bind lr λ _=>.bind (Le.whl (λ _=>Is h _ _ _ _ _ _ _ _ _ _) h _) λ _=>lr) lr
theorem Iv {n m} (h:n<=m) (a b c d e f g):Le (Bq n a b c d e f g) (Bq m a b c d e f g):=.ite (.bind (Le.whl (λ _=>Iu h _ _ _ _ _ _ _ _) h _) λ _=>lr) lr
theorem F3 {n m} (h:n<=m) (a b c d e f):Le (BI n a b c d e f) (BI m a b c d e f):=.bind lr λ _=>.bind (Le.whl (λ _=>Ip h _ _ _ _ _ _ _ _) h _) λ _=>.bind (Le.whl (λ _=>Ir h _ _ _ _ _ _ _ _) h _) λ _=>.bind (Le.whl (λ _=>Iv h _ _ _ _ _ _ _) h _) λ _=>.bind (TP h _ _) λ _=>lr
theorem Rb {n m} (h:n<=m) (a b c d e f):Le (Hz n a b c d e f) (Hz m a b c d e f):=.ite (.bind (F3 h _ _ _ _ _ _) λ _=>.bind lr λ _=>.bind lr λ _=>lr) lr
theorem KH {n m} (h:n<=m) (a b):Le (HP n a b) (HP m a b):=.bind (I0 h _) λ _=>.ite lr (.bind (Ls h _) λ _=>.bind (Hr h _ _) λ _=>.bind (He h _ _ _ _ _) λ _=>.bind (Le.whl (λ _=>Rb h _ _ _ _ _ _) h _) λ _=>.bind lr λ _=>lr)
theorem My {n m} (_:n<=m) (a b c):Le (BY n a b c) (BY m a b c):=.ite (.bind lr λ _=>.ite lr lr) lr
theorem Po {n m} (h:n<=m) (a b):Le (Dr n a b) (Dr m a b):=.ite lr (.bind (Le.whl (λ _=>My h _ _ _) h _) λ y30=>by rcases y30 with _|_;exact lr;exact lr)
theorem Jo {n m} (_:n<=m) (a b c d):Le (Bt n a b c d) (Bt m a b c d):=.ite (.bind lr λ _=>.bind lr λ _=>.ite lr lr) lr
theorem LF {n m} (h:n<=m) (a b c):Le (B9 n a b c) (B9 m a b c):=.ite lr (.bind (Le.whl (λ _=>Jo h _ _ _ _) h _) λ y33=>by rcases y33 with _|_;exact lr;exact lr)
theorem Ia {n m} (_:n<=m) (a b c):Le (Cr n a b c) (Cr m a b c):=lr
theorem Ol {n m} (h:n<=m) (a b c d e f g i j):Le (Cs n a b c d e f g i j) (Cs m a b c d e f g i j):=.ite (.bind lr λ _=>.bind lr λ _=>.bind (LF h _ _ _) λ _=>.ite lr (.bind lr λ _=>.bind (Le.ite (lr) (lr)) λ _=>.ite (Ia h _ _ _) (.bind lr λ _=>.bind lr λ _=>.ite lr (Ia h _ _ _)))) lr
theorem Rc {n m} (h:n<=m) (a b c d e f):Le (Et n a b c d e f) (Et m a b c d e f):=.bind (Le.whl (λ _=>Ol h _ _ _ _ _ _ _ _ _) h _) λ y36=>by rcases y36 with _|_;exact lr;exact lr
theorem Qg {n m} (_:n<=m) (a b c d e f g i):Le (CG n a b c d e f g i) (CG m a b c d e f g i):=.ite (.bind lr λ _=>.bind lr λ _=>.bind lr λ _=>.bind lr λ _=>.bind lr λ _=>.bind lr λ _=>lr) lr
theorem JX {n m} (_:n<=m) (a b c d):Le (C9 n a b c d) (C9 m a b c d):=lr
theorem Qh {n m} (h:n<=m) (a b c d e f g i j):Le (Da n a b c d e f g i j) (Da m a b c d e f g i j):=.ite (.bind (F3 h _ _ _ _ _ _) λ _=>.bind lr λ _=>.bind lr λ _=>.ite (JX h _ _ _ _) (.bind (Rc h _ _ _ _ _ _) λ _=>.ite lr (JX h _ _ _ _))) lr
theorem JY {n m} (_:n<=m) (a b c):Le (Db n a b c) (Db m a b c):=lr
theorem Qi {n m} (h:n<=m) (a b c d e f g):Le (CH n a b c d e f g) (CH m a b c d e f g):=.ite (.bind lr λ _=>.bind lr λ _=>.bind lr λ _=>.bind lr λ _=>.bind lr λ _=>.bind lr λ _=>.bind lr λ _=>.ite (.bind lr λ _=>.bind lr λ _=>.bind lr λ _=>JY h _ _ _) (JY h _ _ _)) lr
theorem Jp {n m} (h:n<=m) (a b c):Le (DE n a b c) (DE m a b c):=.ite lr (.bind lr λ _=>.bind lr λ _=>.bind lr λ _=>.bind lr λ _=>.bind (I0 h _) λ _=>.ite lr (.bind (Ls h _) λ _=>.bind (Po h _ _) λ _=>.ite lr (.bind (Hr h _ _) λ _=>.bind (Le.whl (λ _=>Qg h _ _ _ _ _ _ _ _) h _) λ _=>.bind (He h _ _ _ _ _) λ _=>.bind (Le.whl (λ _=>Qh h _ _ _ _ _ _ _ _ _) h _) λ _=>.bind (Le.whl (λ _=>Qi h _ _ _ _ _ _ _) h _) λ _=>.bind lr λ _=>lr)))
theorem Om {n m} (h:n<=m) (a b):Le (Fb n a b) (Fb m a b):=.ite (.bind lr λ _=>.bind (HJ h _) λ _=>.ite lr lr) lr
theorem Re {n m} (h:n<=m) (a):Le (HA n a) (HA m a):=.bind (Le.whl (λ _=>Om h _ _) h _) λ y42=>by rcases y42 with _|_;exact lr;exact lr
theorem VA {n m} (_:n<=m) (a):Le (MM n a) (MM m a):=lr
theorem Rf {n m} (h:n<=m) (a b):Le (HB n a b) (HB m a b):=.ite (.bind lr λ _=>.bind (VA h _) λ _=>.ite lr lr) lr
theorem VB {n m} (h:n<=m) (a b):Le (MN n a b) (MN m a b):=.ite lr (.bind (I0 h _) λ _=>.ite lr (.ite lr (.ite lr (.bind (Re h _) λ _=>.ite (.bind (Le.ite (lr) (lr)) λ _=>lr) (.bind (Le.whl (λ _=>Rf h _ _) h _) λ y45=>by rcases y45 with _|_;exact lr;exact lr)))))
theorem Rg {n m} (_:n<=m) (a b c):Le (HC n a b c) (HC m a b c):=.ite (.bind lr λ _=>.bind lr λ _=>.ite lr lr) lr
theorem VC {n m} (h:n<=m) (a b):Le (MO n a b) (MO m a b):=.ite lr (.bind (Le.whl (λ _=>Rg h _ _ _) h _) λ y48=>by rcases y48 with _|_;exact lr;exact lr)
theorem VD {n m} (h:n<=m) (a b):Le (MP n a b) (MP m a b):=.bind (Le.ite (VC h _ _) (lr)) λ _=>lr
theorem Rh {n m} (h:n<=m) (a b c d e):Le (HD n a b c d e) (HD m a b c d e):=.ite (.bind lr λ _=>.bind (VD h _ _) λ _=>.ite lr lr) lr
theorem Ri {n m} (h:n<=m) (a b):Le (HE n a b) (HE m a b):=.ite (.bind lr λ _=>.bind (VB h _ _) λ _=>.ite lr (.bind lr λ _=>.bind (Le.whl (λ _=>Rh h _ _ _ _ _) h _) λ y51=>by rcases y51 with _|_;exact lr;exact lr)) lr
theorem VE {n m} (h:n<=m) (a):Le (MQ n a) (MQ m a):=.ite lr (.bind (Le.ite (lr) (lr)) λ _=>.ite lr (.ite lr (.bind (Le.whl (λ _=>Ri h _ _) h _) λ y54=>by rcases y54 with _|_;exact lr;exact lr)))
theorem VF {n m} (h:n<=m) (a):Le (MR n a) (MR m a):=.bind (VE h _) λ _=>lr
theorem I3 {n m} (_:n<=m) (a):Le (Ee n a) (Ee m a):=lr
theorem Qj {n m} (h:n<=m) (a b):Le (GO n a b) (GO m a b):=.bind (I3 h _) λ _=>.bind (Le.ite (I3 h _) (lr)) λ _=>lr
theorem JZ {n m} (_:n<=m) (a):Le (EQ n a) (EQ m a):=lr
theorem GG {n m} (h:n<=m) (a b c d):Le (BT n a b c d) (BT m a b c d):=.ite (.bind lr λ _=>.bind (Qj h _ _) λ _=>.ite lr lr) lr
theorem HK {n m} (h:n<=m) (a b):Le (Cd n a b) (Cd m a b):=.bind (Le.whl (λ _=>GG h _ _ _ _) h _) λ _=>.bind (Le.ite (lr) (lr)) λ _=>.bind (Le.ite (lr) (lr)) λ _=>.bind (Le.ite (JZ h _) (lr)) λ _=>.bind (Le.ite (JZ h _) (lr)) λ _=>lr
theorem Fk {n m} (h:n<=m) (a b):Le (CW n a b) (CW m a b):=.bind (HK h _ _) λ _=>.ite lr (.bind lr λ _=>lr)
theorem Nm {n m} (_:n<=m) (a b c d e f):Le (Eu n a b c d e f) (Eu m a b c d e f):=.ite (.bind lr λ _=>lr) lr
theorem Hs {n m} (_:n<=m) (a b):Le (Ds n a b) (Ds m a b):=lr
theorem Nn {n m} (h:n<=m) (a b c d e f g):Le (Ew n a b c d e f g) (Ew m a b c d e f g):=.ite (.bind (Mw h _ _ _) λ _=>.ite (.bind lr λ _=>.bind lr λ _=>Hs h _ _) (Hs h _ _)) lr
theorem No {n m} (h:n<=m) (a b c d e):Le (Ey n a b c d e) (Ey m a b c d e):=.ite (.bind lr λ _=>.bind (Le.whl (λ _=>Nn h _ _ _ _ _ _ _) h _) λ _=>lr) lr
theorem Qk {n m} (h:n<=m) (a b):Le (GP n a b) (GP m a b):=.bind (NO h _) λ _=>.bind lr λ _=>.bind (Le.whl (λ _=>Nm h _ _ _ _ _ _) h _) λ _=>.bind lr λ _=>.bind (Le.whl (λ _=>No h _ _ _ _ _) h _) λ _=>lr
theorem Gp {n m} (_:n<=m) (a b c d):Le (CN n a b c d) (CN m a b c d):=.bind lr λ _=>.bind lr λ _=>.bind lr λ _=>.ite (.bind lr λ _=>.bind lr λ _=>.bind lr λ _=>.bind lr λ _=>lr) lr
theorem D2 {n m} (h:n<=m) (a b c):Le (Ca n a b c) (Ca m a b c):=.bind lr λ _=>.bind lr λ _=>.bind (JU h _ _) λ _=>lr
theorem Jdt {n m} (_:n<=m) (a):Le (Y9 n a) (Y9 m a):=lr
theorem KI {n m} (_:n<=m) (a b c):Le (Df n a b c) (Df m a b c):=.ite (.bind lr λ _=>.bind lr λ _=>.bind lr λ _=>lr) lr
theorem F4 {n m} (_:n<=m) (a b c):Le (Cv n a b c) (Cv m a b c):=lr
theorem KJ {n m} (h:n<=m) (a b c d e f g i):Le (Dg n a b c d e f g i) (Dg m a b c d e f g i):=.ite (.bind lr λ _=>.bind (D2 h _ _ _) λ _=>.ite (.bind (Gp h _ _ _ _) λ _=>F4 h _ _ _) (F4 h _ _ _)) lr
theorem F5 {n m} (h:n<=m) (a b c d e f g):Le (Cw n a b c d e f g) (Cw m a b c d e f g):=.bind lr λ _=>.bind (Le.whl (λ _=>KJ h _ _ _ _ _ _ _ _) h _) λ _=>lr
theorem KK {n m} (h:n<=m) (a b c d e f):Le (Dh n a b c d e f) (Dh m a b c d e f):=.bind lr λ _=>.ite (.bind lr λ _=>.bind lr λ _=>.bind lr λ _=>.bind lr λ _=>.ite (F5 h _ _ _ _ _ _ _) (F5 h _ _ _ _ _ _ _)) lr
theorem F6 {n m} (h:n<=m) (a b c d e):Le (Cy n a b c d e) (Cy m a b c d e):=.bind (Le.whl (λ _=>KK h _ _ _ _ _ _) h _) λ _=>.bind lr λ _=>.bind (Jdt h _) λ _=>.bind lr λ _=>.bind lr λ _=>.bind lr λ _=>lr
theorem KL {n m} (h:n<=m) (a b c d):Le (Di n a b c d) (Di m a b c d):=.ite (.ite (.bind lr λ _=>.bind (HJ h _) λ _=>F6 h _ _ _ _ _) (F6 h _ _ _ _ _)) lr
theorem Np {n m} (h:n<=m) (a):Le (Ez n a) (Ez m a):=.bind (Le.whl (λ _=>KI h _ _ _) h _) λ _=>.bind (Gp h _ _ _ _) λ _=>.bind (Le.whl (λ _=>KL h _ _ _ _) h _) λ _=>lr
theorem Dd {n m} (_:n<=m) (a b c):Le (BK n a b c) (BK m a b c):=lr
theorem Jq {n m} (h:n<=m) (a b c d e f g i):Le (CQ n a b c d e f g i) (CQ m a b c d e f g i):=.ite (.bind lr λ _=>.bind (D2 h _ _ _) λ _=>.ite (Dd h _ _ _) (.bind lr λ _=>.bind (Fk h _ _) λ _=>.bind lr λ _=>.bind lr λ _=>.bind (Le.ite (lr) (lr)) λ _=>.bind (Le.ite (lr) (lr)) λ _=>.ite (.bind lr λ _=>.bind lr λ _=>.bind lr λ _=>Dd h _ _ _) (Dd h _ _ _))) lr
theorem Gq {n m} (h:n<=m) (a b c d e):Le (CO n a b c d e) (CO m a b c d e):=.bind lr λ _=>.bind lr λ _=>.bind lr λ _=>.bind (Le.whl (λ _=>Jq h _ _ _ _ _ _ _ _) h _) λ _=>lr
theorem F7 {n m} (_:n<=m) (a b):Le (Cz n a b) (Cz m a b):=lr
theorem KM {n m} (h:n<=m) (a b c d e f g):Le (Dj n a b c d e f g) (Dj m a b c d e f g):=.ite (.bind lr λ _=>.bind lr λ _=>.bind lr λ _=>.bind lr λ _=>.bind (Le.ite (lr) (lr)) λ _=>.bind (Le.ite (Mx h _ _) (lr)) λ _=>.ite (.bind lr λ _=>.bind lr λ _=>F7 h _ _) (F7 h _ _)) lr
theorem KN {n m} (h:n<=m) (a b c d):Le (Dk n a b c d) (Dk m a b c d):=.ite (.bind (Gq h _ _ _ _ _) λ _=>lr) lr
theorem KO {n m} (h:n<=m) (a b c d e):Le (Dl n a b c d e) (Dl m a b c d e):=.ite (.bind (Gq h _ _ _ _ _) λ _=>lr) lr
theorem KP {n m} (h:n<=m) (a b):Le (Dm n a b) (Dm m a b):=.bind lr λ _=>.bind (Le.whl (λ _=>KO h _ _ _ _ _) h _) λ _=>.ite lr lr
theorem KQ {n m} (h:n<=m) (a b):Le (Dn n a b) (Dn m a b):=.ite (.bind lr λ _=>.bind lr λ _=>.bind lr λ _=>.bind lr λ _=>.bind (Le.whl (λ _=>KM h _ _ _ _ _ _ _) h _) λ _=>.bind lr λ _=>.bind (Le.whl (λ _=>KN h _ _ _ _) h _) λ _=>.bind (Le.whl (λ _=>KP h _ _) h _) λ _=>lr) lr
theorem Nq {n m} (h:n<=m) (a):Le (EA n a) (EA m a):=.bind (Le.whl (λ _=>KQ h _ _) h _) λ _=>lr
theorem EI {n m} (_:n<=m) (a):Le (BZ n a) (BZ m a):=lr
theorem Iw {n m} (h:n<=m) (a b c d e f):Le (CC n a b c d e f) (CC m a b c d e f):=.ite (.bind lr λ _=>.bind (D2 h _ _ _) λ _=>.ite (EI h _) (.bind lr λ _=>.bind lr λ _=>.bind (Fk h _ _) λ _=>.ite (EI h _) (.bind lr λ _=>.bind lr λ _=>lr))) lr
theorem Ix {n m} (h:n<=m) (a b c d e):Le (CD n a b c d e) (CD m a b c d e):=.ite (.bind lr λ _=>.bind (Le.whl (λ _=>Iw h _ _ _ _ _ _) h _) λ y75=>by rcases y75 with _|_;exact lr;exact lr) lr
theorem KR {n m} (h:n<=m) (a):Le (Do n a) (Do m a):=.bind lr λ _=>.bind (Fk h _ _) λ _=>.bind (Le.whl (λ _=>Ix h _ _ _ _ _) h _) λ _=>lr
theorem VG {n m} (h:n<=m) (a b):Le (MS n a b) (MS m a b):=.bind (I0 h _) λ _=>.ite lr (.bind (VF h _) λ _=>.ite lr (.bind (Qk h _ _) λ _=>.bind (Np h _) λ _=>.bind (Nq h _) λ _=>.bind lr λ _=>.bind lr λ _=>.ite lr (.bind (KR h _) λ _=>lr)))
theorem NP {n m} (h:n<=m) (a b):Le (HZ n a b) (HZ m a b):=.bind (VG h _ _) λ _=>.ite lr lr
theorem S4 {n m} (_:n<=m) (a b c):Le (Fy n a b c) (Fy m a b c):=.ite (.bind lr λ _=>.bind lr λ _=>.ite lr lr) lr
theorem I4 {n m} (h:n<=m) (a b):Le (DN n a b) (DN m a b):=.ite lr (.bind (Le.whl (λ _=>S4 h _ _ _) h _) λ y79=>by rcases y79 with _|_;exact lr;exact lr)
theorem Nr {n m} (_:n<=m) (a b c):Le (CJ n a b c) (CJ m a b c):=.ite (.bind lr λ _=>.bind lr λ _=>.ite lr lr) lr
theorem Ql {n m} (h:n<=m) (a b):Le (Dc n a b) (Dc m a b):=.ite lr (.bind (Le.whl (λ _=>Nr h _ _ _) h _) λ y82=>by rcases y82 with _|_;exact lr;exact lr)
theorem Xf {n m} (h:n<=m) (a b):Le (OX n a b) (OX m a b):=.bind (Ql h _ _) λ _=>.bind (Le.ite (I4 h _ _) (lr)) λ _=>lr
theorem TQ {n m} (h:n<=m):Le (H1 n) (H1 m):=.bind (TO h) λ _=>.bind (KH h _ _) λ _=>.bind (KH h _ _) λ _=>.bind (Jp h _ _ _) λ _=>.bind (Jp h _ _ _) λ _=>.bind (Jp h _ _ _) λ _=>.bind (NP h _ _) λ _=>.bind (KH h _ _) λ _=>.bind (NP h _ _) λ _=>.bind (Le.ite (I4 h _ _) (lr)) λ _=>.bind (Le.ite (I4 h _ _) (lr)) λ _=>.bind (Le.ite (Xf h _ _) (lr)) λ _=>.bind (Le.ite (I4 h _ _) (lr)) λ _=>lr
end Go.AI
end
section
namespace Go.AI
theorem Yq (a:Int):IntKind.i64.wrap a=if decide (a % 18446744073709551616>=9223372036854775808)=true then a % 18446744073709551616-18446744073709551616 else a % 18446744073709551616:=rfl
theorem Ut (a:Int):IntKind.u8.wrap a=a % 256:=rfl
theorem S5 {a:Int} (h:-9223372036854775808<=a) (h':a<9223372036854775808):IntKind.i64.wrap a=a:=by
 rw [Yq]
 split
 ·rename_i hc;simp at hc;omega
 ·rename_i hc;simp at hc;omega
theorem Qm {a b:Int} (h:-9223372036854775808<=a+b) (h':a+b<9223372036854775808):Au .i64 a b=a+b:=S5 h h'
theorem Jdu {a b:Int} (h:-9223372036854775808<=a-b) (h':a-b<9223372036854775808):CI .i64 a b=a-b:=S5 h h'
theorem JkS {a:Int} (h:0<=a) (h':a<256):IntKind.u8.wrap a=a:=by
 rw [Ut];omega
theorem Xg (a:Int):0<=IntKind.u8.wrap a/\IntKind.u8.wrap a<256:=by
 rw [Ut];omega
def LG (m k:Int):Bool:=decide (0<=k)&&decide (k<8)&&(Ch .u8 (WT .u8 m k) 1==1)
theorem Jdv (n:Nat) (m k:Int):Hy n m k=some (LG m k):=by
 unfold Hy LG
 by_cases h:0<=k
 ·by_cases h':k<8<;>simp [h,h',Bn]
 ·simp [h]
theorem Jdw (n:Nat) (m k:Int):Kk n m k=some (LG m k):=by
 unfold Kk LG
 by_cases h:0<=k
 ·by_cases h':k<8<;>simp [h,h',Bn]
 ·simp [h]
def F8 (b:Int):Int:=
 if (decide (97<=Ch .u8 b 127)&&decide (Ch .u8 b 127<=122))=true then 1
 else if (decide (65<=Ch .u8 b 127)&&decide (Ch .u8 b 127<=90))=true then 2
 else if (decide (48<=Ch .u8 b 127)&&decide (Ch .u8 b 127<=57))=true then 3
 else if (Ch .u8 b 127==32)=true then 4 else 5
theorem Jdx (n:Nat) (b:Int):Es n b=some (F8 b):=by
 unfold Es F8
 split
 ·rfl
 ·split
  ·rfl
  ·split
   ·rfl
   ·split<;>rfl
theorem Jal (n:Nat) (b:Int):JI n b=some (F8 b):=by
 unfold JI F8
 simp only [ge_iff_le]
 split
 ·rfl
 ·split
  ·rfl
  ·split
   ·rfl
   ·split<;>rfl
theorem I5 (b:Int):1<=F8 b/\F8 b<=5:=by
 unfold F8
 split
 ·omega
 ·split
  ·omega
  ·split
   ·omega
   ·split<;>omega
def NQ (s:List UInt8) (i:Nat):Int:=(s[i]?.getD 0).toNat
theorem Pp {s:List UInt8} {i:Nat} (h:i<s.length):NX s (i:Int)=some (NQ s i):=by
 unfold NX NQ
 rw [if_pos (by omega)]
 simp
def Zb:Ab:=⟨0,0,0⟩
def S6 (r:Ay) (s:Ab):Ab×Bool:=
 if ((r.From != s.Mode)||!LG r.Left s.Last)=true then (Zb,false)
 else if (r.Print==[])=true then
  (if (Ch .u8 s.Need r.Right==0)=true then (Zb,false) else (⟨r.To,s.Last,Ch .u8 s.Need r.Right⟩,true))
 else if (!LG s.Need (F8 (NQ r.Print 0)))=true then (Zb,false)
 else (⟨r.To,F8 (NQ r.Print (r.Print.length-1)),r.Right⟩,true)
def AH (t:Ad) (s:Ab) (k:Int):Ab×Bool:=
 if (decide (k<0)||decide (k>=(t.Rules.length:Int)))=true then (Zb,false) else S6 (t.Rules[k.toNat]?.getD default) s
def Jdy (t:Ad):Prop:=∀ r∈t.Rules,r.Print.length<9223372036854775808
theorem S7 {α:Type} [Inhabited α] {l:List α} {k:Int} (h:0<=k) (h':k<l.length):idx l k=some (l[k.toNat]?.getD default):=by
 unfold idx
 rw [if_pos h]
 have:k.toNat<l.length:=by omega
 simp [this]
theorem Rs {t:Ad} (ht:Jdy t) (n:Nat) (s:Ab) (k:Int):G1 n t s k=some (AH t s k):=by
 unfold G1 AH
 by_cases hk:(decide (k<0)||decide (k>=(t.Rules.length:Int)))=true
 ·rw [if_pos hk,if_pos hk];rfl
 ·rw [if_neg hk,if_neg hk]
  simp only [JlT,decide_eq_true_eq,not_or,Int.not_lt,ge_iff_le,Int.not_le] at hk
  rw [S7 hk.1 hk.2]
  have hmem:(t.Rules[k.toNat]?.getD default)∈t.Rules:=by
   have:k.toNat<t.Rules.length:=by omega
   simp [this]
  have hlen:=ht _ hmem
  generalize t.Rules[k.toNat]?.getD default=r at hlen ⊢
  simp only [Option.bind_some,Jdv,Jdx]
  unfold S6
  by_cases h1:r.From=s.Mode
  ·simp only [h1,bne_self_eq_false,Bool.not_false,if_true,Option.bind_some,Bool.false_or]
   by_cases h2:LG r.Left s.Last=true
   ·simp only [h2,Bool.not_true,JlM,if_false]
    by_cases h3:r.Print=[]
    ·simp only [h3,beq_self_eq_true,if_true]
     split<;>rfl
    ·have h3':(r.Print==[])=false:=by simpa using h3
     have hpos:0<r.Print.length:=List.length_pos_iff.2 h3
     simp only [h3',JlM,if_false]
     have e0:=Pp (s:=r.Print) (i:=0) hpos
     simp only [Int.natCast_zero] at e0
     rw [e0]
     have e1:CI .i64 ((r.Print.length:Nat):Int) 1=((r.Print.length-1:Nat):Int):=by rw [Jdu (by omega) (by omega)];omega
     rw [e1,Pp (by omega)]
     simp only [Option.bind_some]
     split<;>rfl
   ·have h2:LG r.Left s.Last=false:=by simpa using h2
    simp only [h2,Bool.not_false,if_true];rfl
  ·have h1':(r.From != s.Mode)=true:=by simpa using h1
   simp only [h1',Bool.not_true,JlM,if_false,Option.bind_some,Bool.true_or,if_true];rfl
end Go.AI
end
section
namespace Go.AI
theorem Aq {α:Type} {l:List α} {i:Nat} {x:α} (h:l[i]? = some x):i<l.length:=(List.getElem?_eq_some_iff.1 h).1
theorem Xh {t:Ad} (ht:Jdy t) (n:Nat) (s:Ab) (k:Int):L7 n t s k=some (AH t s k):=by
 unfold L7 AH
 by_cases hk:(decide (k<0)||decide (k>=(t.Rules.length:Int)))=true
 ·rw [if_pos hk,if_pos hk];rfl
 ·rw [if_neg hk,if_neg hk]
  simp only [JlT,decide_eq_true_eq,not_or,Int.not_lt,ge_iff_le,Int.not_le] at hk
  rw [S7 hk.1 hk.2]
  have hmem:(t.Rules[k.toNat]?.getD default)∈t.Rules:=by
   have:k.toNat<t.Rules.length:=by omega
   simp [this]
  have hlen:=ht _ hmem
  generalize t.Rules[k.toNat]?.getD default=r at hlen ⊢
  simp only [Option.bind_some,Jdw,Jal]
  unfold S6
  by_cases h1:r.From=s.Mode
  ·simp only [h1,bne_self_eq_false,Bool.not_false,if_true,Option.bind_some,Bool.false_or]
   by_cases h2:LG r.Left s.Last=true
   ·simp only [h2,Bool.not_true,JlM,if_false]
    by_cases h3:r.Print=[]
    ·simp only [h3,List.length_nil,Int.natCast_zero,beq_self_eq_true,Bool.true_and,if_true]
     split<;>rfl
    ·have h3':(r.Print==[])=false:=by simpa using h3
     have hpos:0<r.Print.length:=List.length_pos_iff.2 h3
     have h4:(((r.Print.length:Nat):Int)==0)=false:=by simp;omega
     simp only [h3',h4,Bool.false_and,JlM,if_false]
     have e0:=Pp (s:=r.Print) (i:=0) hpos
     simp only [Int.natCast_zero] at e0
     rw [e0]
     have e1:CI .i64 ((r.Print.length:Nat):Int) 1=((r.Print.length-1:Nat):Int):=by rw [Jdu (by omega) (by omega)];omega
     rw [e1,Pp (by omega)]
     simp only [Option.bind_some]
     split<;>rfl
   ·have h2:LG r.Left s.Last=false:=by simpa using h2
    simp only [h2,Bool.not_false,if_true];rfl
  ·have h1':(r.From != s.Mode)=true:=by simpa using h1
   simp only [h1',Bool.not_true,JlM,if_false,Option.bind_some,Bool.true_or,if_true];rfl
def By (t:Ad) (s:Ab):Bool:=decide (s.Mode<t.Modes)&&LG t.Accept s.Mode&&LG s.Need 0
theorem Yr (n:Nat) (t:Ad) (s:Ab):Ed n t s=some (By t s):=by
 unfold Ed By
 simp only [Jdv]
 by_cases h1:s.Mode<t.Modes
 ·cases h2:LG t.Accept s.Mode<;>simp [h1]
 ·simp [h1]
theorem Xi (n:Nat) (t:Ad) (s:Ab):IJ n t s=some (By t s):=by
 unfold IJ By
 simp only [Jdw]
 have h0:¬ (0<=s.Mode)->LG t.Accept s.Mode=false:=λ h=>by simp [LG,h]
 by_cases h:0<=s.Mode
 ·by_cases h1:s.Mode<t.Modes
  ·cases h2:LG t.Accept s.Mode<;>simp [h,h1]
  ·simp [h1]
 ·simp [h,h0 h]
theorem eqS (a b:Ab):((a.Mode==b.Mode)&&((a.Last==b.Last)&&((a.Need==b.Need)&&true)))=decide (a=b):=by
 cases a;cases b
 simp [Bool.decide_and]
 rfl
def Ei (l:List Ab) (s:Ab):Int:=match l.findIdx? (λ x=>decide (x=s)) with
 | some i=>i
 | none=>-1
theorem Xj {l:List Ab} {s:Ab} (hl:l.length<9223372036854775807):Ev (λ n=>MV n l s) (Ei l s):=by
 have loop:Ev (λ n=>whl (λ x=>DG n l s x) n (0:Int)) (match l.findIdx? (λ x=>decide (x=s)) with|some i=>(.inr (i:Int):Unit⊕Int)|none=>.inl ()):=by
  refine Ev.whl (body:=λ n x=>DG n l s x) (λ k x=>∃ i:Nat,x=i/\i<=l.length/\k=l.length-i/\∀ j,j<i->∀ y,l[j]? = some y->y≠s) ?_ l.length 0 ⟨0,rfl,by omega,by omega,λ j hj=>by omega⟩
  rintro k x ⟨i,rfl,hi,rfl,hbefore⟩
  by_cases hlt:i<l.length
  ·have hg:l[i]? = some l[i]:=Jlz hlt
   have hidx:idx l (i:Int)=some l[i]:=by
    unfold idx
    rw [if_pos (by omega)]
    simp
   by_cases he:l[i]=s
   ·right
    refine Ev.all λ n=>?_
    unfold DG
    rw [if_pos (by simpa using hlt),hidx]
    simp only [Option.bind_some,eqS,he,decide_true,if_true]
    have:l.findIdx? (λ x=>decide (x=s))=some i:=by
     rw [List.findIdx?_eq_some_iff_getElem]
     refine ⟨hlt,by simpa using he,λ j hj=>?_⟩
     have hj':j<l.length:=by omega
     have:=hbefore j hj l[j] (Jlz hj')
     simpa using this
    rw [this]
   ·left
    refine ⟨((i+1:Nat):Int),l.length-(i+1),by omega,⟨i+1,rfl,by omega,rfl,λ j hj y hy=>?_⟩,Ev.all λ n=>?_⟩
    ·by_cases hji:j=i
     ·subst hji;rw [hg] at hy;cases hy;exact he
     ·exact hbefore j (by omega) y hy
    ·unfold DG
     rw [if_pos (by simpa using hlt),hidx]
     simp only [Option.bind_some,eqS,he,decide_false,JlM,if_false]
     rw [Qm (by omega) (by omega)]
     rfl
  ·right
   have hi':i=l.length:=by omega
   subst hi'
   refine Ev.all λ n=>?_
   unfold DG
   rw [if_neg (by simp)]
   have:l.findIdx? (λ x=>decide (x=s))=none:=by
    rw [List.findIdx?_eq_none_iff]
    intro y hy
    obtain ⟨j,hj⟩:=List.mem_iff_getElem?.1 hy
    have:=hbefore j (Aq hj) y hj
    simpa using this
   rw [this]
 refine (Ev.bind loop (g:=λ _ y=>match y with|Sum.inl _=>some (-1)|Sum.inr z=>some z) (z:=Ei l s) ?_).congr λ n=>?_
 ·unfold Ei
  cases l.findIdx? (λ x=>decide (x=s)) with
  | none=>exact Ev.const
  | some i=>exact Ev.const
 ·rfl
end Go.AI
end
section
namespace Go.AI
theorem Ys (a b:Int) (h:0<=b) (h':b<256):0<=Ch .u8 a b/\Ch .u8 a b<=b:=by
 unfold Ch
 have hb:(BitVec.ofInt 8 b).toNat=b.toNat:=by
  rw [BitVec.toNat_ofInt]
  omega
 have hle:(BitVec.ofInt 8 a &&& BitVec.ofInt 8 b).toNat<=b.toNat:=by
  rw [BitVec.toNat_and,hb];exact Nat.and_le_right
 have e:(BitVec.ofInt IntKind.u8.bits a &&& BitVec.ofInt IntKind.u8.bits b).toNat=(BitVec.ofInt 8 a &&& BitVec.ofInt 8 b).toNat:=rfl
 rw [e,JkS (by omega) (by omega)]
 omega
def On (r:Ay):Prop:=0<=r.To/\r.To<2/\0<=r.Right/\r.Right<=63/\r.Print.length<=3
def Ht (t:Ad):Prop:=t.Rules.length<=11/\∀ r∈t.Rules,On r
theorem Ht.short {t:Ad} (h:Ht t):Jdy t:=λ r hr=>by have:=(h.2 r hr).2.2.2.2;omega
def InU (s:Ab):Prop:=0<=s.Mode/\s.Mode<2/\0<=s.Last/\s.Last<=5/\0<=s.Need/\s.Need<=63
def Jjh:List Ab:=(List.range 768).map λ i=>⟨(i / 384:Nat),(i / 64 % 6:Nat),(i % 64:Nat)⟩
theorem Jdz {s:Ab} (h:InU s):s∈Jjh:=by
 obtain ⟨h1,h2,h3,h4,h5,h6⟩:=h
 obtain ⟨m,l,d⟩:=s
 simp only at h1 h2 h3 h4 h5 h6
 simp only [Jjh,List.mem_map,List.mem_range]
 refine ⟨m.toNat*384+l.toNat*64+d.toNat,by omega,?_⟩
 have e1:(m.toNat*384+l.toNat*64+d.toNat) / 384=m.toNat:=by omega
 have e2:(m.toNat*384+l.toNat*64+d.toNat) / 64 % 6=l.toNat:=by omega
 have e3:(m.toNat*384+l.toNat*64+d.toNat) % 64=d.toNat:=by omega
 rw [e1,e2,e3]
 congr 1<;>omega
theorem JdA {l m:List Ab} (h:l.Nodup) (hs:∀ x∈l,x∈m):l.length<=m.length:=by
 induction l generalizing m with
 | nil=>simp
 | cons a l ih=>
  rw [List.nodup_cons] at h
  have ha:=hs a (by simp)
  have hlen:(m.erase a).length=m.length-1:=List.length_erase_of_mem ha
  have hpos:0<m.length:=List.length_pos_of_mem ha
  have:=ih (m:=m.erase a) h.2 λ x hx=>by
   have hne:x≠a:=λ e=>h.1 (e▸hx)
   exact (List.mem_erase_of_ne hne).2 (hs x (by simp [hx]))
  simp
  omega
theorem JdB {l:List Ab} (h:l.Nodup) (hs:∀ x∈l,InU x):l.length<=768:=by
 have:=JdA h λ x hx=>Jdz (hs x hx)
 simpa [Jjh] using this
theorem JdC {t:Ad} (ht:Ht t) {s:Ab} (hs:InU s) {k:Int} (h:(AH t s k).2=true):InU (AH t s k).1:=by
 unfold AH at h ⊢
 split at h
 ·cases h
 ·rename_i hk
  rw [if_neg hk]
  simp only [JlT,decide_eq_true_eq,not_or,Int.not_lt,ge_iff_le,Int.not_le] at hk
  have hmem:(t.Rules[k.toNat]?.getD default)∈t.Rules:=by
   have:k.toNat<t.Rules.length:=by omega
   simp [this]
  have hr:=ht.2 _ hmem
  generalize t.Rules[k.toNat]?.getD default=r at hr h ⊢
  obtain ⟨a1,a2,a3,a4,a5⟩:=hr
  obtain ⟨b1,b2,b3,b4,b5,b6⟩:=hs
  unfold S6 at h ⊢
  split at h
  ·cases h
  ·rename_i h1
   rw [if_neg h1]
   split at h
   ·rename_i h2
    rw [if_pos h2]
    split at h
    ·cases h
    ·rename_i h3
     rw [if_neg h3]
     have:=Ys s.Need r.Right a3 (by omega)
     exact ⟨a1,a2,b3,b4,this.1,by show Ch .u8 s.Need r.Right<=63;omega⟩
   ·rename_i h2
    rw [if_neg h2]
    split at h
    ·cases h
    ·rename_i h3
     rw [if_neg h3]
     have:=I5 (NQ r.Print (r.Print.length-1))
     exact ⟨a1,a2,by show 0<=F8 _;omega,by show F8 _<=5;omega,a3,a4⟩
def BM:Ab:=⟨0,0,63⟩
def KS (t:Ad) (s:Ab) (st:List Ab) (k:Nat):List Ab:=if (AH t s k).2=true/\(AH t s k).1 ∉ st then st++[(AH t s k).1] else st
def J0 (t:Ad) (s:Ab) (m:Nat) (st:List Ab):List Ab:=(List.range m).foldl (KS t s) st
theorem J1 (t:Ad) (s:Ab) (m:Nat) (st:List Ab):J0 t s (m+1) st=KS t s (J0 t s m st) m:=by
 simp [J0,List.range_succ]
def S8 (t:Ad):Nat->Nat->List Ab->List Ab
 | 0,_,st=>st
 | f+1,i,st=>match st[i]? with
  | some s=>S8 t f (i+1) (J0 t s t.Rules.length st)
  | none=>st
def Aa (t:Ad):List Ab:=S8 t 800 0 [BM]
structure Gr (t:Ad) (st:List Ab):Prop where
 nodup:st.Nodup
 inU:∀ s∈st,InU s
 first:st[0]? = some BM
 origin:∀ (j:Nat) (s:Ab),st[j]? = some s->0<j->∃ (i:Nat) (s':Ab) (k:Nat),i<j/\st[i]? = some s'/\k<t.Rules.length/\AH t s' k=(s,true)
theorem Gr.len {t:Ad} {st:List Ab} (h:Gr t st):st.length<=768:=JdB h.nodup h.inU
theorem Gr.add {t:Ad} (ht:Ht t) {st:List Ab} (h:Gr t st) {i:Nat} {s:Ab} (hi:st[i]? = some s) {k:Nat} (hk:k<t.Rules.length):Gr t (KS t s st k):=by
 unfold KS
 split
 ·rename_i hc
  have hil:=Aq hi
  refine ⟨?_,λ x hx=>?_,?_,λ j x hj h0=>?_⟩
  ·rw [List.nodup_append]
   refine ⟨h.nodup,by simp,λ a ha b hb=>?_⟩
   simp at hb
   subst hb
   exact λ e=>hc.2 (e▸ha)
  ·simp only [List.mem_append,List.mem_singleton] at hx
   rcases hx with hx|rfl
   ·exact h.inU x hx
   ·exact JdC ht (h.inU s (JlB hi)) hc.1
  ·rw [JlH (by omega)];exact h.first
  ·rcases Nat.lt_or_ge j st.length with hlt|hge
   ·rw [JlH hlt] at hj
    obtain ⟨i',s',k',a1,a2,a3,a4⟩:=h.origin j x hj h0
    exact ⟨i',s',k',a1,by rw [JlH (by omega)];exact a2,a3,a4⟩
   ·rw [JlS hge] at hj
    have:j-st.length=0:=by have:=Aq hj;simp at this;omega
    rw [this] at hj
    simp at hj
    subst hj
    refine ⟨i,s,k,by omega,by rw [JlH hil];exact hi,hk,?_⟩
    exact Prod.ext rfl hc.1
 ·exact h
theorem Xk (t:Ad) (s:Ab) (st:List Ab) (k:Nat):st <+: KS t s st k:=by
 unfold KS
 split
 ·exact List.prefix_append _ _
 ·exact List.prefix_refl _
theorem Hf (t:Ad) (s:Ab) (st:List Ab):∀ m,st <+: J0 t s m st:=by
 intro m
 induction m with
 | zero=>exact List.prefix_refl _
 | succ m ih=>rw [J1];exact ih.trans (Xk _ _ _ _)
theorem Pq {α:Type} {l m:List α} (h:l <+: m) {i:Nat} {x:α} (hi:l[i]? = some x):m[i]? = some x:=by
 obtain ⟨r,rfl⟩:=h
 rw [JlH (Aq hi)];exact hi
theorem Gr.exp {t:Ad} (ht:Ht t) {st:List Ab} (h:Gr t st) {i:Nat} {s:Ab} (hi:st[i]? = some s):∀ m,m<=t.Rules.length->Gr t (J0 t s m st):=by
 intro m
 induction m with
 | zero=>intro _;exact h
 | succ m ih=>
  intro hm
  rw [J1]
  exact (ih (by omega)).add ht (Pq (Hf t s st m) hi) (by omega)
theorem JdD (t:Ad) (s:Ab) (st:List Ab):∀ m k:Nat,k<m->(AH t s k).2=true->(AH t s k).1∈J0 t s m st:=by
 intro m
 induction m with
 | zero=>intro k hk;omega
 | succ m ih=>
  intro k hk h
  rw [J1]
  by_cases e:k=m
  ·subst e
   unfold KS
   by_cases hc:(AH t s k).1∈J0 t s k st
   ·rw [if_neg (λ hh=>hh.2 hc)];exact hc
   ·rw [if_pos ⟨h,hc⟩];simp
  ·exact (Xk t s _ m).subset (ih k (by omega) h)
def Jji (t:Ad) (i:Nat) (st:List Ab):Prop:=∀ (j:Nat) (s:Ab),j<i->st[j]? = some s->∀ k:Nat,k<t.Rules.length->(AH t s k).2=true->(AH t s k).1∈st
theorem Jjj {t:Ad} (ht:Ht t):∀ (f i:Nat) (st:List Ab),Gr t st->Jji t i st->768<f+i->Gr t (S8 t f i st)/\∀ i',Jji t i' (S8 t f i st):=by
 intro f
 induction f with
 | zero=>
  intro i st h hd hf
  have:=h.len
  refine ⟨h,λ i' j s hj hs=>?_⟩
  have hs:st[j]? = some s:=hs
  exact hd j s (by have:=Aq hs;omega) hs
 | succ f ih=>
  intro i st h hd hf
  simp only [S8]
  cases hi:st[i]? with
  | none=>
   refine ⟨h,λ i' j s hj hs=>?_⟩
   have hs:st[j]? = some s:=hs
   exact hd j s (by have:=Aq hs;rw [List.getElem?_eq_none_iff] at hi;omega) hs
  | some s=>
   refine ih (i+1) _ (h.exp ht hi _ (Nat.le_refl _)) (λ j x hj hx k hk hk2=>?_) (by omega)
   by_cases e:j=i
   ·subst e
    have:=Pq (Hf t s st t.Rules.length) hi
    rw [this] at hx
    cases hx
    exact JdD t s st _ k hk hk2
   ·have hjl:j<st.length:=by have:=Aq hi;omega
    have hxx:st[j]? = some st[j]:=Jlz hjl
    have:=Pq (Hf t s st t.Rules.length) hxx
    rw [this] at hx
    cases hx
    exact (Hf t s st t.Rules.length).subset (hd j _ (by omega) hxx k hk hk2)
theorem HQ {t:Ad} (ht:Ht t):Gr t (Aa t)/\∀ i,Jji t i (Aa t):=by
 refine Jjj ht 800 0 [BM] ⟨by simp,λ s hs=>?_,rfl,λ j s hj h0=>?_⟩ (λ j s hj=>by omega) (by omega)
 ·simp at hs;subst hs;exact ⟨by decide,by decide,by decide,by decide,by decide,by decide⟩
 ·cases j with
  | zero=>omega
  | succ j=>simp at hj
end Go.AI
end
section
namespace Go.AI
theorem Ev.whlR {σ ρ:Type} {body:Nat->σ->Option (σ⊕ρ)} {R:ρ->Prop} (I:Nat->σ->Prop) (h:∀ k x,I k x->(∃ y j,j<k/\I j y/\Ev (λ n=>body n x) (.inl y))\/∃ r,R r/\Ev (λ n=>body n x) (.inr r)):∀ (k:Nat) (x:σ),I k x->∃ r,R r/\Ev (λ n=>Go.AI.whl (body n) n x) r:=by
 have key:∀ (k:Nat) (x:σ),I k x->∃ r,R r/\∃ N c,∀ n fuel,N<=n->c<=fuel->Go.AI.whl (body n) fuel x=some r:=by
  intro k
  induction k using Nat.strongRecOn with
  | _ k ih=>
   intro x hx
   rcases h k x hx with ⟨y,j,hj,hy,N1,h1⟩|⟨r,hr,N1,h1⟩
   ·obtain ⟨r,hr,N2,c,h2⟩:=ih j hj y hy
    refine ⟨r,hr,max N1 N2,c+1,λ n fuel hn hf=>?_⟩
    cases fuel with
    | zero=>omega
    | succ fuel=>
     have e:=h1 n (by omega)
     simp only at e
     simp only [Go.AI.whl,e]
     exact h2 n fuel (by omega) (by omega)
   ·refine ⟨r,hr,N1,1,λ n fuel hn hf=>?_⟩
    cases fuel with
    | zero=>omega
    | succ fuel=>
     have e:=h1 n hn
     simp only at e
     simp only [Go.AI.whl,e]
 intro k x hx
 obtain ⟨r,hr,N,c,hh⟩:=key k x hx
 exact ⟨r,hr,max N c,λ m hm=>hh m m (by omega) (by omega)⟩
def I6 (st:List Ab) (nb:List (Ab×Int)):Prop:=∀ s,Gb s nb=(st.findIdx? λ x=>decide (x=s)).map λ i=>(i:Int)
theorem C5 {st:List Ab} {s:Ab} {i:Nat} (hn:st.Nodup) (h:st[i]? = some s):(st.findIdx? λ x=>decide (x=s))=some i:=by
 have hi:=Aq h
 rw [List.findIdx?_eq_some_iff_getElem]
 have he:st[i]=s:=by rw [Jlz hi] at h;exact Option.some.inj h
 refine ⟨hi,by simpa using he,λ j hj=>?_⟩
 simp only [Bool.not_eq_true,decide_eq_false_iff_not]
 intro e
 have:=(List.getElem_inj (i:=j) (j:=i) (h₀:=by omega) (h₁:=hi) hn).1 (by rw [e,he])
 omega
theorem HL {st:List Ab} {s:Ab} (h:s ∉ st):(st.findIdx? λ x=>decide (x=s))=none:=by
 rw [List.findIdx?_eq_none_iff]
 intro y hy
 simp only [decide_eq_false_iff_not]
 exact λ e=>h (e▸hy)
theorem Jam {κ α:Type} [DecidableEq κ] (k k':κ) (v:α) (m:List (κ×α)):Gb k' (LU k v m)=if k'=k then some v else Gb k' m:=by
 induction m with
 | nil=>simp [LU,Gb]
 | cons p m ih=>
  simp only [LU]
  by_cases h:k=p.1
  ·rw [if_pos h]
   simp only [Gb]
   by_cases h':k'=k
   ·simp [h']
   ·have:k'≠p.1:=λ e=>h' (e.trans h.symm)
    simp [h',this]
  ·rw [if_neg h]
   simp only [Gb]
   by_cases h':k'=p.1
   ·have:k'≠k:=λ e=>h (e▸h')
    rw [if_pos h',if_neg this,if_pos h']
   ·rw [if_neg h',if_neg h',ih]
theorem I6.snoc {st:List Ab} {nb:List (Ab×Int)} (h:I6 st nb) (hn:st.Nodup) {p:Ab} (hp:p ∉ st):I6 (st++[p]) (LU p (st.length:Nat) nb):=by
 intro s
 rw [Jam]
 have hnd:(st++[p]).Nodup:=by
  rw [List.nodup_append]
  exact ⟨hn,by simp,λ a ha b hb=>by simp at hb;subst hb;exact λ e=>hp (e▸ha)⟩
 by_cases e:s=p
 ·subst e
  rw [if_pos rfl,C5 hnd (i:=st.length) (by simp)]
  rfl
 ·rw [if_neg e,h s]
  by_cases hs:s∈st
  ·obtain ⟨i,hi⟩:=List.mem_iff_getElem?.1 hs
   rw [C5 hn hi,C5 hnd (i:=i) (by rw [JlH (Aq hi)];exact hi)]
  ·rw [HL hs,HL (by simp [hs,e])]
def Ib (i m j k:Nat):Prop:=j<i\/(j=i/\k<m)
structure Du (t:Ad) (st:List Ab) (fr:List (List Int)) (i m:Nat):Prop where
 len:fr.length=st.length
 cov:∀ j s k,Ib i m j k->st[j]? = some s->k<t.Rules.length->(AH t s (k:Nat)).2=true->(AH t s (k:Nat)).1∈st
 sound:∀ (n:Nat) l,fr[n]? = some l->∀ x∈l,∃ (j:Nat) (s:Ab) (k:Nat) (s':Ab),x=(j:Int)/\st[j]? = some s/\k<t.Rules.length/\st[n]? = some s'/\AH t s (k:Nat)=(s',true)
 compl:∀ (n:Nat) l,fr[n]? = some l->∀ (j:Nat) (s:Ab) (k:Nat) (s':Ab),Ib i m j k->st[j]? = some s->k<t.Rules.length->st[n]? = some s'->AH t s (k:Nat)=(s',true)->(j:Int)∈l
 small:∀ (n:Nat) l,fr[n]? = some l->l.length<=i*11+m
theorem Du.snoc {t:Ad} {st:List Ab} {fr:List (List Int)} {i m:Nat} (h:Du t st fr i m) {p:Ab} (hp:p ∉ st) (hi:i<st.length):Du t (st++[p]) (fr++[[]]) i m:=by
 have hget:∀ (j:Nat) s,Ib i m j 0\/j<=i->(st++[p])[j]? = some s->st[j]? = some s:=λ j s hj hs=>by
  rcases Nat.lt_or_ge j st.length with hlt|hge
  ·rwa [JlH hlt] at hs
  ·rcases hj with (h1|⟨h1,_⟩)|h1<;>omega
 have hle:∀ {j k},Ib i m j k->j<=i:=λ h=>by rcases h with h|⟨h,_⟩<;>omega
 refine ⟨by simp [h.len],λ j s k ht hs hk h2=>?_,λ n l hl x hx=>?_,λ n l hl j s k s' ht hs hk hs' he=>?_,λ n l hl=>?_⟩
 ·exact List.mem_append_left _ (h.cov j s k ht (hget j s (.inr (hle ht)) hs) hk h2)
 ·rcases Nat.lt_or_ge n fr.length with hlt|hge
  ·rw [JlH hlt] at hl
   obtain ⟨j,s,k,s',a1,a2,a3,a4,a5⟩:=h.sound n l hl x hx
   exact ⟨j,s,k,s',a1,by rw [JlH (Aq a2)];exact a2,a3,by rw [JlH (Aq a4)];exact a4,a5⟩
  ·rw [JlS hge] at hl
   have:n-fr.length=0:=by have:=Aq hl;simp at this;omega
   rw [this] at hl;simp at hl;subst hl;simp at hx
 ·have hs0:=hget j s (.inr (hle ht)) hs
  have hmem:s'∈st:=by have:=h.cov j s k ht hs0 hk (by rw [he]);rwa [he] at this
  rcases Nat.lt_or_ge n fr.length with hlt|hge
  ·rw [JlH hlt] at hl
   rw [JlH (by rw [← h.len];exact hlt)] at hs'
   exact h.compl n l hl j s k s' ht hs0 hk hs' he
  ·have hn:n=st.length:=by have:=Aq hs';simp at this;rw [h.len] at hge;omega
   subst hn
   simp at hs'
   subst hs'
   exact absurd hmem hp
 ·rcases Nat.lt_or_ge n fr.length with hlt|hge
  ·rw [JlH hlt] at hl;exact h.small n l hl
  ·rw [JlS hge] at hl
   have:n-fr.length=0:=by have:=Aq hl;simp at this;omega
   rw [this] at hl;simp at hl;subst hl;simp
theorem Du.put {t:Ad} {st:List Ab} {fr:List (List Int)} {i m:Nat} (h:Du t st fr i m) (hnd:st.Nodup) {s p:Ab} {q:Nat} {l:List Int} (hs:st[i]? = some s) (hm:m<t.Rules.length) (hst:AH t s (m:Nat)=(p,true)) (hq:st[q]? = some p) (hl:fr[q]? = some l):Du t st (fr.set q (l++[(i:Int)])) i (m+1):=by
 have htk:∀ {j k},Ib i (m+1) j k->Ib i m j k\/(j=i/\k=m):=λ {j k} h=>by
  unfold Ib at *
  omega
 have hql:=Aq hl
 refine ⟨by simp [h.len],λ j x k ht hx hk h2=>?_,λ n l' hl' x hx=>?_,λ n l' hl' j x k x' ht hx hk hx' he=>?_,λ n l' hl'=>?_⟩
 ·rcases htk ht with ht|⟨rfl,rfl⟩
  ·exact h.cov j x k ht hx hk h2
  ·rw [hs] at hx;cases hx;rw [hst];exact JlB hq
 ·by_cases e:n=q
  ·subst e
   rw [JlL hql] at hl'
   cases hl'
   simp only [List.mem_append,List.mem_singleton] at hx
   rcases hx with hx|rfl
   ·exact h.sound n l hl x hx
   ·exact ⟨i,s,m,p,rfl,hs,hm,hq,hst⟩
  ·rw [JlQ (Ne.symm e)] at hl';exact h.sound n l' hl' x hx
 ·rcases htk ht with ht|⟨rfl,rfl⟩
  ·by_cases e:n=q
   ·subst e
    rw [JlL hql] at hl'
    cases hl'
    exact List.mem_append_left _ (h.compl n l hl j x k x' ht hx hk hx' he)
   ·rw [JlQ (Ne.symm e)] at hl';exact h.compl n l' hl' j x k x' ht hx hk hx' he
  ·rw [hs] at hx;cases hx
   rw [hst] at he;cases he
   have e:n=q:=by
    have h1:=Aq hx'
    have h2:=Aq hq
    rw [Jlz h1] at hx'
    rw [Jlz h2] at hq
    exact (List.getElem_inj (h₀:=h1) (h₁:=h2) hnd).1 ((Option.some.inj hx').trans (Option.some.inj hq).symm)
   subst e
   rw [JlL hql] at hl'
   cases hl'
   simp
 ·by_cases e:n=q
  ·subst e
   rw [JlL hql] at hl'
   cases hl'
   have:=h.small n l hl
   simp;omega
  ·rw [JlQ (Ne.symm e)] at hl'
   have:=h.small n l' hl'
   omega
theorem Du.skip {t:Ad} {st:List Ab} {fr:List (List Int)} {i m:Nat} (h:Du t st fr i m) {s:Ab} (hs:st[i]? = some s) (hst:(AH t s (m:Nat)).2=false):Du t st fr i (m+1):=by
 have htk:∀ {j k},Ib i (m+1) j k->Ib i m j k\/(j=i/\k=m):=λ {j k} h=>by
  unfold Ib at *
  omega
 refine ⟨h.len,λ j x k ht hx hk h2=>?_,h.sound,λ n l hl j x k x' ht hx hk hx' he=>?_,λ n l hl=>by have:=h.small n l hl;omega⟩
 ·rcases htk ht with ht|⟨rfl,rfl⟩
  ·exact h.cov j x k ht hx hk h2
  ·rw [hs] at hx;cases hx;rw [hst] at h2;cases h2
 ·rcases htk ht with ht|⟨rfl,rfl⟩
  ·exact h.compl n l hl j x k x' ht hx hk hx' he
  ·rw [hs] at hx;cases hx;rw [he] at hst;cases hst
end Go.AI
end
section
namespace Go.AI
theorem KT {α:Type} {l:List α} {i:Nat} {x:α} (h:l[i]? = some x):idx l (i:Int)=some x:=by
 unfold idx
 rw [if_pos (by omega)]
 simpa using h
theorem VH {α:Type} {eb:Nat} {xs ys:List α} (h:(xs.length+ys.length)*eb<=70368744177664):app eb xs ys=some (xs++ys):=by
 unfold app;rw [if_pos h]
theorem Xl {t:Ad} (ht:Ht t) {i m:Nat} {s:Ab} {st:List Ab} {fr:List (List Int)} {nb:List (Ab×Int)} (hF:Gr t st) (hi:st[i]? = some s) (hN:I6 st nb) (hR:Du t st fr i m) (hm:m<t.Rules.length) :
  ∃ fr' nb',I6 (KS t s st m) nb'/\Du t (KS t s st m) fr' i (m+1)/\∀ n,Bx n t (i:Int) st fr nb (m:Int)=some (.inl (KS t s st m,fr',nb',((m+1:Nat):Int))):=by
 have hil:=Aq hi
 have hlen:=hF.len
 have hrl:=ht.1
 have hinc:Au .i64 (m:Int) 1=((m+1:Nat):Int):=by rw [Qm (by omega) (by omega)];rfl
 have hcond:decide ((m:Int)<((t.Rules.length:Nat):Int))=true:=by simpa using hm
 cases hp:(AH t s (m:Nat)).2 with
 | false=>
  have ha:KS t s st m=st:=by unfold KS;rw [if_neg (by rw [hp];simp)]
  refine ⟨fr,nb,by rw [ha];exact hN,by rw [ha];exact hR.skip hi hp,λ n=>?_⟩
  unfold Bx
  rw [if_pos hcond,KT hi]
  simp only [Option.bind_some,Rs ht.short,hp,Bool.not_false,if_true,Cj,hinc,ha]
 | true=>
  have hpe:AH t s (m:Nat)=((AH t s (m:Nat)).1,true):=Prod.ext rfl hp
  generalize hpp:(AH t s (m:Nat)).1=p at hpe
  by_cases hmem:p∈st
  ·have ha:KS t s st m=st:=by unfold KS;rw [if_neg (by rw [hpp];exact λ hh=>hh.2 hmem)]
   obtain ⟨q,hq⟩:=List.mem_iff_getElem?.1 hmem
   have hql:=Aq hq
   obtain ⟨lq,hfq⟩:∃ lq,fr[q]? = some lq:=⟨_,Jlz (by rw [hR.len];exact hql)⟩
   have hsm:=hR.small q _ hfq
   have hget:Gb p nb=some (q:Int):=by rw [hN p,C5 hF.nodup hq];rfl
   have hiv:i<768:=by omega
   refine ⟨fr.set q (lq++[(i:Int)]),nb,by rw [ha];exact hN,by rw [ha];exact hR.put hF.nodup hi hm hpe hq hfq,λ n=>?_⟩
   unfold Bx
   rw [if_pos hcond,KT hi]
   simp only [Option.bind_some,Rs ht.short,hpe,hget,Option.isSome_some,Bool.not_true,JlM,if_false,Option.getD_some,CM]
   rw [KT hfq]
   simp only [Option.bind_some]
   rw [VH (by simp;omega)]
   simp only [Option.bind_some,Cj,hinc,ha,JlJ]
  ·have ha:KS t s st m=st++[p]:=by unfold KS;rw [if_pos ⟨hp,by rw [hpp];exact hmem⟩,hpp]
   have hnd:(st++[p]).Nodup:=by have:=(hF.add ht hi hm).nodup;rwa [ha] at this
   have hget:Gb p nb=none:=by rw [hN p,HL hmem];rfl
   have hR':=hR.snoc hmem hil
   have hfq:(fr++[[]])[st.length]? = some ([]:List Int):=by rw [← hR.len];simp
   refine ⟨(fr++[[]]).set st.length ([]++[(i:Int)]),LU p (st.length:Nat) nb,by rw [ha];exact hN.snoc hF.nodup hmem,by rw [ha];exact hR'.put hnd (by rw [JlH hil];exact hi) hm hpe (by simp) hfq,λ n=>?_⟩
   unfold Bx
   rw [if_pos hcond,KT hi]
   simp only [Option.bind_some,Rs ht.short,hpe,hget,Option.isSome_none,Bool.not_false,Bool.not_true,JlM,if_true,if_false]
   rw [VH (by simp;omega),Option.bind_some,VH (by simp [hR.len];omega),Option.bind_some]
   simp only [CM]
   rw [KT hfq]
   simp only [Option.bind_some]
   rw [VH (by simp)]
   simp only [Option.bind_some,Cj,hinc,ha,JlJ]
theorem Du.next {t:Ad} {st:List Ab} {fr:List (List Int)} {i:Nat} (h:Du t st fr i t.Rules.length) (hr:t.Rules.length<=11):Du t st fr (i+1) 0:=by
 have htk:∀ {j k},k<t.Rules.length->Ib (i+1) 0 j k->Ib i t.Rules.length j k:=λ {j k} hk h=>by
  unfold Ib at *
  omega
 exact ⟨h.len,λ j s k ht hs hk=>h.cov j s k (htk hk ht) hs hk,h.sound,λ n l hl j s k s' ht hs hk=>h.compl n l hl j s k s' (htk hk ht) hs hk,λ n l hl=>by have:=h.small n l hl;omega⟩
theorem JdE {t:Ad} (ht:Ht t) {i:Nat} {s:Ab} {st:List Ab} {fr:List (List Int)} {nb:List (Ab×Int)} (hF:Gr t st) (hi:st[i]? = some s) (hN:I6 st nb) (hR:Du t st fr i 0) :
  ∃ r:List Ab×List (List Int)×List (Ab×Int),(r.1=J0 t s t.Rules.length st/\I6 r.1 r.2.2/\Du t r.1 r.2.1 (i+1) 0) /\
   Ev (λ n=>whl (λ (x:((List Ab)×(List (List Int))×(List (Ab×Int))×Int))=>Bx n t (i:Int) x.1 x.2.1 x.2.2.1 x.2.2.2) n (st,fr,nb,0)) r:=by
 refine Ev.whlR (body:=λ n x=>Bx n t (i:Int) x.1 x.2.1 x.2.2.1 x.2.2.2) (λ k x=>∃ m:Nat,m<=t.Rules.length/\k=t.Rules.length-m/\x.1=J0 t s m st/\x.2.2.2=(m:Int)/\I6 x.1 x.2.2.1/\Du t x.1 x.2.1 i m) ?_ t.Rules.length (st,fr,nb,0) ⟨0,by omega,by omega,rfl,rfl,hN,hR⟩
 rintro k ⟨st',fr',nb',m'⟩ ⟨m,hm,rfl,h1,h2,h3,h4⟩
 simp only at h1 h2 h3 h4
 subst h1
 subst h2
 rcases Nat.lt_or_ge m t.Rules.length with hlt|hge
 ·left
  have hi':(J0 t s m st)[i]? = some s:=Pq (Hf t s st m) hi
  obtain ⟨fr2,nb2,g1,g2,g3⟩:=Xl ht (hF.exp ht hi m hm) hi' h3 h4 hlt
  exact ⟨_,t.Rules.length-(m+1),by omega,⟨m+1,hlt,rfl,(J1 t s m st).symm,rfl,g1,g2⟩,Ev.all g3⟩
 ·right
  have e:m=t.Rules.length:=by omega
  subst e
  refine ⟨(J0 t s t.Rules.length st,fr',nb'),⟨rfl,h3,h4.next ht.1⟩,Ev.all λ n=>?_⟩
  unfold Bx
  rw [if_neg (by simp)]
theorem Yt {t:Ad} (ht:Ht t):∃ fr,Du t (Aa t) fr (Aa t).length 0/\Ev (λ n=>Fw n t) (Aa t,fr):=by
 have h0:Gr t [BM]:=⟨by simp,λ s hs=>by simp at hs;subst hs;exact ⟨by decide,by decide,by decide,by decide,by decide,by decide⟩,rfl,λ j s hj h0=>by cases j with|zero=>omega|succ j=>simp at hj⟩
 have loop:∃ r:List Ab×List (List Int),(r.1=Aa t/\Du t r.1 r.2 r.1.length 0) /\
   Ev (λ n=>whl (λ (x:((List Ab)×(List (List Int))×(List (Ab×Int))×Int))=>Ck n t x.1 x.2.1 x.2.2.1 x.2.2.2) n ([BM],([[]]:List (List Int)),(LU BM 0 []),0)) r:=by
  refine Ev.whlR (body:=λ n x=>Ck n t x.1 x.2.1 x.2.2.1 x.2.2.2) (λ k x=>∃ i:Nat,i<=x.1.length/\k=800-i/\S8 t (800-i) i x.1=Aa t/\x.2.2.2=(i:Int)/\Gr t x.1/\I6 x.1 x.2.2.1/\Du t x.1 x.2.1 i 0) ?_ 800 _ ⟨0,by simp,by omega,rfl,rfl,h0,?_,?_⟩
  ·rintro k ⟨st,fr,nb,i'⟩ ⟨i,hil,rfl,hb,hi',hF,hN,hR⟩
   simp only at hil hb hi' hF hN hR
   subst hi'
   have hlen:=hF.len
   rcases Nat.lt_or_ge i st.length with hlt|hge
   ·left
    have hi:st[i]? = some st[i]:=Jlz hlt
    obtain ⟨r,⟨g1,g2,g3⟩,g4⟩:=JdE ht hF hi hN hR
    have hexp:=hF.exp ht hi _ (Nat.le_refl _)
    refine ⟨(r.1,r.2.1,r.2.2,((i+1:Nat):Int)),800-(i+1),by omega,⟨i+1,?_,rfl,?_,rfl,by rw [g1];exact hexp,g2,g3⟩,?_⟩
    ·simp only [g1]
     have:=(Hf t st[i] st t.Rules.length).length_le
     omega
    ·simp only [g1]
     rw [← hb]
     have e:800-i=(800-(i+1))+1:=by omega
     rw [e]
     simp only [S8,hi]
    ·refine (Ev.bind g4 (g:=λ _ y2=>some (.inl (y2.1,y2.2.1,y2.2.2,((i+1:Nat):Int)))) Ev.const).congr λ n=>?_
     unfold Ck
     rw [if_pos (by simpa using hlt)]
     have hinc:Au .i64 (i:Int) 1=((i+1:Nat):Int):=by rw [Qm (by omega) (by omega)];rfl
     rw [hinc]
   ·right
    have e:i=st.length:=by omega
    subst e
    have hst:st=Aa t:=by
     rw [← hb]
     have e:800-st.length=(800-(st.length+1))+1:=by omega
     rw [e]
     simp [S8]
    refine ⟨(st,fr),⟨hst,hR⟩,Ev.all λ n=>?_⟩
    unfold Ck
    rw [if_neg (by simp)]
  ·intro s
   simp only [LU,Gb]
   by_cases e:s=BM
   ·subst e;simp
   ·have:¬ BM=s:=λ h=>e h.symm
    simp [e,this]
  ·refine ⟨rfl,λ j s k ht=>?_,λ n l hl x hx=>?_,λ n l hl j s k s' ht=>?_,λ n l hl=>?_⟩
   ·unfold Ib at ht;omega
   ·cases n with
    | zero=>simp at hl;subst hl;simp at hx
    | succ n=>simp at hl
   ·unfold Ib at ht;omega
   ·cases n with
    | zero=>simp at hl;subst hl;simp
    | succ n=>simp at hl
 obtain ⟨⟨st,fr⟩,⟨g1,g2⟩,g3⟩:=loop
 simp only at g1 g2
 subst g1
 refine ⟨fr,g2,?_⟩
 have hs:∀ n,JF n=some BM:=λ n=>rfl
 refine (Ev.bind g3 (g:=λ _ y3=>some (y3.1,y3.2)) Ev.const).congr λ n=>?_
 unfold Fw
 rw [hs,Option.bind_some]
theorem Yu {t:Ad} (ht:Ht t):Ev (λ n=>GC n t) (Aa t):=by
 obtain ⟨fr,_,h⟩:=Yt ht
 exact (Ev.bind h (g:=λ _ r=>some r.1) Ev.const).congr λ n=>rfl
end Go.AI
end
section
namespace Go.AI
def Tot {α:Type} (f:Nat->Option α) (P:α->Prop):Prop:=∃ z,P z/\Ev f z
def Rd2 {σ ρ:Type} (I:σ->Prop) (P:ρ->Prop):σ⊕ρ->Prop
 | .inl y=>I y
 | .inr r=>P r
variable {α β σ ρ:Type} {P R:α->Prop}
theorem Tot.ev {f:Nat->Option α} {z:α} (h:Tot f (λ x=>x=z)):Ev f z:=by obtain ⟨_,rfl,h⟩:=h;exact h
theorem Ev.tot {f:Nat->Option α} {z:α} (h:Ev f z) (hp:P z):Tot f P:=⟨z,hp,h⟩
theorem Tot.pure {z:α} (h:P z):Tot (λ _=>some z) P:=⟨z,h,Ev.const⟩
theorem Tot.all {f:Nat->Option α} {z:α} (h:∀ n,f n=some z) (hp:P z):Tot f P:=⟨z,hp,Ev.all h⟩
theorem Tot.mono {f:Nat->Option α} (h:Tot f R) (hp:∀ x,R x->P x):Tot f P:=by obtain ⟨z,hz,h⟩:=h;exact ⟨z,hp z hz,h⟩
theorem Tot.bind {f:Nat->Option β} {g:Nat->β->Option α} {R:β->Prop} (h:Tot f R) (k:∀ x,R x->Tot (λ n=>g n x) P):Tot (λ n=>(f n).bind (g n)) P:=by
 obtain ⟨x,hx,h⟩:=h
 obtain ⟨z,hz,h'⟩:=k x hx
 exact ⟨z,hz,Ev.bind h h'⟩
theorem Tot.bindE {f:Nat->Option β} {g:Nat->β->Option α} {x:β} (h:Ev f x) (k:Tot (λ n=>g n x) P):Tot (λ n=>(f n).bind (g n)) P:=by
 obtain ⟨z,hz,h'⟩:=k
 exact ⟨z,hz,Ev.bind h h'⟩
theorem Tot.bindC {x:Option β} {y:β} {g:Nat->β->Option α} (h:x=some y) (k:Tot (λ n=>g n y) P):Tot (λ n=>x.bind (g n)) P:=by subst h;exact k
theorem Tot.bindA {f:Nat->Option β} {y:β} {g:Nat->β->Option α} (h:∀ n,f n=some y) (k:Tot (λ n=>g n y) P):Tot (λ n=>(f n).bind (g n)) P:=Tot.bindE (Ev.all h) k
theorem Tot.ite {c:Bool} {a b:Nat->Option α} (h1:c=true->Tot a P) (h2:c=false->Tot b P):Tot (λ n=>if c=true then a n else b n) P:=by
 cases c with
 | true=>exact h1 rfl
 | false=>exact h2 rfl
theorem Tot.iteT {c:Bool} {a b:Nat->Option α} (h:c=true) (k:Tot a P):Tot (λ n=>if c=true then a n else b n) P:=by subst h;exact k
theorem Tot.iteF {c:Bool} {a b:Nat->Option α} (h:c=false) (k:Tot b P):Tot (λ n=>if c=true then a n else b n) P:=by subst h;exact k
theorem Tot.guard {c:Bool} {f:Nat->Option β} {d:β} {g:Nat->β->Option α} {R:β->Prop} (h:c=true->Tot f R) (k:∀ x,(c=true->R x)->Tot (λ n=>g n x) P):Tot (λ n=>(if c=true then f n else some d).bind (g n)) P:=by
 cases c with
 | true=>exact Tot.bind (h rfl) λ x hx=>k x λ _=>hx
 | false=>exact k d λ h=>by cases h
theorem Tot.congr {f g:Nat->Option α} (h:Tot f P) (e:∀ n,g n=f n):Tot g P:=by obtain ⟨z,hz,h⟩:=h;exact ⟨z,hz,h.congr e⟩
theorem Tot.sum {y:β⊕σ} {f:Nat->β->Option α} {g:Nat->σ->Option α} (h1:∀ b,y=.inl b->Tot (λ n=>f n b) P) (h2:∀ b,y=.inr b->Tot (λ n=>g n b) P):Tot (λ n=>match y with | .inl b=>f n b | .inr b=>g n b) P:=by
 cases y with
 | inl b=>exact h1 b rfl
 | inr b=>exact h2 b rfl
theorem Tot.whl {body:Nat->σ->Option (σ⊕ρ)} {P:ρ->Prop} (I:Nat->σ->Prop) (h:∀ k x,I k x->Tot (λ n=>body n x) (Rd2 (λ y=>∃ j,j<k/\I j y) P)):∀ (k:Nat) (x:σ),I k x->Tot (λ n=>Go.AI.whl (body n) n x) P:=by
 have key:∀ (k:Nat) (x:σ),I k x->∃ r,P r/\∃ N c,∀ n fuel,N<=n->c<=fuel->Go.AI.whl (body n) fuel x=some r:=by
  intro k
  induction k using Nat.strongRecOn with
  | _ k ih=>
   intro x hx
   obtain ⟨z,hz,N1,h1⟩:=h k x hx
   cases z with
   | inl y=>
    obtain ⟨j,hj,hy⟩:=hz
    obtain ⟨r,hr,N2,c,h2⟩:=ih j hj y hy
    refine ⟨r,hr,max N1 N2,c+1,λ n fuel hn hf=>?_⟩
    cases fuel with
    | zero=>omega
    | succ fuel=>
     have e:=h1 n (by omega)
     simp only at e
     simp only [Go.AI.whl,e]
     exact h2 n fuel (by omega) (by omega)
   | inr r=>
    refine ⟨r,hz,N1,1,λ n fuel hn hf=>?_⟩
    cases fuel with
    | zero=>omega
    | succ fuel=>
     have e:=h1 n hn
     simp only at e
     simp only [Go.AI.whl,e]
 intro k x hx
 obtain ⟨r,hr,N,c,hh⟩:=key k x hx
 exact ⟨r,hr,max N c,λ m hm=>hh m m (by omega) (by omega)⟩
theorem Tot.upto {body:Nat->σ->Option (σ⊕ρ)} {P:ρ->Prop} (N:Nat) (I:Nat->σ->Prop)
  (step:∀ i x,i<N->I i x->Tot (λ n=>body n x) (Rd2 (I (i+1)) P))
  (last:∀ x,I N x->Tot (λ n=>body n x) (Rd2 (λ _=>False) P)) (x:σ) (h0:I 0 x):Tot (λ n=>Go.AI.whl (body n) n x) P:=by
 refine Tot.whl (body:=body) (λ k x=>∃ i,i<=N/\k=N-i/\I i x) ?_ N x ⟨0,by omega,by omega,h0⟩
 rintro k x ⟨i,hi,rfl,hx⟩
 rcases Nat.lt_or_ge i N with hlt|hge
 ·refine (step i x hlt hx).mono λ z hz=>?_
  cases z with
  | inl y=>exact ⟨N-(i+1),by omega,i+1,by omega,rfl,hz⟩
  | inr r=>exact hz
 ·have:i=N:=by omega
  subst this
  refine (last x hx).mono λ z hz=>?_
  cases z with
  | inl y=>exact hz.elim
  | inr r=>exact hz
theorem Ej {l:List α} {i:Nat} {x:α} (h:l[i]? = some x):idx l (i:Int)=some x:=by
 unfold idx
 rw [if_pos (by omega)]
 simpa using h
theorem Fl {l:List α} {i:Nat} (h:i<l.length):idx l (i:Int)=some l[i]:=Ej (Jlz h)
theorem KU {eb:Nat} {xs ys:List α} (h:(xs.length+ys.length)*eb<=70368744177664):app eb xs ys=some (xs++ys):=by
 unfold app;rw [if_pos h]
theorem F9 {l:List α} {i:Nat} {y:α} (h:i<l.length):put l (i:Int) y=some (l.set i y):=by
 unfold put;rw [if_pos (by omega),JlJ]
theorem Qn {x y:List UInt8} (h:x.length+y.length<=9223372036854775807):cat x y=some (x++y):=by
 unfold cat;rw [if_pos h]
end Go.AI
end
section
namespace Go.AI
theorem Jfh (a:Int):IntKind.i64.wrap a=if decide (a % 18446744073709551616>=9223372036854775808)=true then a % 18446744073709551616-18446744073709551616 else a % 18446744073709551616:=rfl
theorem w64 {a:Int} (h:-9223372036854775808<=a) (h':a<9223372036854775808):IntKind.i64.wrap a=a:=by
 rw [Jfh]
 simp only [decide_eq_true_eq]
 split<;>omega
theorem EJ {a b:Int} (h:-9223372036854775808<=a+b) (h':a+b<9223372036854775808):Au .i64 a b=a+b:=w64 h h'
theorem J2 {a b:Int} (h:-9223372036854775808<=a-b) (h':a-b<9223372036854775808):CI .i64 a b=a-b:=w64 h h'
theorem Ic {i:Nat} (h:i<9223372036854775807):Au .i64 (i:Int) 1=((i+1:Nat):Int):=by rw [EJ]<;>omega
theorem Qo {a m:Int} (h:0<=a) (hm:0<m):A9 a m=a % m/\0<=A9 a m/\A9 a m<m:=by
 have e:A9 a m=a % m:=by unfold A9;rw [Int.tmod_eq_emod_of_nonneg h]
 rw [e];exact ⟨rfl,Int.emod_nonneg _ (by omega),Int.emod_lt_of_pos _ hm⟩
variable {α β σ ρ:Type}
theorem JkT [Inhabited α] {l:List α} {i:Int} (h:0<=i) (h':i<l.length):idx l i=some (l.getD i.toNat default):=by
 unfold idx
 rw [if_pos h,JlI,Jlz (by omega)];rfl
theorem Mz [Inhabited α] {l:List α} {i:Nat} (h:i<l.length):idx l (i:Int)=some (l.getD i default):=by
 rw [JkT (by omega) (by omega),JlJ]
theorem Xm {l:List α} {a b:Int} (h:0<=a) (h1:a<=b) (h2:b<=l.length):sub l a b=some ((l.take b.toNat).drop a.toNat):=by
 unfold sub;rw [if_pos ⟨h,h1,h2⟩]
theorem Pr {l:List α} {k:Nat} (h:k<=l.length):sub l 0 (k:Int)=some (l.take k):=by
 rw [Xm (by omega) (by omega) (by omega)];simp
theorem S9 {eb:Nat} {k:Int} {z:α} (h:0<=k) (h':k.toNat*eb<=70368744177664):mkl eb k z=some (List.replicate k.toNat z):=by
 unfold mkl;rw [if_pos ⟨h,h'⟩]
theorem MY {b:Bool} (h:b=true):Bn b=some ():=by subst h;rfl
theorem Yv {body:σ->Option (σ⊕ρ)} {r:ρ} (st:Nat->σ) (k:Nat) (step:∀ i,i<k->body (st i)=some (.inl (st (i+1)))) (last:body (st k)=some (.inr r)):∀ n,k<n->whl body n (st 0)=some r:=by
 have key:∀ (j n i:Nat),i+j=k->j<n->whl body n (st i)=some r:=by
  intro j
  induction j with
  | zero=>
   intro n i hi hn
   cases n with
   | zero=>omega
   | succ n=>
    have:i=k:=by omega
    subst this;simp only [whl,last]
  | succ j ih=>
   intro n i hi hn
   cases n with
   | zero=>omega
   | succ n=>simp only [whl,step i (by omega)];exact ih n (i+1) (by omega) (by omega)
 intro n hn
 exact key k n 0 (by omega) hn
theorem Ev.to {body:Nat->σ->Option (σ⊕ρ)} {r:ρ} (st:Nat->σ) (k:Nat) (h:∃ N,∀ n,N<=n->(∀ i,i<k->body n (st i)=some (.inl (st (i+1))))/\body n (st k)=some (.inr r)):Ev (λ n=>Go.AI.whl (body n) n (st 0)) r:=by
 obtain ⟨N,h⟩:=h
 exact ⟨max N (k+1),λ n hn=>Yv st k (h n (by omega)).1 (h n (by omega)).2 n (by omega)⟩
def I7 (N:Nat) (stop:Nat->Option ρ) (d:ρ):ρ:=((List.range N).findSome? stop).getD d
theorem Jan {N:Nat} {stop:Nat->Option ρ} {d:ρ} (h:∀ i,i<N->stop i=none):I7 N stop d=d:=by
 unfold I7
 rw [List.findSome?_eq_none_iff.2 λ i hi=>h i (List.mem_range.1 hi)];rfl
theorem Jao {N:Nat} {stop:Nat->Option ρ} {d r:ρ} (k:Nat) (hk:k<N) (hr:stop k=some r) (h:∀ i,i<k->stop i=none):I7 N stop d=r:=by
 unfold I7
 have:(List.range N).findSome? stop=some r:=by
  have e:List.range N=List.range k++(List.range (N-k)).map (k+·):=by rw [← List.range_add];congr 1;omega
  rw [e,List.findSome?_append,List.findSome?_eq_none_iff.2 λ i hi=>h i (List.mem_range.1 hi)]
  have:N-k=(N-k-1)+1:=by omega
  rw [this,List.range_succ_eq_map]
  simp [hr]
 rw [this];rfl
theorem TR (N:Nat) (stop:Nat->Option ρ) (d:ρ):((∀ i,i<N->stop i=none)/\I7 N stop d=d)\/∃ k r,k<N/\stop k=some r/\(∀ i,i<k->stop i=none)/\I7 N stop d=r:=by
 by_cases h:∀ i,i<N->stop i=none
 ·exact .inl ⟨h,Jan h⟩
 ·right
  have hex:∃ k,k<N/\stop k≠none:=by
   apply Classical.byContradiction
   intro hh
   exact h λ i hi=>Classical.byContradiction λ hn=>hh ⟨i,hi,hn⟩
  have key:∀ m,(∃ k,k<m/\k<N/\stop k≠none)->∃ k,k<N/\stop k≠none/\∀ i,i<k->stop i=none:=by
   intro m
   induction m with
   | zero=>rintro ⟨k,hk,_⟩;omega
   | succ m ih=>
    rintro ⟨k,hk,h1,h2⟩
    by_cases hm:∃ k,k<m/\k<N/\stop k≠none
    ·exact ih hm
    ·refine ⟨k,h1,h2,λ i hi=>Classical.byContradiction λ hn=>hm ⟨i,by omega,by omega,hn⟩⟩
  obtain ⟨k0,h1,h2⟩:=hex
  obtain ⟨k,h3,h4,h5⟩:=key (k0+1) ⟨k0,by omega,h1,h2⟩
  obtain ⟨r,hr⟩:=Option.ne_none_iff_exists'.1 h4
  exact ⟨k,r,h3,hr,h5,Jao k h3 hr h5⟩
theorem Jap {body:Int->Option (Int⊕ρ)} {N:Nat} (stop:Nat->Option ρ) {d:ρ} (h1:∀ i,i<N->body (i:Int)=some (match stop i with|some r=>.inr r|none=>.inl ((i+1:Nat):Int))) (h2:body (N:Int)=some (.inr d)):∀ n,N<n->whl body n 0=some (I7 N stop d):=by
 intro n hn
 rcases TR N stop d with ⟨h,e⟩|⟨k,r,hk,hr,h,e⟩
 ·rw [e]
  exact Yv (λ i=>(i:Int)) N (λ i hi=>by rw [h1 i hi,h i hi]) h2 n hn
 ·rw [e]
  exact Yv (λ i=>(i:Int)) k (λ i hi=>by rw [h1 i (by omega),h i hi]) (by rw [h1 k hk,hr]) n (by omega)
theorem Ev.first {body:Nat->Int->Option (Int⊕ρ)} {N:Nat} (stop:Nat->Option ρ) {d:ρ} (h:∃ M,∀ n,M<=n->(∀ i,i<N->body n (i:Int)=some (match stop i with|some r=>.inr r|none=>.inl ((i+1:Nat):Int)))/\body n (N:Int)=some (.inr d)):Ev (λ n=>Go.AI.whl (body n) n 0) (I7 N stop d):=by
 obtain ⟨M,h⟩:=h
 exact ⟨max M (N+1),λ n hn=>Jap stop (h n (by omega)).1 (h n (by omega)).2 n (by omega)⟩
theorem Tot.gE {P:α->Prop} {c:Bool} {f:Nat->Option β} {d x:β} {g:Nat->β->Option α} (hc:c=true) (h:Ev f x) (k:Tot (λ n=>g n x) P):Tot (λ n=>(if c=true then f n else some d).bind (g n)) P:=by
 subst hc;exact Tot.bindE h k
theorem Tot.gF {P:α->Prop} {c:Bool} {f:Nat->Option β} {d:β} {g:Nat->β->Option α} (hc:c=false) (k:Tot (λ n=>g n d) P):Tot (λ n=>(if c=true then f n else some d).bind (g n)) P:=by
 subst hc;exact k
theorem Ev.many {f:Nat->Nat->Option α} {z:Nat->α} (N:Nat) (h:∀ i,i<N->Ev (λ n=>f n i) (z i)):∃ M,∀ n,M<=n->∀ i,i<N->f n i=some (z i):=by
 induction N with
 | zero=>exact ⟨0,λ n _ i hi=>by omega⟩
 | succ N ih=>
  obtain ⟨M1,h1⟩:=ih λ i hi=>h i (by omega)
  obtain ⟨M2,h2⟩:=h N (by omega)
  exact ⟨max M1 M2,λ n hn i hi=>by
   by_cases e:i=N
   ·subst e;exact h2 n (by omega)
   ·exact h1 n (by omega) i (by omega)⟩
end Go.AI
end
section
namespace Go.AI
def scan {ρ:Type} (N:Nat) (stop:Nat->Option ρ):Unit⊕ρ:=match (List.range N).findSome? stop with
 | some r=>.inr r
 | none=>.inl ()
theorem MZ {ρ:Type} {body:Nat->Int->Option (Int⊕(Unit⊕ρ))} (N:Nat) (stop:Nat->Option ρ)
  (h:∀ i,i<N->Ev (λ n=>body n (i:Int)) (match stop i with|some r=>.inr (.inr r)|none=>.inl ((i+1:Nat):Int)))
  (h2:Ev (λ n=>body n (N:Int)) (.inr (.inl ()))):Ev (λ n=>whl (body n) n 0) (AI.scan N stop):=by
 have key:∀ (k i:Nat),i+k=N->(List.range N).findSome? stop=((List.range k).map (i+·)).findSome? stop->∃ M c,∀ n fuel,M<=n->c<=fuel->whl (body n) fuel (i:Int)=some (AI.scan N stop):=by
  intro k
  induction k with
  | zero=>
   intro i hi hf
   have:i=N:=by omega
   subst this
   obtain ⟨M,hM⟩:=h2
   refine ⟨M,1,λ n fuel hn hfu=>?_⟩
   obtain ⟨fuel,rfl⟩:∃ f,fuel=f+1:=⟨fuel-1,by omega⟩
   have e:=hM n hn
   simp only at e
   simp only [AI.whl,e]
   unfold AI.scan
   rw [hf];rfl
  | succ k ih=>
   intro i hi hf
   obtain ⟨M,hM⟩:=h i (by omega)
   have hs:(List.range (k+1)).map (i+·)=i::(List.range k).map ((i+1)+·):=by
    rw [List.range_succ_eq_map]
    simp only [List.map_cons,Nat.add_zero,List.map_map,List.cons.injEq,true_and]
    apply List.map_congr_left
    intro a _
    simp only [Function.comp];omega
   rw [hs,List.findSome?_cons] at hf
   cases hst:stop i with
   | some r=>
    rw [hst] at hf hM
    refine ⟨M,1,λ n fuel hn hfu=>?_⟩
    obtain ⟨fuel,rfl⟩:∃ f,fuel=f+1:=⟨fuel-1,by omega⟩
    have e:=hM n hn
    simp only at e
    simp only [AI.whl,e]
    unfold AI.scan
    rw [hf]
   | none=>
    rw [hst] at hf hM
    obtain ⟨M2,c,h3⟩:=ih (i+1) (by omega) hf
    refine ⟨max M M2,c+1,λ n fuel hn hfu=>?_⟩
    obtain ⟨fuel,rfl⟩:∃ f,fuel=f+1:=⟨fuel-1,by omega⟩
    have e:=hM n (by omega)
    simp only at e
    simp only [AI.whl,e]
    exact h3 n fuel (by omega) (by omega)
 obtain ⟨M,c,hh⟩:=key N 0 (by omega) (by simp)
 exact ⟨max M c,λ m hm=>hh m m (by omega) (by omega)⟩
theorem M0 {ρ:Type} {N:Nat} {stop:Nat->Option ρ} (h:∀ i,i<N->stop i=none):scan N stop=.inl ():=by
 unfold scan
 rw [List.findSome?_eq_none_iff.2 λ i hi=>h i (List.mem_range.1 hi)]
theorem M3 {ρ:Type} {N:Nat} {stop:Nat->Option ρ} {i:Nat} (hi:i<N) (h:(stop i).isSome=true):∃ k r,k<N/\stop k=some r/\scan N stop=.inr r:=by
 unfold scan
 cases hf:(List.range N).findSome? stop with
 | none=>rw [List.findSome?_eq_none_iff.1 hf i (List.mem_range.2 hi)] at h;cases h
 | some r=>
  obtain ⟨k,hk,hr⟩:=List.exists_of_findSome?_eq_some hf
  exact ⟨k,r,List.mem_range.1 hk,hr,rfl⟩
def QQ (b:UInt8):Int:=(b.toNat:Int)
def Ek (b:UInt8):Bool:=decide (Ch .u8 (QQ b) 127>=32)&&decide (Ch .u8 (QQ b) 127<=126)
def Id (b:UInt8):Bool:=Ch .u8 (QQ b) 127==32
theorem Ta {s:List UInt8} {i:Nat} {b:UInt8} (h:s[i]? = some b):NX s (i:Int)=some (QQ b):=by
 rw [Pp (Aq h)]
 unfold NQ QQ
 rw [h];rfl
theorem Hg {i n:Nat} (h:i<n):decide ((i:Int)<((n:Nat):Int))=true:=by simpa using h
def Hu (s:List UInt8):Int×Int:=match scan s.length (λ i=>if Ek (s.getD i 0) then none else some ((i:Int),(60:Int))) with
 | .inl _=>(((s.length:Nat):Int),0)
 | .inr p=>p
theorem DH {α:Type} {l:List α} {i:Nat} {d:α} (h:i<l.length):l.getD i d=l[i]:=by
 rw [JlI,Jlz h];rfl
theorem Jfi {s:List UInt8} (hl:s.length<9223372036854775807):Ev (λ n=>FS n s) (Hu s):=by
 unfold FS Hu
 refine Ev.bind (MZ s.length (λ i=>if Ek (s.getD i 0) then none else some ((i:Int),(60:Int))) (λ i hi=>Ev.all λ n=>?_) (Ev.all λ n=>?_)) ?_
 ·unfold Fv
  have hg:s[i]? = some s[i]:=Jlz hi
  rw [if_pos (Hg hi),Ta hg,DH hi]
  have hc:DM n (QQ s[i])=some (Ek s[i]):=rfl
  simp only [Option.bind_some,hc]
  cases Ek s[i] with
  | true=>simp [Ic (show i<9223372036854775807 by omega)]
  | false=>simp
 ·unfold Fv
  rw [if_neg (by simp)]
 ·generalize scan s.length _=z;cases z<;>exact Ev.const
theorem JdF {s:List UInt8} (hl:s.length<9223372036854775807):Ev (λ n=>OZ n s) (Hu s):=by
 unfold OZ Hu
 refine Ev.bind (MZ s.length (λ i=>if Ek (s.getD i 0) then none else some ((i:Int),(60:Int))) (λ i hi=>Ev.all λ n=>?_) (Ev.all λ n=>?_)) ?_
 ·unfold II
  have hg:s[i]? = some s[i]:=Jlz hi
  rw [if_pos (Hg hi),Ta hg,DH hi]
  have hc:Jd n (QQ s[i])=some (Ek s[i]):=rfl
  simp only [Option.bind_some,hc]
  cases Ek s[i] with
  | true=>simp [Ic (show i<9223372036854775807 by omega)]
  | false=>simp
 ·unfold II
  rw [if_neg (by simp)]
 ·generalize scan s.length _=z;cases z<;>exact Ev.const
theorem Xn {s:List UInt8} (h:s.all Ek=true):Hu s=(((s.length:Nat):Int),0):=by
 unfold Hu
 rw [M0 λ i hi=>by rw [DH hi,List.all_eq_true.1 h _ (List.getElem_mem hi)];rfl]
theorem Jaq {s:List UInt8} (h:s.all Ek=false):(Hu s).2=60:=by
 rw [List.all_eq_false] at h
 obtain ⟨b,hb,hc⟩:=h
 obtain ⟨i,hi,e⟩:=List.getElem_of_mem hb
 unfold Hu
 obtain ⟨k,r,hk,hr,hs⟩:=M3 (stop:=λ i=>if Ek (s.getD i 0) then none else some ((i:Int),(60:Int))) hi (by
  rw [DH hi,e];simp only [Bool.not_eq_true] at hc;rw [hc];rfl)
 rw [hs]
 simp only at hr ⊢
 split at hr
 ·cases hr
 ·cases hr;rfl
theorem Uu {s:List UInt8} (hl:s.length<9223372036854775807):Ev (λ n=>H2 n s) (s.all Ek):=by
 unfold H2
 refine Ev.bind (JdF hl) ?_
 cases h:s.all Ek with
 | true=>rw [Xn h];exact Ev.const
 | false=>rw [Jaq h];exact Ev.const
def GH (r:Ay) (m:Int):Bool:=
 r.Print.all Ek&&decide (r.Print.length<=4)&&decide (1<=r.Cells.length)&&decide (r.Cells.length<=4) &&
 (decide (1<=r.Left)&&decide (r.Left<=63)&&decide (1<=r.Right)&&decide (r.Right<=63)&&decide (0<=r.From)&&decide (r.From<m)&&decide (0<=r.To)&&decide (r.To<m)) &&
 r.Cells.all (λ c=>decide (c<63)) &&
 (bif r.Print.any Id then decide (r.Print.length=1)&&decide (r.Cells.length=1)&&r.Cells.any (λ c=>c==0) else !r.Cells.any (λ c=>c==0))
end Go.AI
end
section
namespace Go.AI
theorem Jar {r:Ay} (hl:r.Print.length<9223372036854775807):Ev (λ n=>whl (λ (x:(Bool×Int))=>EB n r x.1 x.2) n (false,0)) (r.Print.any Id):=by
 refine Ev.whl (body:=λ n x=>EB n r x.1 x.2) (λ k x=>∃ i:Nat,x.2=(i:Int)/\i<=r.Print.length/\k=r.Print.length-i/\x.1=(r.Print.take i).any Id) ?_ r.Print.length (false,0) ⟨0,rfl,by omega,by omega,by simp⟩
 rintro k ⟨b,i'⟩ ⟨i,h1,hi,rfl,h2⟩
 simp only at h1 h2
 subst h1
 subst h2
 rcases Nat.lt_or_ge i r.Print.length with hlt|hge
 ·left
  have hg:r.Print[i]? = some r.Print[i]:=Jlz hlt
  have hcond:decide ((i:Int)<((r.Print.length:Nat):Int))=true:=by simpa using hlt
  refine ⟨((r.Print.take (i+1)).any Id,((i+1:Nat):Int)),r.Print.length-(i+1),by omega,⟨i+1,rfl,by omega,rfl,rfl⟩,Ev.all λ n=>?_⟩
  unfold EB
  rw [if_pos hcond]
  have ht:(r.Print.take (i+1)).any Id=((r.Print.take i).any Id||Id r.Print[i]):=by
   rw [List.take_add_one,hg];simp only [Option.toList_some,List.any_append,List.any_cons,List.any_nil,Bool.or_false]
  have hsp:∀ n,PT n (QQ r.Print[i])=some (Id r.Print[i]):=λ n=>rfl
  rw [ht,Qm (by omega) (by omega),Ta hg]
  cases (r.Print.take i).any Id with
  | true=>simp
  | false=>simp [hsp]
 ·right
  have e:i=r.Print.length:=by omega
  subst e
  refine Ev.all λ n=>?_
  unfold EB
  rw [if_neg (by simp),List.take_length]
theorem Ev.upto {σ ρ:Type} {body:Nat->σ->Option (σ⊕ρ)} {R:ρ->Prop} (N:Nat) (I:Nat->σ->Prop)
  (step:∀ i x,i<N->I i x->(∃ y,I (i+1) y/\Ev (λ n=>body n x) (.inl y))\/∃ r,R r/\Ev (λ n=>body n x) (.inr r))
  (last:∀ x,I N x->∃ r,R r/\Ev (λ n=>body n x) (.inr r)) (x:σ) (h0:I 0 x):∃ r,R r/\Ev (λ n=>Go.AI.whl (body n) n x) r:=by
 refine Ev.whlR (body:=body) (λ k x=>∃ i,i<=N/\k=N-i/\I i x) ?_ N x ⟨0,by omega,by omega,h0⟩
 rintro k x ⟨i,hi,rfl,hx⟩
 rcases Nat.lt_or_ge i N with hlt|hge
 ·rcases step i x hlt hx with ⟨y,hy,hE⟩|h
  ·exact .inl ⟨y,N-(i+1),by omega,⟨i+1,by omega,rfl,hy⟩,hE⟩
  ·exact .inr h
 ·have:i=N:=by omega
  subst this
  exact .inr (last x hx)
theorem Jas {r:Ay} (hl:r.Cells.length<9223372036854775807) (y:Bool):∃ z:Bool⊕Bool,(if r.Cells.all (λ c=>decide (c<63))=true then z=.inl (r.Cells.any (λ c=>c==0)) else z=.inr false)/\Ev (λ n=>whl (λ (x:(Bool×Int))=>DF n r y x.1 x.2) n (false,0)) z:=by
 refine Ev.upto (body:=λ n x=>DF n r y x.1 x.2) r.Cells.length (λ i x=>x.2=(i:Int)/\x.1=(r.Cells.take i).any (λ c=>c==0)/\(r.Cells.take i).all (λ c=>decide (c<63))=true) ?_ ?_ (false,0) ⟨rfl,by simp,by simp⟩
 ·rintro i ⟨b,i'⟩ hlt ⟨h1,h2,h3⟩
  simp only at h1 h2
  subst h1
  subst h2
  have hg:r.Cells[i]? = some r.Cells[i]:=Jlz hlt
  have hcond:decide ((i:Int)<((r.Cells.length:Nat):Int))=true:=by simpa using hlt
  by_cases hc:r.Cells[i]<63
  ·left
   refine ⟨((r.Cells.take (i+1)).any (λ c=>c==0),((i+1:Nat):Int)),⟨rfl,rfl,?_⟩,Ev.all λ n=>?_⟩
   ·rw [List.take_add_one,hg];simp only [Option.toList_some,List.all_append,h3,List.all_cons,decide_eq_true hc,List.all_nil,Bool.and_self]
   ·unfold DF
    have ht:(r.Cells.take (i+1)).any (λ c=>c==0)=((r.Cells.take i).any (λ c=>c==0)||r.Cells[i]==0):=by
     rw [List.take_add_one,hg];simp only [Option.toList_some,List.any_append,List.any_cons,List.any_nil,Bool.or_false]
    rw [if_pos hcond,KT hg,Option.bind_some,if_neg (by simpa using hc),ht,Qm (by omega) (by omega)]
    cases (r.Cells.take i).any (λ c=>c==0) with
    | true=>simp
    | false=>simp
  ·right
   refine ⟨.inr false,?_,Ev.all λ n=>?_⟩
   ·rw [if_neg]
    intro h
    rw [List.all_eq_true] at h
    exact hc (by simpa using h r.Cells[i] (List.getElem_mem hlt))
   ·unfold DF
    rw [if_pos hcond,KT hg,Option.bind_some,if_pos (by simp;omega)]
 ·rintro ⟨b,i'⟩ ⟨h1,h2,h3⟩
  simp only at h1 h2
  subst h1
  subst h2
  rw [List.take_length] at h3 ⊢
  refine ⟨.inl (r.Cells.any (λ c=>c==0)),by rw [if_pos h3],Ev.all λ n=>?_⟩
  unfold DF
  rw [if_neg (by simp)]
theorem JdG {r:Ay} (hp:r.Print.length<9223372036854775807) (hc:r.Cells.length<9223372036854775807) (m:Int):Ev (λ n=>MT n r m) (GH r m):=by
 obtain ⟨z,hz,hE⟩:=Jas hc (r.Print.any Id)
 have h1:=Uu hp
 have h2:=Jar (r:=r) hp
 unfold MT
 refine Ev.bind h1 ?_
 unfold GH
 generalize r.Print.all Ek=a
 by_cases g1:((((!a)||(decide (((r.Print.length:Nat):Int)>4)))||(decide (((r.Cells.length:Nat):Int)<1)))||(decide (((r.Cells.length:Nat):Int)>4)))=true
 ·simp only [g1,if_true]
  have:(a&&decide (r.Print.length<=4)&&decide (1<=r.Cells.length)&&decide (r.Cells.length<=4))=false:=by
   rw [← Bool.not_eq_true]
   intro h
   simp only [JlA,decide_eq_true_eq] at h
   simp only [JlT,decide_eq_true_eq,Bool.not_eq_true'] at g1
   rcases g1 with ((g|g)|g)|g
   ·rw [g] at h;simp at h
   all_goals omega
  rw [this]
  exact Ev.const
 ·simp only [g1]
  by_cases g2:((((((((decide (r.Left<1))||(decide (r.Left>63)))||(decide (r.Right<1)))||(decide (r.Right>63)))||(decide (r.From<0)))||(decide (r.From>=m)))||(decide (r.To<0)))||(decide (r.To>=m)))=true
  ·simp only [g2,if_true]
   have:(decide (1<=r.Left)&&decide (r.Left<=63)&&decide (1<=r.Right)&&decide (r.Right<=63)&&decide (0<=r.From)&&decide (r.From<m)&&decide (0<=r.To)&&decide (r.To<m))=false:=by
    rw [← Bool.not_eq_true]
    intro h
    simp only [JlA,decide_eq_true_eq] at h
    simp only [JlT,decide_eq_true_eq] at g2
    omega
   rw [this,Bool.and_false]
   exact Ev.const
  ·have e1:(a&&decide (r.Print.length<=4)&&decide (1<=r.Cells.length)&&decide (r.Cells.length<=4))=true:=by
    simp only [JlT,decide_eq_true_eq,Bool.not_eq_true',not_or] at g1
    simp only [JlA,decide_eq_true_eq]
    refine ⟨⟨⟨by simpa using g1.1.1.1,?_⟩,?_⟩,?_⟩<;>omega
   have e2:(decide (1<=r.Left)&&decide (r.Left<=63)&&decide (1<=r.Right)&&decide (r.Right<=63)&&decide (0<=r.From)&&decide (r.From<m)&&decide (0<=r.To)&&decide (r.To<m))=true:=by
    simp only [JlT,decide_eq_true_eq,not_or] at g2
    simp only [JlA,decide_eq_true_eq]
    omega
   rw [e1,e2]
   simp only [g2,JlM,if_false]
   refine Ev.bind h2 (Ev.bind hE ?_)
   split at hz
   ·rename_i h
    subst hz
    rw [h]
    generalize r.Print.any Id=b
    cases b with
    | false=>exact Ev.const
    | true=>
     refine Ev.all λ n=>?_
     simp only [Bool.not_true,JlM,if_false,Bool.and_true,Bool.true_and,cond_true]
     congr 3<;>rw [Bool.eq_iff_iff]<;>simp<;>omega
   ·rename_i h
    subst hz
    rw [Bool.not_eq_true] at h
    rw [h]
    exact Ev.const
end Go.AI
end
section
namespace Go.AI
theorem Ev.iteT {α:Type} {c:Bool} {a b:Nat->Option α} {z:α} (h:c=true) (k:Ev a z):Ev (λ n=>if c=true then a n else b n) z:=by subst h;exact k
theorem Ev.iteF {α:Type} {c:Bool} {a b:Nat->Option α} {z:α} (h:c=false) (k:Ev b z):Ev (λ n=>if c=true then a n else b n) z:=by subst h;exact k
theorem Ev.bindC {α β:Type} {x:Option β} {y:β} {g:Nat->β->Option α} {z:α} (h:x=some y) (k:Ev (λ n=>g n y) z):Ev (λ n=>x.bind (g n)) z:=by subst h;exact k
theorem Ev.guard {α β:Type} {c:Bool} {f:Nat->Option β} {d x:β} {g:Nat->β->Option α} {z:α} (h:c=true->Ev f x) (k:Ev (λ n=>g n (if c=true then x else d)) z):Ev (λ n=>(if c=true then f n else some d).bind (g n)) z:=by
 cases c with
 | true=>exact Ev.bind (h rfl) k
 | false=>exact k
theorem Yw {α β:Type} {a:List α} {b:List β}:(((a.length:Nat):Int) != ((b.length:Nat):Int))=decide (a.length≠b.length):=by
 rw [Bool.eq_iff_iff]
 simp only [bne_iff_ne,ne_eq,decide_eq_true_eq]
 omega
theorem Uv {α:Type} [DecidableEq α] [Inhabited α] (a b:List α) (h:a.length=b.length):scan a.length (λ i=>if a.getD i default=b.getD i default then none else some false)=if a=b then .inl () else .inr false:=by
 by_cases e:a=b
 ·subst e
  rw [if_pos rfl]
  exact M0 λ i _=>by rw [if_pos rfl]
 ·rw [if_neg e]
  have:∃ i,i<a.length/\a.getD i default≠b.getD i default:=by
   apply Classical.byContradiction
   intro hn
   refine e (List.ext_getElem h λ i h1 h2=>?_)
   have:=Classical.byContradiction λ hc=>hn ⟨i,h1,hc⟩
   rwa [DH h1,DH h2] at this
  obtain ⟨i,hi,hne⟩:=this
  obtain ⟨k,r,_,hr,hs⟩:=M3 (stop:=λ i=>if a.getD i default=b.getD i default then none else some false) hi (by rw [if_neg hne];rfl)
  rw [hs]
  split at hr
  ·cases hr
  ·cases hr;rfl
theorem VI (a b:List Int) (ha:a.length<9223372036854775807):Ev (λ n=>Dc n a b) (decide (a=b)):=by
 unfold Dc
 rw [Yw]
 by_cases h:a.length=b.length
 ·refine Ev.iteF (by simp [h]) ?_
  refine Ev.bind (MZ a.length (λ i=>if a.getD i default=b.getD i default then none else some false) (λ i hi=>Ev.all λ n=>?_) (Ev.all λ n=>?_)) ?_
  ·unfold CJ
   rw [if_pos (Hg hi),Mz hi,Mz (by omega)]
   simp only [Option.bind_some]
   by_cases e:a.getD i default=b.getD i default
   ·rw [if_neg (by simp only [bne_iff_ne,ne_eq];exact λ hh=>hh e),if_pos e,Ic (by omega)]
   ·rw [if_pos (by simp only [bne_iff_ne,ne_eq];exact e),if_neg e]
  ·unfold CJ
   rw [if_neg (by simp)]
  ·rw [Uv a b h]
   by_cases e:a=b
   ·rw [if_pos e,decide_eq_true e];exact Ev.const
   ·rw [if_neg e,decide_eq_false e];exact Ev.const
 ·refine Ev.iteT (by simp [h]) ?_
  rw [decide_eq_false (λ e=>h (by rw [e]))]
  exact Ev.const
theorem Jfj (a b:Ay):decide (a=b)=(a.Print==b.Print&&decide (a.Cells=b.Cells)&&a.Left==b.Left&&a.Right==b.Right&&a.From==b.From&&a.To==b.To):=by
 rw [Bool.eq_iff_iff]
 cases a;cases b
 simp only [decide_eq_true_eq,Ay.mk.injEq,JlA,beq_iff_eq]
 exact ⟨λ ⟨h1,h2,h3,h4,h5,h6⟩=>⟨⟨⟨⟨⟨h1,h2⟩,h3⟩,h4⟩,h5⟩,h6⟩,λ ⟨⟨⟨⟨⟨h1,h2⟩,h3⟩,h4⟩,h5⟩,h6⟩=>⟨h1,h2,h3,h4,h5,h6⟩⟩
theorem Xo (a b:Ay) (ha:a.Cells.length<9223372036854775807):Ev (λ n=>HF n a b) (decide (a=b)):=by
 unfold HF
 refine Ev.guard (λ _=>VI a.Cells b.Cells ha) (Ev.all λ n=>?_)
 rw [Jfj]
 cases h:(a.Print==b.Print)<;>simp
end Go.AI
end
section
namespace Go.AI
def JdH (r:Ay):Prop:=r.Print.length<9223372036854775807/\r.Cells.length<9223372036854775807
def KW (t:Ad):Prop:=t.Rules.length<9223372036854775807/\∀ r∈t.Rules,JdH r
def Jat (t:Ad) (i:Nat):Unit⊕(Int×Int):=scan i (λ k=>if t.Rules.getD k default=t.Rules.getD i default then some ((i:Int),(20:Int)) else none)
def MA (t:Ad) (i:Nat):Option (Int×Int):=if GH (t.Rules.getD i default) t.Modes=true then (match Jat t i with | .inl _=>none | .inr p=>some p) else some ((i:Int),20)
def Yx (t:Ad):Bool:=decide (t.Modes<1)||decide (t.Modes>8)||(t.Accept==0)||decide (IntKind.i64.wrap t.Accept>=Tr .i64 1 t.Modes)||decide (((t.Rules.length:Nat):Int)<1)||decide (((t.Rules.length:Nat):Int)>64)
def VJ (t:Ad):Int×Int:=if Yx t=true then (-1,1) else match scan t.Rules.length (MA t) with
 | .inl _=>(0,0)
 | .inr p=>p
theorem KW.get {t:Ad} (h:KW t) {i:Nat} (hi:i<t.Rules.length):JdH (t.Rules.getD i default):=by
 rw [DH hi];exact h.2 _ (List.getElem_mem hi)
theorem Jau {t:Ad} (ht:KW t) {i:Nat} (hi:i<t.Rules.length):Ev (λ n=>whl (λ (x:Int)=>FT n t (i:Int) x) n 0) (Jat t i):=by
 refine MZ i _ (λ k hk=>?_) (Ev.all λ n=>?_)
 ·unfold FT
  refine Ev.iteT (by simpa using hk) (Ev.bindC (Mz (by omega)) (Ev.bindC (Mz hi) (Ev.bind (Xo _ _ (ht.get (by omega)).2) (Ev.all λ n=>?_))))
  by_cases e:t.Rules.getD k default=t.Rules.getD i default
  ·rw [if_pos (decide_eq_true e),if_pos e]
  ·rw [if_neg (by simpa using e),if_neg e,Ic (by have:=ht.1;omega)]
 ·unfold FT
  rw [if_neg (by simp)]
theorem Jav {t:Ad} (ht:KW t):Ev (λ n=>whl (λ (x:Int)=>FU n t x) n 0) (scan t.Rules.length (MA t)):=by
 refine MZ _ _ (λ i hi=>?_) (Ev.all λ n=>?_)
 ·unfold FU
  refine Ev.iteT (Hg hi) (Ev.bindC (Mz hi) (Ev.bind (JdG (ht.get hi).1 (ht.get hi).2 t.Modes) ?_))
  unfold MA
  cases GH (t.Rules.getD i default) t.Modes with
  | false=>exact Ev.iteT rfl Ev.const
  | true=>
   refine Ev.iteF rfl (Ev.bind (Jau ht hi) ?_)
   cases Jat t i with
   | inl u=>refine Ev.all λ n=>?_;simp [Ic (show i<9223372036854775807 by have:=ht.1;omega)]
   | inr p=>exact Ev.const
 ·unfold FU
  rw [if_neg (by simp)]
theorem JdI {t:Ad} (ht:KW t):Ev (λ n=>MU n t) (VJ t):=by
 unfold MU VJ
 refine Ev.bindC (y:=()) ?_ ?_
 ·split
  ·rename_i h
   simp only [Bool.not_eq_true',Bool.or_eq_false_iff,decide_eq_false_iff_not] at h
   exact MY (by simp;omega)
  ·rfl
 ·show Ev (λ n=>if Yx t=true then _ else _) _
  cases Yx t with
  | true=>exact Ev.iteT rfl Ev.const
  | false=>
   refine Ev.iteF rfl (Ev.bind (Jav ht) ?_)
   generalize scan t.Rules.length _=z
   cases z<;>exact Ev.const
def Fm (t:Ad):Bool:=!Yx t&&t.Rules.all (λ r=>GH r t.Modes)&&decide t.Rules.Nodup
theorem VK (t:Ad):((VJ t).2==0)=Fm t:=by
 unfold VJ Fm
 cases Yx t with
 | true=>rfl
 | false=>
  simp only [JlM,if_false,Bool.not_false,Bool.true_and]
  have h20:∀ i p,MA t i=some p->p.2=20:=by
   intro i p h
   unfold MA at h
   split at h
   ·split at h
    ·cases h
    ·rename_i q hq
     cases h
     unfold Jat scan at hq
     split at hq
     ·rename_i r hr
      cases hq
      obtain ⟨k,_,hk⟩:=List.exists_of_findSome?_eq_some hr
      split at hk
      ·cases hk;rfl
      ·cases hk
     ·cases hq
   ·cases h;rfl
  have hiff:(∀ i,i<t.Rules.length->MA t i=none)↔(t.Rules.all (λ r=>GH r t.Modes)&&decide t.Rules.Nodup)=true:=by
   simp only [JlA,List.all_eq_true,decide_eq_true_eq]
   constructor
   ·intro h
    have hs:∀ i,i<t.Rules.length->GH (t.Rules.getD i default) t.Modes=true:=by
     intro i hi
     have:=h i hi
     unfold MA at this
     split at this
     ·assumption
     ·cases this
    refine ⟨λ r hr=>?_,?_⟩
    ·obtain ⟨i,hi,e⟩:=List.getElem_of_mem hr
     have:=hs i hi
     rwa [DH hi,e] at this
    ·rw [List.Nodup,List.pairwise_iff_getElem]
     intro k i hk hi hlt e
     have h0:=h i hi
     unfold MA at h0
     rw [if_pos (hs i hi)] at h0
     obtain ⟨_,r,_,_,hsc⟩:=M3 (N:=i) (stop:=λ k=>if t.Rules.getD k default=t.Rules.getD i default then some ((i:Int),(20:Int)) else none) hlt (by rw [DH hk,DH hi,if_pos e];rfl)
     unfold Jat at h0
     rw [hsc] at h0
     cases h0
   ·rintro ⟨h1,h2⟩ i hi
    unfold MA
    rw [if_pos (by rw [DH hi];exact h1 _ (List.getElem_mem hi))]
    have:Jat t i=.inl ():=M0 λ k hk=>by
     rw [DH (show k<t.Rules.length by omega),DH hi,if_neg]
     rw [List.Nodup,List.pairwise_iff_getElem] at h2
     exact h2 k i (by omega) hi hk
    rw [this]
  cases hv:(t.Rules.all (λ r=>GH r t.Modes)&&decide t.Rules.Nodup) with
  | true=>rw [M0 (hiff.2 hv)];rfl
  | false=>
   have:¬∀ i,i<t.Rules.length->MA t i=none:=λ h=>by rw [hiff.1 h] at hv;cases hv
   have:∃ i,i<t.Rules.length/\MA t i≠none:=Classical.byContradiction λ hn=>this λ i hi=>Classical.byContradiction λ hc=>hn ⟨i,hi,hc⟩
   obtain ⟨i,hi,hne⟩:=this
   obtain ⟨k,r,_,hr,hs⟩:=M3 hi (Option.isSome_iff_ne_none.2 hne)
   rw [hs]
   show (r.2==0)=false
   rw [h20 k r hr];rfl
theorem JdJ {t:Ad} (ht:KW t):Ev (λ n=>PU n t) (Fm t):=by
 rw [← VK]
 exact Ev.bind (JdI ht) Ev.const
theorem Yy {t:Ad} {l:List Ay} (h:Fm t=true) (hl:l.Sublist t.Rules) (h1:1<=l.length):Fm ⟨t.Modes,t.Accept,l⟩=true:=by
 unfold Fm Yx at h ⊢
 simp only [JlA,Bool.not_eq_true',Bool.or_eq_false_iff,decide_eq_false_iff_not,List.all_eq_true,decide_eq_true_eq] at h ⊢
 have hle:=hl.length_le
 exact ⟨⟨⟨⟨h.1.1.1.1,by omega⟩,by omega⟩,λ r hr=>h.1.2 r (hl.subset hr)⟩,hl.nodup h.2⟩
theorem HM {t:Ad} (h:Fm t=true):∀ r∈t.Rules,GH r t.Modes=true:=by
 unfold Fm at h
 simp only [JlA,List.all_eq_true] at h
 exact h.1.2
end Go.AI
end
section
namespace Go.AI
def Xp (r:Int):Ad:=(JG 0 r).getD default
theorem VL (n:Nat) (k:Int) (h0:0<=k):JG n k=some (Xp (A9 k 8))/\0<=A9 k 8/\A9 k 8<8:=by
 have e:A9 k 8=k % 8:=by unfold A9;rw [Int.tmod_eq_emod_of_nonneg h0]
 have hr:A9 k 8=0\/A9 k 8=1\/A9 k 8=2\/A9 k 8=3\/A9 k 8=4\/A9 k 8=5\/A9 k 8=6\/A9 k 8=7:=by rw [e];omega
 rcases hr with h|h|h|h|h|h|h|h
 all_goals
  refine ⟨?_,by omega,by omega⟩
  unfold JG
  rw [h]
  rfl
def VM (r:Ay):Bool:=decide (0<=r.To)&&decide (r.To<2)&&decide (0<=r.Right)&&decide (r.Right<=63)&&decide (r.Print.length<=3)
theorem Yz {r:Ay} (h:VM r=true):On r:=by
 simp only [VM,JlA,decide_eq_true_eq] at h
 obtain ⟨⟨⟨⟨h1,h2⟩,h3⟩,h4⟩,h5⟩:=h
 exact ⟨h1,h2,h3,h4,h5⟩
def VN (t:Ad):Bool:=decide (t.Rules.length<=8)&&t.Rules.all VM&&decide (1<=t.Modes)&&decide (t.Modes<=2)&&Fm t
theorem Jfk {r:Int} (h:0<=r) (h':r<8):VN (Xp r)=true:=by
 have:∀ k:Nat,k<8->VN (Xp (k:Int))=true:=by decide +kernel
 have e:=this r.toNat (by omega)
 rwa [Int.toNat_of_nonneg h] at e
def U8 (n:Int):Prop:=0<=n/\n<256
def Zc (x:Dq):Prop:=(∀ a∈x.P,U8 a)/\(∀ a∈x.C,U8 a)/\U8 x.L/\U8 x.R/\U8 x.W.a0/\U8 x.W.a1
theorem El {a m:Int} (h:0<=a) (hm:0<m):0<=A9 a m/\A9 a m<m:=(Qo h hm).2
theorem Oo {α:Type} {l:List α} {i:Int} (h:0<=i) (h':i<l.length):∃ x,x∈l/\idx l i=some x:=by
 have hl:i.toNat<l.length:=by omega
 refine ⟨l[i.toNat],List.getElem_mem hl,?_⟩
 unfold idx
 rw [if_pos h]
 exact Jlz hl
theorem Jfl {α:Type} {l:List α} {i:Int} (h:0<=i) (h':i<l.length):∃ z,z.length=1/\sub l i (i+1)=some z:=by
 refine ⟨(l.take (i+1).toNat).drop i.toNat,?_,?_⟩
 ·simp;omega
 ·unfold sub
  rw [if_pos (by omega)]
def Zd (a b:Ay):Prop:=a.Left=b.Left/\a.Right=b.Right/\a.From=b.From/\a.To=b.To
theorem JdK (x:Dq) (hx:∀ a∈x.P,U8 a) (r0:Ay) (h0:r0.Print=[]):Tot (λ n=>whl (λ (y:(Ay×Int))=>FA n x y.1 y.2) n (r0,0)) (λ r=>r.Print.length<=3/\Zd r r0):=by
 refine Tot.upto (body:=λ n y=>FA n x y.1 y.2) (min x.P.length 3) (λ i y=>y.2=(i:Int)/\y.1.Print.length=i/\Zd y.1 r0) ?_ ?_ (r0,0) ⟨rfl,by simp [h0],rfl,rfl,rfl,rfl⟩
 ·rintro i ⟨r,i'⟩ hi ⟨h1,h2,h3⟩
  simp only at h1 h2 h3
  subst h1
  obtain ⟨c,hcm,hci⟩:=Oo (l:=x.P) (i:=(i:Int)) (by omega) (by omega)
  have hu:=hx c hcm
  have hr:=El (m:=9) hu.1 (by omega)
  have hw:IntKind.i64.wrap (A9 c 9)=A9 c 9:=S5 (by omega) (by omega)
  obtain ⟨z,hz1,hz⟩:=Jfl (l:=([97,98,99,65,66,49,50,45,46]:List UInt8)) (i:=A9 c 9) hr.1 (by simpa using hr.2)
  unfold FA
  refine Tot.iteT (by simp only [JlA,decide_eq_true_eq];omega) (Tot.bindC hci ?_)
  simp only [hw]
  rw [EJ (by omega) (by omega)]
  refine Tot.bindC hz (Tot.bindC (Qn (by omega)) (Tot.pure ⟨Ic (by omega),by simp [h2,hz1],h3⟩))
 ·rintro ⟨r,i'⟩ ⟨h1,h2,h3⟩
  simp only at h1 h2 h3
  subst h1
  unfold FA
  exact Tot.iteF (by rw [← Bool.not_eq_true];simp only [JlA,decide_eq_true_eq];omega) (Tot.pure ⟨by show r.Print.length<=3;omega,h3⟩)
theorem JdL (x:Dq) (hx:∀ a∈x.C,U8 a) (r0:Ay) (h0:r0.Cells.length=1):Tot (λ n=>whl (λ (y:(Ay×Int))=>FB n x y.1 y.2) n (r0,0)) (λ r=>(r.Cells.length<=3/\1<=r.Cells.length)/\r.Print=r0.Print/\Zd r r0):=by
 refine Tot.upto (body:=λ n y=>FB n x y.1 y.2) (min x.C.length 2) (λ i y=>y.2=(i:Int)/\y.1.Cells.length=i+1/\y.1.Print=r0.Print/\Zd y.1 r0) ?_ ?_ (r0,0) ⟨rfl,by simp [h0],rfl,rfl,rfl,rfl,rfl⟩
 ·rintro i ⟨r,i'⟩ hi ⟨h1,h2,h3,h4⟩
  simp only at h1 h2 h3 h4
  subst h1
  obtain ⟨c,hcm,hci⟩:=Oo (l:=x.C) (i:=(i:Int)) (by omega) (by omega)
  have hu:=hx c hcm
  have hr:=El (m:=8) hu.1 (by omega)
  obtain ⟨z,_,hz⟩:=Oo (l:=([1,3,9,5,7,32,44,60]:List Int)) (i:=A9 c 8) hr.1 (by simpa using hr.2)
  unfold FB
  refine Tot.iteT (by simp only [JlA,decide_eq_true_eq];omega) (Tot.bindC hci (Tot.bindC hz (Tot.bindC (KU (by simp;omega)) (Tot.pure ⟨Ic (by omega),by simp [h2],h3,h4⟩))))
 ·rintro ⟨r,i'⟩ ⟨h1,h2,h3,h4⟩
  simp only at h1 h2 h3 h4
  subst h1
  unfold FB
  exact Tot.iteF (by rw [← Bool.not_eq_true];simp only [JlA,decide_eq_true_eq];omega) (Tot.pure ⟨by show r.Cells.length<=3/\1<=r.Cells.length;omega,h3,h4⟩)
theorem Jfm {x:Dq} (hx:Zc x) {m:Int} (hm:1<=m) (hm':m<=2):Tot (λ n=>OY n x m) (λ r=>On r/\(r.Cells.length<=3/\1<=r.Cells.length)/\0<=r.From/\r.From<m/\0<=r.To/\r.To<m):=by
 obtain ⟨hP,hC,hL,hR,hW0,hW1⟩:=hx
 have l8:=El (m:=8) hL.1 (by omega)
 have r8:=El (m:=8) hR.1 (by omega)
 obtain ⟨a,ham,ha⟩:=Oo (l:=([63,63,2,8,17,62,4,1]:List Int)) (i:=A9 x.L 8) l8.1 (by simpa using l8.2)
 obtain ⟨b,hbm,hb⟩:=Oo (l:=([63,63,2,8,17,62,4,1]:List Int)) (i:=A9 x.R 8) r8.1 (by simpa using r8.2)
 have hq:0<=Jeu .u8 x.L 8:=by unfold Jeu;exact (Xg _).1
 have q8:=El (m:=8) hq (by omega)
 obtain ⟨c,_,hc⟩:=Oo (l:=([1,3,9,5,7,32,44,60]:List Int)) (i:=A9 (Jeu .u8 x.L 8) 8) q8.1 (by simpa using q8.2)
 have hg:Bn (!(m==0))=some ():=MY (by simp;omega)
 have w0:IntKind.i64.wrap x.W.a0=x.W.a0:=S5 (by have:=hW0.1;omega) (by have:=hW0.2;omega)
 have w1:IntKind.i64.wrap x.W.a1=x.W.a1:=S5 (by have:=hW1.1;omega) (by have:=hW1.2;omega)
 have hfr:=El (a:=x.W.a0) (m:=m) hW0.1 (by omega)
 have hto:=El (a:=x.W.a1) (m:=m) hW1.1 (by omega)
 have hbr:0<=b/\b<=63:=by
  simp at hbm
  omega
 unfold OY
 refine Tot.bindC ha (Tot.bindC hb (Tot.bindC hg (Tot.bindC hg (Tot.bind (JdK x hP _ rfl) ?_))))
 rintro r1 ⟨p1,p2,p3,p4,p5⟩
 refine Tot.bindC hc (Tot.bind (JdL x hC _ rfl) ?_)
 rintro r2 ⟨q1,q2,q3,q4,q5,q6⟩
 simp only at q2 q3 q4 q5 q6
 rw [p3] at q4
 rw [p4] at q5
 rw [p5] at q6
 simp only [w0,w1] at q5 q6 q4
 refine Tot.pure ⟨⟨?_,?_,?_,?_,?_⟩,q1,?_,?_,?_,?_⟩
 all_goals first|(rw [q6];omega)|(rw [q4];omega)|(rw [q5];omega)|(rw [q2];exact p1)
def Ps (x:Nf):Prop:=0<=x.Base/\∀ r∈x.More,Zc r
structure Jr (t:Ad):Prop where
 tab:Ht t
 lo:1<=t.Modes
 hi:t.Modes<=2
 valid:Fm t=true
theorem Jr.sound {t:Ad} (h:Jr t):∀ r∈t.Rules,GH r t.Modes=true:=HM h.valid
theorem Ie {r:Ay} {m:Int} (h:GH r m=true):r.Print.length<=4/\1<=r.Cells.length/\r.Cells.length<=4:=by
 simp only [GH,JlA,decide_eq_true_eq] at h
 omega
theorem Jr.small {t:Ad} (h:Jr t):KW t:=⟨by have:=h.tab.1;omega,λ r hr=>by have:=Ie (h.sound r hr);exact ⟨by omega,by omega⟩⟩
theorem JdM (x:Nf) (b:Ad) (hb:b.Rules.length<=8):Tot (λ n=>whl (λ (y:(Ad×Int))=>FC n x b y.1 y.2) n (({ Modes:=b.Modes,Accept:=b.Accept,Rules:=[] }:Ad),0)) (λ t=>t.Modes=b.Modes/\t.Accept=b.Accept/\t.Rules.Sublist b.Rules):=by
 refine Tot.upto (body:=λ n y=>FC n x b y.1 y.2) b.Rules.length (λ i y=>y.2=(i:Int)/\y.1.Modes=b.Modes/\y.1.Accept=b.Accept/\y.1.Rules.Sublist (b.Rules.take i)) ?_ ?_ _ ⟨rfl,rfl,rfl,by simp⟩
 ·rintro i ⟨t,i'⟩ hi ⟨h1,h2,h3,h4⟩
  simp only at h1 h2 h3 h4
  subst h1
  have ht:b.Rules.take (i+1)=b.Rules.take i++[b.Rules.getD i default]:=by rw [List.take_add_one,DH hi,Jlz hi];rfl
  have hlen:=h4.length_le
  rw [List.length_take] at hlen
  unfold FC
  refine Tot.iteT (Hg hi) (Tot.bindC (MY (by simp)) (Tot.ite (λ _=>Tot.bindC (Mz hi) (Tot.bindC (KU (by simp;omega)) ?_)) λ _=>?_))
  ·unfold G2
   exact Tot.pure ⟨Ic (by omega),h2,h3,by rw [ht];exact h4.append (List.Sublist.refl _)⟩
  ·unfold G2
   exact Tot.pure ⟨Ic (by omega),h2,h3,by rw [ht];exact h4.trans (List.sublist_append_left _ _)⟩
 ·rintro ⟨t,i'⟩ ⟨h1,h2,h3,h4⟩
  simp only at h1 h2 h3 h4
  subst h1
  rw [List.take_length] at h4
  unfold FC
  exact Tot.iteF (by simp) (Tot.pure ⟨h2,h3,h4⟩)
structure Jjk (b t:Ad):Prop where
 modes:t.Modes=b.Modes
 accept:t.Accept=b.Accept
 rules:∀ r∈t.Rules,On r/\r.Cells.length<=4
 valid:t.Rules=[]\/Fm t=true
theorem Jaw {t:Ad} (hl:t.Rules.length<=11) (h:∀ r∈t.Rules,On r/\r.Cells.length<=4):KW t:=⟨by omega,λ r hr=>⟨by have:=(h r hr).1.2.2.2.2;omega,by have:=(h r hr).2;omega⟩⟩
theorem JdN (x:Nf) (hx:∀ r∈x.More,Zc r) (b t0:Ad) (hlo:1<=b.Modes) (hhi:b.Modes<=2) (h0:Jjk b t0) (hl0:t0.Rules.length<=8):Tot (λ n=>whl (λ (y:(Ad×Int))=>FD n x b y.1 y.2) n (t0,0)) (λ t=>Jjk b t/\t.Rules.length<=10):=by
 refine Tot.upto (body:=λ n y=>FD n x b y.1 y.2) (min x.More.length 2) (λ i y=>y.2=(i:Int)/\Jjk b y.1/\y.1.Rules.length<=8+i) ?_ ?_ _ ⟨rfl,h0,by simpa using hl0⟩
 ·rintro i ⟨t,i'⟩ hi ⟨h1,h2,h3⟩
  simp only at h1 h2 h3
  subst h1
  unfold FD
  refine Tot.iteT (by simp only [JlA,decide_eq_true_eq];omega) (Tot.bindC (Fl (by omega)) ?_)
  rw [h2.modes]
  refine Tot.bind (Jfm (hx _ (List.getElem_mem _)) hlo hhi) ?_
  rintro r ⟨hr1,hr2,-⟩
  refine Tot.bindC (KU (by simp;omega)) ?_
  have hall:∀ q∈t.Rules++[r],On q/\q.Cells.length<=4:=by
   intro q hq
   simp only [List.mem_append,List.mem_singleton] at hq
   rcases hq with hq|rfl
   ·exact h2.rules q hq
   ·exact ⟨hr1,by omega⟩
  refine Tot.bindE (JdJ (Jaw (t:=⟨b.Modes,t.Accept,t.Rules++[r]⟩) (by simp;omega) hall)) ?_
  refine Tot.ite (λ _=>?_) λ hv=>?_
  ·have e:CI .i64 ((List.length (t.Rules++[r]):Nat):Int) 1=(t.Rules.length:Nat):=by
    rw [J2 (by simp<;>omega) (by simp<;>omega)];simp
   rw [e]
   refine Tot.bindC (Pr (by simp)) ?_
   unfold G3
   rw [List.take_left' rfl]
   exact Tot.pure ⟨Ic (by omega),⟨rfl,h2.accept,h2.rules,by have:=h2.valid;have hm:=h2.modes;cases t;simp only at hm this ⊢;subst hm;exact this⟩,by simp only;omega⟩
  ·unfold G3
   exact Tot.pure ⟨Ic (by omega),⟨rfl,h2.accept,hall,.inr (by simpa using hv)⟩,by simp;omega⟩
 ·rintro ⟨t,i'⟩ ⟨h1,h2,h3⟩
  simp only at h1 h2 h3
  subst h1
  unfold FD
  exact Tot.iteF (by rw [← Bool.not_eq_true];simp only [JlA,decide_eq_true_eq];omega) (Tot.pure ⟨h2,by show t.Rules.length<=10;omega⟩)
theorem Jax {x:Nf} (hx:Ps x):∃ t,(Jr t/\1<=t.Rules.length/\t.Rules.length<=10)/\Ev (λ n=>JH n x) t:=by
 have hb:∀ n,JG n x.Base=some (Xp (A9 x.Base 8)):=λ n=>(VL n x.Base hx.1).1
 have hok:=Jfk (VL 0 x.Base hx.1).2.1 (VL 0 x.Base hx.1).2.2
 generalize Xp (A9 x.Base 8)=b at *
 unfold VN at hok
 simp only [JlA,decide_eq_true_eq,List.all_eq_true] at hok
 obtain ⟨⟨⟨⟨o1,o2⟩,o3⟩,o4⟩,o5⟩:=hok
 have gb:∀ r∈b.Rules,On r/\r.Cells.length<=4:=λ r hr=>⟨Yz (o2 r hr),(Ie (HM o5 r hr)).2.2⟩
 have hne:∀ t:Ad,Fm t=true->1<=t.Rules.length:=λ t h=>by
  unfold Fm Yx at h
  simp only [JlA,Bool.not_eq_true',Bool.or_eq_false_iff,decide_eq_false_iff_not] at h
  omega
 have:Tot (λ n=>JH n x) (λ t=>Jr t/\1<=t.Rules.length/\t.Rules.length<=10):=by
  unfold JH
  refine Tot.bindA hb (Tot.bind (JdM x b o1) ?_)
  rintro t1 ⟨a1,a2,a3⟩
  refine Tot.bind (JdN x hx.2 b t1 o3 o4 ⟨a1,a2,λ r hr=>gb r (a3.subset hr),?_⟩ (by have:=a3.length_le;omega)) ?_
  ·rcases Nat.eq_zero_or_pos t1.Rules.length with h|h
   ·exact .inl (List.length_eq_zero_iff.1 h)
   ·right
    have:=Yy o5 a3 h
    cases t1
    simp only at a1 a2 this ⊢
    subst a1 a2
    exact this
  rintro t2 ⟨b1,b2⟩
  refine Tot.ite (λ h=>?_) λ h=>?_
  ·unfold G4
   have e:(⟨t2.Modes,t2.Accept,b.Rules⟩:Ad)=b:=by rw [b1.modes,b1.accept]
   rw [e]
   exact Tot.pure ⟨⟨⟨by omega,λ r hr=>(gb r hr).1⟩,o3,o4,o5⟩,hne b o5,by omega⟩
  ·unfold G4
   have hv:Fm t2=true:=b1.valid.resolve_left λ e=>by rw [e] at h;cases h
   exact Tot.pure ⟨⟨⟨by omega,λ r hr=>(b1.rules r hr).1⟩,by rw [b1.modes];exact o3,by rw [b1.modes];exact o4,hv⟩,hne t2 hv,b2⟩
 obtain ⟨t,ht,hE⟩:=this
 exact ⟨t,ht,hE⟩
end Go.AI
end
section
namespace Go.AI
def Em (t:Ad) (k:Int):Ay:=t.Rules[k.toNat]?.getD default
theorem DR {t:Ad} {s:Ab} {k:Int} (h:(AH t s k).2=true):0<=k/\k<t.Rules.length:=by
 unfold AH at h
 split at h
 ·cases h
 ·rename_i hk
  simp only [JlT,decide_eq_true_eq,not_or] at hk
  omega
theorem Tb {t:Ad} {k:Int} (h:0<=k) (h':k<t.Rules.length):idx t.Rules k=some (Em t k):=S7 h h'
theorem GI {t:Ad} {k:Int} (h:0<=k) (h':k<t.Rules.length):Em t k∈t.Rules:=by
 unfold Em
 rw [Jlz (by omega)]
 exact List.getElem_mem _
end Go.AI
end
section
namespace Go.AI
theorem Jfn {st:List Ab} (hn:st.Nodup) {i j:Nat} {s:Ab} (h:st[i]? = some s) (h':st[j]? = some s):i=j:=by
 have a:=C5 hn h
 rw [C5 hn h'] at a
 cases a;rfl
theorem CA {i:Nat} (h:i<9223372036854775807):Au .i64 (i:Int) 1=((i+1:Nat):Int):=by
 rw [Qm (by omega) (by omega)];rfl
theorem Dv {st:List Ab} {s:Ab} (h:s∈st):∃ i:Nat,Ei st s=i/\st[i]? = some s:=by
 unfold Ei
 cases hf:st.findIdx? (λ x=>decide (x=s)) with
 | none=>
  rw [List.findIdx?_eq_none_iff] at hf
  have:=hf s h
  simp at this
 | some i=>
  rw [List.findIdx?_eq_some_iff_getElem] at hf
  obtain ⟨hi,h1,_⟩:=hf
  refine ⟨i,rfl,?_⟩
  rw [Jlz hi]
  simpa using h1
theorem YA {st:List Ab} {s:Ab} (h:s ∉ st):Ei st s=-1:=by
 unfold Ei
 rw [HL h]
theorem Tc {st:List Ab} {s:Ab}:Ei st s<0↔s ∉ st:=by
 constructor
 ·intro h hm
  obtain ⟨i,e,_⟩:=Dv hm
  omega
 ·intro h
  rw [YA h];omega
theorem Xq {t:Ad} (ht:Ht t) {st:List Ab} (hF:Gr t st) {i:Nat} {s:Ab} (hi:st[i]? = some s):Tot (λ n=>whl (λ (x:((List Ab)×Int))=>DV n t (i:Int) x.1 x.2) n (st,0)) (λ r=>r=J0 t s t.Rules.length st):=by
 have hr:=ht.1
 refine Tot.upto (body:=λ n x=>DV n t (i:Int) x.1 x.2) t.Rules.length (λ k x=>x.2=(k:Int)/\x.1=J0 t s k st) ?_ ?_ _ ⟨rfl,rfl⟩
 ·rintro k ⟨l,k'⟩ hk ⟨e1,e2⟩
  simp only at e1 e2
  subst e1 e2
  have hFk:=hF.exp ht hi k (by omega)
  have hik:=Pq (Hf t s st k) hi
  have hlen:=hFk.len
  unfold DV
  refine Tot.iteT (by simpa using hk) (Tot.bindC (Ej hik) (Tot.bindA (λ n=>Xh ht.short n s k) (Tot.guard (R:=λ z=>z=Ei (J0 t s k st) (AH t s k).1) (λ _=>(Xj (by dsimp only;omega)).tot rfl) (λ z hz=>?_))))
  have hJ:∀ l',l'=J0 t s (k+1) st->Tot (λ n=>ES n (k:Int) l') (Rd2 (λ x:List Ab×Int=>x.2=((k+1:Nat):Int)/\x.1=J0 t s (k+1) st) (λ r=>r=J0 t s t.Rules.length st)):=by
   intro l' hl'
   unfold ES
   exact Tot.pure ⟨CA (by omega),hl'⟩
  have hx:J0 t s (k+1) st=KS t s (J0 t s k st) k:=J1 t s k st
  refine Tot.ite (λ hc=>?_) (λ hc=>?_)
  ·simp only [JlA,decide_eq_true_eq] at hc
   refine Tot.bindC (KU (by simp;omega)) (hJ _ ?_)
   rw [hx]
   unfold KS
   rw [if_pos ⟨hc.1,Tc.1 (by rw [← hz hc.1];exact hc.2)⟩]
  ·refine hJ _ ?_
   rw [hx]
   unfold KS
   rw [if_neg]
   rintro ⟨h1,h2⟩
   rw [h1,hz h1,decide_eq_true (Tc.2 h2)] at hc
   cases hc
 ·rintro ⟨l,k'⟩ ⟨e1,e2⟩
  simp only at e1 e2
  subst e1 e2
  unfold DV
  exact Tot.iteF (by simp) (Tot.pure rfl)
theorem Jjl (t:Ad):Gr t [BM]:=⟨by simp,λ s hs=>by simp at hs;subst hs;exact ⟨by decide,by decide,by decide,by decide,by decide,by decide⟩,rfl,λ j s hj h0=>by cases j with|zero=>omega|succ j=>simp at hj⟩
theorem Xr {t:Ad} (ht:Ht t):Ev (λ n=>Kl n t) (Aa t):=by
 have loop:Tot (λ n=>whl (λ (x:((List Ab)×Int))=>ET n t x.1 x.2) n ([BM],0)) (λ r=>r=Aa t):=by
  refine Tot.whl (body:=λ n x=>ET n t x.1 x.2) (λ k x=>∃ i:Nat,i<=x.1.length/\k=800-i/\S8 t (800-i) i x.1=Aa t/\x.2=(i:Int)/\Gr t x.1) ?_ 800 _ ⟨0,by simp,by omega,rfl,rfl,Jjl t⟩
  rintro k ⟨st,i'⟩ ⟨i,hil,rfl,hb,hi',hF⟩
  simp only at hil hb hi' hF
  subst hi'
  have hlen:=hF.len
  unfold ET
  refine Tot.ite (λ hc=>?_) (λ hc=>?_)
  ·have hlt:i<st.length:=by simpa using hc
   have hi:st[i]? = some st[i]:=Jlz hlt
   have hexp:=hF.exp ht hi _ (Nat.le_refl _)
   refine Tot.bind (Xq ht hF hi) ?_
   rintro _ rfl
   refine Tot.pure ⟨800-(i+1),by omega,i+1,?_,rfl,?_,?_,hexp⟩
   ·have:=(Hf t st[i] st t.Rules.length).length_le
    dsimp only
    omega
   ·dsimp only
    rw [← hb]
    have e:800-i=(800-(i+1))+1:=by omega
    rw [e]
    simp only [S8,hi]
   ·exact CA (by omega)
  ·have hge:st.length<=i:=by simpa using hc
   have e:i=st.length:=by omega
   subst e
   refine Tot.pure ?_
   show st=Aa t
   rw [← hb]
   have e:800-st.length=(800-(st.length+1))+1:=by omega
   rw [e]
   simp [S8]
 refine Tot.ev ?_
 unfold Kl
 exact Tot.bindA (y:=BM) (λ n=>rfl) (Tot.bind loop λ _ h=>Tot.pure h)
end Go.AI
end
section
namespace Go.AI
def Edge (t:Ad) (st:List Ab) (i:Nat) (k:Nat) (j:Nat):Prop:=∃ s s',st[i]? = some s/\k<t.Rules.length/\st[j]? = some s'/\AH t s (k:Nat)=(s',true)
inductive Xs (t:Ad) (st:List Ab):Nat->Prop
 | acc (i:Nat) (s:Ab) (h:st[i]? = some s) (ha:By t s=true):Xs t st i
 | step (i k j:Nat) (h:Edge t st i k j) (hj:Xs t st j):Xs t st i
def Td (t:Ad) (st:List Ab) (l:List Bool):Prop:=l.length=st.length/\∀ i:Nat,l[i]? = some true↔Xs t st i
theorem Xs.lt {t:Ad} {st:List Ab} {i:Nat} (h:Xs t st i):i<st.length:=by
 cases h with
 | acc _ s h ha=>exact Aq h
 | step _ k j h hj=>obtain ⟨s,s',h,_⟩:=h;exact Aq h
theorem Td.uniq {t:Ad} {st:List Ab} {l m:List Bool} (h:Td t st l) (h':Td t st m):l=m:=by
 refine List.ext_getElem? λ i=>?_
 rcases Nat.lt_or_ge i st.length with hi|hi
 ·have h1:i<l.length:=by rw [h.1];exact hi
  have h2:i<m.length:=by rw [h'.1];exact hi
  have e:=(h.2 i).trans (h'.2 i).symm
  rw [Jlz h1,Jlz h2] at e ⊢
  cases ha:l[i]<;>cases hb:m[i]<;>simp_all
 ·rw [List.getElem?_eq_none_iff.2 (by rw [h.1];exact hi),List.getElem?_eq_none_iff.2 (by rw [h'.1];exact hi)]
theorem Td.of {t:Ad} {st:List Ab} {l:List Bool} (hl:l.length=st.length) (hs:∀ i,l[i]? = some true->Xs t st i) (ha:∀ (i:Nat) s,st[i]? = some s->By t s=true->l[i]? = some true) (hc:∀ i k j,Edge t st i k j->l[j]? = some true->l[i]? = some true):Td t st l:=by
 refine ⟨hl,λ i=>⟨hs i,λ h=>?_⟩⟩
 induction h with
 | acc i s h h'=>exact ha i s h h'
 | step i k j h _ ih=>exact hc i k j h ih
def Jfo (l:List Bool):Nat:=l.count false
structure JdO (t:Ad) (st:List Ab) (out0 out:List Bool) (g:Bool) (i m:Nat):Prop where
 len:out.length=st.length
 snd:∀ j:Nat,out[j]? = some true->Xs t st j
 acc:∀ (j:Nat) s,st[j]? = some s->By t s=true->out[j]? = some true
 same:g=false->out=out0
 less:g=true->Jfo out<Jfo out0
 cl:g=false->∀ i' k j,(i'<i\/(i'=i/\k<m))->Edge t st i' k j->out[j]? = some true->out[i']? = some true
theorem JdO.stop {t:Ad} {st:List Ab} {out0 out:List Bool} {g:Bool} {i m:Nat} (h:JdO t st out0 out g i m) (hm:t.Rules.length<=m\/out[i]? = some true):JdO t st out0 out g (i+1) 0:=by
 refine ⟨h.len,h.snd,h.acc,h.same,h.less,λ hg i' k j hi he hj=>?_⟩
 rcases Nat.lt_or_ge i' i with hlt|hge
 ·exact h.cl hg i' k j (.inl hlt) he hj
 ·have:i'=i:=by omega
  subst this
  rcases hm with hm|hm
  ·obtain ⟨s,s',_,hk,_⟩:=id he
   exact h.cl hg i' k j (.inr ⟨rfl,by omega⟩) he hj
  ·exact hm
end Go.AI
end
section
namespace Go.AI
def Jf4 (t:Ad) (st:List Ab) (near:List Bool) (out:List Int) (D:Nat):Prop:=
 ∃ rk:Nat->Nat,∀ j:Nat,near[j]? = some true->rk j<=D/\((∃ s,st[j]? = some s/\By t s=true)\/∃ k j':Nat,out[j]? = some (k:Int)/\Edge t st j k j'/\near[j']? = some true/\rk j'<rk j)
structure Xt (t:Ad) (st:List Ab) (near ring:List Bool) (out:List Int) (D:Nat) (g:Bool) (i m:Nat):Prop where
 len:ring.length=st.length
 oln:out.length=st.length
 sub:∀ j:Nat,near[j]? = some true->ring[j]? = some true
 new:∀ j:Nat,ring[j]? = some true->near[j]? = some true\/∃ k j':Nat,out[j]? = some (k:Int)/\Edge t st j k j'/\near[j']? = some true
 hom:Jf4 t st near out D
 same:g=false->ring=near
 less:g=true->Jfo ring<Jfo near
 cl:g=false->∀ i' k j,(i'<i\/(i'=i/\k<m))->Edge t st i' k j->near[j]? = some true->ring[i']? = some true
theorem Xt.stop {t:Ad} {st:List Ab} {near ring:List Bool} {out:List Int} {D:Nat} {g:Bool} {i m:Nat} (h:Xt t st near ring out D g i m) (hm:t.Rules.length<=m\/ring[i]? = some true):Xt t st near ring out D g (i+1) 0:=by
 refine ⟨h.len,h.oln,h.sub,h.new,h.hom,h.same,h.less,λ hg i' k j hi he hj=>?_⟩
 rcases Nat.lt_or_ge i' i with hlt|hge
 ·exact h.cl hg i' k j (.inl hlt) he hj
 ·have:i'=i:=by omega
  subst this
  rcases hm with hm|hm
  ·obtain ⟨s,s',_,hk,_⟩:=id he
   exact h.cl hg i' k j (.inr ⟨rfl,by omega⟩) he hj
  ·exact hm
theorem Xt.ring {t:Ad} {st:List Ab} {near ring:List Bool} {out:List Int} {D:Nat} {g:Bool} {i m:Nat} (h:Xt t st near ring out D g i m):Jf4 t st ring out (D+1):=by
 obtain ⟨rk,hrk⟩:=h.hom
 refine ⟨λ j=>if near[j]? = some true then rk j else D+1,λ j hj=>?_⟩
 by_cases hn:near[j]? = some true
 ·simp only [hn,if_true]
  obtain ⟨h1,h2⟩:=hrk j hn
  refine ⟨by omega,h2.imp id ?_⟩
  rintro ⟨k,j',a,b,c,d⟩
  exact ⟨k,j',a,b,h.sub j' c,by rw [if_pos c];exact d⟩
 ·simp only [if_neg hn]
  refine ⟨by omega,?_⟩
  rcases h.new j hj with hh|⟨k,j',a,b,c⟩
  ·exact absurd hh hn
  ·exact .inr ⟨k,j',a,b,h.sub j' c,by rw [if_pos c];have:=(hrk j' c).1;omega⟩
end Go.AI
end
section
namespace Go.AI
def Iy (t:Ad) (s:Ab):List Int->Ab->Prop
 | [],s'=>s=s'
 | k::p,s'=>(AH t s k).2=true/\Iy t (AH t s k).1 p s'
theorem Iy.snoc {t:Ad}:∀ {p:List Int} {s s':Ab} {k:Int},Iy t s p s'->(AH t s' k).2=true->Iy t s (p++[k]) (AH t s' k).1
 | [],s,s',k,h,h'=>by
  unfold Iy at h
  subst h
  exact ⟨h',rfl⟩
 | a::p,s,s',k,h,h'=>⟨h.1,Iy.snoc h.2 h'⟩
theorem Iy.mem {t:Ad}:∀ {p:List Int} {s s':Ab},Iy t s p s'->∀ k∈p,0<=k/\k<t.Rules.length
 | [],_,_,_,k,hk=>by cases hk
 | a::p,s,s',h,k,hk=>by
  rcases List.mem_cons.1 hk with rfl|hk
  ·exact DR h.1
  ·exact Iy.mem h.2 k hk
def D3 (t:Ad) (p:List Int):List UInt8:=p.flatMap λ k=>(Em t k).Print
def cellsOf (t:Ad) (p:List Int):List Int:=p.flatMap λ k=>(Em t k).Cells
end Go.AI
end
section
namespace Go.AI
def Way (t:Ad) (q:Ab) (x:List UInt8) (p:List Int):Prop:=(∃ q',Iy t q p q'/\By t q'=true)/\D3 t p=x
def Fn (t:Ad) (p:List Int):Nat:=(cellsOf t p).length
def MB (t:Ad) (q:Ab) (x:List UInt8) (v:Int):Prop:=(v=-1/\∀ p,¬Way t q x p)\/∃ p,Way t q x p/\v=(Fn t p:Nat)/\∀ p',Way t q x p'->Fn t p<=Fn t p'
theorem Ze (t:Ad) (q:Ab) (x:List UInt8):∃ v,MB t q x v:=by
 by_cases h:∃ p,Way t q x p
 ·obtain ⟨p,hp⟩:=h
  have key:∀ (n:Nat) (p:List Int),Fn t p=n->Way t q x p->∃ v,MB t q x v:=by
   intro n
   induction n using Nat.strongRecOn with
   | _ n ih=>
    intro p hn hp
    by_cases hm:∃ p',Way t q x p'/\Fn t p'<n
    ·obtain ⟨p',h1,h2⟩:=hm
     exact ih _ h2 p' rfl h1
    ·exact ⟨(Fn t p:Nat),.inr ⟨p,hp,rfl,λ p' hp'=>Nat.le_of_not_lt λ hlt=>hm ⟨p',hp',by omega⟩⟩⟩
  exact key _ p rfl hp
 ·exact ⟨-1,.inl ⟨rfl,λ p hp=>h ⟨p,hp⟩⟩⟩
theorem MB.uniq {t:Ad} {q:Ab} {x:List UInt8} {v w:Int} (h:MB t q x v) (h':MB t q x w):v=w:=by
 rcases h with ⟨h1,h2⟩|⟨p,h1,h2,h3⟩
 ·rcases h' with ⟨g1,g2⟩|⟨p',g1,g2,g3⟩
  ·omega
  ·exact absurd g1 (h2 p')
 ·rcases h' with ⟨g1,g2⟩|⟨p',g1,g2,g3⟩
  ·exact absurd h1 (g2 p)
  ·have:=h3 p' g1
   have:=g3 p h1
   omega
noncomputable def AP (t:Ad) (q:Ab) (x:List UInt8):Int:=Classical.choose (Ze t q x)
theorem Pt (t:Ad) (q:Ab) (x:List UInt8):MB t q x (AP t q x):=Classical.choose_spec (Ze t q x)
theorem JdP {t:Ad} {q:Ab} {x:List UInt8} {v:Int} (h:MB t q x v):AP t q x=v:=(Pt t q x).uniq h
theorem MC {t:Ad} {q:Ab} {x:List UInt8} {p:List Int} (h:Way t q x p):0<=AP t q x/\AP t q x<=(Fn t p:Nat):=by
 rcases Pt t q x with ⟨h1,h2⟩|⟨p',h1,h2,h3⟩
 ·exact absurd h (h2 p)
 ·have:=h3 p h
  omega
theorem GJ {t:Ad} {q:Ab} {x:List UInt8} (h:0<=AP t q x):∃ p,Way t q x p/\AP t q x=(Fn t p:Nat):=by
 rcases Pt t q x with ⟨h1,h2⟩|⟨p',h1,h2,h3⟩
 ·omega
 ·exact ⟨p',h1,h2⟩
theorem Xu (t:Ad) (q:Ab) (x:List UInt8):-1<=AP t q x:=by
 rcases Pt t q x with h1|⟨p',h1,h2,h3⟩<;>omega
abbrev prt (t:Ad) (k:Int):List UInt8:=(Em t k).Print
abbrev cls (t:Ad) (k:Int):List Int:=(Em t k).Cells
theorem I8 (t:Ad) (k:Int) (p:List Int):D3 t (k::p)=prt t k++D3 t p:=by simp [D3]
theorem FK (t:Ad) (k:Int) (p:List Int):Fn t (k::p)=(cls t k).length+Fn t p:=by simp [Fn,cellsOf]
theorem Way.cons {t:Ad} {q:Ab} {x:List UInt8} {p:List Int} {k:Int} (hk:(AH t q k).2=true) (h:Way t (AH t q k).1 x p):Way t q (prt t k++x) (k::p):=by
 obtain ⟨⟨q',h1,h2⟩,h3⟩:=h
 exact ⟨⟨q',⟨hk,h1⟩,h2⟩,by rw [I8,h3]⟩
theorem Way.uncons {t:Ad} {q:Ab} {x:List UInt8} {p:List Int} {k:Int} (h:Way t q x (k::p)):(AH t q k).2=true/\∃ y,x=prt t k++y/\Way t (AH t q k).1 y p:=by
 obtain ⟨⟨q',h1,h2⟩,h3⟩:=h
 exact ⟨h1.1,D3 t p,by rw [← h3,I8],⟨q',h1.2,h2⟩,rfl⟩
theorem Way.nil {t:Ad} {q:Ab} {x:List UInt8} (h:Way t q x []):x=[]/\By t q=true:=by
 obtain ⟨⟨q',h1,h2⟩,h3⟩:=h
 unfold Iy at h1
 subst h1
 exact ⟨h3.symm,h2⟩
noncomputable def Oq (t:Ad) (q:Ab) (x:List UInt8) (k:Int):Int:=
 if (AH t q k).2=true/\prt t k <+: x/\0<=AP t (AH t q k).1 (x.drop (prt t k).length) then AP t (AH t q k).1 (x.drop (prt t k).length)+(cls t k).length else -1
theorem JdQ {t:Ad} {S:Ab->Prop} {x:List UInt8} {f:Ab->Int}
  (ach:∀ q,S q->f q=-1\/∃ p,Way t q x p/\f q=(Fn t p:Nat))
  (acc:∀ q,S q->x=[]->By t q=true->f q=0)
  (rel:∀ q k,S q->(AH t q k).2=true->prt t k≠[]->∀ y,x=prt t k++y->0<=AP t (AH t q k).1 y->0<=f q/\f q<=AP t (AH t q k).1 y+(cls t k).length)
  (sil:∀ q k,S q->(AH t q k).2=true->prt t k=[]->S (AH t q k).1/\(0<=f (AH t q k).1->0<=f q/\f q<=f (AH t q k).1+(cls t k).length)) :
  ∀ q,S q->MB t q x (f q):=by
 have low:∀ (p:List Int) (q:Ab),S q->Way t q x p->0<=f q/\f q<=(Fn t p:Nat):=by
  intro p
  induction p with
  | nil=>
   intro q hq h
   obtain ⟨h1,h2⟩:=h.nil
   rw [acc q hq h1 h2]
   omega
  | cons k p ih=>
   intro q hq h
   obtain ⟨h1,y,h2,h3⟩:=h.uncons
   rw [FK]
   by_cases he:prt t k=[]
   ·obtain ⟨g1,g2⟩:=sil q k hq h1 he
    rw [he,List.nil_append] at h2
    subst h2
    have h4:=ih _ g1 h3
    have:=g2 h4.1
    omega
   ·have h4:=MC h3
    have:=rel q k hq h1 he y h2 h4.1
    omega
 intro q hq
 rcases ach q hq with h|⟨p,h1,h2⟩
 ·exact .inl ⟨h,λ p hp=>by have:=low p q hq hp;omega⟩
 ·exact .inr ⟨p,h1,h2,λ p' hp'=>by have:=low p' q hq hp';omega⟩
inductive If (t:Ad):Ab->List UInt8->List Int->Prop
 | nil {q:Ab} {x:List UInt8} (h:AP t q x<=0):If t q x []
 | cons {q:Ab} {x:List UInt8} {k:Nat} {p:List Int} (h:0<AP t q x) (hk:Oq t q x k=AP t q x) (hm:∀ j:Nat,j<k->Oq t q x j≠AP t q x) (hp:If t (AH t q k).1 (x.drop (prt t k).length) p):If t q x (k::p)
theorem If.uniq {t:Ad} {q:Ab} {x:List UInt8} {p p':List Int} (h:If t q x p) (h':If t q x p'):p=p':=by
 induction h generalizing p' with
 | nil h=>
  cases h' with
  | nil=>rfl
  | cons g=>omega
 | cons h hk hm _ ih=>
  cases h' with
  | nil g=>omega
  | cons g gk gm gp=>
   rename_i k _ _ k' _
   have:k=k':=by
    rcases Nat.lt_trichotomy k k' with hlt|he|hgt
    ·exact absurd hk (gm _ hlt)
    ·exact he
    ·exact absurd gk (hm _ hgt)
   subst this
   rw [ih gp]
theorem Uw {t:Ad} {q:Ab} {x:List UInt8} {k:Int} (h:0<=Oq t q x k):(AH t q k).2=true/\(∃ y,x=prt t k++y/\x.drop (prt t k).length=y)/\0<=AP t (AH t q k).1 (x.drop (prt t k).length)/\Oq t q x k=AP t (AH t q k).1 (x.drop (prt t k).length)+(cls t k).length:=by
 unfold Oq at h ⊢
 split at h
 ·rename_i hc
  rw [if_pos hc]
  obtain ⟨y,hy⟩:=hc.2.1
  exact ⟨hc.1,⟨y,hy.symm,by rw [← hy,List.drop_left]⟩,hc.2.2,rfl⟩
 ·omega
theorem Jay {t:Ad} (hc:∀ r∈t.Rules,1<=r.Cells.length) {q:Ab} {x:List UInt8} (h:AP t q x=0):Way t q x []:=by
 obtain ⟨p,hp,he⟩:=GJ (t:=t) (q:=q) (x:=x) (by omega)
 cases p with
 | nil=>exact hp
 | cons k p=>
  obtain ⟨h1,_⟩:=hp.uncons
  have hk:=DR h1
  have:=hc _ (GI hk.1 hk.2)
  rw [FK] at he
  simp only [cls] at he
  omega
theorem If.way {t:Ad} (hc:∀ r∈t.Rules,1<=r.Cells.length) {q:Ab} {x:List UInt8} {p:List Int} (h:If t q x p) (h0:0<=AP t q x):Way t q x p/\AP t q x=(Fn t p:Nat):=by
 induction h with
 | nil h=>exact ⟨Jay hc (by omega),by simp [Fn,cellsOf];omega⟩
 | cons h hk hm _ ih=>
  obtain ⟨h1,⟨y,h2,h3⟩,h4,h5⟩:=Uw (by rw [hk];omega)
  obtain ⟨i1,i2⟩:=ih h4
  rw [h3] at i1 i2 h5
  refine ⟨by rw [h2];exact i1.cons h1,?_⟩
  rw [FK]
  omega
end Go.AI
end
section
namespace Go.AI
def Xv (l:List Int):Nat:=l.countP λ v=>decide (0<=v)
def phi (B:Nat) (l:List Int):Nat:=(l.map λ v=>if v<0 then B else v.toNat).sum
theorem Jfp {B:Nat} {l:List Int} {j:Nat} {v c:Int} (h:l[j]? = some v) (hc:0<=c) (hlt:c<if v<0 then (B:Int) else v):phi B (l.set j c)<phi B l:=by
 induction l generalizing j with
 | nil=>simp at h
 | cons a l ih=>
  cases j with
  | zero=>
   simp only [List.getElem?_cons_zero,JlK] at h
   subst h
   simp only [phi,List.set_cons_zero,List.map_cons,List.sum_cons]
   split at hlt
   ·rename_i h1;rw [if_pos h1,if_neg (by omega)];omega
   ·rename_i h1;rw [if_neg h1,if_neg (by omega)];omega
  | succ j=>
   simp only [List.getElem?_cons_succ] at h
   have:=ih h
   simp only [phi,List.set_cons_succ,List.map_cons,List.sum_cons] at this ⊢
   omega
theorem JdR {l:List Int} {j:Nat} {v c:Int} (h:l[j]? = some v) (hc:0<=c):Xv (l.set j c)=Xv l+(if v<0 then 1 else 0):=by
 induction l generalizing j with
 | nil=>simp at h
 | cons a l ih=>
  cases j with
  | zero=>
   simp only [List.getElem?_cons_zero,JlK] at h
   subst h
   simp only [Xv,List.set_cons_zero,List.countP_cons,decide_eq_true_eq]
   rw [if_pos hc]
   by_cases h0:a<0
   ·rw [if_pos h0,if_neg (by omega)]
   ·rw [if_neg h0,if_pos (by omega)]
  | succ j=>
   simp only [List.getElem?_cons_succ] at h
   have:=ih h
   simp only [Xv,List.set_cons_succ,List.countP_cons] at this ⊢
   omega
theorem Rt (l:List Int):Xv l<=l.length:=List.countP_le_length
structure Col (t:Ad) (x:List UInt8) (D:Nat) (qs:List Ab) (cur:List Int):Prop where
 len:cur.length=qs.length
 ach:∀ (j:Nat) q,qs[j]? = some q->∃ v,cur[j]? = some v/\(v=-1\/∃ p,Way t q x p/\v=(Fn t p:Nat))
 acc:∀ (j:Nat) q,qs[j]? = some q->x=[]->By t q=true->cur[j]? = some 0
 bnd:∀ (j:Nat) v,cur[j]? = some v->v<=((D+4*Xv cur:Nat):Int)
theorem Col.top {t:Ad} {x:List UInt8} {D:Nat} {qs:List Ab} {cur:List Int} (h:Col t x D qs cur) {j:Nat} {v:Int} (hv:cur[j]? = some v):-1<=v/\v<=((D+4*qs.length:Nat):Int):=by
 have h1:=h.bnd j v hv
 have h2:=Rt cur
 rw [h.len] at h2
 have hj:j<qs.length:=by rw [← h.len];exact Aq hv
 obtain ⟨w,hw,hd⟩:=h.ach j _ (Jlz hj)
 rw [hv] at hw
 cases hw
 refine ⟨?_,by omega⟩
 rcases hd with rfl|⟨p,_,rfl⟩<;>omega
theorem Col.get {t:Ad} {x:List UInt8} {D:Nat} {qs:List Ab} {cur:List Int} (h:Col t x D qs cur) {j:Nat} (hj:j<qs.length):∃ v,cur[j]? = some v:=⟨_,Jlz (by rw [h.len];exact hj)⟩
theorem Col.lower {t:Ad} {x:List UInt8} {D:Nat} {qs:List Ab} {cur:List Int} (h:Col t x D qs cur) {j:Nat} {q:Ab} {v c:Int} (hq:qs[j]? = some q) (hv:cur[j]? = some v)
  (hp:∃ p,Way t q x p/\c=(Fn t p:Nat)) (hlt:v<0\/c<v) (hb:c<=((D+4*Xv cur+4:Nat):Int)) {B:Nat} (hB:c<(B:Int)):Col t x D qs (cur.set j c)/\phi B (cur.set j c)<phi B cur:=by
 have hc:0<=c:=by obtain ⟨p,_,rfl⟩:=hp;omega
 have hjl:=Aq hv
 refine ⟨⟨by rw [JlR];exact h.len,λ i q' hi=>?_,λ i q' hi hx ha=>?_,λ i w hw=>?_⟩,Jfp hv hc (by split<;>omega)⟩
 ·by_cases e:j=i
  ·subst e
   rw [hq] at hi;cases hi
   exact ⟨c,JlL hjl,.inr hp⟩
  ·rw [JlQ e];exact h.ach i q' hi
 ·by_cases e:j=i
  ·subst e
   rw [h.acc j q' hi hx ha] at hv
   cases hv
   omega
  ·rw [JlQ e];exact h.acc i q' hi hx ha
 ·rw [JdR hv hc]
  by_cases e:j=i
  ·subst e
   rw [JlL hjl] at hw
   cases hw
   have:=h.bnd j v hv
   split<;>omega
  ·rw [JlQ e] at hw
   have:=h.bnd i w hw
   omega
structure JkU (t:Ad) (x:List UInt8) (qs:List Ab) (cur:List Int):Prop where
 rel:∀ (j:Nat) q (k:Nat),qs[j]? = some q->(AH t q k).2=true->prt t k≠[]->∀ y,x=prt t k++y->0<=AP t (AH t q k).1 y->∃ v,cur[j]? = some v/\0<=v/\v<=AP t (AH t q k).1 y+(cls t k).length
structure JkV (t:Ad) (qs:List Ab) (cur:List Int):Prop where
 sil:∀ (j:Nat) q (k:Nat),qs[j]? = some q->(AH t q k).2=true->prt t k=[]->∃ (i:Nat) (w:Int),qs[i]? = some (AH t q k).1/\cur[i]? = some w/\(0<=w->∃ v,cur[j]? = some v/\0<=v/\v<=w+(cls t k).length)
theorem Col.exact {t:Ad} {x:List UInt8} {D:Nat} {qs:List Ab} {cur:List Int} (h:Col t x D qs cur) (hn:qs.Nodup) (h1:JkU t x qs cur) (h2:JkV t qs cur) {j:Nat} {q:Ab} (hq:qs[j]? = some q):cur[j]? = some (AP t q x):=by
 let f:Ab->Int:=λ q=>cur.getD ((qs.findIdx? λ x=>decide (x=q)).getD 0) (-1)
 have hf:∀ (j:Nat) q v,qs[j]? = some q->cur[j]? = some v->f q=v:=by
  intro j q v hj hv
  show cur.getD ((qs.findIdx? λ x=>decide (x=q)).getD 0) (-1)=v
  rw [C5 hn hj,Option.getD_some,JlI,hv];rfl
 have key:=JdQ (t:=t) (S:=λ q=>∃ j:Nat,qs[j]? = some q) (x:=x) (f:=f) ?_ ?_ ?_ ?_ q ⟨j,hq⟩
 ·obtain ⟨v,hv⟩:=h.get (Aq hq)
  rw [hf j q v hq hv] at key
  rw [hv,JdP key]
 ·rintro q ⟨j,hj⟩
  obtain ⟨v,hv,hd⟩:=h.ach j q hj
  rw [hf j q v hj hv];exact hd
 ·rintro q ⟨j,hj⟩ hx ha
  exact hf j q 0 hj (h.acc j q hj hx ha)
 ·rintro q k ⟨j,hj⟩ hs hp y hy hc
  obtain ⟨k,rfl⟩:∃ n:Nat,k=n:=⟨k.toNat,by have:=DR hs;omega⟩
  obtain ⟨v,hv,g1,g2⟩:=h1.rel j q k hj hs hp y hy hc
  rw [hf j q v hj hv];exact ⟨g1,g2⟩
 ·rintro q k ⟨j,hj⟩ hs hp
  obtain ⟨k,rfl⟩:∃ n:Nat,k=n:=⟨k.toNat,by have:=DR hs;omega⟩
  obtain ⟨i,w,hi,hw,hh⟩:=h2.sil j q k hj hs hp
  refine ⟨⟨i,hi⟩,?_⟩
  rw [hf i _ w hi hw]
  intro h0
  obtain ⟨v,hv,g1,g2⟩:=hh h0
  rw [hf j q v hj hv];exact ⟨g1,g2⟩
theorem Pu {t:Ad} {q:Ab} {k:Int} {y:List UInt8} {c:Int} (hs:(AH t q k).2=true) (h:∃ p,Way t (AH t q k).1 y p/\c=(Fn t p:Nat)):∃ p,Way t q (prt t k++y) p/\c+((cls t k).length:Nat)=(Fn t p:Nat):=by
 obtain ⟨p,hp,rfl⟩:=h
 exact ⟨k::p,hp.cons hs,by rw [FK];omega⟩
end Go.AI
end
section
namespace Go.AI
structure FN (t:Ad):Prop where
 tab:Ht t
 cl:∀ r∈t.Rules,1<=r.Cells.length/\r.Cells.length<=4
theorem FN.one {t:Ad} (h:FN t):∀ r∈t.Rules,1<=r.Cells.length:=λ r hr=>(h.cl r hr).1
theorem FN.pr {t:Ad} (h:FN t) {k:Int} {q:Ab} (hk:(AH t q k).2=true):(prt t k).length<=3/\1<=(cls t k).length/\(cls t k).length<=4:=by
 have h1:=DR hk
 have hm:=GI h1.1 h1.2
 exact ⟨(h.tab.2 _ hm).2.2.2.2,h.cl _ hm⟩
theorem Te {α:Type} (l:List α) (i:Nat) (d:α):l.set i (l.getD i d)=l:=by
 apply List.ext_getElem?
 intro j
 rw [List.getElem?_set]
 split
 ·rename_i e;subst e
  split
  ·rename_i hl;rw [JlI,Jlz hl];rfl
  ·rename_i hl;rw [JlV (by omega)]
 ·rfl
theorem Hh {α:Type} {l:List α} {i:Nat} (h:i<l.length) (y d:α):(l.set i y).getD i d=y:=by
 rw [JlI,JlL h];rfl
theorem I9 {α:Type} {l:List α} {i j:Nat} (h:i≠j) (y d:α):(l.set i y).getD j d=l.getD j d:=by
 rw [JlI,JlQ h,← JlI]
theorem Fp {α:Type} {l:List α} {i:Nat} (d:α) (h:i<l.length):idx l (i:Int)=some (l.getD i d):=by
 rw [Fl h,DH h]
theorem Jaz {s pr:List UInt8} {i:Nat} (hi:i<=s.length) (hs:s.length<1000000) (hp:pr.length<1000000) (n:Nat):Km n s (i:Int) pr=some (pr.isPrefixOf (s.drop i)):=by
 unfold Km
 have e:Au .i64 (i:Int) ((pr.length:Nat):Int)=((i+pr.length:Nat):Int):=by rw [EJ]<;>omega
 rw [e]
 by_cases h:i+pr.length<=s.length
 ·rw [if_pos (by simp;omega),Xm (by omega) (by omega) (by omega),Option.bind_some]
  congr 1
  rw [Bool.eq_iff_iff,JlA,beq_iff_eq,List.isPrefixOf_iff_prefix]
  have e2:(s.take ((i+pr.length:Nat):Int).toNat).drop (i:Int).toNat=(s.drop i).take pr.length:=by
   rw [JlJ,JlJ,List.drop_take];congr 1;omega
  rw [e2]
  constructor
  ·rintro ⟨_,h2⟩;rw [← h2];exact List.take_prefix _ _
  ·intro h2;exact ⟨by simp;omega,(List.prefix_iff_eq_take.1 h2).symm⟩
 ·rw [if_neg (by simp;omega),Option.bind_some]
  congr 1
  have:decide (((i+pr.length:Nat):Int)<=((s.length:Nat):Int))=false:=by simp;omega
  rw [this,Bool.false_and,eq_comm,← Bool.not_eq_true,List.isPrefixOf_iff_prefix]
  intro hp'
  have:=hp'.length_le
  rw [List.length_drop] at this
  omega
theorem En {s pr:List UInt8} {i:Nat} (h:pr.isPrefixOf (s.drop i)=true):s.drop i=pr++s.drop (i+pr.length)/\(i<=s.length->i+pr.length<=s.length):=by
 rw [List.isPrefixOf_iff_prefix] at h
 obtain ⟨y,hy⟩:=h
 have:s.drop (i+pr.length)=y:=by rw [← List.drop_drop,← hy,List.drop_left]
 rw [this,hy]
 refine ⟨rfl,λ hi=>?_⟩
 have:=congrArg List.length hy
 rw [List.length_append,List.length_drop] at this
 omega
def KX (t:Ad) (s:List UInt8) (out:List (List Int)) (i:Nat) (q:Ab) (k:Nat):Int:=
 if (AH t q k).2=true/\(prt t k).isPrefixOf (s.drop i)=true then
  (if (out.getD (i+(prt t k).length) []).getD (Ei (Aa t) (AH t q k).1).toNat 0<0 then -1 else (out.getD (i+(prt t k).length) []).getD (Ei (Aa t) (AH t q k).1).toNat 0+(cls t k).length) else -1
structure NR (t:Ad) (s:List UInt8) (i:Nat) (row:List Int):Prop where
 len:row.length=(Aa t).length
 val:∀ (j:Nat) q,(Aa t)[j]? = some q->row[j]? = some (AP t q (s.drop i))
 bnd:∀ (j:Nat) v,row[j]? = some v->v<=((3072*(s.length-i+1):Nat):Int)
structure Suf (t:Ad) (s:List UInt8) (i:Nat) (out:List (List Int)):Prop where
 len:out.length=s.length+1
 rows:∀ i',i<i'->i'<=s.length->NR t s i' (out.getD i' [])
 col:Col t (s.drop i) (3072*(s.length-i)) (Aa t) (out.getD i [])
section
variable {t:Ad} (hT:FN t) {s:List UInt8} (hs:s.length<=4000)
include hT
theorem GU {q:Ab} (hq:q∈Aa t) {k:Nat} (hk:(AH t q k).2=true):(AH t q k).1∈Aa t:=by
 obtain ⟨j,hj,e⟩:=List.getElem_of_mem hq
 have h:=DR hk
 exact (HQ hT.tab).2 (j+1) j q (by omega) (by rw [← e];exact Jlz hj) k (by omega) hk
theorem HN:(Aa t).length<=768:=(HQ hT.tab).1.len
theorem JdS:(Aa t).Nodup:=(HQ hT.tab).1.nodup
include hs
theorem YB {i:Nat} (hi:i<=s.length) {out:List (List Int)} (hol:out.length=s.length+1) (hR:∀ i',i<=i'->i'<=s.length->(out.getD i' []).length=(Aa t).length/\∀ (j:Nat) v,(out.getD i' [])[j]? = some v->-1<=v/\v<=13000000) {q:Ab} (hq:q∈Aa t) {k:Nat} (hk:k<t.Rules.length):Ev (λ n=>JJ n t ⟨s,i,q,Aa t⟩ k out) (KX t s out i q k):=by
 have hlen:=HN hT
 unfold JJ KX
 refine Ev.bind (Ev.all λ n=>Xh hT.tab.short n q k) ?_
 cases hst:(AH t q k).2 with
 | false=>
  refine Ev.all λ n=>?_
  simp
 | true=>
  obtain ⟨p1,p2,p3⟩:=hT.pr hst
  have hr:=Tb (t:=t) (k:=(k:Int)) (by omega) (by omega)
  refine Ev.all (f:=λ n=>_) (λ n=>?_) |>.bind (x:=Em t k) ?_
  ·simp [hr]
  refine Ev.bind (x:=(prt t k).isPrefixOf (s.drop i)) (Ev.all λ n=>?_) ?_
  ·rw [if_pos (by simp)]
   exact Jaz hi (by omega) (by simp only [prt] at p1;omega) n
  cases hb:(prt t k).isPrefixOf (s.drop i) with
  | false=>exact Ev.iteT (by simp) (by simp;exact Ev.const)
  | true=>
   obtain ⟨q1,q2⟩:=En hb
   have q2:=q2 hi
   refine Ev.iteF (by simp) (Ev.bindC hr ?_)
   have e:Au .i64 (i:Int) ((List.length (Em t k).Print:Nat):Int)=((i+(prt t k).length:Nat):Int):=by rw [EJ]<;>simp only [prt] at*<;> omega
   rw [show (({ S:=s,I:=(i:Int),State:=q,L:=Aa t }:Sz).I)=(i:Int) from rfl,e]
   refine Ev.bindC (Fp [] (by omega)) ?_
   have hmem:=GU hT hq hst
   obtain ⟨m,hm,hmg⟩:=Dv hmem
   refine Ev.bind (Xj (l:=Aa t) (s:=(AH t q k).1) (by omega)) ?_
   rw [hm]
   have hml:=Aq hmg
   obtain ⟨hrl,hrb⟩:=hR (i+(prt t k).length) (by omega) q2
   refine Ev.bindC (Fp 0 (by rw [hrl];exact hml)) ?_
   simp only [JlJ,and_self,if_true]
   generalize hv:(out.getD (i+(prt t k).length) []).getD m 0=v
   have hvg:(out.getD (i+(prt t k).length) [])[m]? = some v:=by
    rw [← hv,JlI (l:=out.getD (i+(prt t k).length) []),Jlz (by rw [hrl];exact hml)];rfl
   have hvb:=hrb m v hvg
   by_cases hneg:v<0
   ·rw [if_pos hneg]
    exact Ev.iteT (by simpa using hneg) Ev.const
   ·rw [if_neg hneg]
    refine Ev.iteF (by simpa using hneg) (Ev.bindC hr (Ev.all λ n=>?_))
    rw [EJ (by simp only [cls] at *;omega) (by simp only [cls] at *;omega)]
theorem Tf {i:Nat} {row:List Int} (h:NR t s i row):row.length=(Aa t).length/\∀ (j:Nat) v,row[j]? = some v->-1<=v/\v<=13000000:=by
 have _:=hT
 refine ⟨h.len,λ j v hv=>?_⟩
 have h1:=h.bnd j v hv
 have hj:j<(Aa t).length:=by rw [← h.len];exact Aq hv
 have h2:=h.val j _ (Jlz hj)
 rw [hv] at h2
 have:=Xu t (Aa t)[j] (s.drop i)
 simp only [JlK] at h2
 omega
theorem JdT {i:Nat} (hi:i<=s.length) {out:List (List Int)} (ho:Suf t s i out) {q:Ab} (hq:q∈Aa t) {k:Nat} (hk:k<t.Rules.length):Ev (λ n=>JJ n t ⟨s,i,q,Aa t⟩ k out) (KX t s out i q k):=by
 refine YB hT hs hi ho.len (λ i' h1 h2=>?_) hq hk
 rcases Nat.eq_or_lt_of_le h1 with rfl|hlt
 ·refine ⟨ho.col.len,λ j v hv=>?_⟩
  have h1:=ho.col.top hv
  have:=HN hT
  omega
 ·exact Tf hT hs (ho.rows i' hlt h2)
omit hs in
theorem Jfq {i:Nat} (hi:i<=s.length) {out:List (List Int)} (ho:Suf t s i out) {q:Ab} (hq:q∈Aa t) {k:Nat} (h:0<=KX t s out i q k) :
  (∃ p,Way t q (s.drop i) p/\KX t s out i q k=(Fn t p:Nat))/\KX t s out i q k<=((3072*(s.length-i)+4*Xv (out.getD i [])+4:Nat):Int):=by
 unfold KX at h ⊢
 split at h
 ·rename_i hc
  rw [if_pos hc]
  obtain ⟨hst,hb⟩:=hc
  obtain ⟨p1,p2,p3⟩:=hT.pr hst
  obtain ⟨q1,q2⟩:=En hb
  have q2:=q2 hi
  obtain ⟨m,hm,hmg⟩:=Dv (GU hT hq hst)
  rw [hm,JlJ] at h ⊢
  split at h
  ·omega
  ·rename_i hneg
   rw [if_neg hneg]
   rcases Nat.eq_zero_or_pos (prt t k).length with h0|h0
   ·have hp0:prt t k=[]:=List.length_eq_zero_iff.1 h0
    rw [h0,Nat.add_zero] at h hneg ⊢
    obtain ⟨v,hv,hd⟩:=ho.col.ach m _ hmg
    have hvv:(out.getD i []).getD m 0=v:=by rw [JlI (l:=out.getD i []),hv];rfl
    rw [hvv] at h hneg ⊢
    have hbn:=ho.col.bnd m v hv
    refine ⟨?_,by omega⟩
    have:=Pu hst (hd.resolve_left (by omega))
    rw [hp0,List.nil_append] at this
    exact this
   ·have hR:=ho.rows _ (show i<i+(prt t k).length by omega) q2
    have hv:=hR.val m _ hmg
    have hvv:(out.getD (i+(prt t k).length) []).getD m 0=AP t (AH t q k).1 (s.drop (i+(prt t k).length)):=by
     rw [JlI (l:=out.getD (i+(prt t k).length) []),hv];rfl
    have hbn:=hR.bnd m _ hv
    rw [hvv] at h hneg ⊢
    refine ⟨?_,?_⟩
    ·have:=Pu hst (GJ (x:=s.drop (i+(prt t k).length)) (by omega))
     rwa [← q1] at this
    ·have:3072*(s.length-(i+(prt t k).length)+1)<=3072*(s.length-i):=by omega
     omega
 ·omega
def Jjm (t:Ad) (s:List UInt8) (i:Nat) (out:List (List Int)) (j k:Nat):Prop:=∀ q,(Aa t)[j]? = some q->0<=KX t s out i q k->∃ v,(out.getD i [])[j]? = some v/\0<=v/\v<=KX t s out i q k
omit hs in
theorem JdU {i:Nat} (hi:i<=s.length) {out:List (List Int)} (ho:Suf t s i out) (h:∀ j k,j<(Aa t).length->k<t.Rules.length->Jjm t s i out j k):NR t s i (out.getD i []):=by
 have hx:∀ (j:Nat) q,(Aa t)[j]? = some q->(out.getD i [])[j]? = some (AP t q (s.drop i)):=by
  intro j q hq
  refine ho.col.exact (JdS hT) ⟨λ j q k hj hst hp y hy hc=>?_⟩ ⟨λ j q k hj hst hp=>?_⟩ hq
  ·have hk:=DR hst
   have hb:(prt t k).isPrefixOf (s.drop i)=true:=by rw [List.isPrefixOf_iff_prefix,hy];exact List.prefix_append _ _
   obtain ⟨q1,q2⟩:=En hb
   have q2:=q2 hi
   have hyy:s.drop (i+(prt t k).length)=y:=by rw [q1] at hy;exact List.append_cancel_left hy
   have hlp:0<(prt t k).length:=List.length_pos_iff.2 hp
   obtain ⟨m,hm,hmg⟩:=Dv (GU hT (JlB hj) hst)
   have hv:=(ho.rows _ (show i<i+(prt t k).length by omega) q2).val m _ hmg
   have ha:KX t s out i q k=AP t (AH t q k).1 y+(cls t k).length:=by
    unfold KX
    rw [if_pos ⟨hst,hb⟩,hm,JlJ,JlI (l:=out.getD (i+(prt t k).length) []),hv,Option.getD_some,hyy,if_neg (by omega)]
   have:=h j k (Aq hj) (by omega) q hj (by omega)
   rwa [ha] at this
  ·have hk:=DR hst
   obtain ⟨m,hm,hmg⟩:=Dv (GU hT (JlB hj) hst)
   obtain ⟨w,hw,_⟩:=ho.col.ach m _ hmg
   refine ⟨m,w,hmg,hw,λ h0=>?_⟩
   have ha:KX t s out i q k=w+(cls t k).length:=by
    unfold KX
    rw [if_pos ⟨hst,by rw [hp];rfl⟩,hm,JlJ,hp,List.length_nil,Nat.add_zero,JlI (l:=out.getD i []),hw,Option.getD_some,if_neg (by omega)]
   have:=h j k (Aq hj) (by omega) q hj (by omega)
   rwa [ha] at this
 refine ⟨ho.col.len,hx,λ j v hv=>?_⟩
 have h1:=(ho.col.top hv).2
 have:=HN hT
 omega
end
end Go.AI
end
section
namespace Go.AI
section
variable {t:Ad} (hT:FN t) {s:List UInt8} (hs:s.length<=4000)
include hT
def De (t:Ad) (x:List UInt8) (q:Ab):Int:=if x=[]/\By t q=true then 0 else -1
omit hT in
theorem Ux (t:Ad) (x:List UInt8) (D:Nat) (qs:List Ab):Col t x D qs (qs.map (De t x)):=by
 refine ⟨by simp,λ j q hj=>⟨De t x q,by simp [hj],?_⟩,λ j q hj hx ha=>by simp [hj,De,hx,ha],λ j v hv=>?_⟩
 ·unfold De
  split
  ·rename_i h;exact .inr ⟨[],⟨⟨q,rfl,h.2⟩,by rw [h.1];rfl⟩,by simp [Fn,cellsOf]⟩
  ·exact .inl rfl
 ·rw [JlD,JlC] at hv
  obtain ⟨q,_,rfl⟩:=hv
  unfold De
  split<;>omega
include hs
omit hT in
theorem Xw {i:Nat} (hi:i<=s.length):(((i:Nat):Int)==((s.length:Nat):Int))=decide (s.drop i=[]):=by
 have _:=hs
 rw [Bool.eq_iff_iff]
 simp only [beq_iff_eq,decide_eq_true_eq,List.drop_eq_nil_iff]
 omega
theorem Jfr {i:Nat} (hi:i<=s.length) (out0:List (List Int)) (hl:out0.length=s.length+1) (hr:(out0.getD i []).length=(Aa t).length) :
  Tot (λ n=>whl (λ (x:((List (List Int))×Int))=>CX n t s (Aa t) (i:Int) x.1 x.2) n (out0,0)) (λ out=>out=out0.set i ((Aa t).map (De t (s.drop i)))):=by
 have hlen:=HN hT
 refine Tot.upto (body:=λ n x=>CX n t s (Aa t) (i:Int) x.1 x.2) (Aa t).length (λ k x=>x.2=(k:Int)/\∃ row,x.1=out0.set i row/\row.length=(Aa t).length/\∀ (j:Nat) q,j<k->(Aa t)[j]? = some q->row[j]? = some (De t (s.drop i) q)) ?_ ?_ _ ⟨rfl,out0.getD i [],(Te _ _ _).symm,hr,by omega⟩
 ·rintro k ⟨out,k'⟩ hk ⟨e1,row,e2,e3,e4⟩
  simp only at e1 e2
  subst e1 e2
  have hJ:∀ v,v=De t (s.drop i) (Aa t)[k]->∀ out',out'=out0.set i (row.set k v)->Tot (λ n=>DO n (k:Int) out') (Rd2 (λ x:List (List Int)×Int=>x.2=((k+1:Nat):Int)/\∃ row,x.1=out0.set i row/\row.length=(Aa t).length/\∀ (j:Nat) q,j<k+1->(Aa t)[j]? = some q->row[j]? = some (De t (s.drop i) q)) (λ out=>out=out0.set i ((Aa t).map (De t (s.drop i))))):=by
   intro v hv out' ho'
   unfold DO
   refine Tot.pure ⟨CA (by omega),_,ho',by rw [JlR];exact e3,λ j q hj hq=>?_⟩
   by_cases e:k=j
   ·subst e
    rw [JlL (by omega),hv]
    rw [Jlz hk] at hq
    cases hq;rfl
   ·rw [JlQ e];exact e4 j q (by omega) hq
  unfold CX
  have hil:i<(out0.set i row).length:=by rw [JlR];omega
  have hg:(out0.set i row).getD i []=row:=Hh (by omega) _ _
  refine Tot.iteT (Hg hk) (Tot.bindC (Fp [] hil) ?_)
  rw [hg]
  refine Tot.bindC (Fp 0 (by omega)) (Tot.bindC (F9 (by omega)) ?_)
  rw [Xw hs hi,JlJ,List.set_set]
  by_cases hd:s.drop i=[]
  ·refine Tot.gE (decide_eq_true hd) (Ev.all λ n=>Fl hk) (Tot.gE (decide_eq_true hd) (Ev.all λ n=>Xi n t _) (Tot.ite (λ h=>?_) λ h=>?_))
   ·have ha:By t (Aa t)[k]=true:=by simpa [hd] using h
    refine Tot.bindC (Fp [] (by rw [JlR];omega)) ?_
    rw [Hh (by omega)]
    refine Tot.bindC (Fp 0 (by rw [JlR];omega)) (Tot.bindC (F9 (by rw [JlR];omega)) (hJ 0 ?_ _ ?_))
    ·unfold De;rw [if_pos ⟨hd,ha⟩]
    ·rw [List.set_set,List.set_set]
   ·have ha:By t (Aa t)[k]=false:=by simpa [hd] using h
    refine hJ (-1) ?_ _ rfl
    unfold De;rw [if_neg (by rw [ha];simp)]
  ·refine Tot.gF (decide_eq_false hd) (Tot.gF (decide_eq_false hd) (Tot.iteF (by simp [hd]) (hJ (-1) ?_ _ rfl)))
   unfold De;rw [if_neg (λ h=>hd h.1)]
 ·rintro ⟨out,k'⟩ ⟨e1,row,e2,e3,e4⟩
  simp only at e1 e2
  subst e1 e2
  unfold CX
  refine Tot.iteF (by simp) (Tot.pure ?_)
  refine congrArg (out0.set i) (List.ext_getElem? λ j=>?_)
  rcases Nat.lt_or_ge j (Aa t).length with h|h
  ·rw [e4 j _ h (Jlz h),JlD,Jlz h];rfl
  ·rw [JlV (by omega),JlV (by simpa using h)]
structure Pv (t:Ad) (s:List UInt8) (i:Nat) (B:Nat) (out0 out:List (List Int)) (ch:Bool) (k r:Nat):Prop where
 suf:Suf t s i out
 same:ch=false->out=out0/\∀ j m,(j<k\/(j=k/\m<r))->m<t.Rules.length->Jjm t s i out0 j m
 less:ch=true->phi B (out.getD i [])<phi B (out0.getD i [])
omit hT hs in
theorem JdV (n:Nat) (a c:Int) (hc:0<=c):MW n a c=some (if a<0\/c<a then c else a):=by
 unfold MW
 by_cases h:a<0\/c<a
 ·rw [if_pos h,if_pos (by simp only [JlT,JlA,decide_eq_true_eq];omega)]
 ·rw [if_neg h,if_neg (by simp only [JlT,JlA,decide_eq_true_eq];omega)]
theorem Jfs {i:Nat} (hi:i<=s.length) {B:Nat} (hB:13000000<=B) {out0 out1:List (List Int)} {ch1:Bool} {k:Nat} (hk:k<(Aa t).length) (h1:Pv t s i B out0 out1 ch1 k 0) :
  Tot (λ n=>whl (λ (x:((List (List Int))×Bool×Int))=>CY n t s (Aa t) (i:Int) (k:Int) x.1 x.2.1 x.2.2) n (out1,ch1,0)) (λ y=>Pv t s i B out0 y.1 y.2 k t.Rules.length):=by
 have hlen:=HN hT
 have hrl:=hT.tab.1
 refine Tot.upto (body:=λ n x=>CY n t s (Aa t) (i:Int) (k:Int) x.1 x.2.1 x.2.2) t.Rules.length (λ r x=>x.2.2=(r:Int)/\Pv t s i B out0 x.1 x.2.1 k r) ?_ ?_ _ ⟨rfl,h1⟩
 ·rintro r ⟨out,ch,r'⟩ hr ⟨e1,hP⟩
  simp only at e1 hP
  subst e1
  have hq:(Aa t)[k]? = some (Aa t)[k]:=Jlz hk
  have hqm:(Aa t)[k]∈Aa t:=List.getElem_mem hk
  have hA:=hP.suf
  have hJ:∀ out' ch',Pv t s i B out0 out' ch' k (r+1)->Tot (λ n=>DP n (r:Int) out' ch') (Rd2 (λ x:List (List Int)×Bool×Int=>x.2.2=((r+1:Nat):Int)/\Pv t s i B out0 x.1 x.2.1 k (r+1)) (λ y=>Pv t s i B out0 y.1 y.2 k t.Rules.length)):=by
   intro out' ch' h
   unfold DP
   exact Tot.pure ⟨CA (by omega),h⟩
  have hskip:Jjm t s i out k r->Pv t s i B out0 out ch k (r+1):=by
   intro hrel
   refine ⟨hA,λ hc=>⟨(hP.same hc).1,λ j m hjm hm=>?_⟩,hP.less⟩
   by_cases e:j=k/\m=r
   ·obtain ⟨rfl,rfl⟩:=e
    rw [← (hP.same hc).1];exact hrel
   ·exact (hP.same hc).2 j m (by omega) hm
  unfold CY
  refine Tot.iteT (Hg hr) (Tot.bindC (Ej hq) (Tot.bindE (JdT hT hs hi hA hqm hr) ?_))
  have hil:i<out.length:=by rw [hA.len];omega
  rw [JlJ]
  simp only [Te]
  have hcl:=hA.col.len
  obtain ⟨v,hv⟩:=hA.col.get hk
  have hvd:(out.getD i []).getD k 0=v:=by rw [JlI (l:=out.getD i []),hv];rfl
  by_cases hc:0<=KX t s out i (Aa t)[k] r
  ·obtain ⟨u1,u2⟩:=Jfq hT hi hA hqm hc
   have hgd:decide (KX t s out i (Aa t)[k] r>=0)=true:=by simpa using hc
   refine Tot.gE hgd (Ev.all λ n=>Fp [] hil) (Tot.gE hgd (Ev.all λ n=>Fp 0 (by omega)) ?_)
   rw [hvd]
   refine Tot.gE hgd (Ev.all λ n=>JdV n v _ hc) (Tot.gE hgd (Ev.all λ n=>Fp [] hil) (Tot.gE hgd (Ev.all λ n=>Fp 0 (by omega)) ?_))
   rw [hvd]
   by_cases hlt:v<0\/KX t s out i (Aa t)[k] r<v
   ·rw [if_pos hlt]
    refine Tot.iteT (by simp only [JlA,bne_iff_ne,ne_eq];exact ⟨hgd,by omega⟩) ?_
    have hfin:=Rt (out.getD i [])
    obtain ⟨g1,g2⟩:=hA.col.lower hq hv u1 (hlt.imp id id) u2 (B:=B) (by omega)
    refine Tot.bindC (Fp [] hil) (Tot.bindC (Fp 0 (by omega)) (Tot.bindC (F9 (by omega)) (hJ _ _ ?_)))
    have hgs:(out.set i ((out.getD i []).set k (KX t s out i (Aa t)[k] r))).getD i []=(out.getD i []).set k (KX t s out i (Aa t)[k] r):=Hh hil _ _
    refine ⟨⟨by rw [JlR];exact hA.len,λ i' h1 h2=>by rw [I9 (by omega)];exact hA.rows i' h1 h2,by rw [hgs];exact g1⟩,(λ h=>by cases h),λ _=>?_⟩
    rw [hgs]
    cases hch:ch with
    | false=>rw [(hP.same hch).1] at g2 ⊢;exact g2
    | true=>have:=hP.less hch;omega
   ·rw [if_neg hlt]
    refine Tot.iteF (by simp) (hJ _ _ (hskip λ q hq' _=>?_))
    rw [hq] at hq'
    cases hq'
    exact ⟨v,hv,by omega,by omega⟩
  ·have hgd:decide (KX t s out i (Aa t)[k] r>=0)=false:=by simpa using hc
   refine Tot.gF hgd (Tot.gF hgd (Tot.gF hgd (Tot.gF hgd (Tot.gF hgd (Tot.iteF (by rw [hgd];rfl) (hJ _ _ (hskip λ q hq' h0=>?_)))))))
   rw [hq] at hq'
   cases hq'
   exact absurd h0 hc
 ·rintro ⟨out,ch,r'⟩ ⟨e1,hP⟩
  simp only at e1 hP
  subst e1
  unfold CY
  exact Tot.iteF (by simp) (Tot.pure hP)
theorem Jft {i:Nat} (hi:i<=s.length) {B:Nat} (hB:13000000<=B) {out0:List (List Int)} (h1:Suf t s i out0) :
  Tot (λ n=>whl (λ (x:((List (List Int))×Bool×Int))=>CZ n t s (Aa t) (i:Int) x.1 x.2.1 x.2.2) n (out0,false,0)) (λ y=>Pv t s i B out0 y.1 y.2 (Aa t).length 0):=by
 have hlen:=HN hT
 refine Tot.upto (body:=λ n x=>CZ n t s (Aa t) (i:Int) x.1 x.2.1 x.2.2) (Aa t).length (λ k x=>x.2.2=(k:Int)/\Pv t s i B out0 x.1 x.2.1 k 0) ?_ ?_ _ ⟨rfl,h1,λ _=>⟨rfl,λ j m h=>by omega⟩,λ h=>by cases h⟩
 ·rintro k ⟨out,ch,k'⟩ hk ⟨e1,hP⟩
  simp only at e1 hP
  subst e1
  unfold CZ
  refine Tot.iteT (Hg hk) (Tot.bind (Jfs hT hs hi hB hk hP) ?_)
  rintro ⟨out',ch'⟩ hP'
  exact Tot.pure ⟨CA (by omega),hP'.suf,λ hc=>⟨(hP'.same hc).1,λ j m hjm hm=>(hP'.same hc).2 j m (by omega) hm⟩,hP'.less⟩
 ·rintro ⟨out,ch,k'⟩ ⟨e1,hP⟩
  simp only at e1 hP
  subst e1
  unfold CZ
  exact Tot.iteF (by simp) (Tot.pure hP)
theorem Jfu {i:Nat} (hi:i<=s.length) {out0:List (List Int)} (h1:Suf t s i out0) :
  Tot (λ n=>whl (λ (x:((List (List Int))×Bool))=>DQ n t s (Aa t) (i:Int) x.1 x.2) n (out0,true)) (λ out=>out.length=s.length+1/\∀ i',i<=i'->i'<=s.length->NR t s i' (out.getD i' [])):=by
 refine Tot.whl (body:=λ n x=>DQ n t s (Aa t) (i:Int) x.1 x.2) (λ m x=>Suf t s i x.1/\((x.2=true/\m=phi 13000000 (x.1.getD i [])+1)\/(x.2=false/\m=0/\NR t s i (x.1.getD i [])))) ?_ (phi 13000000 (out0.getD i [])+1) (out0,true) ⟨h1,.inl ⟨rfl,rfl⟩⟩
 rintro m ⟨out,ch⟩ ⟨hS,hm⟩
 simp only at hS hm
 unfold DQ
 rcases hm with ⟨rfl,rfl⟩|⟨rfl,rfl,hR⟩
 ·refine Tot.iteT rfl (Tot.bind (Jft hT hs hi (Nat.le_refl _) hS) ?_)
  rintro ⟨out',ch'⟩ hP
  simp only at hP
  cases ch' with
  | false=>
   obtain ⟨e,hrel⟩:=hP.same rfl
   subst e
   exact Tot.pure ⟨0,by omega,hS,.inr ⟨rfl,rfl,JdU hT hi hS λ j k hj hk=>hrel j k (by omega) hk⟩⟩
  | true=>
   have:=hP.less rfl
   exact Tot.pure ⟨phi 13000000 (out'.getD i [])+1,by omega,hP.suf,.inl ⟨rfl,rfl⟩⟩
 ·refine Tot.iteF rfl (Tot.pure ⟨hS.len,λ i' h1 h2=>?_⟩)
  rcases Nat.eq_or_lt_of_le h1 with rfl|h
  ·exact hR
  ·exact hS.rows i' h h2
theorem MD:Tot (λ n=>HG n t s) (λ out=>out.length=s.length+1/\∀ i,i<=s.length->NR t s i (out.getD i [])):=by
 have hlen:=HN hT
 unfold HG
 have e1:Au .i64 ((s.length:Nat):Int) 1=((s.length+1:Nat):Int):=CA (by omega)
 refine Tot.bindE (Xr hT.tab) ?_
 rw [e1]
 refine Tot.bindC (S9 (by omega) (by omega)) ?_
 rw [JlJ]
 refine Tot.bind (R:=λ out=>out.length=s.length+1/\∀ i,i<=s.length->NR t s i (out.getD i [])) ?_ (λ out h=>Tot.pure h)
 refine Tot.whl (body:=λ n x=>Fd n t s (Aa t) x.1 x.2) (λ m x=>x.2=(m:Int)-1/\x.1.length=s.length+1/\m<=s.length+1/\∀ i',m<=i'->i'<=s.length->NR t s i' (x.1.getD i' [])) ?_ (s.length+1) _ ⟨by simp,by simp,by omega,by omega⟩
 rintro m ⟨out,i'⟩ ⟨e2,e3,e4,e5⟩
 simp only at e2 e3 e5
 subst e2
 unfold Fd
 cases m with
 | zero=>exact Tot.iteF (by simp) (Tot.pure ⟨e3,λ i hi=>e5 i (by omega) hi⟩)
 | succ i=>
  have ei:((i+1:Nat):Int)-1=(i:Int):=by omega
  rw [ei]
  refine Tot.iteT (by simp) (Tot.bindC (Fp [] (show i<out.length by omega)) (Tot.bindC (S9 (by omega) (by omega)) ?_))
  rw [JlJ,JlJ]
  refine Tot.bind (Jfr hT hs (show i<=s.length by omega) (out.set i (List.replicate (Aa t).length 0)) (by rw [JlR];exact e3) (by rw [Hh (by omega),List.length_replicate])) ?_
  rintro out1 rfl
  rw [List.set_set]
  refine Tot.bind (Jfu hT hs (show i<=s.length by omega) ⟨by rw [JlR];exact e3,λ i' h1 h2=>?_,?_⟩) ?_
  ·rw [I9 (by omega)];exact e5 i' (by omega) h2
  ·rw [Hh (by omega)];exact Ux t _ _ _
  ·rintro out2 ⟨h1,h2⟩
   refine Tot.pure ⟨i,by omega,?_,h1,by omega,h2⟩
   show CI .i64 (i:Int) 1=(i:Int)-1
   rw [J2 (by omega) (by omega)]
end
end Go.AI
end
section
namespace Go.AI
def Rch (t:Ad) (s:List UInt8) (i:Nat) (q:Ab):Prop:=i<=s.length/\∃ p,Iy t BM p q/\D3 t p=s.take i
theorem Rch.start (t:Ad) (s:List UInt8):Rch t s 0 BM:=⟨by omega,[],rfl,by simp [D3]⟩
theorem ME (t:Ad) (p:List Int) (k:Int):D3 t (p++[k])=D3 t p++prt t k:=by simp [D3]
theorem Rch.next {t:Ad} {s:List UInt8} {i:Nat} {q:Ab} {k:Int} (h:Rch t s i q) (hk:(AH t q k).2=true) (hb:(prt t k).isPrefixOf (s.drop i)=true):Rch t s (i+(prt t k).length) (AH t q k).1:=by
 obtain ⟨h1,p,h2,h3⟩:=h
 obtain ⟨q1,q2⟩:=En hb
 refine ⟨q2 h1,p++[k],h2.snoc hk,?_⟩
 rw [ME,h3,List.take_add,q1,List.take_left' rfl]
theorem Rch.ind {t:Ad} {s:List UInt8} {A:Nat->Ab->Prop} (h0:A 0 BM) (h1:∀ i q (k:Nat),i<=s.length->A i q->(AH t q k).2=true->(prt t k).isPrefixOf (s.drop i)=true->A (i+(prt t k).length) (AH t q k).1):∀ {i:Nat} {q:Ab},Rch t s i q->A i q:=by
 have key:∀ (p:List Int) (i:Nat) (q q':Ab),A i q->i<=s.length->Iy t q p q'->(∃ y,s.drop i=D3 t p++y)->A (i+(D3 t p).length) q':=by
  intro p
  induction p with
  | nil=>
   intro i q q' hA _ hg _
   unfold Iy at hg
   subst hg
   simpa [D3] using hA
  | cons k p ih=>
   intro i q q' hA hi hg hy
   obtain ⟨g1,g2⟩:=hg
   obtain ⟨y,hy⟩:=hy
   obtain ⟨k,rfl⟩:∃ n:Nat,k=n:=⟨k.toNat,by have:=DR g1;omega⟩
   rw [I8,List.append_assoc] at hy
   have hb:(prt t k).isPrefixOf (s.drop i)=true:=by rw [List.isPrefixOf_iff_prefix];exact ⟨_,hy.symm⟩
   obtain ⟨q1,q2⟩:=En hb
   have:=ih _ _ q' (h1 i q k hi hA g1 hb) (q2 hi) g2 ⟨y,by rw [q1] at hy;exact List.append_cancel_left hy⟩
   rw [I8,List.length_append,← Nat.add_assoc]
   exact this
 rintro i q ⟨hi,p,hg,ht⟩
 have:=key p 0 BM q h0 (by omega) hg ⟨s.drop i,by rw [ht,List.drop_zero,List.take_append_drop]⟩
 rw [ht,List.length_take,JlO,Nat.min_eq_left hi] at this
 exact this
def Uy (s:List UInt8) (i:Nat):Int:=if i<s.length then F8 (NQ s i) else 0
theorem Xx (s:List UInt8) (i:Nat):0<=Uy s i/\Uy s i<=5:=by
 unfold Uy
 split
 ·have:=I5 (NQ s i);omega
 ·omega
def YC (t:Ad) (s:List UInt8) (i:Nat):Prop:=∃ q,Rch t s i q/\LG q.Need (Uy s i)=true
def Uz (t:Ad) (s:List UInt8) (v:Int):Prop:=(∃ i:Nat,v=i/\YC t s i)/\∀ i:Nat,YC t s i->(i:Int)<=v
theorem Uz.uniq {t:Ad} {s:List UInt8} {v w:Int} (h:Uz t s v) (h':Uz t s w):v=w:=by
 obtain ⟨⟨i,e1,h1⟩,h2⟩:=h
 obtain ⟨⟨j,e2,g1⟩,g2⟩:=h'
 have:=h2 j g1
 have:=g2 i h1
 omega
theorem JkW (t:Ad) (s:List UInt8):YC t s 0:=by
 refine ⟨BM,.start t s,?_⟩
 have h:=Xx s 0
 generalize Uy s 0=c at h
 have:c=0\/c=1\/c=2\/c=3\/c=4\/c=5:=by omega
 rcases this with rfl|rfl|rfl|rfl|rfl|rfl<;>decide +kernel
def Tg (t:Ad) (s:List UInt8) (i:Nat) (v:Int):Prop:=(∃ j:Nat,v=j/\(j=0\/(j<i/\YC t s j)))/\∀ j:Nat,j<i->YC t s j->(j:Int)<=v
theorem Tg.stop {t:Ad} {s:List UInt8} {i:Nat} (hs:YC t s i):Tg t s (i+1) (i:Nat):=⟨⟨i,rfl,.inr ⟨by omega,hs⟩⟩,λ j h _=>by omega⟩
theorem Tg.skip {t:Ad} {s:List UInt8} {i:Nat} {v:Int} (h:Tg t s i v) (hs:¬YC t s i):Tg t s (i+1) v:=by
 obtain ⟨⟨j,e,h1⟩,h2⟩:=h
 refine ⟨⟨j,e,h1.imp id λ h=>⟨by omega,h.2⟩⟩,λ k hk hS=>?_⟩
 by_cases e:k=i
 ·subst e;exact absurd hS hs
 ·exact h2 k (by omega) hS
theorem Tg.all {t:Ad} {s:List UInt8} {v:Int} (h:Tg t s (s.length+1) v):Uz t s v:=by
 obtain ⟨⟨j,e,h1⟩,h2⟩:=h
 refine ⟨⟨j,e,?_⟩,λ i hi=>h2 i ?_ hi⟩
 ·rcases h1 with rfl|h1
  ·exact JkW t s
  ·exact h1.2
 ·obtain ⟨q,hq,_⟩:=hi
  have:=hq.1
  omega
section
variable {t:Ad} (hT:FN t) {s:List UInt8} (hs:s.length<=4000)
def Mk (m:List (List Bool)) (i j:Nat):Prop:=(m.getD i [])[j]? = some true
structure Rea (t:Ad) (s:List UInt8) (i:Nat) (m:List (List Bool)):Prop where
 len:m.length=s.length+1
 rows:∀ i,i<=s.length->(m.getD i []).length=(Aa t).length
 sound:∀ i j,i<=s.length->Mk m i j->∃ q,(Aa t)[j]? = some q/\Rch t s i q
 first:Mk m 0 0
 done:∀ i',i'<i->∀ j k:Nat,∀ q,Mk m i' j->(Aa t)[j]? = some q->(AH t q k).2=true->(prt t k).isPrefixOf (s.drop i')=true->∃ j',(Aa t)[j']? = some (AH t q k).1/\Mk m (i'+(prt t k).length) j'
theorem Mk.set {m:List (List Bool)} {i j:Nat} (hi:i<m.length) (hj:j<(m.getD i []).length) {i' j':Nat}:Mk (m.set i ((m.getD i []).set j true)) i' j'↔(i=i'/\j=j')\/Mk m i' j':=by
 unfold Mk
 by_cases e:i=i'
 ·subst e
  rw [Hh hi]
  by_cases e2:j=j'
  ·subst e2;rw [JlL hj];simp
  ·rw [JlQ e2];simp [e2]
 ·rw [I9 e];simp [e]
include hT hs
omit hs in
theorem Rea.all {i:Nat} {m:List (List Bool)} (h:Rea t s (i+1) m) {j:Nat} {q:Ab} (hq:(Aa t)[j]? = some q):Rch t s i q↔i<=s.length/\Mk m i j:=by
 constructor
 ·intro hr
  refine ⟨hr.1,?_⟩
  have key:∀ {i' q},Rch t s i' q->i'<=i->∃ j,(Aa t)[j]? = some q/\Mk m i' j:=λ {i' q} hr=>Rch.ind (A:=λ i' q=>i'<=i->∃ j,(Aa t)[j]? = some q/\Mk m i' j) (λ _=>⟨0,(HQ hT.tab).1.first,h.first⟩) (λ i' q k hi' hA hst hpf hle=>by
   obtain ⟨j,h1,h2⟩:=hA (by omega)
   exact h.done i' (by omega) j k q h2 h1 hst hpf) hr
  obtain ⟨j',h1,h2⟩:=key hr (Nat.le_refl _)
  rwa [Jfn (JdS hT) hq h1]
 ·rintro ⟨h1,h2⟩
  obtain ⟨q',g1,g2⟩:=h.sound i j h1 h2
  rw [hq] at g1;cases g1
  exact g2
end
end Go.AI
end
section
namespace Go.AI
def JkX (t:Ad) (q:Ab) (k:Nat):Option A8:=if (AH t q k).2=true then some ⟨k,Ei (Aa t) (AH t q k).1⟩ else none
def Jjn (t:Ad) (q:Ab):List A8:=(List.range t.Rules.length).filterMap (JkX t q)
structure JdW (t:Ad) (s:List UInt8) (w:Af):Prop where
 tt:w.T=t
 ss:w.S=s
 st:w.States=Aa t
 al:w.Arcs.length=(Aa t).length
 arc:∀ (j:Nat) q,(Aa t)[j]? = some q->w.Arcs[j]? = some (Jjn t q)
section
variable {t:Ad} (hT:FN t) {s:List UInt8} (hs:s.length<=4000)
include hT hs
omit hs in
theorem Jfv {nb:List (Ab×Int)} (hN:I6 (Aa t) nb) {q:Ab} (hq:q∈Aa t):Option.getD (Gb q nb) 0=Ei (Aa t) q:=by
 obtain ⟨j,hj,hg⟩:=Dv hq
 rw [hN q,C5 (JdS hT) hg,hj];rfl
end
end Go.AI
end
section
namespace Go.AI
def LH (w:Af) (p:Nat):List Int:=(w.Columns.getD p default).States
def InC (w:Af) (p:Nat) (v:Int):Prop:=v∈LH w p
structure Kn (t:Ad) (s:List UInt8) (place:Nat) (w:Af) (kn:List (List Bool)):Prop where
 base:JdW t s w
 clen:w.Columns.length=s.length+1
 cost:∀ p,(w.Columns.getD p default).Costs=[]
 klen:kn.length=5
 rows:∀ c,c<5->(kn.getD c []).length=(Aa t).length
 nod:∀ p,(LH w p).Nodup
 ok:∀ p v,InC w p v->∃ (j:Nat) (q:Ab),v=(j:Int)/\(Aa t)[j]? = some q/\Rch t s p q
 row:∀ p,place<=p->p<place+5->∀ j:Nat,(kn.getD (p % 5) [])[j]? = some true↔InC w p (j:Int)
 far:∀ p,place+5<=p->LH w p=[]
structure Pw (w w':Af):Prop where
 last:w'.Last=w.Last
 pre:∀ p,LH w p <+: LH w' p
theorem Pw.refl (w:Af):Pw w w:=⟨rfl,λ _=>List.prefix_rfl⟩
theorem Pw.trans {w w' w'':Af} (h:Pw w w') (h':Pw w' w''):Pw w w'':=⟨h'.last.trans h.last,λ p=>(h.pre p).trans (h'.pre p)⟩
theorem Pw.inc {w w':Af} (h:Pw w w') {p:Nat} {v:Int} (hv:InC w p v):InC w' p v:=(h.pre p).subset hv
theorem JdX {w:Af} {p:Nat} (hp:p<w.Columns.length) (c:AE) (p':Nat) (a b d:Int) (x:List Ay):((w.Columns.set p c).getD p' default)=if p=p' then c else w.Columns.getD p' default:=by
 split
 ·rename_i e;subst e;exact Hh hp _ _
 ·rename_i e;exact I9 e _ _
section
variable {t:Ad} (hT:FN t) {s:List UInt8} (hs:s.length<=4000)
include hT hs
omit hs in
theorem Kn.len {place:Nat} {w:Af} {kn:List (List Bool)} (h:Kn t s place w kn) (p:Nat):(LH w p).length<=(Aa t).length:=by
 have _:=hT
 have hsub:∀ v∈LH w p,v∈(List.range (Aa t).length).map (λ j:Nat=>(j:Int)):=by
  intro v hv
  obtain ⟨j,q,rfl,hq,_⟩:=h.ok p v hv
  exact List.mem_map.2 ⟨j,List.mem_range.2 (Aq hq),rfl⟩
 have:=(h.nod p).length_le_of_subset hsub
 simpa using this
def Clo (t:Ad) (s:List UInt8) (w:Af) (p:Nat) (q:Ab):Prop:=∀ k:Nat,(AH t q k).2=true->(prt t k).isPrefixOf (s.drop p)=true->∃ j:Nat,(Aa t)[j]? = some (AH t q k).1/\InC w (p+(prt t k).length) (j:Int)
omit hT hs in
theorem Clo.ext {w w':Af} {p:Nat} {q:Ab} (h:Clo t s w p q) (he:Pw w w'):Clo t s w' p q:=λ k h1 h2=>by
 obtain ⟨j,g1,g2⟩:=h k h1 h2
 exact ⟨j,g1,he.inc g2⟩
omit hT hs in
theorem Kn.last {place:Nat} {w:Af} {kn:List (List Bool)} (h:Kn t s place w kn) (v:Int):Kn t s place { w with Last:=v } kn:=⟨⟨h.base.tt,h.base.ss,h.base.st,h.base.al,h.base.arc⟩,h.clen,h.cost,h.klen,h.rows,h.nod,h.ok,h.row,h.far⟩
end
end Go.AI
end
section
namespace Go.AI
def Th (t:Ad) (w:Af) (p:Nat):List Ab:=(LH w p).map λ v=>(Aa t).getD v.toNat default
abbrev QR (w:Af) (p:Nat):List Int:=(w.Columns.getD p default).Costs
structure PI (t:Ad) (s:List UInt8) (place:Nat) (w:Af):Prop where
 base:JdW t s w
 clen:w.Columns.length=s.length+1
 nod:∀ p,(LH w p).Nodup
 ok:∀ p v,InC w p v->∃ (j:Nat) (q:Ab),v=(j:Int)/\(Aa t)[j]? = some q/\Rch t s p q
 all:∀ p (j:Nat) q,(Aa t)[j]? = some q->Rch t s p q->InC w p (j:Int)
 sort:∀ p,p<=s.length->(LH w p).Pairwise (·<=·)
 later:∀ p,place<p->p<=s.length->(∀ (i:Nat) q,(Th t w p)[i]? = some q->(QR w p)[i]? = some (AP t q (s.drop p)))/\∀ (i:Nat) v,(QR w p)[i]? = some v->v<=((3072*(s.length-p+1):Nat):Int)
 col:Col t (s.drop place) (3072*(s.length-place)) (Th t w place) (QR w place)
section
variable {t:Ad} (hT:FN t) {s:List UInt8} (hs:s.length<=4000)
include hT
omit hT in
theorem Jjo {w:Af} {p:Nat} (hok:∀ v,InC w p v->∃ (j:Nat) (q:Ab),v=(j:Int)/\(Aa t)[j]? = some q/\Rch t s p q) {i:Nat} {q:Ab}:(Th t w p)[i]? = some q↔∃ j:Nat,(LH w p)[i]? = some (j:Int)/\(Aa t)[j]? = some q:=by
 unfold Th
 rw [JlD,JlC]
 constructor
 ·rintro ⟨v,hv,rfl⟩
  obtain ⟨j,q,rfl,hq,_⟩:=hok v (JlB hv)
  refine ⟨j,hv,?_⟩
  rw [JlJ,JlI,hq];rfl
 ·rintro ⟨j,hv,hq⟩
  refine ⟨_,hv,?_⟩
  rw [JlJ,JlI,hq];rfl
theorem PI.pos {place:Nat} {w:Af} (h:PI t s place w) {p:Nat} {q:Ab} (hr:Rch t s p q) (hq:q∈Aa t):∃ d:Nat,(LH w p)[d]? = some (Ei (Aa t) q)/\(Th t w p)[d]? = some q:=by
 have _:=hT
 obtain ⟨j,hj,hg⟩:=Dv hq
 obtain ⟨d,hd,e⟩:=List.getElem_of_mem (h.all p j q hg hr)
 have:(LH w p)[d]? = some (j:Int):=by rw [← e];exact Jlz hd
 exact ⟨d,by rw [hj];exact this,(Jjo (h.ok p)).2 ⟨j,this,hg⟩⟩
include hs in
end
end Go.AI
end
section
namespace Go.AI
def JaA (w:Af) (p:Nat) (cs:List Int):Af:={ w with Columns:=w.Columns.set p ⟨(w.Columns.getD p default).States,cs⟩ }
theorem Dw {w:Af} {p:Nat} (hp:p<w.Columns.length) (cs:List Int) (p':Nat):LH (JaA w p cs) p'=LH w p'/\QR (JaA w p cs) p'=if p=p' then cs else QR w p':=by
 have h:=JdX hp ⟨(w.Columns.getD p default).States,cs⟩ p' 0 0 0 []
 unfold LH QR JaA
 simp only
 rw [h]
 split
 ·rename_i e;subst e;exact ⟨rfl,rfl⟩
 ·exact ⟨rfl,rfl⟩
theorem Ru {t:Ad} {w:Af} {p:Nat} (hp:p<w.Columns.length) (cs:List Int) (p':Nat):Th t (JaA w p cs) p'=Th t w p':=by
 unfold Th
 rw [(Dw hp cs p').1]
theorem PI.set {t:Ad} {s:List UInt8} {place:Nat} {w:Af} (h:PI t s place w) (hpl:place<=s.length) {cs:List Int} (hc:Col t (s.drop place) (3072*(s.length-place)) (Th t w place) cs):PI t s place (JaA w place cs):=by
 have hp:place<w.Columns.length:=by rw [h.clen];omega
 refine ⟨⟨h.base.tt,h.base.ss,h.base.st,h.base.al,h.base.arc⟩,?_,λ p=>?_,λ p v hv=>?_,λ p j q h1 h2=>?_,λ p hp'=>?_,λ p h1 h2=>?_,?_⟩
 ·show (w.Columns.set _ _).length=_
  rw [JlR];exact h.clen
 ·rw [(Dw hp cs p).1];exact h.nod p
 ·unfold InC at hv;rw [(Dw hp cs p).1] at hv;exact h.ok p v hv
 ·unfold InC;rw [(Dw hp cs p).1];exact h.all p j q h1 h2
 ·rw [(Dw hp cs p).1];exact h.sort p hp'
 ·rw [Ru hp,(Dw hp cs p).2,if_neg (by omega)];exact h.later p h1 h2
 ·rw [Ru hp,(Dw hp cs place).2,if_pos rfl];exact hc
section
variable {t:Ad} (hT:FN t) {s:List UInt8} (hs:s.length<=4000)
include hT hs
end
end Go.AI
end
section
namespace Go.AI
structure PB (t:Ad) (s:List UInt8) (m:Nat) (w:Af):Prop where
 base:JdW t s w
 clen:w.Columns.length=s.length+1
 nod:∀ p,(LH w p).Nodup
 ok:∀ p v,InC w p v->∃ (j:Nat) (q:Ab),v=(j:Int)/\(Aa t)[j]? = some q/\Rch t s p q
 all:∀ p (j:Nat) q,(Aa t)[j]? = some q->Rch t s p q->InC w p (j:Int)
 sort:∀ p,p<=s.length->(LH w p).Pairwise (·<=·)
 later:∀ p,m<=p->p<=s.length->(∀ (i:Nat) q,(Th t w p)[i]? = some q->(QR w p)[i]? = some (AP t q (s.drop p)))/\∀ (i:Nat) v,(QR w p)[i]? = some v->v<=((3072*(s.length-p+1):Nat):Int)
theorem PB.set {t:Ad} {s:List UInt8} {place:Nat} {w:Af} (h:PB t s (place+1) w) (hpl:place<=s.length) {cs:List Int} (hc:Col t (s.drop place) (3072*(s.length-place)) (Th t w place) cs):PI t s place (JaA w place cs):=by
 have hp:place<w.Columns.length:=by rw [h.clen];omega
 refine ⟨⟨h.base.tt,h.base.ss,h.base.st,h.base.al,h.base.arc⟩,?_,λ p=>?_,λ p v hv=>?_,λ p j q h1 h2=>?_,λ p hp'=>?_,λ p h1 h2=>?_,?_⟩
 ·show (w.Columns.set _ _).length=_
  rw [JlR];exact h.clen
 ·rw [(Dw hp cs p).1];exact h.nod p
 ·unfold InC at hv;rw [(Dw hp cs p).1] at hv;exact h.ok p v hv
 ·unfold InC;rw [(Dw hp cs p).1];exact h.all p j q h1 h2
 ·rw [(Dw hp cs p).1];exact h.sort p hp'
 ·rw [Ru hp,(Dw hp cs p).2,if_neg (by omega)];exact h.later p (by omega) h2
 ·rw [Ru hp,(Dw hp cs place).2,if_pos rfl];exact hc
section
variable {t:Ad} (hT:FN t) {s:List UInt8} (hs:s.length<=4000)
include hT hs
end
end Go.AI
end
section
namespace Go.AI
structure YD (t:Ad) (s:List UInt8) (w:AT) (a e:Int):Prop where
 bad:(Hu s).2≠0->w=⟨[],[]⟩/\a=(Hu s).1/\e=(Hu s).2
 none:(Hu s).2=0->AP t BM s<0->w=⟨[],[]⟩/\Uz t s a/\e=61
 path:(Hu s).2=0->0<=AP t BM s->e=0/\a=(s.length:Int)/\∃ p,If t BM s p/\w=⟨cellsOf t p,p⟩
theorem YD.uniq {t:Ad} {s:List UInt8} {w w':AT} {a a' e e':Int} (h:YD t s w a e) (h':YD t s w' a' e'):w=w'/\a=a'/\e=e':=by
 by_cases h1:(Hu s).2=0
 ·by_cases h2:AP t BM s<0
  ·obtain ⟨g1,g2,g3⟩:=h.none h1 h2
   obtain ⟨k1,k2,k3⟩:=h'.none h1 h2
   exact ⟨g1.trans k1.symm,g2.uniq k2,g3.trans k3.symm⟩
  ·obtain ⟨g1,g2,p,g3,g4⟩:=h.path h1 (by omega)
   obtain ⟨k1,k2,p',k3,k4⟩:=h'.path h1 (by omega)
   have:=g3.uniq k3
   subst this
   exact ⟨g4.trans k4.symm,g2.trans k2.symm,g1.trans k1.symm⟩
 ·obtain ⟨g1,g2,g3⟩:=h.bad h1
  obtain ⟨k1,k2,k3⟩:=h'.bad h1
  exact ⟨g1.trans k1.symm,g2.trans k2.symm,g3.trans k3.symm⟩
theorem Iy.app {t:Ad}:∀ {p:List Int} {q q' q'':Ab} {p':List Int},Iy t q p q'->Iy t q' p' q''->Iy t q (p++p') q''
 | [],q,q',q'',p',h,h'=>by unfold Iy at h;subst h;exact h'
 | a::p,q,q',q'',p',h,h'=>⟨h.1,Iy.app h.2 h'⟩
theorem UA (t:Ad) (p:List Int) (k:Int):Fn t (p++[k])=Fn t p+(cls t k).length:=by simp [Fn,cellsOf]
section
variable {t:Ad} (hT:FN t) {s:List UInt8} (hs:s.length<=4000)
include hT
include hs
structure JdY (t:Ad) (s:List UInt8) (p0:List Int) (place:Nat) (q:Ab):Prop where
 goes:Iy t BM p0 q
 text:D3 t p0=s.take place
 le:place<=s.length
 greedy:∀ p1,If t q (s.drop place) p1->If t BM s (p0++p1)
 len:Fn t p0+(AP t q (s.drop place)).toNat<=(AP t BM s).toNat
 plen:p0.length<=Fn t p0
 pos:0<=AP t q (s.drop place)
omit hs in
theorem JdY.next {p0:List Int} {place:Nat} {q:Ab} (h:JdY t s p0 place q) {k:Nat} (hc:0<AP t q (s.drop place)) (hk:Oq t q (s.drop place) k=AP t q (s.drop place)) (hm:∀ j:Nat,j<k->Oq t q (s.drop place) j≠AP t q (s.drop place)):JdY t s (p0++[(k:Int)]) (place+(prt t k).length) (AH t q k).1:=by
 obtain ⟨g1,⟨y,g2,g3⟩,g4,g5⟩:=Uw (t:=t) (q:=q) (x:=s.drop place) (k:=(k:Int)) (by omega)
 rw [List.drop_drop] at g3 g4 g5
 have hpf:(prt t k).isPrefixOf (s.drop place)=true:=by rw [List.isPrefixOf_iff_prefix,g2];exact List.prefix_append _ _
 obtain ⟨q1,q2⟩:=En hpf
 obtain ⟨p1,p2,p3⟩:=hT.pr g1
 refine ⟨h.goes.snoc g1,?_,q2 h.le,λ p' hp'=>?_,?_,?_,g4⟩
 ·rw [ME,h.text,List.take_add,q1,List.take_left' rfl]
 ·rw [List.append_assoc]
  exact h.greedy _ (.cons hc hk hm (by rw [List.drop_drop];exact hp'))
 ·rw [UA];have:=h.len;omega
 ·rw [UA,List.length_append];have:=h.plen;simp only [List.length_cons,List.length_nil];omega
omit hT hs in
theorem JdY.start {t:Ad} {s:List UInt8} (h:0<=AP t BM s):JdY t s [] 0 BM:=⟨rfl,by simp [D3],by omega,λ p hp=>by simpa using hp,by simp [Fn,cellsOf],by simp,h⟩
omit hs in
theorem Rch.mem {i:Nat} {q:Ab} (h:Rch t s i q):q∈Aa t:=by
 obtain ⟨j,hj⟩:=Rch.ind (A:=λ _ q=>∃ j:Nat,(Aa t)[j]? = some q) ⟨0,(HQ hT.tab).1.first⟩ (λ i' q k _ hA hst _=>by
  obtain ⟨j,hj⟩:=hA
  obtain ⟨d,_,hd⟩:=Dv (GU hT (JlB hj) hst)
  exact ⟨d,hd⟩) h
 exact JlB hj
end
end Go.AI
end
section
namespace Go.AI
section
variable {t:Ad} (hT:FN t) {s:List UInt8} (hs:s.length<=4000)
include hT
include hs
end
theorem VO (a b:List Int) (ha:a.length<9223372036854775807):Ev (λ n=>DN n a b) (decide (a=b)):=by
 unfold DN
 by_cases hl:a.length=b.length
 ·refine Ev.iteF (by rw [Yw];simp [hl]) ?_
  refine Ev.bind (MZ a.length (λ i=>if a.getD i default=b.getD i default then none else some false) (λ i hi=>Ev.all λ n=>?_) (Ev.all λ n=>?_)) ?_
  ·unfold Fy
   rw [if_pos (Hg hi),Mz hi,Option.bind_some,Mz (by omega),Option.bind_some]
   by_cases h:a.getD i default=b.getD i default
   ·rw [if_neg (by simpa using h),if_pos h,CA (by omega)]
   ·rw [if_pos (by simpa using h),if_neg h]
  ·unfold Fy
   rw [if_neg (by simp)]
  ·rw [Uv a b hl]
   by_cases e:a=b
   ·rw [if_pos e,decide_eq_true e];exact Ev.const
   ·rw [if_neg e,decide_eq_false e];exact Ev.const
 ·refine Ev.iteT (by rw [Yw];simp [hl]) ?_
  rw [show decide (a=b)=false by simp;intro h;exact hl (by rw [h])]
  exact Ev.const
end Go.AI
end
section
namespace Go.AI
def QS (t:Ad) (s:List UInt8):Prop:=s.length<=12/\∃ p:List Int,(∀ k∈p,0<=k/\k<t.Rules.length)/\D3 t p=s
theorem Ti {t:Ad} (ht:t.Rules.length<1000000) (hpr:∀ r∈t.Rules,r.Print.length<=1000) {l:List Int} (hl:∀ a∈l,U8 a):Tot (λ n=>G5 n t l) (QS t):=by
 unfold G5
 refine Tot.bind (R:=QS t) ?_ λ y hy=>Tot.pure hy
 refine Tot.upto (body:=λ n x=>Eg n t l x.1 x.2) (min (min l.length 12) (t.Rules.length*13)) (λ i x=>x.2=(i:Int)/\QS t x.1) ?_ ?_ _ ⟨rfl,by simp,[],by simp,rfl⟩
 ·rintro i ⟨s,x⟩ hi ⟨h1,h2,p,h3,h4⟩
  simp only at h1 h2 h4
  subst h1
  unfold Eg
  obtain ⟨a,ham,hai⟩:=Oo (l:=l) (i:=(i:Int)) (by omega) (by omega)
  have hu:=hl a ham
  have hw:IntKind.i64.wrap a=a:=w64 (by unfold U8 at hu;omega) (by unfold U8 at hu;omega)
  have hrr:=El (a:=a) (m:=((t.Rules.length:Nat):Int)) hu.1 (by omega)
  have hrule:=Tb (t:=t) hrr.1 hrr.2
  have hp:=hpr _ (GI (t:=t) hrr.1 hrr.2)
  refine Tot.iteT (by simp;omega) (Tot.bindC hai (Tot.bindC (MY (by simp;intro h;rw [h] at hi;simp at hi)) ?_))
  rw [hw]
  refine Tot.bindC hrule ?_
  have hJ:∀ s',QS t s'->Tot (λ n=>Ef n (i:Int) s') (Rd2 (λ x=>x.2=((i+1:Nat):Int)/\QS t x.1) (QS t)):=λ s' hs'=>by
   unfold Ef
   exact Tot.pure ⟨CA (by omega),hs'⟩
  have e1:Au .i64 ((s.length:Nat):Int) ((List.length (Em t (A9 a ((t.Rules.length:Nat):Int))).Print:Nat):Int)=((s.length+(Em t (A9 a ((t.Rules.length:Nat):Int))).Print.length:Nat):Int):=by rw [EJ]<;>omega
  simp only [e1]
  refine Tot.ite (λ hc=>Tot.bindC (Qn (by simp only [decide_eq_true_eq] at hc;omega)) (hJ _ ⟨by simp only [decide_eq_true_eq] at hc;rw [List.length_append];omega,p++[A9 a ((t.Rules.length:Nat):Int)],?_,by simp [ME,h4]⟩)) (λ hc=>hJ _ ⟨h2,p,h3,h4⟩)
  intro k hk
  rcases List.mem_append.1 hk with hk|hk
  ·exact h3 k hk
  ·cases List.mem_singleton.1 hk;exact hrr
 ·rintro ⟨s,x⟩ ⟨h1,h2⟩
  simp only at h1 h2
  subst h1
  unfold Eg
  refine Tot.iteF ?_ (Tot.pure h2)
  simp
  intro h3 h4
  have:t.Rules.length*13<=12\/¬ t.Rules.length*13<=12:=Classical.em _
  apply Classical.byContradiction
  intro h5
  have:0<t.Rules.length:=List.length_pos_iff.2 h5
  omega
theorem Jr.six {t:Ad} (h:Jr t):FN t:=⟨h.tab,λ r hr=>by have:=Ie (h.sound r hr);exact ⟨by omega,by omega⟩⟩
end Go.AI
end
section
namespace Go.AI
theorem UB {t:Ad} (hc:∀ r∈t.Rules,1<=r.Cells.length):∀ {p:List Int},(∀ k∈p,0<=k/\k<t.Rules.length)->p.length<=Fn t p
 | [],_=>by simp
 | k::p,h=>by
  have h1:=h k (by simp)
  have h2:=hc _ (GI h1.1 h1.2)
  have h3:=UB (t:=t) hc (p:=p) λ a ha=>h a (by simp [ha])
  rw [FK,List.length_cons]
  simp only [cls];omega
theorem Way.mem {t:Ad} {q:Ab} {x:List UInt8} {p:List Int} (h:Way t q x p):∀ k∈p,0<=k/\k<t.Rules.length:=by
 obtain ⟨⟨q',h1,_⟩,_⟩:=h
 exact h1.mem
section
variable {t:Ad} (hT:FN t) {s:List UInt8} (hs:s.length<=4000)
include hT hs
theorem JdZ:AP t BM s<=13000000:=by
 obtain ⟨out,⟨_,hR⟩,_⟩:=MD hT hs
 have hf:=(HQ hT.tab).1.first
 exact ((Tf hT hs (hR 0 (by omega))).2 0 _ ((hR 0 (by omega)).val 0 _ hf)).2
theorem YD.size {w:AT} {a e:Int} (h:YD t s w a e):w.Cells.length<=13000000/\w.Path.length<=13000000:=by
 by_cases h1:(Hu s).2=0
 ·by_cases h2:AP t BM s<0
  ·obtain ⟨rfl,_⟩:=h.none h1 h2
   simp
  ·obtain ⟨_,_,p,g3,rfl⟩:=h.path h1 (by omega)
   have g4:=g3.way hT.one (by omega)
   have g5:=UB hT.one g4.1.mem
   have g6:=JdZ hT hs
   have:Fn t p=(cellsOf t p).length:=rfl
   simp only;omega
 ·obtain ⟨rfl,_⟩:=h.bad h1
  simp
end
theorem Way.last {t:Ad} {s:List UInt8} {p:List Int} (h:Way t BM s p):Uz t s (s.length:Int):=by
 obtain ⟨⟨q,h1,h2⟩,h3⟩:=h
 refine ⟨⟨s.length,rfl,q,⟨by omega,p,h1,by rw [h3,List.take_length]⟩,?_⟩,λ i ⟨q,hq,_⟩=>by have:=hq.1;omega⟩
 unfold By at h2
 simp only [JlA] at h2
 unfold Uy
 rw [if_neg (by omega)]
 exact h2.2
end Go.AI
end
section
namespace Go.AI
structure VP (t:Ad):Prop where
 tab:Ht t
 valid:Fm t=true
theorem VP.six {t:Ad} (h:VP t):FN t:=⟨h.tab,λ r hr=>by have:=Ie (HM h.valid r hr);exact ⟨by omega,by omega⟩⟩
theorem VP.small {t:Ad} (h:VP t):KW t:=⟨by have:=h.tab.1;omega,λ r hr=>by have:=Ie (HM h.valid r hr);exact ⟨by omega,by omega⟩⟩
theorem YE {x:Nf} (hx:Ps x):∃ t,(Jr t/\t.Rules.length<=10)/\Ev (λ n=>JH n x) t:=by
 obtain ⟨t,h,hE⟩:=Jax hx
 exact ⟨t,⟨h.1,h.2.2⟩,hE⟩
structure JaB (t:Ad):Prop where
 modes:t.Modes=1
 accept:t.Accept=1
 rules:∀ r∈t.Rules,r.From=0/\r.To=0/\r.Left=63/\r.Right=63
def Xy (q:Ab):Prop:=q.Mode=0/\q.Need=63/\0<=q.Last/\q.Last<=5
theorem Jf5 {c:Int} (h:0<=c) (h':c<=5):LG 63 c=true:=by
 have:c=0\/c=1\/c=2\/c=3\/c=4\/c=5:=by omega
 rcases this with rfl|rfl|rfl|rfl|rfl|rfl<;>decide +kernel
theorem JaB.step {t:Ad} (h:JaB t) {q:Ab} (hq:Xy q) {k:Int} (h0:0<=k) (h1:k<t.Rules.length):(AH t q k).2=true/\Xy (AH t q k).1:=by
 obtain ⟨q1,q2,q3,q4⟩:=hq
 obtain ⟨r1,r2,r3,r4⟩:=h.rules _ (GI h0 h1)
 unfold AH
 rw [if_neg (by simp;omega)]
 show (S6 (Em t k) q).2=true/\Xy (S6 (Em t k) q).1
 unfold S6
 have e63:Ch .u8 63 63=63:=by decide +kernel
 rw [r1,r2,r3,r4,q1,q2,Jf5 q3 q4,e63]
 rw [if_neg (by simp)]
 have hc:=I5 (NQ (Em t k).Print 0)
 have hc2:=I5 (NQ (Em t k).Print ((Em t k).Print.length-1))
 split
 ·rw [if_neg (by simp)]
  exact ⟨rfl,rfl,rfl,q3,q4⟩
 ·rw [Jf5 (by omega) (by omega),if_neg (by simp)]
  exact ⟨rfl,rfl,rfl,by show 0<=F8 _;omega,by show F8 _<=5;omega⟩
theorem JaB.goes {t:Ad} (h:JaB t):∀ (p:List Int) (q:Ab),Xy q->(∀ k∈p,0<=k/\k<t.Rules.length)->∃ q',Iy t q p q'/\Xy q'
 | [],q,hq,_=>⟨q,rfl,hq⟩
 | k::p,q,hq,hk=>by
  have h1:=hk k (by simp)
  obtain ⟨h2,h3⟩:=h.step hq h1.1 h1.2
  obtain ⟨q',h4,h5⟩:=h.goes p _ h3 λ a ha=>hk a (by simp [ha])
  exact ⟨q',⟨h2,h4⟩,h5⟩
theorem JaB.way {t:Ad} (h:JaB t) {p:List Int} (hk:∀ k∈p,0<=k/\k<t.Rules.length):Way t BM (D3 t p) p:=by
 obtain ⟨q',h1,h2,h3,h4⟩:=h.goes p BM ⟨rfl,rfl,by decide,by decide⟩ hk
 refine ⟨⟨q',h1,?_⟩,rfl⟩
 unfold By
 rw [h.modes,h.accept,h2,h3]
 decide +kernel
end Go.AI
end
section
namespace Go.AI
noncomputable def AW (t:Ad) (x:List UInt8):List Int:=(Aa t).map λ q=>AP t q x
def Fq (a v:Int):Int:=if 0<=v/\(a<0\/v<a) then v else a
def Bg (l:List Int):Int:=l.foldl Fq (-1)
def Ct (l:List Int):List Int:=l.map λ v=>if v<0 then -1 else v-Bg l
noncomputable def BE (t:Ad) (s:List UInt8):A0:=⟨s,(List.range (s.length+1)).map λ i=>Ct (AW t (s.drop i)),(List.range (s.length+1)).map λ i=>Bg (AW t (s.drop i))⟩
theorem NR.eq {t:Ad} {s:List UInt8} {i:Nat} {row:List Int} (h:NR t s i row):row=AW t (s.drop i):=by
 refine List.ext_getElem? λ j=>?_
 unfold AW
 rw [JlD]
 rcases Nat.lt_or_ge j (Aa t).length with hj|hj
 ·rw [h.val j _ (Jlz hj),Jlz hj];rfl
 ·rw [JlV (by rw [h.len];exact hj),JlV hj];rfl
theorem Xz (l:List Int):∀ a,(l.foldl Fq a=a\/l.foldl Fq a∈l)/\(0<=a->0<=l.foldl Fq a/\l.foldl Fq a<=a)/\∀ v∈l,0<=v->0<=l.foldl Fq a/\l.foldl Fq a<=v:=by
 induction l with
 | nil=>intro a;exact ⟨.inl rfl,λ h=>⟨h,Int.le_refl _⟩,λ v hv=>by cases hv⟩
 | cons x l ih=>
  intro a
  obtain ⟨h1,h2,h3⟩:=ih (Fq a x)
  rw [List.foldl_cons]
  have hm:Fq a x=a\/Fq a x=x:=by unfold Fq;split<;>simp
  have hb:(0<=a->0<=Fq a x/\Fq a x<=a)/\(0<=x->0<=Fq a x/\Fq a x<=x):=by unfold Fq;split<;>omega
  refine ⟨?_,λ ha=>?_,λ v hv h0=>?_⟩
  ·rcases h1 with h1|h1
   ·rcases hm with hm|hm
    ·exact .inl (h1.trans hm)
    ·exact .inr (by rw [h1,hm];simp)
   ·exact .inr (List.mem_cons_of_mem _ h1)
  ·have:=hb.1 ha;have:=h2 this.1;omega
  ·rcases List.mem_cons.1 hv with rfl|hv
   ·have:=hb.2 h0;have:=h2 this.1;omega
   ·exact h3 v hv h0
theorem Qp {l:List Int} {v:Int} (hv:v∈l) (h0:0<=v):0<=Bg l/\Bg l<=v:=(Xz l (-1)).2.2 v hv h0
theorem YF (l:List Int):Bg l=-1\/Bg l∈l:=(Xz l (-1)).1
theorem Qq {l:List Int} {B:Int} (hB:-1<=B) (h:∀ v∈l,-1<=v/\v<=B):-1<=Bg l/\Bg l<=B:=by
 rcases YF l with h1|h1
 ·omega
 ·exact h _ h1
theorem UC {l:List Int} {k:Nat} (h:k<l.length) (a:Int):(l.take (k+1)).foldl Fq a=Fq ((l.take k).foldl Fq a) l[k]:=by
 rw [List.take_add_one,Jlz h,List.foldl_append]
 rfl
theorem Jd0 {out:List (List Int)} {i:Nat} {row:List Int} (hr:out[i]? = some row) (hl:row.length<1000000) (m:A0):Tot (λ n=>whl (λ (x:(Int×Int))=>FE n out m (i:Int) x.1 x.2) n (-1,0)) (λ y=>y=Bg row):=by
 have hi:=Ej hr
 refine Tot.upto (body:=λ n x=>FE n out m (i:Int) x.1 x.2) row.length (λ k x=>x.2=(k:Int)/\x.1=(row.take k).foldl Fq (-1)) ?_ ?_ _ ⟨rfl,rfl⟩
 ·rintro k ⟨a,k'⟩ hk ⟨e1,e2⟩
  simp only at e1 e2
  subst e1
  have hv:=Fl hk
  have hJ:∀ b,b=Fq a row[k]->Tot (λ n=>G6 n (k:Int) b) (Rd2 (λ x:Int×Int=>x.2=((k+1:Nat):Int)/\x.1=(row.take (k+1)).foldl Fq (-1)) (λ y=>y=Bg row)):=by
   intro b hb
   unfold G6
   exact Tot.pure ⟨CA (by omega),by rw [UC hk,← e2];exact hb⟩
  unfold FE
  refine Tot.bindC hi (Tot.iteT (Hg hk) (Tot.bindC hi (Tot.bindC hv ?_)))
  by_cases h0:0<=row[k]
  ·by_cases h1:a<0
   ·refine Tot.gF (by simp [h1]) (Tot.gF (by simp [h1]) (Tot.iteT (by simp [h0,h1]) (Tot.bindC hi (Tot.bindC hv (hJ _ ?_)))))
    unfold Fq;rw [if_pos ⟨h0,.inl h1⟩]
   ·refine Tot.gE (by simp;omega) (Ev.all λ _=>hi) (Tot.gE (by simp;omega) (Ev.all λ _=>hv) (Tot.ite (λ h=>Tot.bindC hi (Tot.bindC hv (hJ _ ?_))) λ h=>hJ _ ?_))
    ·unfold Fq
     simp only [JlA,JlT,decide_eq_true_eq] at h
     rw [if_pos ⟨h0,h.2⟩]
    ·unfold Fq
     rw [if_neg]
     intro hc
     rw [← Bool.not_eq_true] at h
     refine h ?_
     simp only [JlA,JlT,decide_eq_true_eq]
     exact ⟨h0,hc.2⟩
  ·refine Tot.gF (by simp;omega) (Tot.gF (by simp;omega) (Tot.iteF (by simp;omega) (hJ _ ?_)))
   unfold Fq;rw [if_neg λ h=>h0 h.1]
 ·rintro ⟨a,k'⟩ ⟨e1,e2⟩
  simp only at e1 e2
  subst e1
  rw [List.take_length] at e2
  unfold FE
  exact Tot.bindC hi (Tot.iteF (by simp) (Tot.pure e2))
theorem Jd1 {out:List (List Int)} {i:Nat} {row:List Int} (hr:out[i]? = some row) (hl:row.length<1000000) (hb:∀ v∈row,-1<=v/\v<=13000000) (m:A0):Tot (λ n=>whl (λ (x:((List Int)×Int))=>FF n out m (i:Int) (Bg row) x.1 x.2) n ([],0)) (λ y=>y=Ct row):=by
 have hi:=Ej hr
 have hlr:=Qq (by decide) hb
 refine Tot.upto (body:=λ n x=>FF n out m (i:Int) (Bg row) x.1 x.2) row.length (λ k x=>x.2=(k:Int)/\x.1=(row.take k).map λ v=>if v<0 then -1 else v-Bg row) ?_ ?_ _ ⟨rfl,by simp⟩
 ·rintro k ⟨a,k'⟩ hk ⟨e1,e2⟩
  simp only at e1 e2
  subst e1
  have hv:=Fl hk
  have hbk:=hb _ (List.getElem_mem hk)
  have hla:a.length=k:=by rw [e2];simp;omega
  have hJ:∀ b,b=a++[if row[k]<0 then -1 else row[k]-Bg row]->Tot (λ n=>G7 n (k:Int) b) (Rd2 (λ x:List Int×Int=>x.2=((k+1:Nat):Int)/\x.1=(row.take (k+1)).map λ v=>if v<0 then -1 else v-Bg row) (λ y=>y=Ct row)):=by
   intro b h
   unfold G7
   refine Tot.pure ⟨CA (by omega),?_⟩
   rw [h,e2,List.take_add_one,Jlz hk,List.map_append]
   rfl
  unfold FF
  refine Tot.bindC hi (Tot.iteT (Hg hk) (Tot.bindC hi (Tot.bindC hv (Tot.ite (λ h=>Tot.bindC (KU (by simp;omega)) (hJ _ ?_)) λ h=>Tot.bindC hi (Tot.bindC hv (Tot.bindC (KU (by simp;omega)) (hJ _ ?_)))))))
  ·rw [decide_eq_true_eq] at h
   rw [if_pos h]
  ·rw [decide_eq_false_iff_not] at h
   rw [if_neg h,J2 (by omega) (by omega)]
 ·rintro ⟨a,k'⟩ ⟨e1,e2⟩
  simp only at e1 e2
  subst e1
  rw [List.take_length] at e2
  unfold FF
  exact Tot.bindC hi (Tot.iteF (by simp) (Tot.pure e2))
section
variable {t:Ad} (hT:FN t) {s:List UInt8} (hs:s.length<=4000)
include hT hs
theorem Rv {i:Nat} (hi:i<=s.length):(AW t (s.drop i)).length=(Aa t).length/\∀ v∈AW t (s.drop i),-1<=v/\v<=((3072*(s.length-i+1):Nat):Int):=by
 refine ⟨by simp [AW],λ v hv=>?_⟩
 obtain ⟨out,⟨_,hR⟩,_⟩:=MD hT hs
 have h:=hR i hi
 rw [← h.eq] at hv
 obtain ⟨j,hj⟩:=List.mem_iff_getElem?.1 hv
 exact ⟨((Tf hT hs h).2 j v hj).1,h.bnd j v hj⟩
theorem VQ {i:Nat} (hi:i<=s.length) {v:Int} (hv:v∈AW t (s.drop i)):-1<=v/\v<=13000000:=by
 have:=(Rv hT hs hi).2 v hv
 omega
theorem VR:Ev (λ n=>JK n t s) (BE t s):=by
 have hlen:=HN hT
 refine Tot.ev ?_
 unfold JK
 refine Tot.bind (MD hT hs) ?_
 rintro out ⟨hol,hR⟩
 refine Tot.bind (R:=λ y=>y=BE t s) ?_ (λ y h=>Tot.pure h)
 refine Tot.upto (body:=λ n x=>G8 n out x.1 x.2) (s.length+1) (λ k x=>x.2=(k:Int)/\x.1=⟨s,(List.range k).map λ i=>Ct (AW t (s.drop i)),(List.range k).map λ i=>Bg (AW t (s.drop i))⟩) ?_ ?_ _ ⟨rfl,rfl⟩
 ·rintro k ⟨m,k'⟩ hk ⟨e1,e2⟩
  simp only at e1 e2
  subst e1 e2
  have hRk:=hR k (by omega)
  have hg:out[k]? = some (AW t (s.drop k)):=by
   rw [← hRk.eq,JlI,Jlz (by omega)];rfl
  have hrr:=Rv hT hs (show k<=s.length by omega)
  unfold G8
  refine Tot.iteT (by rw [hol];exact Hg hk) (Tot.bind (Jd0 hg (by omega) _) ?_)
  rintro _ rfl
  refine Tot.bind (Jd1 hg (by omega) (λ v hv=>VQ hT hs (by omega) hv) _) ?_
  rintro _ rfl
  refine Tot.bindC (KU (by simp;omega)) (Tot.bindC (KU (by simp;omega)) (Tot.pure ⟨CA (by omega),?_⟩))
  simp only [List.range_succ,List.map_append,List.map_cons,List.map_nil]
 ·rintro ⟨m,k'⟩ ⟨e1,e2⟩
  simp only at e1 e2
  subst e1
  unfold G8
  exact Tot.iteF (by rw [hol];simp) (Tot.pure e2)
end
theorem Jd2 (a b:A0) (h1:a.Least.length<1000000) (h2:a.Costs.length<1000000) (h3:∀ l∈a.Costs,l.length<1000000):Ev (λ n=>JL n a b) (decide (a=b)):=by
 refine Tot.ev ?_
 unfold JL
 obtain ⟨at',ac,al⟩:=a
 obtain ⟨bt,bc,bl⟩:=b
 simp only at h1 h2 h3 ⊢
 by_cases ht:at'=bt
 ·by_cases hc:ac.length=bc.length
  ·refine Tot.gE (by simp [ht,hc]) (VO al bl (by omega)) ?_
   by_cases hl:al=bl
   ·refine Tot.iteF (by simp [ht,hc,hl]) ?_
    subst ht hl
    refine Tot.bind (R:=λ y:Unit⊕Bool=>(y=.inl ()/\ac=bc)\/(y=.inr false/\ac≠bc)) ?_ ?_
    ·refine Tot.upto (body:=λ n x=>G9 n ⟨at',ac,al⟩ ⟨at',bc,al⟩ x) ac.length (λ k x=>x=(k:Int)/\ac.take k=bc.take k) ?_ ?_ _ ⟨rfl,rfl⟩
     ·rintro k _ hk ⟨rfl,e⟩
      have hkb:k<bc.length:=by omega
      unfold G9
      refine Tot.iteT (Hg hk) (Tot.bindC (Fl hk) (Tot.bindC (Fl hkb) (Tot.bindE (VO _ _ (by have:=h3 _ (List.getElem_mem hk);omega)) (Tot.ite (λ h=>?_) λ h=>?_))))
      ·refine Tot.pure (.inr ⟨rfl,λ he=>?_⟩)
       subst he
       simp at h
      ·refine Tot.pure ⟨CA (by omega),?_⟩
       have:ac[k]=bc[k]:=by simpa using h
       rw [List.take_add_one,List.take_add_one,e,Jlz hk,Jlz hkb,this]
     ·rintro _ ⟨rfl,e⟩
      unfold G9
      refine Tot.iteF (by simp) (Tot.pure (.inl ⟨rfl,?_⟩))
      rwa [List.take_length,hc,List.take_length] at e
    ·rintro y (⟨rfl,h⟩|⟨rfl,h⟩)
     ·exact Tot.pure (by simp [h])
     ·exact Tot.pure (by simp [h])
   ·refine Tot.iteT (by simp [hl]) (Tot.pure ?_)
    simp [hl]
  ·have hc':((ac.length:Nat):Int)≠((bc.length:Nat):Int):=by omega
   refine Tot.gF (by simp [ht,hc']) (Tot.iteT (by simp [ht,hc']) (Tot.pure ?_))
   simp only [A0.mk.injEq]
   exact (decide_eq_false λ h=>hc (by rw [h.2.1])).symm
 ·refine Tot.gF (by simp [ht]) (Tot.iteT (by simp [ht]) (Tot.pure ?_))
  simp [ht]
theorem XA {t:Ad} (hT:FN t) {s:List UInt8} (hs:s.length<=4000) (b:A0):Ev (λ n=>JL n (BE t s) b) (decide (BE t s=b)):=by
 have hlen:=HN hT
 refine Jd2 _ _ (by simp [BE];omega) (by simp [BE];omega) λ l hl=>?_
 simp only [BE,List.mem_map] at hl
 obtain ⟨i,_,rfl⟩:=hl
 simp only [Ct,AW,List.length_map]
 omega
end Go.AI
end
section
namespace Go.AI
def GK (t:Ad) (q:Ab) (k:Nat):Option N0:=if (AH t q k).2=true then some ⟨prt t k,((cls t k).length:Nat),Ei (Aa t) (AH t q k).1⟩ else none
def Bf (t:Ad) (q:Ab):List N0:=(List.range t.Rules.length).filterMap (GK t q)
def BJ (t:Ad):AM:=⟨(Aa t).map (Bf t),(Aa t).map (By t)⟩
theorem Qr {t:Ad} {q:Ab} {a:N0}:a∈Bf t q↔∃ k:Nat,k<t.Rules.length/\(AH t q k).2=true/\a=⟨prt t k,((cls t k).length:Nat),Ei (Aa t) (AH t q k).1⟩:=by
 unfold Bf
 rw [List.mem_filterMap]
 constructor
 ·rintro ⟨k,hk,h⟩
  unfold GK at h
  split at h
  ·rename_i hs;cases h;exact ⟨k,List.mem_range.1 hk,hs,rfl⟩
  ·cases h
 ·rintro ⟨k,hk,hs,rfl⟩
  exact ⟨k,List.mem_range.2 hk,by unfold GK;rw [if_pos hs]⟩
theorem UD (t:Ad) (q:Ab):(Bf t q).length<=t.Rules.length:=by
 have:=List.length_filterMap_le (GK t q) (List.range t.Rules.length)
 simpa [Bf] using this
section
variable {t:Ad} (hT:FN t)
include hT
theorem Jfw:Tot (λ n=>whl (λ (x:((List (Ab×Int))×Int))=>B1 n t (Aa t) x.1 x.2) n ([],0)) (I6 (Aa t)):=by
 have hlen:=HN hT
 refine Tot.upto (body:=λ n y=>B1 n t (Aa t) y.1 y.2) (Aa t).length (λ k y=>y.2=(k:Int)/\I6 ((Aa t).take k) y.1) ?_ ?_ _ ⟨rfl,λ q=>rfl⟩
 ·rintro k ⟨nb,k'⟩ hk ⟨e1,hN⟩
  simp only at e1 hN
  subst e1
  unfold B1
  refine Tot.iteT (Hg hk) (Tot.bindC (Fl hk) (Tot.pure ⟨CA (by omega),?_⟩))
  have hn:=JdS hT
  have e:(Aa t).take (k+1)=(Aa t).take k++[(Aa t)[k]]:=by rw [List.take_add_one,Jlz hk];rfl
  have hnd:((Aa t).take (k+1)).Nodup:=(List.take_sublist _ _).nodup hn
  rw [e] at hnd
  have hp:(Aa t)[k] ∉ (Aa t).take k:=by
   intro hm
   exact (List.nodup_append.1 hnd).2.2 _ hm _ (by simp) rfl
  have:=I6.snoc hN ((List.take_sublist _ _).nodup hn) hp
  rw [← e,List.length_take,Nat.min_eq_left (by omega)] at this
  exact this
 ·rintro ⟨nb,k'⟩ ⟨e1,hN⟩
  simp only at e1 hN
  subst e1
  rw [List.take_length] at hN
  unfold B1
  exact Tot.iteF (by simp) (Tot.pure hN)
theorem Jd3 {nb:List (Ab×Int)} (hN:I6 (Aa t) nb) {j:Nat} {q:Ab} (hq:(Aa t)[j]? = some q) (g0:AM) (hl:g0.Arcs.length=(Aa t).length) (h0:g0.Arcs[j]? = some []) :
  Tot (λ n=>whl (λ (x:(AM×Int))=>B2 n t (Aa t) nb (j:Int) q x.1 x.2) n (g0,0)) (λ g=>g={ g0 with Arcs:=g0.Arcs.set j (Bf t q) }):=by
 have hrl:=hT.tab.1
 have hjl:=Aq hq
 refine Tot.upto (body:=λ n x=>B2 n t (Aa t) nb (j:Int) q x.1 x.2) t.Rules.length (λ k x=>x.2=(k:Int)/\x.1={ g0 with Arcs:=g0.Arcs.set j ((List.range k).filterMap (GK t q)) }/\((List.range k).filterMap (GK t q)).length<=k) ?_ ?_ _ ⟨rfl,?_,by simp⟩
 ·rintro k ⟨g,k'⟩ hk ⟨e1,e2,e3⟩
  simp only at e1 e2 e3
  subst e1
  have hJ:∀ g',g'={ g0 with Arcs:=g0.Arcs.set j ((List.range (k+1)).filterMap (GK t q)) }->Tot (λ n=>Cp n (k:Int) g') (Rd2 (λ x:AM×Int=>x.2=((k+1:Nat):Int)/\x.1={ g0 with Arcs:=g0.Arcs.set j ((List.range (k+1)).filterMap (GK t q)) }/\((List.range (k+1)).filterMap (GK t q)).length<=k+1) (λ g=>g={ g0 with Arcs:=g0.Arcs.set j (Bf t q) })):=by
   intro g' hg
   unfold Cp
   refine Tot.pure ⟨CA (by omega),hg,?_⟩
   exact Nat.le_trans (List.length_filterMap_le _ _) (by simp)
  unfold B2
  have hir:idx t.Rules (k:Int)=some (Em t k):=Tb (by omega) (by omega)
  refine Tot.iteT (Hg hk) (Tot.bindC hir (Tot.bindA (λ n=>Rs hT.tab.short n q k) (Tot.ite (λ h=>?_) λ h=>?_)))
  ·subst e2
   refine Tot.bindC (Fp [] (by rw [JlR];omega)) ?_
   rw [Hh (by omega)]
   refine Tot.bindC (KU (by simp;omega)) (hJ _ ?_)
   rw [Jfv hT hN (GU hT (JlB hq) h)]
   simp only [JlJ,List.set_set,List.range_succ,List.filterMap_append]
   have:(List.filterMap (GK t q) [k])=[⟨prt t k,((cls t k).length:Nat),Ei (Aa t) (AH t q k).1⟩]:=by
    simp only [List.filterMap_cons,GK,h,if_true,List.filterMap_nil]
   rw [this]
  ·refine hJ _ ?_
   rw [e2]
   simp only [List.range_succ,List.filterMap_append]
   have:(List.filterMap (GK t q) [k])=[]:=by
    simp only [List.filterMap_cons,GK,h,JlM,if_false,List.filterMap_nil]
   rw [this,List.append_nil]
 ·rintro ⟨g,k'⟩ ⟨e1,e2,e3⟩
  simp only at e1 e2
  subst e1
  unfold B2
  exact Tot.iteF (by simp) (Tot.pure e2)
 ·show g0={ g0 with Arcs:=g0.Arcs.set j [] }
  have:g0.Arcs.set j []=g0.Arcs:=by
   have:=Te g0.Arcs j []
   rwa [JlI,h0] at this
  rw [this]
theorem Jd4:Ev (λ n=>DD n t) (BJ t):=by
 have hlen:=HN hT
 refine Tot.ev ?_
 unfold DD
 refine Tot.bindE (Yu hT.tab) (Tot.bind (Jfw hT) ?_)
 intro nb hN
 refine Tot.bindC (S9 (by omega) (by omega)) (Tot.bindC (S9 (by omega) (by omega)) ?_)
 simp only [JlJ]
 refine Tot.bind (R:=λ g=>g=BJ t) ?_ (λ g h=>Tot.pure h)
 refine Tot.upto (body:=λ n x=>Cq n t (Aa t) nb x.1 x.2) (Aa t).length (λ k x=>x.2=(k:Int)/\∃ A B,x.1=(⟨A,B⟩:AM)/\(A.length=(Aa t).length/\(∀ (j:Nat) q,j<k->(Aa t)[j]? = some q->A[j]? = some (Bf t q))/\∀ j,k<=j->j<(Aa t).length->A[j]? = some [])/\B.length=(Aa t).length/\∀ (j:Nat) q,j<k->(Aa t)[j]? = some q->B[j]? = some (By t q)) ?_ ?_ _ ⟨rfl,_,_,rfl,⟨by simp,by omega,λ j _ h=>by rw [List.getElem?_replicate,if_pos h]⟩,by simp,by omega⟩
 ·rintro k ⟨g,k'⟩ hk ⟨e1,A,B,e2,⟨a1,a2,a3⟩,b1,b2⟩
  simp only at e1 e2
  subst e1 e2
  have hq:(Aa t)[k]? = some (Aa t)[k]:=Jlz hk
  unfold Cq
  refine Tot.iteT (Hg hk) (Tot.bindC (Ej hq) (Tot.bindA (λ n=>Yr n t _) (Tot.bindC (Fp false (show k<B.length by omega)) (Tot.bindC (F9 (show k<B.length by omega)) (Tot.bind (Jd3 hT hN hq _ a1 (a3 k (Nat.le_refl _) hk)) ?_)))))
  rintro _ rfl
  refine Tot.pure ⟨CA (by omega),_,_,rfl,⟨by rw [JlR];exact a1,λ j q hj hjq=>?_,λ j h1 h2=>?_⟩,by rw [JlR];exact b1,λ j q hj hjq=>?_⟩
  ·by_cases e:k=j
   ·subst e
    rw [hq] at hjq;cases hjq
    exact JlL (show k<A.length by omega)
   ·rw [JlQ e];exact a2 j q (by omega) hjq
  ·rw [JlQ (by omega)];exact a3 j (by omega) h2
  ·by_cases e:k=j
   ·subst e
    rw [hq] at hjq;cases hjq
    exact JlL (show k<B.length by omega)
   ·rw [JlQ e];exact b2 j q (by omega) hjq
 ·rintro ⟨g,k'⟩ ⟨e1,A,B,e2,⟨a1,a2,a3⟩,b1,b2⟩
  simp only at e1 e2
  subst e1 e2
  unfold Cq
  refine Tot.iteF (by simp) (Tot.pure ?_)
  show (⟨A,B⟩:AM)=⟨(Aa t).map (Bf t),(Aa t).map (By t)⟩
  congr 1
  ·refine List.ext_getElem? λ j=>?_
   rcases Nat.lt_or_ge j (Aa t).length with h|h
   ·rw [a2 j _ h (Jlz h),JlD,Jlz h];rfl
   ·rw [JlV (by omega),JlV (by simpa using h)]
  ·refine List.ext_getElem? λ j=>?_
   rcases Nat.lt_or_ge j (Aa t).length with h|h
   ·rw [b2 j _ h (Jlz h),JlD,Jlz h];rfl
   ·rw [JlV (by omega),JlV (by simpa using h)]
end
theorem YG:Ev (λ n=>H1 n) true:=Ev.of (λ n m h=>TQ h) (n:=60) (by kernel_rfl)
end Go.AI
end
section
namespace Go.AI
section
variable {α:Type}
theorem E5 {l ys:List α} {lo k:Nat} (h:lo+ys.length<=l.length) (hk:k<ys.length):(spl l lo ys)[lo+k]? = ys[k]? := by
 unfold spl
 have e:(l.take lo).length=lo:=by simp;omega
 rw [List.append_assoc,JlS (by omega),e,JlH (by omega)]
 congr 1;omega
theorem Px {l ys:List α} {lo j:Nat} (h:lo+ys.length<=l.length) (hj:j<lo\/lo+ys.length<=j):(spl l lo ys)[j]? = l[j]? := by
 unfold spl
 have e:(l.take lo).length=lo:=by simp;omega
 rw [List.append_assoc]
 rcases hj with hj|hj
 ·rw [JlH (by omega),JlU hj]
 ·rw [JlS (by omega),JlS (by omega),List.getElem?_drop]
  congr 1;omega
theorem Ig {l ys:List α} {lo:Nat} (h:lo+ys.length<=l.length):(spl l lo ys).length=l.length:=by
 unfold spl
 simp
 omega
theorem MF {l ys:List α} {lo k:Nat} (h:lo+ys.length<=l.length) (hk:k<ys.length) (v:α):(spl l lo ys).set (lo+k) v=spl l lo (ys.set k v):=by
 have h':lo+(ys.set k v).length<=l.length:=by rw [JlR];exact h
 refine List.ext_getElem? λ j=>?_
 by_cases e:lo+k=j
 ·subst e
  rw [JlL (by rw [Ig h];omega),E5 h' (by rw [JlR];exact hk),JlL hk]
 ·rw [JlQ e]
  by_cases hj:j<lo\/lo+ys.length<=j
  ·rw [Px h hj,Px h' (by rw [JlR];exact hj)]
  ·obtain ⟨m,rfl⟩:∃ m,j=lo+m:=⟨j-lo,by omega⟩
   rw [E5 h (by omega),E5 h' (by rw [JlR];omega),JlQ (by omega)]
theorem Jd5 {l:List α} {lo S:Nat} (h:lo+S<=l.length):spl l lo ((l.drop lo).take S)=l:=by
 unfold spl
 have e:((l.drop lo).take S).length=S:=by simp;omega
 rw [e,List.append_assoc]
 have:(l.drop lo).take S++l.drop (lo+S)=l.drop lo:=by
  rw [← List.drop_drop];exact List.take_append_drop _ _
 rw [this,List.take_append_drop]
theorem JaC {l ys:List α} {lo:Nat} (h:lo+ys.length<=l.length):((spl l lo ys).drop lo).take ys.length=ys:=by
 refine List.ext_getElem? λ j=>?_
 rw [List.getElem?_take,List.getElem?_drop]
 split
 ·rename_i hj;exact E5 h hj
 ·rename_i hj;rw [JlV (by omega)]
theorem YH {l ys:List α} {lo lo' S:Nat} (h:lo+ys.length<=l.length) (hd:lo'+S<=lo\/lo+ys.length<=lo'):((spl l lo ys).drop lo').take S=(l.drop lo').take S:=by
 refine List.ext_getElem? λ j=>?_
 rw [List.getElem?_take,List.getElem?_take]
 split
 ·rename_i hj
  rw [List.getElem?_drop,List.getElem?_drop,Px h (by omega)]
 ·rfl
theorem Jjp {n k:Nat} (h:k<n):inB n (k:Int)=some ():=by
 unfold inB Bn
 rw [if_pos (by simp;omega)]
theorem Js {l:List α} {lo S k:Nat} {v:α} (hk:k<S) (h:l[lo+k]? = some v):ixP l (lo,S) (k:Int)=some v:=by
 unfold ixP
 rw [Jjp hk,Option.bind_some,JlJ]
 exact Ej h
end
def Hk (S n:Nat):List (Nat×Nat):=(List.range n).map λ i=>(i*S,S)
theorem Tj {S n i:Nat} (h:i<n):idx (Hk S n) (i:Int)=some (i*S,S):=by
 refine Ej ?_
 simp [Hk,h]
theorem Ja {S n i:Nat} (h:i<n):i*S+S<=S*n:=by
 have:(i+1)*S<=n*S:=Nat.mul_le_mul_right S h
 rw [JlN,Nat.one_mul,Nat.mul_comm n S] at this
 exact this
theorem VS {S i j:Nat} (h:i<j):i*S+S<=j*S:=by
 have:(i+1)*S<=j*S:=Nat.mul_le_mul_right S h
 rw [JlN,Nat.one_mul] at this
 exact this
structure Lat (t:Ad) (s:List UInt8) (i:Nat) (l ls:List Int):Prop where
 len:l.length=(Aa t).length*(s.length+1)
 ll:ls.length=s.length+1
 col:∀ p,i<p->p<=s.length->(l.drop (p*(Aa t).length)).take (Aa t).length=Ct (AW t (s.drop p))
 lst:∀ p,i<p->p<=s.length->ls[p]? = some (Bg (AW t (s.drop p)))
def Low (a b:List Int):Prop:=∀ (j:Nat) v,a[j]? = some v->0<=v->∃ w,b[j]? = some w/\0<=w/\w<=v
theorem Low.refl (a:List Int):Low a a:=λ _ v h h0=>⟨v,h,h0,Int.le_refl _⟩
theorem Low.set {a:List Int} {k:Nat} {v c:Int} (hv:a[k]? = some v) (hc:0<=c) (hlt:v<0\/c<v):Low a (a.set k c):=by
 intro j w hw h0
 by_cases e:k=j
 ·subst e
  rw [hv] at hw
  cases hw
  exact ⟨c,JlL (Aq hv),hc,by omega⟩
 ·exact ⟨w,by rw [JlQ e];exact hw,h0,Int.le_refl _⟩
def A1 (t:Ad) (x:List UInt8) (cur:List Int) (j:Nat) (g:N0):Prop:=g.Print≠[]->∀ y,x=g.Print++y->∀ q',(Aa t)[g.To.toNat]? = some q'->0<=AP t q' y->∃ v,cur[j]? = some v/\0<=v/\v<=AP t q' y+g.Cells
def A2 (cur:List Int) (j:Nat) (g:N0):Prop:=g.Print=[]->∀ w,cur[g.To.toNat]? = some w->0<=w->∃ v,cur[j]? = some v/\0<=v/\v<=w+g.Cells
theorem A1.low {t:Ad} {x:List UInt8} {a b:List Int} {j:Nat} {g:N0} (h:A1 t x a j g) (hl:Low a b):A1 t x b j g:=by
 intro hp y hy q' hq' h0
 obtain ⟨v,h1,h2,h3⟩:=h hp y hy q' hq' h0
 obtain ⟨w,g1,g2,g3⟩:=hl j v h1 h2
 exact ⟨w,g1,g2,by omega⟩
section
variable {t:Ad} (hT:FN t) {s:List UInt8} (hs:s.length<=4000)
include hT hs
theorem XB {p:Nat} (hp:p<=s.length) {j:Nat} {q:Ab} (hq:(Aa t)[j]? = some q):-1<=AP t q (s.drop p)/\AP t q (s.drop p)<=((3072*(s.length-p+1):Nat):Int):=by
 refine (Rv hT hs hp).2 _ ?_
 unfold AW
 exact List.mem_map.2 ⟨q,JlB hq,rfl⟩
omit hT hs in
theorem Jjq (p:Nat) {j:Nat} {q:Ab} (hq:(Aa t)[j]? = some q) :
  (Ct (AW t (s.drop p)))[j]? = some (if AP t q (s.drop p)<0 then -1 else AP t q (s.drop p)-Bg (AW t (s.drop p)))/\(0<=AP t q (s.drop p)->0<=Bg (AW t (s.drop p))/\Bg (AW t (s.drop p))<=AP t q (s.drop p)):=by
 have hr:(AW t (s.drop p))[j]? = some (AP t q (s.drop p)):=by unfold AW;rw [JlD,hq];rfl
 refine ⟨by rw [Ct,JlD,hr];rfl,λ h0=>Qp (JlB hr) h0⟩
theorem YI {i:Nat} {l ls cur:List Int} (hL:Lat t s i l ls) (hc:cur.length=(Aa t).length) (hi:i<=s.length) {p:Nat} (h1:i<p) (h2:p<=s.length) {j:Nat} {q:Ab} (hq:(Aa t)[j]? = some q) (x:List UInt8) (n:Nat) :
  Fx n x (p:Int) (j:Int) (Hk (Aa t).length (s.length+1)) ls (spl l (i*(Aa t).length) cur)=some (AP t q (s.drop p)):=by
 have hjl:=Aq hq
 have hlo:i*(Aa t).length+cur.length<=l.length:=by rw [hc,hL.len];exact Ja (by omega)
 obtain ⟨n1,n2⟩:=Jjq p hq
 have hrng:=XB hT hs h2 hq
 have hv:(spl l (i*(Aa t).length) cur)[p*(Aa t).length+j]? = some (if AP t q (s.drop p)<0 then -1 else AP t q (s.drop p)-Bg (AW t (s.drop p))):=by
  have:=VS (S:=(Aa t).length) h1
  rw [Px hlo (by omega),← n1,← hL.col p h1 h2,JlU hjl,List.getElem?_drop]
 unfold Fx
 rw [Tj (by omega),Option.bind_some]
 by_cases h0:AP t q (s.drop p)<0
 ·rw [if_pos h0] at hv
  rw [Js hjl hv,Option.bind_some,if_pos (by simp)]
  congr 1;omega
 ·rw [if_neg h0] at hv
  have:=n2 (by omega)
  rw [Js hjl hv,Option.bind_some,if_neg (by simp;omega),Ej (hL.lst p h1 h2),Option.bind_some,Option.bind_some,Js hjl hv,Option.bind_some,EJ (by omega) (by omega)]
  congr 1;omega
omit hT hs in
theorem XC {l cur:List Int} {lo k:Nat} {v rest cells:Int} (hlo:lo+cur.length<=l.length) (hv:cur[k]? = some v) (hr:-1<=rest/\rest<=100000000) (hc:0<=cells/\cells<=100) (n:Nat) :
  Bs n (k:Int) rest cells (lo,cur.length) (spl l lo cur)=some (if rest<0\/(0<=v/\v<=rest+cells) then (spl l lo cur,false) else (spl l lo (cur.set k (rest+cells)),true)):=by
 have hk:=Aq hv
 have hix:ixP (spl l lo cur) (lo,cur.length) (k:Int)=some v:=Js hk (by rw [E5 hlo hk];exact hv)
 unfold Bs
 rw [hix]
 by_cases h0:rest<0
 ·rw [if_neg (by simp;omega),Option.bind_some,if_neg (by simp;omega),Option.bind_some,if_pos (by simp [h0]),if_pos (.inl h0)]
 ·rw [if_pos (by simp;omega),Option.bind_some]
  have e:Au .i64 rest cells=rest+cells:=EJ (by omega) (by omega)
  rw [e]
  by_cases h1:0<=v
  ·rw [if_pos (by simp;omega),Option.bind_some]
   by_cases h2:v<=rest+cells
   ·rw [if_pos (by simp;omega),if_pos (.inr ⟨h1,h2⟩)]
   ·rw [if_neg (by simp;omega),if_neg (by omega),Option.bind_some,JlJ,F9 (by rw [Ig hlo];omega),Option.bind_some,MF hlo hk]
  ·rw [if_neg (by simp;omega),Option.bind_some,if_neg (by simp;omega),if_neg (by omega),Option.bind_some,JlJ,F9 (by rw [Ig hlo];omega),Option.bind_some,MF hlo hk]
theorem Jfx {i:Nat} (hi:i<=s.length) {l cur0:List Int} (hc:cur0.length=(Aa t).length) (hlo:i*(Aa t).length+cur0.length<=l.length) (offs:List (Nat×Nat)) (ls:List Int) :
  Tot (λ n=>whl (λ (x:((List Int)×Int))=>Ba n (i:Int) s (BJ t) offs ls (i*(Aa t).length,(Aa t).length) x.1 x.2) n (spl l (i*(Aa t).length) cur0,0)) (λ y=>y=spl l (i*(Aa t).length) ((Aa t).map (De t (s.drop i)))):=by
 have hlen:=HN hT
 generalize hlo':i*(Aa t).length=lo at *
 refine Tot.upto (body:=λ n x=>Ba n (i:Int) s (BJ t) offs ls (lo,(Aa t).length) x.1 x.2) (Aa t).length (λ k x=>x.2=(k:Int)/\∃ cur,x.1=spl l lo cur/\cur.length=(Aa t).length/\∀ (j:Nat) q,j<k->(Aa t)[j]? = some q->cur[j]? = some (De t (s.drop i) q)) ?_ ?_ _ ⟨rfl,cur0,rfl,hc,by omega⟩
 ·rintro k ⟨c,k'⟩ hk ⟨e1,cur,e2,e3,e4⟩
  simp only at e1 e2
  subst e1 e2
  have hlc:lo+cur.length<=l.length:=by omega
  have hJ:∀ v,v=De t (s.drop i) (Aa t)[k]->∀ c',c'=spl l lo (cur.set k v)->Tot (λ n=>Bo n (k:Int) c') (Rd2 (λ x:List Int×Int=>x.2=((k+1:Nat):Int)/\∃ cur,x.1=spl l lo cur/\cur.length=(Aa t).length/\∀ (j:Nat) q,j<k+1->(Aa t)[j]? = some q->cur[j]? = some (De t (s.drop i) q)) (λ y=>y=spl l lo ((Aa t).map (De t (s.drop i))))):=by
   intro v hv c' hc'
   unfold Bo
   refine Tot.pure ⟨CA (by omega),_,hc',by rw [JlR];exact e3,λ j q hj hq=>?_⟩
   by_cases e:k=j
   ·subst e
    rw [JlL (by omega),hv]
    rw [Jlz hk] at hq
    cases hq;rfl
   ·rw [JlQ e];exact e4 j q (by omega) hq
  unfold Ba
  have hg:(spl l lo cur)[lo+k]? = some cur[k]:=by rw [E5 hlc (by omega)];exact Jlz (by omega)
  refine Tot.iteT (by simpa using hk) (Tot.bindC (Js hk hg) ?_)
  rw [JlJ]
  refine Tot.bindC (F9 (by rw [Ig hlc];omega)) ?_
  rw [MF hlc (by omega),Xw hs hi]
  have hacc:idx (BJ t).Accepts (k:Int)=some (By t (Aa t)[k]):=Ej (by simp [BJ,hk])
  by_cases hd:s.drop i=[]
  ·refine Tot.gE (decide_eq_true hd) (Ev.all λ n=>hacc) (Tot.ite (λ h=>?_) λ h=>?_)
   ·have ha:By t (Aa t)[k]=true:=by simpa [hd] using h
    have hls:lo+(cur.set k (-1)).length<=l.length:=by rw [JlR];exact hlc
    refine Tot.bindC (Js hk (v:=-1) (by rw [E5 hls (by rw [JlR];omega),JlL (by omega)])) (Tot.bindC (F9 (by rw [Ig hls];omega)) (hJ 0 ?_ _ ?_))
    ·unfold De;rw [if_pos ⟨hd,ha⟩]
    ·rw [MF hls (by rw [JlR];omega),List.set_set]
   ·have ha:By t (Aa t)[k]=false:=by simpa [hd] using h
    refine hJ (-1) ?_ _ rfl
    unfold De;rw [if_neg (by rw [ha];simp)]
  ·refine Tot.gF (decide_eq_false hd) (Tot.iteF (by simp [hd]) (hJ (-1) ?_ _ rfl))
   unfold De;rw [if_neg (λ h=>hd h.1)]
 ·rintro ⟨c,k'⟩ ⟨e1,cur,e2,e3,e4⟩
  simp only at e1 e2
  subst e1 e2
  unfold Ba
  refine Tot.iteF (by simp) (Tot.pure ?_)
  refine congrArg (spl l lo) (List.ext_getElem? λ j=>?_)
  rcases Nat.lt_or_ge j (Aa t).length with h|h
  ·rw [e4 j _ h (Jlz h),JlD,Jlz h];rfl
  ·rw [JlV (by omega),JlV (by simpa using h)]
end
end Go.AI
end
section
namespace Go.AI
structure VT (t:Ad) (x:List UInt8) (D B:Nat) (cur0 cur:List Int) (ch:Bool) (k a:Nat):Prop where
 col:Col t x D (Aa t) cur
 all:∀ (j:Nat) q,(Aa t)[j]? = some q->∀ g∈Bf t q,A1 t x cur j g
 same:ch=false->cur=cur0/\(∀ (j:Nat) q,j<k->(Aa t)[j]? = some q->∀ g∈Bf t q,A2 cur0 j g)/\∀ q,(Aa t)[k]? = some q->∀ g∈(Bf t q).take a,A2 cur0 k g
 less:ch=true->phi B cur<phi B cur0
section
variable {t:Ad} (hT:FN t) {s:List UInt8} (hs:s.length<=4000)
include hT hs
omit hs in
theorem XD {q:Ab} (hq:q∈Aa t) {g:N0} (hg:g∈Bf t q):∃ (k m:Nat),(AH t q k).2=true/\g=⟨prt t k,((cls t k).length:Nat),(m:Nat)⟩/\(Aa t)[m]? = some (AH t q k).1/\(prt t k).length<=3/\1<=(cls t k).length/\(cls t k).length<=4:=by
 obtain ⟨k,hk,hst,rfl⟩:=Qr.1 hg
 obtain ⟨m,hm,hmg⟩:=Dv (GU hT hq hst)
 exact ⟨k,m,hst,by rw [hm],hmg,hT.pr hst⟩
theorem Jfy {i:Nat} (hi:i<=s.length) {l ls cur1:List Int} (hL:Lat t s i l ls) {k:Nat} {q:Ab} (hq:(Aa t)[k]? = some q) (h1:Col t (s.drop i) (3072*(s.length-i)) (Aa t) cur1) (gr:AM) :
  Tot (λ n=>whl (λ (x:((List Int)×Int))=>Bb n (i:Int) s gr (Hk (Aa t).length (s.length+1)) ls (i*(Aa t).length,(Aa t).length) (k:Int) (Bf t q) x.1 x.2) n (spl l (i*(Aa t).length) cur1,0))
   (λ y=>∃ cur,y=spl l (i*(Aa t).length) cur/\Col t (s.drop i) (3072*(s.length-i)) (Aa t) cur/\Low cur1 cur/\∀ g∈Bf t q,A1 t (s.drop i) cur k g):=by
 have hlen:=HN hT
 have hrl:=hT.tab.1
 have hgl:=UD t q
 have hkl:=Aq hq
 have hlo0:i*(Aa t).length+(Aa t).length<=l.length:=by rw [hL.len];exact Ja (by omega)
 refine Tot.upto (body:=λ n x=>Bb n (i:Int) s gr (Hk (Aa t).length (s.length+1)) ls (i*(Aa t).length,(Aa t).length) (k:Int) (Bf t q) x.1 x.2) (Bf t q).length (λ a x=>x.2=(a:Int)/\∃ cur,x.1=spl l (i*(Aa t).length) cur/\Col t (s.drop i) (3072*(s.length-i)) (Aa t) cur/\Low cur1 cur/\∀ g∈(Bf t q).take a,A1 t (s.drop i) cur k g) ?_ ?_ _ ⟨rfl,cur1,rfl,h1,.refl _,by simp⟩
 ·rintro a ⟨c,a'⟩ ha ⟨e1,cur,e2,hC,hlw,hA⟩
  simp only at e1 e2
  subst e1 e2
  have hcl:=hC.len
  have hlo:i*(Aa t).length+cur.length<=l.length:=by omega
  obtain ⟨r,m,hst,hge,hm,p1,p2,p3⟩:=XD hT (JlB hq) (List.getElem_mem ha)
  obtain ⟨v,hv⟩:=hC.get hkl
  have hJ:∀ cur',Col t (s.drop i) (3072*(s.length-i)) (Aa t) cur'->Low cur cur'->A1 t (s.drop i) cur' k (Bf t q)[a]->Tot (λ n=>Bp n (a:Int) (spl l (i*(Aa t).length) cur')) (Rd2 (λ x:List Int×Int=>x.2=((a+1:Nat):Int)/\∃ cur,x.1=spl l (i*(Aa t).length) cur/\Col t (s.drop i) (3072*(s.length-i)) (Aa t) cur/\Low cur1 cur/\∀ g∈(Bf t q).take (a+1),A1 t (s.drop i) cur k g) (λ y=>∃ cur,y=spl l (i*(Aa t).length) cur/\Col t (s.drop i) (3072*(s.length-i)) (Aa t) cur/\Low cur1 cur/\∀ g∈Bf t q,A1 t (s.drop i) cur k g)):=by
   intro cur' hC' hl' hA'
   unfold Bp
   refine Tot.pure ⟨CA (by omega),cur',rfl,hC',λ j w hw h0=>?_,λ g hg=>?_⟩
   ·obtain ⟨w1,g1,g2,g3⟩:=hlw j w hw h0
    obtain ⟨w2,g4,g5,g6⟩:=hl' j w1 g1 g2
    exact ⟨w2,g4,g5,by omega⟩
   ·rw [List.take_add_one,Jlz ha,List.mem_append] at hg
    rcases hg with hg|hg
    ·exact (hA g hg).low hl'
    ·simp at hg;subst hg;exact hA'
  unfold Bb
  refine Tot.iteT (Hg ha) (Tot.bindC (Fl ha) ?_)
  rw [hge] at hJ ⊢
  simp only
  by_cases hp:prt t r=[]
  ·refine Tot.gF (by simp [hp]) (Tot.gF (by simp [hp]) (Tot.iteF (by simp [hp]) (hJ cur hC (.refl _) λ h=>absurd hp h)))
  ·have hpl:0<(prt t r).length:=List.length_pos_iff.2 hp
   refine Tot.gE (x:=s.drop i) (by simp [hp]) (Ev.all λ n=>?_) (Tot.gE (x:=(prt t r).isPrefixOf (s.drop i)) (by simp [hp]) (Ev.all λ n=>?_) (Tot.ite (λ h=>?_) λ h=>?_))
   ·rw [Xm (by omega) (by omega) (by omega)];simp
   ·unfold DU EP
    by_cases hle:(prt t r).length<=(s.drop i).length
    ·have hd:decide (((List.length (s.drop i):Nat):Int)>=((List.length (prt t r):Nat):Int))=true:=by simp only [ge_iff_le,decide_eq_true_eq];omega
     rw [if_pos hd,Pr (by omega),Option.bind_some,hd,Bool.true_and,Option.bind_some]
     congr 1
     rw [Bool.eq_iff_iff,beq_iff_eq,List.isPrefixOf_iff_prefix]
     constructor
     ·intro h2
      have:=List.take_prefix (prt t r).length (s.drop i)
      rw [h2] at this;exact this
     ·intro h2;exact (List.prefix_iff_eq_take.1 h2).symm
    ·have hd:decide (((List.length (s.drop i):Nat):Int)>=((List.length (prt t r):Nat):Int))=false:=by simp only [ge_iff_le,decide_eq_false_iff_not];omega
     rw [if_neg (by rw [hd];simp),Option.bind_some,hd,Bool.false_and,Option.bind_some]
     congr 1
     rw [eq_comm,← Bool.not_eq_true,List.isPrefixOf_iff_prefix]
     intro hp'
     exact hle hp'.length_le
   ·have hb:(prt t r).isPrefixOf (s.drop i)=true:=by simpa [hp] using h
    obtain ⟨q1,q2⟩:=En hb
    have q2:=q2 hi
    rw [EJ (by omega) (by omega)]
    have ep:(i:Int)+((List.length (prt t r):Nat):Int)=((i+(prt t r).length:Nat):Int):=by omega
    rw [ep]
    have hrg:=XB hT hs q2 hm
    refine Tot.bindA (λ n=>YI hT hs hL hcl hi (by omega) q2 hm s n) ?_
    have hlq:=λ n=>XC (l:=l) (cur:=cur) (lo:=i*(Aa t).length) (k:=k) (v:=v) (rest:=AP t (AH t q r).1 (s.drop (i+(prt t r).length))) (cells:=((cls t r).length:Nat)) hlo hv (by omega) (by omega) n
    rw [hcl] at hlq
    refine Tot.bindA hlq ?_
    have hy:∀ y,s.drop i=prt t r++y->y=s.drop (i+(prt t r).length):=λ y hy=>by
     rw [q1] at hy
     exact (List.append_cancel_left hy).symm
    by_cases hc:AP t (AH t q r).1 (s.drop (i+(prt t r).length))<0\/(0<=v/\v<=AP t (AH t q r).1 (s.drop (i+(prt t r).length))+((cls t r).length:Nat))
    ·rw [if_pos hc]
     refine hJ cur hC (.refl _) λ _ y hyy q' hq' h0=>?_
     simp only [JlJ] at hq' hyy ⊢
     rw [hm] at hq'
     cases hq'
     rw [hy y hyy] at h0 ⊢
     exact ⟨v,hv,by omega,by omega⟩
    ·rw [if_neg hc]
     have hfin:=Rt cur
     have hbd:AP t (AH t q r).1 (s.drop (i+(prt t r).length))<=((3072*(s.length-i):Nat):Int):=by
      have:3072*(s.length-(i+(prt t r).length)+1)<=3072*(s.length-i):=by omega
      omega
     have hlow:=hC.lower (c:=AP t (AH t q r).1 (s.drop (i+(prt t r).length))+((cls t r).length:Nat)) hq hv (by
      have:=Pu hst (GJ (t:=t) (q:=(AH t q r).1) (x:=s.drop (i+(prt t r).length)) (by omega))
      rwa [← q1] at this) (by omega) (by omega) (B:=20000000) (by omega)
     refine hJ _ hlow.1 (.set hv (by omega) (by omega)) λ _ y hyy q' hq' h0=>?_
     simp only [JlJ] at hq' hyy ⊢
     rw [hm] at hq'
     cases hq'
     rw [hy y hyy]
     exact ⟨_,JlL (by omega),by omega,by omega⟩
   ·have hb:(prt t r).isPrefixOf (s.drop i)=false:=by simpa [hp] using h
    refine hJ cur hC (.refl _) λ _ y hyy=>?_
    simp only at hyy
    rw [hyy] at hb
    rw [← Bool.not_eq_true,List.isPrefixOf_iff_prefix] at hb
    exact absurd (List.prefix_append _ _) hb
 ·rintro ⟨c,a'⟩ ⟨e1,cur,e2,hC,hlw,hA⟩
  simp only at e1 e2
  subst e1 e2
  rw [List.take_length] at hA
  unfold Bb
  exact Tot.iteF (by simp) (Tot.pure ⟨cur,rfl,hC,hlw,hA⟩)
theorem Jfz {i:Nat} (hi:i<=s.length) {l ls cur1:List Int} (hL:Lat t s i l ls) (h1:Col t (s.drop i) (3072*(s.length-i)) (Aa t) cur1) :
  Tot (λ n=>whl (λ (x:((List Int)×Int))=>Bc n (i:Int) s (BJ t) (Hk (Aa t).length (s.length+1)) ls (i*(Aa t).length,(Aa t).length) x.1 x.2) n (spl l (i*(Aa t).length) cur1,0))
   (λ y=>∃ cur,y=spl l (i*(Aa t).length) cur/\Col t (s.drop i) (3072*(s.length-i)) (Aa t) cur/\∀ (j:Nat) q,(Aa t)[j]? = some q->∀ g∈Bf t q,A1 t (s.drop i) cur j g):=by
 have hlen:=HN hT
 have hgl:(BJ t).Arcs.length=(Aa t).length:=by simp [BJ]
 refine Tot.upto (body:=λ n x=>Bc n (i:Int) s (BJ t) (Hk (Aa t).length (s.length+1)) ls (i*(Aa t).length,(Aa t).length) x.1 x.2) (Aa t).length (λ k x=>x.2=(k:Int)/\∃ cur,x.1=spl l (i*(Aa t).length) cur/\Col t (s.drop i) (3072*(s.length-i)) (Aa t) cur/\∀ (j:Nat) q,j<k->(Aa t)[j]? = some q->∀ g∈Bf t q,A1 t (s.drop i) cur j g) ?_ ?_ _ ⟨rfl,cur1,rfl,h1,by omega⟩
 ·rintro k ⟨c,k'⟩ hk ⟨e1,cur,e2,hC,hA⟩
  simp only at e1 e2
  subst e1 e2
  have hq:(Aa t)[k]? = some (Aa t)[k]:=Jlz hk
  unfold Bc
  have hix:idx (BJ t).Arcs (k:Int)=some (Bf t (Aa t)[k]):=Ej (by simp [BJ,hk])
  refine Tot.iteT (by rw [hgl];exact Hg hk) (Tot.bindC hix (Tot.bind (Jfy hT hs hi hL hq hC (BJ t)) ?_))
  rintro _ ⟨cur',rfl,hC',hlw,hA'⟩
  refine Tot.pure ⟨CA (by omega),cur',rfl,hC',λ j q hj hjq g hg=>?_⟩
  by_cases e:k=j
  ·subst e
   rw [hq] at hjq;cases hjq
   exact hA' g hg
  ·exact (hA j q (by omega) hjq g hg).low hlw
 ·rintro ⟨c,k'⟩ ⟨e1,cur,e2,hC,hA⟩
  simp only at e1 e2
  subst e1 e2
  unfold Bc
  exact Tot.iteF (by rw [hgl];simp) (Tot.pure ⟨cur,rfl,hC,λ j q hq=>hA j q (Aq hq) hq⟩)
end
end Go.AI
end
section
namespace Go.AI
section
variable {t:Ad} (hT:FN t) {s:List UInt8} (hs:s.length<=4000)
include hT hs
theorem JfA {i lo:Nat} {l:List Int} (hlo0:lo+(Aa t).length<=l.length) {cur0 cur1:List Int} {ch1:Bool} {k:Nat} {q:Ab} (hq:(Aa t)[k]? = some q) (h1:VT t (s.drop i) (3072*(s.length-i)) 20000000 cur0 cur1 ch1 k 0) (x0:List UInt8) (gr:AM) (offs:List (Nat×Nat)) (ls:List Int) :
  Tot (λ n=>whl (λ (x:((List Int)×Bool×Int))=>Bd n x0 gr offs ls (lo,(Aa t).length) (k:Int) (Bf t q) x.1 x.2.1 x.2.2) n (spl l lo cur1,ch1,0))
   (λ y=>∃ cur,y.1=spl l lo cur/\VT t (s.drop i) (3072*(s.length-i)) 20000000 cur0 cur y.2 k (Bf t q).length):=by
 have hlen:=HN hT
 have hrl:=hT.tab.1
 have hgl:=UD t q
 have hkl:=Aq hq
 refine Tot.upto (body:=λ n x=>Bd n x0 gr offs ls (lo,(Aa t).length) (k:Int) (Bf t q) x.1 x.2.1 x.2.2) (Bf t q).length (λ a x=>x.2.2=(a:Int)/\∃ cur,x.1=spl l lo cur/\VT t (s.drop i) (3072*(s.length-i)) 20000000 cur0 cur x.2.1 k a) ?_ ?_ _ ⟨rfl,cur1,rfl,h1⟩
 ·rintro a ⟨c,ch,a'⟩ ha ⟨e1,cur,e2,hP⟩
  simp only at e1 e2 hP
  subst e1 e2
  have hC:=hP.col
  have hcl:=hC.len
  have hlo:lo+cur.length<=l.length:=by omega
  obtain ⟨r,m,hst,hge,hm,p1,p2,p3⟩:=XD hT (JlB hq) (List.getElem_mem ha)
  obtain ⟨v,hv⟩:=hC.get hkl
  have hml:=Aq hm
  obtain ⟨w,hw⟩:=hC.get hml
  have hJ:∀ cur' ch',VT t (s.drop i) (3072*(s.length-i)) 20000000 cur0 cur' ch' k (a+1)->Tot (λ n=>A6 n (a:Int) (spl l lo cur') ch') (Rd2 (λ x:List Int×Bool×Int=>x.2.2=((a+1:Nat):Int)/\∃ cur,x.1=spl l lo cur/\VT t (s.drop i) (3072*(s.length-i)) 20000000 cur0 cur x.2.1 k (a+1)) (λ y=>∃ cur,y.1=spl l lo cur/\VT t (s.drop i) (3072*(s.length-i)) 20000000 cur0 cur y.2 k (Bf t q).length)):=by
   intro cur' ch' h
   unfold A6
   exact Tot.pure ⟨CA (by omega),cur',rfl,h⟩
  have hskip:A2 cur k (Bf t q)[a]->VT t (s.drop i) (3072*(s.length-i)) 20000000 cur0 cur ch k (a+1):=by
   intro hA
   refine ⟨hC,hP.all,λ hc=>?_,hP.less⟩
   obtain ⟨g1,g2,g3⟩:=hP.same hc
   refine ⟨g1,g2,λ q' hq' g hg=>?_⟩
   rw [hq] at hq'
   cases hq'
   rw [List.take_add_one,Jlz ha,List.mem_append] at hg
   rcases hg with hg|hg
   ·exact g3 q hq g hg
   ·simp at hg;subst hg;rw [← g1];exact hA
  unfold Bd
  refine Tot.iteT (Hg ha) (Tot.bindC (Fl ha) ?_)
  rw [hge] at hskip ⊢
  simp only
  by_cases hp:prt t r=[]
  ·have hpd:(prt t r==[])=true:=by simp [hp]
   have hix:ixP (spl l lo cur) (lo,(Aa t).length) (m:Int)=some w:=Js hml (by rw [E5 hlo (by omega)];exact hw)
   refine Tot.gE hpd (Ev.all λ n=>hix) (Tot.iteT hpd ?_)
   have hwt:=hC.top hw
   have hlq:=λ n=>XC (l:=l) (cur:=cur) (lo:=lo) (k:=k) (v:=v) (rest:=w) (cells:=((cls t r).length:Nat)) hlo hv (by omega) (by omega) n
   rw [hcl] at hlq
   refine Tot.bindA hlq ?_
   by_cases hc:w<0\/(0<=v/\v<=w+((cls t r).length:Nat))
   ·rw [if_pos hc]
    refine Tot.iteF (by simp) (hJ cur ch (hskip λ _ w' hw' h0=>?_))
    simp only [JlJ] at hw' ⊢
    rw [hw] at hw'
    cases hw'
    exact ⟨v,hv,by omega,by omega⟩
   ·rw [if_neg hc]
    refine Tot.iteT (by simp [hp]) ?_
    obtain ⟨v',hv',hd⟩:=hC.ach m _ hm
    rw [hw] at hv'
    cases hv'
    have hbn:=hC.bnd m w hw
    have hfin:=Rt cur
    have hlow:=hC.lower (c:=w+((cls t r).length:Nat)) hq hv (by
     have:=Pu hst (hd.resolve_left (by omega))
     rwa [hp,List.nil_append] at this) (by omega) (by omega) (B:=20000000) (by omega)
    refine hJ _ _ ⟨hlow.1,λ j q' hj g hg=>(hP.all j q' hj g hg).low (.set hv (by omega) (by omega)),(λ h=>by cases h),λ _=>?_⟩
    cases hch:ch with
    | false=>rw [← (hP.same hch).1];exact hlow.2
    | true=>have:=hP.less hch;have:=hlow.2;omega
  ·have hpd:(prt t r==[])=false:=by simp [hp]
   refine Tot.gF hpd (Tot.iteF hpd (Tot.iteF (by simp) (hJ cur ch (hskip λ h=>absurd h hp))))
 ·rintro ⟨c,ch,a'⟩ ⟨e1,cur,e2,hP⟩
  simp only at e1 e2 hP
  subst e1 e2
  unfold Bd
  exact Tot.iteF (by simp) (Tot.pure ⟨cur,rfl,hP⟩)
theorem JfB {i lo:Nat} {l:List Int} (hlo0:lo+(Aa t).length<=l.length) {cur0:List Int} (h1:Col t (s.drop i) (3072*(s.length-i)) (Aa t) cur0) (h2:∀ (j:Nat) q,(Aa t)[j]? = some q->∀ g∈Bf t q,A1 t (s.drop i) cur0 j g) (x0:List UInt8) (offs:List (Nat×Nat)) (ls:List Int) :
  Tot (λ n=>whl (λ (x:((List Int)×Bool×Int))=>Be n x0 (BJ t) offs ls (lo,(Aa t).length) x.1 x.2.1 x.2.2) n (spl l lo cur0,false,0))
   (λ y=>∃ cur,y.1=spl l lo cur/\VT t (s.drop i) (3072*(s.length-i)) 20000000 cur0 cur y.2 (Aa t).length 0):=by
 have hlen:=HN hT
 have hgl:(BJ t).Arcs.length=(Aa t).length:=by simp [BJ]
 refine Tot.upto (body:=λ n x=>Be n x0 (BJ t) offs ls (lo,(Aa t).length) x.1 x.2.1 x.2.2) (Aa t).length (λ k x=>x.2.2=(k:Int)/\∃ cur,x.1=spl l lo cur/\VT t (s.drop i) (3072*(s.length-i)) 20000000 cur0 cur x.2.1 k 0) ?_ ?_ _ ⟨rfl,cur0,rfl,h1,h2,λ _=>⟨rfl,by omega,by simp⟩,λ h=>by cases h⟩
 ·rintro k ⟨c,ch,k'⟩ hk ⟨e1,cur,e2,hP⟩
  simp only at e1 e2 hP
  subst e1 e2
  have hq:(Aa t)[k]? = some (Aa t)[k]:=Jlz hk
  unfold Be
  have hix:idx (BJ t).Arcs (k:Int)=some (Bf t (Aa t)[k]):=Ej (by simp [BJ,hk])
  refine Tot.iteT (by rw [hgl];exact Hg hk) (Tot.bindC hix (Tot.bind (JfA hT hs hlo0 hq hP x0 (BJ t) offs ls) ?_))
  rintro ⟨_,ch'⟩ ⟨cur',rfl,hP'⟩
  refine Tot.pure ⟨CA (by omega),cur',rfl,hP'.col,hP'.all,λ hc=>?_,hP'.less⟩
  obtain ⟨g1,g2,g3⟩:=hP'.same hc
  refine ⟨g1,λ j q hj hjq g hg=>?_,by simp⟩
  by_cases e:k=j
  ·subst e
   rw [hq] at hjq;cases hjq
   exact g3 _ hq g (by rw [List.take_length];exact hg)
  ·exact g2 j q (by omega) hjq g hg
 ·rintro ⟨c,ch,k'⟩ ⟨e1,cur,e2,hP⟩
  simp only at e1 e2 hP
  subst e1 e2
  unfold Be
  exact Tot.iteF (by rw [hgl];simp) (Tot.pure ⟨cur,rfl,hP⟩)
theorem JfC {i lo:Nat} {l:List Int} (hlo0:lo+(Aa t).length<=l.length) {cur0:List Int} (h1:Col t (s.drop i) (3072*(s.length-i)) (Aa t) cur0) (h2:∀ (j:Nat) q,(Aa t)[j]? = some q->∀ g∈Bf t q,A1 t (s.drop i) cur0 j g) (x0:List UInt8) (offs:List (Nat×Nat)) (ls:List Int) :
  Tot (λ n=>whl (λ (x:((List Int)×Bool))=>Bq n x0 (BJ t) offs ls (lo,(Aa t).length) x.1 x.2) n (spl l lo cur0,true))
   (λ y=>y=spl l lo (AW t (s.drop i))):=by
 refine Tot.whl (body:=λ n x=>Bq n x0 (BJ t) offs ls (lo,(Aa t).length) x.1 x.2) (λ m x=>∃ cur,x.1=spl l lo cur/\Col t (s.drop i) (3072*(s.length-i)) (Aa t) cur/\(∀ (j:Nat) q,(Aa t)[j]? = some q->∀ g∈Bf t q,A1 t (s.drop i) cur j g)/\((x.2=true/\m=phi 20000000 cur+1)\/(x.2=false/\m=0/\∀ (j:Nat) q,(Aa t)[j]? = some q->∀ g∈Bf t q,A2 cur j g))) ?_ (phi 20000000 cur0+1) (spl l lo cur0,true) ⟨cur0,rfl,h1,h2,.inl ⟨rfl,rfl⟩⟩
 rintro m ⟨c,ch⟩ ⟨cur,e2,hC,hA,hm⟩
 simp only at e2 hm
 subst e2
 unfold Bq
 rcases hm with ⟨rfl,rfl⟩|⟨rfl,rfl,hR⟩
 ·refine Tot.iteT rfl (Tot.bind (JfB hT hs hlo0 hC hA x0 offs ls) ?_)
  rintro ⟨_,ch'⟩ ⟨cur',rfl,hP⟩
  simp only at hP
  cases ch' with
  | false=>
   obtain ⟨g1,g2,_⟩:=hP.same rfl
   subst g1
   exact Tot.pure ⟨0,by omega,cur',rfl,hC,hA,.inr ⟨rfl,rfl,λ j q hq=>g2 j q (Aq hq) hq⟩⟩
  | true=>
   have:=hP.less rfl
   exact Tot.pure ⟨phi 20000000 cur'+1,by omega,cur',rfl,hP.col,hP.all,.inl ⟨rfl,rfl⟩⟩
 ·refine Tot.iteF rfl (Tot.pure ?_)
  show spl l lo cur=spl l lo (AW t (s.drop i))
  congr 1
  refine List.ext_getElem? λ j=>?_
  rcases Nat.lt_or_ge j (Aa t).length with hj|hj
  ·have hq:(Aa t)[j]? = some (Aa t)[j]:=Jlz hj
   rw [hC.exact (JdS hT) ⟨λ j q k hjq hst hp y hy hc=>?_⟩ ⟨λ j q k hjq hst hp=>?_⟩ hq]
   ·unfold AW;rw [JlD,hq];rfl
   ·have hk:=DR hst
    obtain ⟨m,hm,hmg⟩:=Dv (GU hT (JlB hjq) hst)
    have:=hA j q hjq _ (Qr.2 ⟨k,by omega,hst,rfl⟩) hp y hy (AH t q k).1 (by rw [hm];simpa using hmg) hc
    simpa using this
   ·have hk:=DR hst
    obtain ⟨m,hm,hmg⟩:=Dv (GU hT (JlB hjq) hst)
    obtain ⟨w,hw⟩:=hC.get (Aq hmg)
    refine ⟨m,w,hmg,hw,λ h0=>?_⟩
    exact hR j q hjq _ (Qr.2 ⟨k,by omega,hst,rfl⟩) hp w (by rw [hm];simpa using hw) h0
  ·rw [JlV (by rw [hC.len];exact hj),JlV (by simp [AW];exact hj)]
omit hT hs in
theorem JfD {l cur:List Int} {lo:Nat} (hlo:lo+cur.length<=l.length) (hl:cur.length<1000000):Tot (λ n=>whl (λ (x:(Int×Int))=>CE n (lo,cur.length) (spl l lo cur) x.1 x.2) n (-1,0)) (λ y=>y=Bg cur):=by
 refine Tot.upto (body:=λ n x=>CE n (lo,cur.length) (spl l lo cur) x.1 x.2) cur.length (λ k x=>x.2=(k:Int)/\x.1=(cur.take k).foldl Fq (-1)) ?_ ?_ _ ⟨rfl,rfl⟩
 ·rintro k ⟨a,k'⟩ hk ⟨e1,e2⟩
  simp only at e1 e2
  subst e1
  have hJ:∀ b,b=Fq a cur[k]->Tot (λ n=>C7 n (k:Int) b) (Rd2 (λ x:Int×Int=>x.2=((k+1:Nat):Int)/\x.1=(cur.take (k+1)).foldl Fq (-1)) (λ y=>y=Bg cur)):=by
   intro b hb
   unfold C7
   exact Tot.pure ⟨CA (by omega),by rw [UC hk,← e2];exact hb⟩
  unfold CE
  refine Tot.iteT (Hg hk) (Tot.bindC (Js hk (v:=cur[k]) (by rw [E5 hlo hk];exact Jlz hk)) (Tot.ite (λ h=>hJ _ ?_) λ h=>hJ _ ?_))
  ·simp only [JlA,JlT,decide_eq_true_eq] at h
   unfold Fq;rw [if_pos ⟨h.1,h.2⟩]
  ·unfold Fq
   rw [if_neg]
   intro hc
   rw [← Bool.not_eq_true] at h
   refine h ?_
   simp only [JlA,JlT,decide_eq_true_eq]
   exact ⟨hc.1,hc.2⟩
 ·rintro ⟨a,k'⟩ ⟨e1,e2⟩
  simp only at e1 e2
  subst e1
  rw [List.take_length] at e2
  unfold CE
  exact Tot.iteF (by simp) (Tot.pure e2)
omit hT hs in
theorem JfE {l cur:List Int} {lo:Nat} (hlo:lo+cur.length<=l.length) (hl:cur.length<1000000) (hb:∀ v∈cur,-1<=v/\v<=13000000):Tot (λ n=>whl (λ (x:((List Int)×Int))=>CF n (lo,cur.length) (Bg cur) x.1 x.2) n (spl l lo cur,0)) (λ y=>y=spl l lo (Ct cur)):=by
 have hlr:=Qq (by decide) hb
 refine Tot.upto (body:=λ n x=>CF n (lo,cur.length) (Bg cur) x.1 x.2) cur.length (λ k x=>x.2=(k:Int)/\x.1=spl l lo ((Ct cur).take k++cur.drop k)) ?_ ?_ _ ⟨rfl,by simp⟩
 ·rintro k ⟨c,k'⟩ hk ⟨e1,e2⟩
  simp only at e1 e2
  subst e1 e2
  have hnl:(Ct cur).length=cur.length:=by simp [Ct]
  have hml:((Ct cur).take k++cur.drop k).length=cur.length:=by simp;omega
  have hlm:lo+((Ct cur).take k++cur.drop k).length<=l.length:=by omega
  have htk:((Ct cur).take k).length=k:=by simp;omega
  have hg:((Ct cur).take k++cur.drop k)[k]? = some cur[k]:=by
   rw [JlS (by omega),htk,List.getElem?_drop,Nat.sub_self,Nat.add_zero]
   exact Jlz hk
  have hbk:=hb _ (List.getElem_mem hk)
  have hn:(Ct cur)[k]? = some (if cur[k]<0 then -1 else cur[k]-Bg cur):=by rw [Ct,JlD,Jlz hk];rfl
  have hset:∀ v,(Ct cur)[k]? = some v->((Ct cur).take k++cur.drop k).set k v=(Ct cur).take (k+1)++cur.drop (k+1):=by
   intro v hv
   refine List.ext_getElem? λ j=>?_
   by_cases e:k=j
   ·subst e
    rw [JlL (by omega),JlH (by simp;omega),JlU (by omega),hv]
   ·rw [JlQ e]
    by_cases hj:j<k
    ·rw [JlH (by omega),JlH (by simp;omega),JlU hj,JlU (by omega)]
    ·have:((Ct cur).take (k+1)).length=k+1:=by simp;omega
     rw [JlS (by omega),JlS (by omega),List.getElem?_drop,List.getElem?_drop]
     congr 1;omega
  have hJ:∀ c',c'=spl l lo ((Ct cur).take (k+1)++cur.drop (k+1))->Tot (λ n=>C8 n (k:Int) c') (Rd2 (λ x:List Int×Int=>x.2=((k+1:Nat):Int)/\x.1=spl l lo ((Ct cur).take (k+1)++cur.drop (k+1))) (λ y=>y=spl l lo (Ct cur))):=by
   intro c' hc'
   unfold C8
   exact Tot.pure ⟨CA (by omega),hc'⟩
  have hix:ixP (spl l lo ((Ct cur).take k++cur.drop k)) (lo,cur.length) (k:Int)=some cur[k]:=Js hk (by rw [E5 hlm (by omega)];exact hg)
  unfold CF
  refine Tot.iteT (Hg hk) (Tot.bindC hix (Tot.ite (λ h=>?_) λ h=>hJ _ ?_))
  ·have h0:0<=cur[k]:=by simpa using h
   have hle:=Qp (List.getElem_mem hk) h0
   refine Tot.bindC hix ?_
   rw [JlJ]
   refine Tot.bindC (F9 (by rw [Ig hlm];omega)) (hJ _ ?_)
   rw [MF hlm (by omega),J2 (by omega) (by omega),hset _ (by rw [hn,if_neg (by omega)])]
  ·have h0:cur[k]<0:=by simpa using h
   rw [← hset (-1) (by rw [hn,if_pos h0])]
   refine congrArg (spl l lo) ?_
   refine List.ext_getElem? λ j=>?_
   by_cases e:k=j
   ·subst e
    rw [JlL (by omega),hg]
    congr 1;omega
   ·rw [JlQ e]
 ·rintro ⟨c,k'⟩ ⟨e1,e2⟩
  simp only at e1 e2
  subst e1 e2
  unfold CF
  refine Tot.iteF (by simp) (Tot.pure ?_)
  show spl l lo _=_
  rw [List.drop_length,List.append_nil,List.take_of_length_le (by simp [Ct])]
theorem Jjr {i:Nat} (hi:i<=s.length) {l ls:List Int} (hL:Lat t s i l ls) :
  Ev (λ n=>BI n (i:Int) s (BJ t) (Hk (Aa t).length (s.length+1)) ls l) (spl l (i*(Aa t).length) (Ct (AW t (s.drop i))),Bg (AW t (s.drop i))):=by
 have hlen:=HN hT
 have hlo0:i*(Aa t).length+(Aa t).length<=l.length:=by rw [hL.len];exact Ja (by omega)
 have hr:=Rv hT hs hi
 refine Tot.ev ?_
 unfold BI
 refine Tot.bindC (Tj (by omega)) ?_
 have hcut:=Jd5 hlo0
 have hcl:((l.drop (i*(Aa t).length)).take (Aa t).length).length=(Aa t).length:=by simp;omega
 have h1:=Jfx hT hs hi (l:=l) (cur0:=(l.drop (i*(Aa t).length)).take (Aa t).length) hcl (by omega) (Hk (Aa t).length (s.length+1)) ls
 rw [hcut] at h1
 refine Tot.bind h1 ?_
 rintro _ rfl
 refine Tot.bind (Jfz hT hs hi hL (Ux t _ _ _)) ?_
 rintro _ ⟨cur,rfl,hC,hA⟩
 refine Tot.bind (JfC hT hs hlo0 hC hA s _ ls) ?_
 rintro _ rfl
 refine Tot.bind (R:=λ y=>y=(spl l (i*(Aa t).length) (Ct (AW t (s.drop i))),Bg (AW t (s.drop i)))) ?_ (λ y hy=>by subst hy;exact Tot.pure rfl)
 have hlr:i*(Aa t).length+(AW t (s.drop i)).length<=l.length:=by omega
 have r1:=JfD hlr (by omega)
 have r2:=JfE hlr (by omega) (λ v hv=>VQ hT hs hi hv)
 rw [hr.1] at r1 r2
 unfold HY
 refine Tot.bind r1 ?_
 rintro _ rfl
 refine Tot.bind r2 ?_
 rintro _ rfl
 exact Tot.pure rfl
end
end Go.AI
end
section
namespace Go.AI
structure Cl (t:Ad) (s:List UInt8) (P:Nat->Prop) (l ls:List Int):Prop where
 len:l.length=(Aa t).length*(s.length+1)
 ll:ls.length=s.length+1
 col:∀ p,P p->p<=s.length->(l.drop (p*(Aa t).length)).take (Aa t).length=Ct (AW t (s.drop p))
 lst:∀ p,P p->p<=s.length->ls[p]? = some (Bg (AW t (s.drop p)))
theorem Cl.mono {t:Ad} {s:List UInt8} {P R:Nat->Prop} {l ls:List Int} (h:Cl t s P l ls) (hr:∀ p,p<=s.length->R p->P p):Cl t s R l ls:=⟨h.len,h.ll,λ p hp hl=>h.col p (hr p hl hp) hl,λ p hp hl=>h.lst p (hr p hl hp) hl⟩
theorem Cl.lat {t:Ad} {s:List UInt8} {i:Nat} {P:Nat->Prop} {l ls:List Int} (h:Cl t s P l ls) (hr:∀ p,p<=s.length->i<p->P p):Lat t s i l ls:=⟨h.len,h.ll,λ p h1 h2=>h.col p (hr p h2 h1) h2,λ p h1 h2=>h.lst p (hr p h2 h1) h2⟩
section
variable {t:Ad} (hT:FN t) {s:List UInt8} (hs:s.length<=4000)
theorem KY (t:Ad) (x:List UInt8):(Ct (AW t x)).length=(Aa t).length:=by simp [Ct,AW]
theorem Cl.set {P:Nat->Prop} {l ls:List Int} (h:Cl t s P l ls) {i:Nat} (hi:i<=s.length):Cl t s (λ p=>P p\/p=i) (spl l (i*(Aa t).length) (Ct (AW t (s.drop i)))) (ls.set i (Bg (AW t (s.drop i)))):=by
 have hnl:=KY t (s.drop i)
 have hlo0:i*(Aa t).length+(Ct (AW t (s.drop i))).length<=l.length:=by rw [h.len,hnl];exact Ja (by omega)
 have hll:=h.ll
 refine ⟨by rw [Ig hlo0];exact h.len,by rw [JlR];exact h.ll,λ p h1 h2=>?_,λ p h1 h2=>?_⟩
 ·by_cases e:p=i
  ·subst e
   have:=JaC hlo0
   rwa [hnl] at this
  ·rw [YH hlo0]
   ·exact h.col p (h1.resolve_right e) h2
   ·rw [hnl]
    rcases Nat.lt_or_gt_of_ne e with e|e
    ·exact .inl (VS e)
    ·exact .inr (VS e)
 ·by_cases e:i=p
  ·subst e
   exact JlL (by omega)
  ·rw [JlQ e]
   exact h.lst p (h1.resolve_right λ h=>e h.symm) h2
theorem Cl.memo {P:Nat->Prop} {l ls:List Int} (h:Cl t s P l ls) (hp:∀ p,p<=s.length->P p):ZZ l (Hk (Aa t).length (s.length+1))=some ()/\(⟨s,PO l (Hk (Aa t).length (s.length+1)),ls⟩:A0)=BE t s:=by
 constructor
 ·unfold ZZ Bn
  rw [if_pos]
  rw [List.all_eq_true]
  intro x hx
  simp only [Hk,List.mem_map,List.mem_range] at hx
  obtain ⟨i,hi,rfl⟩:=hx
  rw [decide_eq_true_eq,h.len]
  exact Ja hi
 ·unfold BE PO Hk
  rw [List.map_map]
  congr 1
  ·refine List.map_congr_left λ i hi=>?_
   have:=List.mem_range.1 hi
   exact h.col i (hp i (by omega)) (by omega)
  ·refine List.ext_getElem? λ j=>?_
   rw [JlD]
   rcases Nat.lt_or_ge j (s.length+1) with hj|hj
   ·rw [h.lst j (hp j (by omega)) (by omega),List.getElem?_range hj];rfl
   ·rw [JlV (by rw [h.ll];exact hj),JlV (by simpa using hj)];rfl
include hT hs
theorem Jd6:Ev (λ n=>B8 n s (BJ t)) (Hk (Aa t).length (s.length+1),List.replicate (s.length+1) 0,List.replicate ((Aa t).length*(s.length+1)) 0):=by
 have hlen:=HN hT
 have hgl:(BJ t).Arcs.length=(Aa t).length:=by simp [BJ]
 have hmul:(Aa t).length*(s.length+1)<=768*4001:=Nat.mul_le_mul hlen (by omega)
 refine Tot.ev ?_
 unfold B8
 have e1:Au .i64 ((s.length:Nat):Int) 1=((s.length+1:Nat):Int):=CA (by omega)
 rw [e1,hgl]
 have e2:Ki .i64 (((Aa t).length:Nat):Int) ((s.length+1:Nat):Int)=(((Aa t).length*(s.length+1):Nat):Int):=by
  have:(((Aa t).length:Nat):Int)*((s.length+1:Nat):Int)=(((Aa t).length*(s.length+1):Nat):Int):=by push_cast;rfl
  unfold Ki;rw [this];exact w64 (by omega) (by omega)
 rw [e2]
 refine Tot.bindC (S9 (by omega) (by omega)) (Tot.bindC (S9 (by omega) (by omega)) (Tot.bindC (S9 (by omega) (by omega)) ?_))
 simp only [JlJ,List.length_replicate]
 refine Tot.bind (R:=λ y=>y=Hk (Aa t).length (s.length+1)) ?_ (λ y hy=>by subst hy;exact Tot.pure rfl)
 refine Tot.upto (body:=λ n x=>BH n s (BJ t) _ _ x.1 x.2) (s.length+1) (λ k x=>x.2=(k:Int)/\x.1.length=s.length+1/\∀ j,j<k->x.1[j]? = some (j*(Aa t).length,(Aa t).length)) ?_ ?_ _ ⟨rfl,by simp,by omega⟩
 ·rintro k ⟨m,k'⟩ hk ⟨e3,h1,h2⟩
  simp only at e3 h1 h2
  subst e3
  unfold BH
  rw [e1,hgl]
  have hk1:(k+1)*(Aa t).length<=4001*768:=Nat.mul_le_mul (by omega) hlen
  have hk0:(k+1)*(Aa t).length=k*(Aa t).length+(Aa t).length:=by rw [JlN,Nat.one_mul]
  have hle:=Ja (S:=(Aa t).length) hk
  have i1:Au .i64 (k:Int) 1=((k+1:Nat):Int):=CA (by omega)
  have i2:Ki .i64 (k:Int) (((Aa t).length:Nat):Int)=((k*(Aa t).length:Nat):Int):=by
   have:(k:Int)*(((Aa t).length:Nat):Int)=((k*(Aa t).length:Nat):Int):=by push_cast;rfl
   unfold Ki;rw [this];exact w64 (by omega) (by omega)
  have i3:Ki .i64 ((k+1:Nat):Int) (((Aa t).length:Nat):Int)=(((k+1)*(Aa t).length:Nat):Int):=by
   have:((k+1:Nat):Int)*(((Aa t).length:Nat):Int)=(((k+1)*(Aa t).length:Nat):Int):=by push_cast;rfl
   unfold Ki;rw [this];exact w64 (by omega) (by omega)
  rw [i1,i2,i3,List.length_replicate]
  have hcut:JbL ((Aa t).length*(s.length+1)) ((k*(Aa t).length:Nat):Int) (((k+1)*(Aa t).length:Nat):Int) (((k+1)*(Aa t).length:Nat):Int)=some ():=by
   unfold JbL Bn
   rw [if_pos]
   simp only [JlA,decide_eq_true_eq]
   omega
  refine Tot.iteT (Hg hk) (Tot.bindC hcut (Tot.bindC (Fl (show k<m.length by omega)) (Tot.bindC (F9 (show k<m.length by omega)) (Tot.pure ⟨rfl,by simp only [JlR];exact h1,λ j hj=>?_⟩))))
  by_cases e:k=j
  ·subst e
   rw [JlL (show k<m.length by omega)]
   simp only [JlJ,JlO]
   congr 2;omega
  ·rw [JlQ e];exact h2 j (by omega)
 ·rintro ⟨m,k'⟩ ⟨e3,h1,h2⟩
  simp only at e3 h1 h2
  subst e3
  unfold BH
  rw [e1]
  refine Tot.iteF (by simp) (Tot.pure (List.ext_getElem? λ j=>?_))
  rcases Nat.lt_or_ge j (s.length+1) with hj|hj
  ·rw [h2 j hj];simp [Hk,hj]
  ·rw [JlV (show m.length<=j by omega),JlV (by simpa [Hk] using hj)]
omit hT hs in
theorem YJ (t:Ad) (s:List UInt8):Cl t s (λ _=>False) (List.replicate ((Aa t).length*(s.length+1)) 0) (List.replicate (s.length+1) 0):=⟨by simp,by simp,λ _ h=>h.elim,λ _ h=>h.elim⟩
end
end Go.AI
end
section
namespace Go.AI
def Sh (t:Ad) (d:Int) (x x':List UInt8):Prop:=∀ q∈Aa t,(AP t q x<0/\AP t q x'<0)\/(0<=AP t q x/\0<=AP t q x'/\AP t q x'=AP t q x+d)
def EqC (t:Ad) (d:Int) (x x':List UInt8):Prop:=Ct (AW t x)=Ct (AW t x')/\(0<=Bg (AW t x)->Bg (AW t x')-Bg (AW t x)=d)
theorem Jjs {t:Ad} {x:List UInt8} {j:Nat} {q:Ab} (hq:(Aa t)[j]? = some q):(AW t x)[j]? = some (AP t q x):=by unfold AW;rw [JlD,hq];rfl
theorem M4 {t:Ad} {x:List UInt8} {v:Int}:v∈AW t x↔∃ q∈Aa t,v=AP t q x:=by
 unfold AW
 rw [List.mem_map]
 constructor
 ·rintro ⟨q,h,rfl⟩;exact ⟨q,h,rfl⟩
 ·rintro ⟨q,h,rfl⟩;exact ⟨q,h,rfl⟩
theorem KZ {t:Ad} (x:List UInt8):(Bg (AW t x)=-1/\∀ q∈Aa t,AP t q x<0)\/(0<=Bg (AW t x)/\(∃ q∈Aa t,Bg (AW t x)=AP t q x)/\∀ q∈Aa t,0<=AP t q x->Bg (AW t x)<=AP t q x):=by
 by_cases h:∃ q∈Aa t,0<=AP t q x
 ·obtain ⟨q,hq,h0⟩:=h
  have h1:=Qp (M4.2 ⟨q,hq,rfl⟩) h0
  refine .inr ⟨h1.1,?_,λ q' hq' h0'=>(Qp (M4.2 ⟨q',hq',rfl⟩) h0').2⟩
  rcases YF (AW t x) with h2|h2
  ·omega
  ·exact M4.1 h2
 ·have hn:∀ q∈Aa t,AP t q x<0:=λ q hq=>Int.not_le.1 λ h0=>h ⟨q,hq,h0⟩
  refine .inl ⟨?_,hn⟩
  rcases YF (AW t x) with h2|h2
  ·exact h2
  ·obtain ⟨q,hq,e⟩:=M4.1 h2
   have:=hn q hq
   have:=Xu t q x
   omega
theorem VU {t:Ad} {x:List UInt8} {j:Nat} {q:Ab} (hq:(Aa t)[j]? = some q):(Ct (AW t x))[j]? = some (if AP t q x<0 then -1 else AP t q x-Bg (AW t x)):=by
 rw [Ct,JlD,Jjs hq];rfl
theorem EqC.sh {t:Ad} {d:Int} {x x':List UInt8} (h:EqC t d x x'):Sh t d x x':=by
 intro q hq
 obtain ⟨j,hj,e⟩:=List.getElem_of_mem hq
 have hg:(Aa t)[j]? = some q:=by rw [Jlz hj,e]
 have he:=VU (x:=x) hg
 rw [h.1,VU hg] at he
 simp only [JlK] at he
 have g:=h.2
 rcases KZ (t:=t) x with ⟨a1,a2⟩|⟨a1,_,a3⟩
 ·have b1:=a2 q hq
  rcases KZ (t:=t) x' with ⟨c1,c2⟩|⟨c1,_,c3⟩
  ·exact .inl ⟨b1,c2 q hq⟩
  ·refine .inl ⟨b1,Int.not_le.1 λ h0=>?_⟩
   have:=c3 q hq h0
   rw [if_neg (by omega),if_pos b1] at he
   omega
 ·rcases KZ (t:=t) x' with ⟨c1,c2⟩|⟨c1,_,c3⟩
  ·have:=g a1;
   have b2:=c2 q hq
   refine .inl ⟨Int.not_le.1 λ h0=>?_,b2⟩
   have:=a3 q hq h0
   rw [if_pos b2,if_neg (by omega)] at he
   omega
  ·have hd:=g a1
   by_cases h0:AP t q x<0
   ·refine .inl ⟨h0,Int.not_le.1 λ h1=>?_⟩
    have:=c3 q hq h1
    rw [if_neg (by omega),if_pos h0] at he
    omega
   ·by_cases h1:AP t q x'<0
    ·have:=a3 q hq (by omega)
     rw [if_pos h1,if_neg h0] at he
     omega
    ·rw [if_neg h1,if_neg h0] at he
     exact .inr ⟨by omega,by omega,by omega⟩
theorem Sh.lst {t:Ad} {d:Int} {x x':List UInt8} (h:Sh t d x x'):Bg (AW t x')=if Bg (AW t x)<0 then -1 else Bg (AW t x)+d:=by
 rcases KZ (t:=t) x with ⟨a1,a2⟩|⟨a1,⟨q,hq,e⟩,a3⟩
 ·rw [if_pos (by omega)]
  rcases KZ (t:=t) x' with ⟨c1,c2⟩|⟨c1,⟨q',hq',e'⟩,c3⟩
  ·exact c1
  ·rcases h q' hq' with h1|h1
   ·omega
   ·have:=a2 q' hq';omega
 ·rw [if_neg (by omega)]
  have hh:=h q hq
  rcases KZ (t:=t) x' with ⟨c1,c2⟩|⟨c1,⟨q',hq',e'⟩,c3⟩
  ·have:=c2 q hq;omega
  ·have g1:=c3 q hq (by omega)
   have g2:=h q' hq'
   have g3:=a3 q' hq' (by omega)
   omega
theorem Sh.eqc {t:Ad} {d:Int} {x x':List UInt8} (h:Sh t d x x'):EqC t d x x':=by
 have hl:=h.lst
 refine ⟨List.ext_getElem? λ j=>?_,λ h0=>by rw [hl,if_neg (by omega)];omega⟩
 rcases Nat.lt_or_ge j (Aa t).length with hj|hj
 ·have hg:=Jlz hj
  rw [VU hg,VU hg]
  congr 1
  rcases h _ (List.getElem_mem hj) with ⟨h1,h2⟩|⟨h1,h2,h3⟩
  ·rw [if_pos h1,if_pos h2]
  ·rw [if_neg (by omega),if_neg (by omega)]
   have:=(Qp (M4.2 ⟨_,List.getElem_mem hj,rfl⟩) h1).1
   rw [hl,if_neg (by omega)]
   omega
 ·rw [JlV (by rw [KY];exact hj),JlV (by rw [KY];exact hj)]
section
variable {t:Ad} (hT:FN t)
include hT
theorem Jd7 {d:Int} {x x':List UInt8} (h3:3<=x.length) (ht:x.take 3=x'.take 3) (hS:∀ k,1<=k->k<=3->∀ q∈Aa t,0<=AP t q (x.drop k)->0<=AP t q (x'.drop k)/\AP t q (x'.drop k)<=AP t q (x.drop k)+d) :
  ∀ (p:List Int) (q:Ab),q∈Aa t->Way t q x p->∃ p',Way t q x' p'/\((Fn t p':Nat):Int)<=(Fn t p:Nat)+d:=by
 intro p
 induction p with
 | nil=>intro q _ h;have:=h.nil.1;subst this;simp at h3
 | cons k p ih=>
  intro q hq h
  obtain ⟨h1,y,h2,hw⟩:=h.uncons
  rw [FK]
  obtain ⟨n,rfl⟩:∃ n:Nat,k=n:=⟨k.toNat,by have:=DR h1;omega⟩
  have hq':=GU hT hq h1
  by_cases he:prt t n=[]
  ·rw [he,List.nil_append] at h2
   subst h2
   obtain ⟨p',g1,g2⟩:=ih _ hq' hw
   have:=g1.cons h1
   rw [he,List.nil_append] at this
   exact ⟨_,this,by rw [FK];omega⟩
  ·have hpl:=(hT.pr h1).1
   have hp0:0<(prt t n).length:=List.length_pos_iff.2 he
   have hy:y=x.drop (prt t n).length:=by rw [h2,List.drop_left]
   have hx':x'=prt t n++x'.drop (prt t n).length:=by
    have e1:x.take (prt t n).length=prt t n:=by rw [h2,List.take_left]
    have e2:x'.take (prt t n).length=x.take (prt t n).length:=by
     have:=congrArg (List.take (prt t n).length) ht
     rwa [List.take_take,List.take_take,Nat.min_eq_left hpl,eq_comm] at this
    have:=List.take_append_drop (prt t n).length x'
    rw [e2,e1] at this
    exact this.symm
   have hc:=MC hw
   rw [hy] at hc
   have g:=hS _ hp0 hpl _ hq' hc.1
   obtain ⟨p',g1,g2⟩:=GJ g.1
   have hn:=g1.cons h1
   rw [← hx'] at hn
   exact ⟨_,hn,by rw [FK];omega⟩
theorem Sh.step {d:Int} {x x':List UInt8} (h3:3<=x.length) (h3':3<=x'.length) (ht:x.take 3=x'.take 3) (hS:∀ k,1<=k->k<=3->Sh t d (x.drop k) (x'.drop k)):Sh t d x x':=by
 have f1:=Jd7 hT (d:=d) h3 ht λ k h1 h2 q hq h0=>by
  rcases hS k h1 h2 q hq with h|h<;>omega
 have f2:=Jd7 hT (d:=-d) h3' ht.symm λ k h1 h2 q hq h0=>by
  rcases hS k h1 h2 q hq with h|h<;>omega
 intro q hq
 by_cases h0:0<=AP t q x
 ·obtain ⟨p,hp,e⟩:=GJ h0
  obtain ⟨p',hp',e'⟩:=f1 p q hq hp
  have g:=MC hp'
  obtain ⟨p2,hp2,e2⟩:=GJ g.1
  obtain ⟨p3,hp3,e3⟩:=f2 p2 q hq hp2
  have g3:=MC hp3
  exact .inr ⟨h0,g.1,by omega⟩
 ·refine .inl ⟨by omega,Int.not_le.1 λ h1=>?_⟩
  obtain ⟨p,hp,e⟩:=GJ h1
  obtain ⟨p',hp',e'⟩:=f2 p q hq hp
  have:=(MC hp').1
  omega
theorem Sh.all {d:Int} {s s':List UInt8} {i a:Nat} (ha:i+3<=a) (hl:a<=s.length) (hl':a<=s'.length) (ht:s.take a=s'.take a) (hS:∀ j,i<=j->j<=i+2->Sh t d (s.drop j) (s'.drop j)):∀ m j,j+m=i->Sh t d (s.drop j) (s'.drop j):=by
 intro m
 induction m using Nat.strongRecOn with
 | _ m ih=>
  intro j hj
  rcases Nat.eq_zero_or_pos m with rfl|h0
  ·exact hS j (by omega) (by omega)
  ·refine Sh.step hT (by simp;omega) (by simp;omega) ?_ λ k h1 h2=>?_
   ·have:=congrArg (λ l=>(List.drop j l).take 3) ht
    simp only [List.drop_take,List.take_take] at this
    rwa [Nat.min_eq_left (by omega)] at this
   ·rw [List.drop_drop,List.drop_drop]
    by_cases hk:k<=m
    ·exact ih (m-k) (by omega) (j+k) (by omega)
    ·exact hS (j+k) (by omega) (by omega)
end
end Go.AI
end
section
namespace Go.AI
def Ar (s put:List UInt8) (a k:Nat):List UInt8:=s.take a++put++s.drop (a+k)
theorem FL {s put:List UInt8} {a k:Nat} (h:a+k<=s.length):(Ar s put a k).length=s.length-k+put.length:=by
 simp [Ar];omega
theorem VV {s put:List UInt8} {a k:Nat} (h:a+k<=s.length) {i:Nat} (hi:a+put.length<=i):(Ar s put a k).drop i=s.drop (i-put.length+k):=by
 unfold Ar
 have e:(s.take a++put).length=a+put.length:=by simp;omega
 rw [List.drop_append,List.drop_eq_nil_of_le (by omega),List.nil_append,e,List.drop_drop]
 congr 1;omega
theorem VW {s put:List UInt8} {a k:Nat} (h:a+k<=s.length):(Ar s put a k).take a=s.take a:=by
 unfold Ar
 rw [List.append_assoc,List.take_append_of_le_length (by simp;omega),List.take_take,Nat.min_self]
def Ga (t:Ad) (s s':List UInt8) (a i:Nat):Prop:=i+3<=a/\∃ d,∀ j,i<=j->j<=i+3->EqC t d (s.drop j) (s'.drop j)
def Py (t:Ad) (s s':List UInt8) (a b r:Nat):Prop:=r<=b/\(∀ j,r<j->j<b->¬Ga t s s' a j)/\(r=0\/Ga t s s' a r)
theorem Py.uniq {t:Ad} {s s':List UInt8} {a b r r':Nat} (hab:a<=b) (h:Py t s s' a b r) (h':Py t s s' a b r'):r=r':=by
 obtain ⟨h1,h2,h3⟩:=h
 obtain ⟨g1,g2,g3⟩:=h'
 rcases Nat.lt_trichotomy r r' with h|h|h
 ·rcases g3 with g3|g3
  ·omega
  ·exact absurd g3 (h2 r' h (by have:=g3.1;omega))
 ·exact h
 ·rcases h3 with h3|h3
  ·omega
  ·exact absurd h3 (g2 r h (by have:=h3.1;omega))
theorem Zf {t:Ad} {x x':List UInt8} (h:Ct (AW t x)=Ct (AW t x')):Bg (AW t x)<0↔Bg (AW t x')<0:=by
 have key:∀ {x x':List UInt8},Ct (AW t x)=Ct (AW t x')->Bg (AW t x')<0->Bg (AW t x)<0:=by
  intro x x' h hn
  refine Int.not_le.1 λ h0=>?_
  have hS:Sh t (Bg (AW t x')-Bg (AW t x)) x x':=EqC.sh ⟨h,λ _=>rfl⟩
  rcases KZ (t:=t) x with ⟨a1,_⟩|⟨_,⟨q,hq,e⟩,_⟩
  ·omega
  ·rcases hS q hq with h1|h1
   ·omega
   ·have:=(Qp (M4.2 ⟨q,hq,rfl⟩) h1.2.1).1
    omega
 exact ⟨key h.symm,key h⟩
section
variable {t:Ad} (hT:FN t)
include hT
theorem Jjt {a l:List Int} {lo S:Nat} (h:lo+S<=l.length) (ha:a.length<1000000) (hS:S<1000000):Ev (λ n=>B9 n a (lo,S) l) (decide (a=(l.drop lo).take S)):=by
 have _:=hT
 have hl:((l.drop lo).take S).length=S:=by simp;omega
 refine Tot.ev ?_
 unfold B9
 by_cases he:a.length=S
 ·refine Tot.iteF (by simp [he]) (Tot.bind (R:=λ y:Unit⊕Bool=>(y=.inl ()/\a=(l.drop lo).take S)\/(y=.inr false/\a≠(l.drop lo).take S)) ?_ ?_)
  ·refine Tot.upto (body:=λ n x=>Bt n a (lo,S) l x) a.length (λ k x=>x=(k:Int)/\a.take k=((l.drop lo).take S).take k) ?_ ?_ _ ⟨rfl,rfl⟩
   ·rintro k _ hk ⟨rfl,e⟩
    have hkb:k<((l.drop lo).take S).length:=by omega
    have hg:l[lo+k]? = some ((l.drop lo).take S)[k]:=by
     rw [← Jlz hkb,JlU (by omega),List.getElem?_drop]
    unfold Bt
    refine Tot.iteT (Hg hk) (Tot.bindC (Fl hk) (Tot.bindC (Js (by omega) hg) (Tot.ite (λ h=>?_) λ h=>?_)))
    ·refine Tot.pure (.inr ⟨rfl,λ he=>?_⟩)
     have h1:a[k]≠((l.drop lo).take S)[k]:=by simpa using h
     have h2:a[k]? = ((l.drop lo).take S)[k]? := by rw [← he]
     rw [Jlz hk,Jlz hkb] at h2
     exact h1 (Option.some.inj h2)
    ·refine Tot.pure ⟨CA (by omega),?_⟩
     have h1:a[k]=((l.drop lo).take S)[k]:=by simpa using h
     rw [List.take_add_one,List.take_add_one (l:=(l.drop lo).take S),e,Jlz hk,Jlz hkb,h1]
   ·rintro _ ⟨rfl,e⟩
    unfold Bt
    refine Tot.iteF (by simp) (Tot.pure (.inl ⟨rfl,?_⟩))
    rw [List.take_length,he] at e
    rwa [List.take_of_length_le (by omega)] at e
  ·rintro y (⟨rfl,h⟩|⟨rfl,h⟩)
   ·exact Tot.pure (decide_eq_true h).symm
   ·exact Tot.pure (decide_eq_false h).symm
 ·refine Tot.iteT (by simp;omega) (Tot.pure (decide_eq_false λ h=>he ?_).symm)
  rw [h,hl]
variable {s:List UInt8} (hs:s.length<=4000) {s':List UInt8} (hs':s'.length<=4000)
include hs
theorem M5 {i:Nat} (hi:i<=s.length):-1<=Bg (AW t (s.drop i))/\Bg (AW t (s.drop i))<=13000000:=Qq (by decide) λ _ hv=>VQ hT hs hi hv
omit hT hs in
theorem M6 {i:Nat} (hi:i<=s.length):idx (BE t s).Costs (i:Int)=some (Ct (AW t (s.drop i)))/\idx (BE t s).Least (i:Int)=some (Bg (AW t (s.drop i))):=⟨Ej (by simp only [BE,JlD];rw [List.getElem?_range (by omega)];rfl),Ej (by simp only [BE,JlD];rw [List.getElem?_range (by omega)];rfl)⟩
omit hs in
theorem Jju (hl:s.length<=4000):Ev (λ n=>Dr n (BE t s) (BJ t)) true:=by
 have hlen:=HN hT
 have hgl:(BJ t).Arcs.length=(Aa t).length:=by simp [BJ]
 have e1:Au .i64 ((s.length:Nat):Int) 1=((s.length+1:Nat):Int):=CA (by omega)
 have c1:(BE t s).Costs.length=s.length+1:=by simp [BE]
 have c2:(BE t s).Least.length=s.length+1:=by simp [BE]
 have c3:(BE t s).Text=s:=rfl
 refine Tot.ev ?_
 unfold Dr
 rw [c1,c2,c3,e1]
 refine Tot.iteF (by simp) (Tot.bind (R:=λ y:Unit⊕Bool=>y=.inl ()) ?_ (λ y hy=>by subst hy;exact Tot.pure rfl))
 refine Tot.upto (body:=λ n x=>BY n (BE t s) (BJ t) x) (s.length+1) (λ k x=>x=(k:Int)) ?_ ?_ _ rfl
 ·rintro k _ hk rfl
  unfold BY
  rw [c1]
  refine Tot.iteT (Hg hk) (Tot.bindC (M6 (t:=t) (s:=s) (show k<=s.length by omega)).1 (Tot.iteF ?_ (Tot.pure (CA (by omega)))))
  rw [KY,hgl];simp
 ·rintro _ rfl
  unfold BY
  rw [c1]
  exact Tot.iteF (by simp) (Tot.pure rfl)
include hs'
theorem YK {a i:Nat} (ha:i+3<=a) (h1:a<=s.length) (h2:a<=s'.length) {l ls:List Int} (hC:Cl t s' (λ p=>i<=p) l ls) (x0:List UInt8) :
  Tot (λ n=>Et n (BE t s) x0 (i:Int) (Hk (Aa t).length (s'.length+1)) ls l) (λ y=>(y.2=true/\∀ j,i<=j->j<=i+3->EqC t y.1 (s.drop j) (s'.drop j))\/(y.2=false/\¬Ga t s s' a i)):=by
 have hlen:=HN hT
 unfold Et
 refine Tot.bind (R:=λ y:Int⊕(Int×Bool)=>(∃ d,y=.inl d/\∀ j,i<=j->j<=i+3->EqC t d (s.drop j) (s'.drop j))\/(y=.inr (0,false)/\¬Ga t s s' a i)) ?_ ?_
 ·have e3:Au .i64 (i:Int) 3=((i+3:Nat):Int):=by rw [EJ (by omega) (by omega)];omega
  refine Tot.upto (body:=λ n x=>Cs n (BE t s) x0 (i:Int) (Hk (Aa t).length (s'.length+1)) ls l x.1 x.2.1 x.2.2) 4 (λ m x=>x.2.2=((i+m:Nat):Int)/\(∀ j,i<=j->j<i+m->EqC t x.1 (s.drop j) (s'.drop j))/\(x.2.1=false->∀ j,i<=j->j<i+m->Bg (AW t (s.drop j))<0)/\(x.2.1=true->∃ j,i<=j/\j<i+m/\0<=Bg (AW t (s.drop j)))) ?_ ?_ _ ⟨rfl,by omega,by omega,λ h=>by cases h⟩
  ·rintro m ⟨sh,kn,j'⟩ hm ⟨e1,g1,g2,g3⟩
   simp only at e1 g1 g2 g3
   subst e1
   have hj1:i+m<=s.length:=by omega
   have hj2:i+m<=s'.length:=by omega
   obtain ⟨m1,m2⟩:=M6 (t:=t) hj1
   have hcol:=hC.col (i+m) (by omega) hj2
   have hlst:=Ej (hC.lst (i+m) (by omega) hj2)
   have hr1:=M5 hT hs hj1
   have hr2:=M5 hT hs' hj2
   have hlo:(i+m)*(Aa t).length+(Aa t).length<=l.length:=by rw [hC.len];exact Ja (by omega)
   unfold Cs
   rw [e3]
   refine Tot.iteT (by simp;omega) (Tot.bindC m1 (Tot.bindC (Tj (by omega)) (Tot.bindE (Jjt hT hlo (by rw [KY];omega) (by omega)) ?_)))
   rw [hcol]
   by_cases he:Ct (AW t (s.drop (i+m)))=Ct (AW t (s'.drop (i+m)))
   ·rw [decide_eq_true he]
    have hneg:=Zf he
    refine Tot.iteF rfl (Tot.bindC m2 ?_)
    have hJ:∀ sh' kn',EqC t sh' (s.drop (i+m)) (s'.drop (i+m))->(∀ j,i<=j->j<i+m->EqC t sh' (s.drop j) (s'.drop j))->(kn'=false->Bg (AW t (s.drop (i+m)))<0/\kn=false)->(kn'=true->kn=true\/0<=Bg (AW t (s.drop (i+m))))->Tot (λ n=>Cr n ((i+m:Nat):Int) sh' kn') (Rd2 (λ x:Int×Bool×Int=>x.2.2=((i+(m+1):Nat):Int)/\(∀ j,i<=j->j<i+(m+1)->EqC t x.1 (s.drop j) (s'.drop j))/\(x.2.1=false->∀ j,i<=j->j<i+(m+1)->Bg (AW t (s.drop j))<0)/\(x.2.1=true->∃ j,i<=j/\j<i+(m+1)/\0<=Bg (AW t (s.drop j)))) (λ y:Int⊕(Int×Bool)=>(∃ d,y=.inl d/\∀ j,i<=j->j<=i+3->EqC t d (s.drop j) (s'.drop j))\/(y=.inr (0,false)/\¬Ga t s s' a i))):=by
     intro sh' kn' h1 h2 h3 h4
     unfold Cr
     refine Tot.pure ⟨CA (by omega),λ j q1 q2=>?_,λ hk j q1 q2=>?_,λ hk=>?_⟩
     ·by_cases e:j=i+m
      ·rw [e];exact h1
      ·exact h2 j q1 (by omega)
     ·by_cases e:j=i+m
      ·rw [e];exact (h3 hk).1
      ·exact g2 (h3 hk).2 j q1 (by omega)
     ·rcases h4 hk with h|h
      ·obtain ⟨j,q1,q2,q3⟩:=g3 h
       exact ⟨j,q1,by omega,q3⟩
      ·exact ⟨i+m,by omega,by omega,h⟩
    by_cases h0:Bg (AW t (s.drop (i+m)))<0
    ·have hn':=hneg.1 h0
     refine Tot.gF (by simp [h0]) (Tot.iteT (by simp [h0]) (hJ sh kn ⟨he,λ h=>by omega⟩ g1 (λ h=>⟨h0,h⟩) (λ h=>.inl h)))
    ·have hn':¬Bg (AW t (s'.drop (i+m)))<0:=λ h=>h0 (hneg.2 h)
     refine Tot.gE (by simp;omega) (Ev.all λ _=>hlst) (Tot.iteF (by simp;omega) (Tot.bindC hlst (Tot.bindC m2 ?_)))
     rw [J2 (by omega) (by omega)]
     by_cases hk:kn=true/\Bg (AW t (s'.drop (i+m)))-Bg (AW t (s.drop (i+m)))≠sh
     ·refine Tot.iteT (by simp [hk.1];exact hk.2) (Tot.pure (.inr ⟨rfl,?_⟩))
      rintro ⟨_,d,hd⟩
      obtain ⟨j,q1,q2,q3⟩:=g3 hk.1
      have w1:=(hd j q1 (by omega)).2 q3
      have w2:=(g1 j q1 q2).2 q3
      have w3:=(hd (i+m) (by omega) (by omega)).2 (by omega)
      exact hk.2 (by omega)
     ·refine Tot.iteF ?_ (hJ _ true ⟨he,λ _=>rfl⟩ (λ j q1 q2=>⟨(g1 j q1 q2).1,λ h=>?_⟩) (λ h=>by cases h) (λ _=>.inr (by omega)))
      ·cases kn with
       | false=>rfl
       | true=>
        have:Bg (AW t (s'.drop (i+m)))-Bg (AW t (s.drop (i+m)))=sh:=Decidable.byContradiction λ h=>hk ⟨rfl,h⟩
        simp [this]
      ·cases kn with
       | false=>have:=g2 rfl j q1 q2;omega
       | true=>
        have:Bg (AW t (s'.drop (i+m)))-Bg (AW t (s.drop (i+m)))=sh:=Decidable.byContradiction λ h=>hk ⟨rfl,h⟩
        rw [this]
        exact (g1 j q1 q2).2 h
   ·rw [decide_eq_false he]
    refine Tot.iteT rfl (Tot.pure (.inr ⟨rfl,?_⟩))
    rintro ⟨_,d,hd⟩
    exact he (hd (i+m) (by omega) (by omega)).1
  ·rintro ⟨sh,kn,j'⟩ ⟨e1,g1,g2,g3⟩
   simp only at e1 g1 g2 g3
   subst e1
   unfold Cs
   rw [e3]
   exact Tot.iteF (by simp) (Tot.pure (.inl ⟨sh,rfl,λ j q1 q2=>g1 j q1 (by omega)⟩))
 ·rintro y (⟨d,rfl,h⟩|⟨rfl,h⟩)
  ·exact Tot.pure (.inl ⟨rfl,h⟩)
  ·exact Tot.pure (.inr ⟨rfl,h⟩)
end
end Go.AI
end
