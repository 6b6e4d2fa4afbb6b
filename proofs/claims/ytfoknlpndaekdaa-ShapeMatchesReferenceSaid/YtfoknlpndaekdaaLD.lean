/- Part 4 of 5 of the proof: lemmas about the model and the program's functions, with no condition beyond those that each states. -/
import Derived.Test.YtfoknlpndaekdaaLC
import Derived.Shelf.Sort.Plain
import Derived.Shelf.Slices.In.SortNone
import Derived.Shelf.SlSortCmp.NoneTotal
import Derived.Test.YtfoknlpndaekdaaProg
import Derived.Shelf.SlLaysF0
import Derived.KernelRfl
import Derived.ChangeArms
import Derived.WalkKit
import Derived.ProofKit
import Derived.OpenShut
import Derived.Carry
import Derived.WideKeyArgs
import Derived.ChangeSame
section
namespace Go.AI
variable {Γ:Cx} {C:Code} {p:List Nat} {Q:Ex->St->Prop} {s s':St} {K:St->Prop} {i:Nat} {nk:Nat}
variable {α β ζ:Type}
def xX {σ:Type} (nk k:Nat) (st:σ->St):σ->Ex->St->Prop:=λ y e s=>e=Ex.exit k/\As nk s (st y)
def xR {σ:Type} (ty:Nat->Ty) (fn:Func) (r:σ->AV):σ->Ex->St->Prop:=λ y e s=>e=Ex.ret/\RA ty fn.results.toList (r y) s
def xL {σ:Type} (nk:Nat) (ty:Nat->Ty) (fn:Func) (r:σ->AV) (O:σ->List (Option Ob)):σ->Ex->St->Prop:=λ y e s=>e=Ex.ret/\RL nk ty fn.results.toList (r y) (O y) s
def xS {σ τ:Type} (a:σ->Ex->St->Prop) (b:τ->Ex->St->Prop):σ⊕τ->Ex->St->Prop
 | .inl y=>a y
 | .inr y=>b y
variable {σ ρ τ:Type} {st:σ->St} {E:ρ->Ex->St->Prop}
theorem xo {r:ρ} {k nk':Nat} {st':τ->St} {y:τ} (hE:E r=xX nk' k st' y) (h:As nk' s (st' y)):PQ (AO nk st E (.inr r)) (.exit k) s:=oe (by rw [hE];exact ⟨rfl,h⟩)
theorem ro {r:ρ} {ty:Nat->Ty} {fn:Func} {f:τ->AV} {y:τ} (hE:E r=xR ty fn f y) (h:RA ty fn.results.toList (f y) s):PQ (AO nk st E (.inr r)) .ret s:=or (by rw [hE];exact ⟨rfl,h⟩)
theorem lo {r:ρ} {nk':Nat} {ty:Nat->Ty} {fn:Func} {f:τ->AV} {O:τ->List (Option Ob)} {y:τ} (hE:E r=xL nk' ty fn f O y) (h:RL nk' ty fn.results.toList (f y) (O y) s):PQ (AO nk st E (.inr r)) .ret s:=or (by rw [hE];exact ⟨rfl,h⟩)
theorem lX {body:σ->Option (σ⊕ρ)} {n:Nat} {x:σ} {r:ρ} {k nk':Nat} {st':τ->St} {y:τ} (hb:∀ x z,body x=some z->WP Γ C (p++[0]) (AO nk' st E z) (st x)) (hr:whl body n x=some r) (hs:As nk' s (st x)) (hE:E r=xX nk' k st' y)
  (hk:∀ s,As nk' s (st' y)->PQ Q (.exit k) s) (hn:Γ.nt.nk=nk':=by rfl) (h:JU (nav p C)=true:=by kernel_rfl):WP Γ C p Q s:=by
 subst hn
 exact lp st E hr hs hb (λ e s he=>by rw [hE] at he;obtain ⟨rfl,he⟩:=he;exact hk s he) h
theorem lR {body:σ->Option (σ⊕ρ)} {n:Nat} {x:σ} {r:ρ} {nk':Nat} {ty:Nat->Ty} {fn:Func} {f:τ->AV} {y:τ} (hb:∀ x z,body x=some z->WP Γ C (p++[0]) (AO nk' st E z) (st x)) (hr:whl body n x=some r) (hs:As nk' s (st x)) (hE:E r=xR ty fn f y)
  (hk:∀ s,RA ty fn.results.toList (f y) s->PQ Q .ret s) (hn:Γ.nt.nk=nk':=by rfl) (h:JU (nav p C)=true:=by kernel_rfl):WP Γ C p Q s:=by
 subst hn
 exact lp st E hr hs hb (λ e s he=>by rw [hE] at he;obtain ⟨rfl,he⟩:=he;exact hk s he) h
def g0 (c:Code) (i:Nat) (s:St):Bool:=(gAt c i s).getD false
theorem ge (n:Nat) (hk:RF Γ C p (i+n) Q ((gl Γ (nav p C) (g0 (nav p C) i s) n i s).getD ([],s)).2) (h1:(gl Γ (nav p C) (g0 (nav p C) i s) n i s).isSome=true:=by kernel_rfl) (h2:((gl Γ (nav p C) (g0 (nav p C) i s) n i s).getD ([],s)).1=List.replicate ((gl Γ (nav p C) (g0 (nav p C) i s) n i s).getD ([],s)).1.length (g0 (nav p C) i s):=by kernel_rfl):RF Γ C p i Q s:=gc n _ hk h1 h2
theorem sE {g:Bool} {v:AV} {obs:List Ob} {x:Option Eff} (ho:g=true->Gq s x v obs [] none) (hk:RF Γ C p (i+1) Q ((G8 Γ (nav p C) i g v obs s).getD s)) (hg:gAt (nav p C) i s=some g:=by kernel_rfl) (hx:IE Γ (nav p C) i s=x:=by kernel_rfl) (hgs:CH (nav p C) i s=List.replicate (CH (nav p C) i s).length g:=by kernel_rfl) (hn:(G8 Γ (nav p C) i g v obs s).isSome=true:=by kernel_rfl):RF Γ C p i Q s:=
 sG (gs:=CH (nav p C) i s) ho (K9 λ b hb=>by rw [hgs] at hb;exact List.eq_of_mem_replicate hb) hk hg hx rfl hn
theorem oi {a z:ζ} (h:some a=some z):a=z:=Option.some.inj h
theorem tr {s1 s2 s3:St} (h:As nk s1 s2) (h':As nk s2 s3):As nk s1 s3:=As.trans h h'
theorem sg (ts:List Nat) (h:gcA nk ts s=s':=by kernel_rfl):As nk s s':=WX ts h
theorem sn (t k sz:Nat) {n m:Nat} (e:n=m) (h:lkA s.env t=.osl k sz 0 n:=by kernel_rfl):As nk s ⟨(t,.osl k sz 0 m)::s.env,s.objs⟩:=UL t k sz 0 n m h e
theorem fz {enc:α->List D} {xs:List α} (t k sz:Nat) (h:Ng s (lkA s.env t)=some (k,sz,0,xs.length,xs.map enc):=by kernel_rfl):As nk s ⟨(t,.d (.sl (xs.map enc)))::s.env,s.objs.set k none⟩:=UK t _ h FT (by simp)
attribute [irreducible] xL
end Go.AI
end
section
namespace Go.AI
variable {α ε σ ρ ζ ξ:Type}
open Classical in
noncomputable def dem (S:α->Prop) (k:α->Option ζ):Option ζ:=if h:∃ z,(∃ a,S a)/\∀ a,S a->k a=some z then some h.choose else none
theorem U0 {S:α->Prop} {k:α->Option ζ} {z:ζ} (h:dem S k=some z):∀ a,S a->k a=some z:=by
 unfold dem at h
 split at h
 ·rename_i hx
  cases h
  exact hx.choose_spec.2
 ·cases h
theorem U1 {S:α->Prop} {k:α->Option ζ} {z:ζ} (h0:∃ a,S a) (h:∀ a,S a->k a=some z):dem S k=some z:=by
 have hx:∃ z,(∃ a,S a)/\∀ a,S a->k a=some z:=⟨z,h0,h⟩
 unfold dem
 rw [dif_pos hx]
 obtain ⟨a,ha⟩:=h0
 have h1:=hx.choose_spec.2 a ha
 rw [h a ha] at h1
 exact h1.symm
open Classical in
noncomputable def Qr (S:α->Prop) (k:α->Option (ζ->Prop)):Option (ζ->Prop):=if ∀ a,S a->∃ Z,k a=some Z then some λ z=>∃ a Z,S a/\k a=some Z/\Z z else none
theorem LU {S:α->Prop} {k:α->Option (ζ->Prop)} {Z:ζ->Prop} (h:Qr S k=some Z):∀ a,S a->∃ Z',k a=some Z'/\∀ z,Z' z->Z z:=by
 unfold Qr at h
 split at h
 ·rename_i hx
  cases h
  intro a ha
  obtain ⟨Z',hz⟩:=hx a ha
  exact ⟨Z',hz,λ z h=>⟨a,Z',ha,hz,h⟩⟩
 ·cases h
theorem LV {S:α->Prop} {k:α->Option (ζ->Prop)} (h:∀ a,S a->∃ Z,k a=some Z):Qr S k=some λ z=>∃ a Z,S a/\k a=some Z/\Z z:=if_pos h
def Ky (x:ζ):ζ->Prop:=λ y=>y=x
def DA (F:ε->σ->Option (σ⊕ρ)):List ε->σ->Option (σ⊕ρ)
 | [],x=>some (.inl x)
 | e::l,x=>match F e x with
  | none=>none
  | some (.inl y)=>DA F l y
  | some (.inr r)=>some (.inr r)
theorem Qs {F:ε->σ->Option (σ⊕ρ)} {e:ε} {l:List ε} {x:σ} {z:σ⊕ρ} (h:DA F (e::l) x=some z):∃ y,F e x=some y:=by
 unfold DA at h
 split at h
 ·cases h
 ·rename_i y hy;exact ⟨_,hy⟩
 ·rename_i y hy;exact ⟨_,hy⟩
end Go.AI
end
section
namespace Go.AI
variable {P:Program} {Γ:Cx} {C:Code} {p:List Nat} {Q:Ex->St->Prop} {s s':St} {K:St->Prop} {i nk:Nat}
variable {α β ζ ε σ ρ τ:Type}
theorem bE {X:Option ζ} {G:Prop} (h:∃ z,X=some z) (k:∀ z,X=some z->G):G:=by obtain ⟨z,h⟩:=h;exact k z h
theorem XP {l l1 l2:List ε} {e:ε} (h:l=l1++e::l2):e∈l:=by subst h;simp
def ndQ (Γ:Cx) (c:Code) (i:Nat) (Q:Ex->St->Prop):Ex->St->Prop:=λ _ s=>∃ o,(AA c)[i]? = some o/\WO Γ o (λ s'=>Es Γ false (AA c) ((AA c).drop (i+1)) (Q .normal) s') s
structure ND (Γ:Cx) (c:Code) (i:Nat) (Q:Ex->St->Prop) (s:St):Prop where
 out:ndQ Γ c i Q .normal s
theorem Qt {m:Nat} {ops:List Oper}:∀ (l:List Oper) (Q:St->Prop) (s:St),Es Γ false (ops.take m) l Q s->Es Γ false ops l Q s:=by
 intro l
 induction l with
 | nil=>intro Q s h;exact h
 | cons o l ih=>intro Q s h;exact GK (ih Q) (JX h)
theorem rn (m:Nat) (hs:As Γ.nt.nk s s') (hk:RF Γ (D7 m (nav p C)) [] 0 (ndQ Γ (nav p C) m (LM C p s' Q)) s') (h:(Gu (nav p C)&&!G7 (nav p C))=true:=by kernel_rfl):WP Γ C p Q s:=by
 refine ⟨?_⟩
 have hk:=hk.out
 unfold AB at hk
 simp only [nav,List.drop_zero] at hk
 unfold LM at hk
 generalize nav p C=c at *
 cases c with
 | region id ops d=>
  simp only [Gu,G7,Bool.true_and,Bool.not_eq_true'] at h
  subst h
  refine ⟨s',hs,.inr (.inr ⟨rfl,?_⟩)⟩
  have hk:Es Γ false (ops.toList.take m) (ops.toList.take m) _ s':=hk
  have hk:=Qt _ _ _ hk
  by_cases hm:m<ops.toList.length
  ·refine ⟨m,ops.toList[m],YD hm,DU (λ s1 h1=>?_) _ _ hk⟩
   obtain ⟨o,ho,h1⟩:=h1
   rw [show AA (.region id ops false)=ops.toList from rfl,YD hm] at ho
   cases ho
   obtain ⟨q1,q2,S,q3,q4⟩:=h1
   exact ⟨q1,q2,S,q3,λ st' hst=>DU (λ s2 h2=>h2.2) _ _ (q4 st' hst)⟩
  ·exfalso
   obtain ⟨S,_,_,hQS⟩:=DW _ _ _ hk
   obtain ⟨o,ho,_⟩:=hQS
   rw [show AA (.region id ops false)=ops.toList from rfl,List.getElem?_eq_none (by omega)] at ho
   cases ho
 | _=>cases h
theorem nd0 {c:Code} {m:Nat} (hk:ND Γ c m Q s) (hi:Nat.ble (AA (D7 m c)).length i=true:=by kernel_rfl):RF Γ (D7 m c) [] i (ndQ Γ c m Q) s:=⟨JN i hi hk.out⟩
structure YOK (P:Program) (Γ:Cx):Prop where
 exn:Γ.exn=GG P
def R7 (Γ:Cx) (c:Code) (o:Oper):Bool:=!G7 c&&o.guard.isNone&&A2 Γ.nt o.dst
theorem Nn (hY:YOK P Γ) {o:Oper} {S:St->Prop} (ho:(AA (nav p C))[i]? = some o) (h0:R7 Γ (nav p C) o=true) (hx:GG P Γ.nt o s S) (hk:∀ s',S s'->RF Γ C p (i+1) Q s'):ND Γ (nav p C) i Q s:=by
 simp only [R7,YE,Bool.not_eq_true'] at h0
 obtain ⟨⟨h1,h2⟩,h3⟩:=h0
 refine ⟨o,ho,by simpa using h2,h3,S,by rw [hY.exn];exact hx,λ s' hs=>?_⟩
 have:=(hk s' hs).out
 unfold AB at this
 rw [h1] at this
 exact this
def W8 (objs:List (Option Ob)) (k:Nat):Option (Bool×Bool×List (List D×List D)):=match obA objs k with
 | some (.iter ka va _ l)=>some (ka,va,l)
 | _=>none
def itB (Γ:Cx) (c:Code) (i k:Nat) (s:St):Bool:=match (AA c)[i]? with
 | some o=>R7 Γ c o&&(match o.op with
  | .next x b=>!b&&(match Ae s.env x with
   | .ptr k' off=>Nat.beq k' k&&Nat.beq off 0
   | _=>false)
  | _=>false)
 | none=>false
def itD (c:Code) (i:Nat):Option Tmp:=match (AA c)[i]? with
 | some o=>o.dst
 | none=>none
theorem nxt (hY:YOK P Γ) (k:Nat) {κ:Type} {encK:κ->List D} {enc:α->List D} {ka va:Bool} {m:List (κ×α)} (h0:m=[]->RF Γ C p (i+1) Q ⟨putA (itD (nav p C) i) false true (.tup [.d (.bool false)]) s.env,s.objs⟩)
  (h1:∀ e m1 m2,m=m1++e::m2->RF Γ C p (i+1) Q ⟨putA (itD (nav p C) i) false true (.tup [.d (.bool true),.top,.top]) s.env,s.objs.set k (some (.iter ka va (some (encK e.1,enc e.2)) (Bn encK enc (m1++m2))))⟩)
  (hb:itB Γ (nav p C) i k s=true:=by kernel_rfl) (hm:W8 s.objs k=some (ka,va,Bn encK enc m):=by kernel_rfl):ND Γ (nav p C) i Q s:=by
 unfold itB at hb
 unfold itD at h0 h1
 unfold W8 at hm
 split at hb
 ·rename_i o ho
  rw [ho] at h0 h1
  simp only [YE] at hb
  obtain ⟨hb1,hb2⟩:=hb
  split at hb2
  ·rename_i x b hop
   simp only [YE,Bool.not_eq_true'] at hb2
   obtain ⟨rfl,hb2⟩:=hb2
   split at hb2
   ·rename_i k' off hx
    simp only [YE] at hb2
    have e1:=YK hb2.1
    have e2:=YK hb2.2
    subst e1;subst e2
    split at hm
    ·rename_i ka' va' cur l hob
     cases hm
     refine Nn hY ho hb1 (R5 hop hx hob) λ s' hs=>?_
     rcases hs with ⟨hl,rfl⟩|⟨l1,e,l2,hl,rfl⟩
     ·refine h0 ?_
      cases m with
      | nil=>rfl
      | cons _ _=>cases hl
     ·obtain ⟨m1,r,hm1,rfl,hr⟩:=List.map_eq_append_iff.1 (show Bn encK enc m=l1++e::l2 from hl)
      obtain ⟨e',m2,rfl,rfl,rfl⟩:=List.map_eq_cons_iff.1 hr
      have:=h1 e' m1 m2 hm1
      unfold Bn at this
      rw [List.map_append] at this
      exact this
    ·cases hm
   ·cases hb2
  ·cases hb2
 ·cases hb
def nxR (Γ:Cx) (c:Code) (i:Nat) (s:St):Option St:=match (AA c)[i]? with
 | some o=>bif R0 Γ c o then (match o.op with
  | .range t x=>bif (Γ.ty t).ok then (match (Γ.ty t).kind,Ae s.env x with
   | .map _ _ _ _,.mp k=>match obA s.objs k with
    | some (.map ka va ents)=>some ⟨putA o.dst false true (.ptr s.objs.length 0) s.env,s.objs.set k none++[some (.iter ka va none ents)]⟩
    | _=>none
   | _,_=>none) else none
  | .entry x=>match Ae s.env x with
   | .ptr k 0=>match obA s.objs k with
    | some (.iter ka va (some e) _)=>some ⟨putA o.dst false true (.tup [kvV ka e.1,kvV va e.2]) s.env,s.objs⟩
    | _=>none
   | _=>none
  | _=>none) else none
 | none=>none
theorem xr (hX:XOK P Γ) (hk:RF Γ C p (i+1) Q ((nxR Γ (nav p C) i s).getD s)) (h:(nxR Γ (nav p C) i s).isSome=true:=by kernel_rfl):RF Γ C p i Q s:=by
 have h:=Bb (d:=s) h
 generalize (nxR Γ (nav p C) i s).getD s=s' at h hk
 unfold nxR at h
 split at h
 ·rename_i o ho
  obtain ⟨h0,h⟩:=Am h
  split at h
  ·rename_i t x hop
   obtain ⟨h1,h⟩:=Am h
   split at h
   ·rename_i ks ka' va' vz k hkd hx
    split at h
    ·rename_i ka va ents hob
     cases h
     exact FU hX ho h0 (Qo hX.ty hop h1 hkd hx hob) hk
    ·cases h
   ·cases h
  ·rename_i x hop
   split at h
   ·rename_i k hx
    split at h
    ·rename_i ka va e l hob
     cases h
     exact FU hX ho h0 (Qp hop hx hob) hk
    ·cases h
   ·cases h
  ·cases h
 ·cases h
theorem cT (hk:WP Γ C (p++[0]) Q s) (h:LT (nav p C)=true:=by kernel_rfl) (hc:Ae s.env (HG (nav p C))=.d (.bool true):=by kernel_rfl):WP Γ C p Q s:=⟨LL true (JV h) hc (λ _=>hk.out) (λ e=>by cases e)⟩
theorem cF (hk:WP Γ C (p++[1]) Q s) (h:LT (nav p C)=true:=by kernel_rfl) (hc:Ae s.env (HG (nav p C))=.d (.bool false):=by kernel_rfl):WP Γ C p Q s:=⟨LL false (JV h) hc (λ e=>by cases e) (λ _=>hk.out)⟩
def TV (nk:Nat) (st:List ε->σ->St) (E0:σ->Ex->St->Prop) (E:ρ->Ex->St->Prop) (F:ε->σ->Option (σ⊕ρ)) (l:List ε) (x:σ):Ex->St->Prop
 | .normal,s=>∃ l1 e l2 y,l=l1++e::l2/\F e x=some (.inl y)/\As nk s (st (l1++l2) y)
 | ex,s=>(l=[]/\E0 x ex s)\/∃ l1 e l2 r,l=l1++e::l2/\F e x=some (.inr r)/\E r ex s
theorem mg {st:List ε->σ->St} {E0:σ->Ex->St->Prop} {E:ρ->Ex->St->Prop} {F:ε->σ->Option (σ⊕ρ)} {l l1 l2:List ε} {e:ε} {x y:σ} (hl:l=l1++e::l2) (hF:F e x=some (.inl y)) (h:As nk s (st (l1++l2) y)):PQ (TV nk st E0 E F l x) .normal s:=⟨⟨l1,e,l2,y,hl,hF,h⟩⟩
theorem mE {st:List ε->σ->St} {E0:σ->Ex->St->Prop} {E:ρ->Ex->St->Prop} {F:ε->σ->Option (σ⊕ρ)} {l:List ε} {x:σ} {k nk':Nat} {st':τ->St} {y:τ} (hl:l=[]) (hE:E0 x=xX nk' k st' y) (h:As nk' s (st' y)):PQ (TV nk st E0 E F l x) (.exit k) s:=⟨.inl ⟨hl,by rw [hE];exact ⟨rfl,h⟩⟩⟩
theorem R8 {F:ε->σ->Option (σ⊕ρ)} {l:List ε} {e:ε} {x y:σ} {done:List ε} (h:∀ rest,DA F (done++rest) x=DA F rest y) {y':σ} (hF:F e y=some (.inl y')):∀ rest,DA F ((done++[e])++rest) x=DA F rest y':=λ rest=>by
 rw [List.append_assoc,List.singleton_append,h]
 simp only [DA,hF]
theorem lM {F:ε->σ->Option (σ⊕ρ)} {st:List ε->σ->St} {E0:σ->Ex->St->Prop} {E:ρ->Ex->St->Prop} {l:List ε} {x:σ} {nk':Nat} (hb:∀ l x,(∀ e,e∈l->∃ z,F e x=some z)->WP Γ C (p++[0]) (TV nk' st E0 E F l x) (st l x)) (hs:As nk' s (st l x))
  (hr:∀ ord,ord.Perm l->∃ r,DA F ord x=some r) (hE0:∀ ord y,ord.Perm l->DA F ord x=some (.inl y)->∀ e s,E0 y e s->PQ Q e s) (hE:∀ ord r,ord.Perm l->DA F ord x=some (.inr r)->∀ e s,E r e s->PQ Q e s)
  (hn:Γ.nt.nk=nk':=by rfl) (h:JU (nav p C)=true:=by kernel_rfl):WP Γ C p Q s:=by
 subst hn
 refine ⟨?_⟩
 rw [Nj h]
 refine ⟨λ m s=>∃ done l' y,s=st l' y/\(done++l').Perm l/\(∀ rest,DA F (done++rest) x=DA F rest y)/\m=l'.length,l.length,⟨_,hs,[],l,x,rfl,List.Perm.refl _,λ _=>rfl,rfl⟩,?_⟩
 rintro m _ ⟨done,l',y,rfl,hp,hd,rfl⟩
 have hdef:∀ e,e∈l'->∃ z,F e y=some z:=λ e he=>by
  obtain ⟨l1,l2,rfl⟩:=List.append_of_mem he
  obtain ⟨r,hr⟩:=hr (done++e::(l1++l2)) ((List.Perm.append_left done List.perm_middle.symm).trans hp)
  rw [hd] at hr
  exact Qs hr
 refine JM ?_ (hb l' y hdef).out
 intro e s' hq
 cases e with
 | normal=>
  obtain ⟨l1,e,l2,y',rfl,hF,hsh⟩:=hq
  refine ⟨(l1++l2).length,_,by simp,hsh,done++[e],l1++l2,y',rfl,?_,R8 (l:=l) hd hF,rfl⟩
  rw [List.append_assoc,List.singleton_append]
  exact (List.Perm.append_left done List.perm_middle.symm).trans hp
 | exit k=>
  rcases hq with ⟨rfl,hq⟩|⟨l1,e,l2,r,rfl,hF,hq⟩
  ·rw [List.append_nil] at hp
   have hm:DA F done x=some (.inl y):=by have:=hd [];rw [List.append_nil] at this;rw [this];rfl
   exact (hE0 done y hp hm _ _ hq).out
  ·have hm:DA F (done++e::(l1++l2)) x=some (.inr r):=by rw [hd];simp only [DA,hF]
   exact (hE _ r ((List.Perm.append_left done List.perm_middle.symm).trans hp) hm _ _ hq).out
 | ret=>
  rcases hq with ⟨rfl,hq⟩|⟨l1,e,l2,r,rfl,hF,hq⟩
  ·rw [List.append_nil] at hp
   have hm:DA F done x=some (.inl y):=by have:=hd [];rw [List.append_nil] at this;rw [this];rfl
   exact (hE0 done y hp hm _ _ hq).out
  ·have hm:DA F (done++e::(l1++l2)) x=some (.inr r):=by rw [hd];simp only [DA,hF]
   exact (hE _ r ((List.Perm.append_left done List.perm_middle.symm).trans hp) hm _ _ hq).out
theorem bI {x:Option α} {f:α->Option β} {r:β} (h:x.bind f=some r):∃ a,x=some a:=by
 cases x with
 | none=>cases h
 | some a=>exact ⟨a,rfl⟩
theorem bK {x:Option α} {f:α->Option β} {r:β} {a:α} (h:x.bind f=some r) (hx:x=some a):f a=some r:=by subst hx;exact h
theorem xQ {nk' k:Nat} {st':τ->St} {y:τ} {e:Ex} {G:Prop} (h:xX nk' k st' y e s) (hk:e=.exit k->As nk' s (st' y)->G):G:=hk h.1 h.2
def Hd (s:St) (k:Nat):Option St:=match obA s.objs k with
 | some (.iter ka va _ l)=>some ⟨s.env,s.objs.set k (some (.iter ka va none l))⟩
 | _=>none
theorem W9 (k:Nat) (h:(Hd s k).isSome=true:=by kernel_rfl):As nk s ((Hd s k).getD s):=by
 have h:=Bb (d:=s) h
 generalize (Hd s k).getD s=s' at h
 unfold Hd at h
 split at h
 ·rename_i ka va cur l hob
  cases h
  refine As.sem λ _ _ _ _ _ _ _ _ hI=>?_
  obtain ⟨F,ρ,hS,hrest⟩:=hI
  refine ⟨F,ρ,hS.reob hob (λ L hr=>?_) (λ sz es he=>by cases he),hrest⟩
  obtain ⟨h1,bm,es,clock,since,seen,c0,q1,q2,q3,q4,q4',q5,q6,q7,_⟩:=hr
  exact ⟨h1,bm,es,clock,since,seen,c0,q1,q2,q3,q4,q4',q5,q6,q7,λ p hp=>by cases hp⟩
 ·cases h
def No (Z:ζ->Prop) (r1:ζ->AV) (O1:ζ->List (Option Ob)):AV->List (Option Ob)->Prop:=λ r O=>∃ y,Z y/\r=r1 y/\O=O1 y
theorem pS {ty:Nat->Ty} {rs:List ResultVar} {Z:ζ->Prop} {r1:ζ->AV} {O1:ζ->List (Option Ob)} {y:ζ} (hy:Z y) (h:RL nk ty rs (r1 y) (O1 y) s):PQ (Na nk ty rs (No Z r1 O1)) .ret s:=by
 obtain ⟨s',h1,h2⟩:=h.out
 exact ⟨⟨s',h1,_,_,⟨y,hy,rfl,rfl⟩,h2⟩⟩
theorem pS' {ty:Nat->Ty} {rs:List ResultVar} {Z:ζ->Prop} {r1:ζ->AV} {O1:ζ->List (Option Ob)} {y:ζ} (hy:Z y) (h:RL nk ty rs (r1 y) (O1 y) s):PQ (Na nk ty rs (No Z r1 O1)) .normal s:=by
 obtain ⟨s',h1,h2⟩:=h.out
 exact ⟨⟨s',h1,_,_,⟨y,hy,rfl,rfl⟩,h2⟩⟩
def nxN (Γ:Cx) (c:Code) (i:Nat) (ord:List Nat) (nb:Nat) (r:AV) (O1:List (Option Ob)) (s:St):Option St:=
 match (AA c)[i]? with
 | some o=>bif R7 Γ c o&&Nat.ble nb ord.length&&Nat.ble nb O1.length&&ord.all (λ k=>Nat.blt k s.objs.length) then
   some ⟨putA o.dst false true (FE (BX ord s.objs.length nb) r) s.env,Bj s.objs ord nb O1⟩ else none
 | none=>none
theorem nc (hY:YOK P Γ) (ord:List Nat) {f:FuncId} {ys:List AV} {O0 raw0:List (Option Ob)} {nb:Nat} {Z:ζ->Prop} {r1:ζ->AV} {O1:ζ->List (Option Ob)} (hr:BN P f ys O0 nb (No Z r1 O1)) (hp0:raw0=O0)
  (hk:∀ y,Z y->RF Γ C p (i+1) Q ((nxN Γ (nav p C) i ord nb (r1 y) (O1 y) s).getD s)) (hg:CH (nav p C) i s=[]:=by kernel_rfl)
  (hc:Kx (nav p C) i s=some ((some f,((Kx (nav p C) i s).getD ((none,[]),[])).1.2),ord):=by kernel_rfl) (hxs:((Kx (nav p C) i s).getD ((none,[]),[])).1.2.map (Dj ord)=ys:=by kernel_rfl) (hO:BW s.objs ord=raw0:=by kernel_rfl)
  (hn:∀ y,(nxN Γ (nav p C) i ord nb (r1 y) (O1 y) s).isSome=true:=by intro y;kernel_rfl) (hb:Nat.ble nb ord.length=true:=by kernel_rfl) (hb2:ord.all (λ k=>Nat.blt k s.objs.length)=true:=by kernel_rfl) (h0:((AA (nav p C))[i]?.map (R7 Γ (nav p C)))=some true:=by kernel_rfl):ND Γ (nav p C) i Q s:=by
 generalize ((Kx (nav p C) i s).getD ((none,[]),[])).1.2=zs at hc hxs
 subst hp0
 unfold Kx at hc
 split at hc
 ·rename_i o ho
  rw [ho] at h0
  simp only [Option.map_some,YM] at h0
  simp only [YM,Prod.mk.injEq] at hc
  obtain ⟨hc,hord⟩:=hc
  rw [hc] at hord
  simp only at hord
  subst hord
  subst hxs
  subst hO
  have hgob:CC true (o.op.operands.toList.map (Ae s.env)):=by
   refine EK (g:=true) ?_
   unfold CH at hg
   rw [ho] at hg
   simp only at hg
   rw [hg]
   exact Bt
  have hall:∀ y,Nat.ble nb (O1 y).length=true:=λ y=>by
   have:=hn y
   unfold nxN at this
   rw [ho] at this
   simp only at this
   cases hb3:Nat.ble nb (O1 y).length with
   | true=>rfl
   | false=>rw [hb3] at this;simp at this
  refine Nn hY ho h0 (Qq hgob hc hr (YQ hb) (λ r O hR=>?_) λ k hk=>?_) λ s' hs=>?_
  ·obtain ⟨y,_,_,rfl⟩:=hR
   exact YQ (hall y)
  ·exact YQ (Yr.1 hb2 k hk)
  ·obtain ⟨r,O,⟨y,hy,rfl,rfl⟩,rfl⟩:=hs
   have h:=hk y hy
   have e:nxN Γ (nav p C) i (Ag s.objs zs) nb (r1 y) (O1 y) s=some ⟨putA o.dst false true (FE (BX (Ag s.objs zs) s.objs.length nb) (r1 y)) s.env,Bj s.objs (Ag s.objs zs) nb (O1 y)⟩:=by
    unfold nxN
    rw [ho]
    simp only [h0,hb,hall y,hb2,Bool.and_self,cond_true]
   rw [e] at h
   exact h
 ·cases hc
theorem rfN (hΓ:Γ.lentS=BN P) (js:List Code) (ts ord:List Nat) {f:FuncId} {ys:List AV} {O0 raw0:List (Option Ob)} {nb:Nat} {Z:ζ->Prop} {r1:ζ->AV} {O1:ζ->List (Option Ob)} (j:ζ->Nat) (hr:BN P f ys O0 nb (No Z r1 O1)) (hp0:raw0=O0)
  (hk:∀ y,Z y->JQ Q js (j y) ⟨s.env,(Bj ((rgV Γ (nav p C) js ts s).getD (0,[],[],[])).2.2.1 ord nb (O1 y)).set s.objs.length none⟩)
  (hc:rgV Γ (nav p C) js ts s=some (f,((rgV Γ (nav p C) js ts s).getD (0,[],[],[])).2.1,((rgV Γ (nav p C) js ts s).getD (0,[],[],[])).2.2.1,ord):=by kernel_rfl)
  (hxs:((rgV Γ (nav p C) js ts s).getD (0,[],[],[])).2.1.map (Dj ord)=ys:=by kernel_rfl) (hO:BW ((rgV Γ (nav p C) js ts s).getD (0,[],[],[])).2.2.1 ord=raw0:=by kernel_rfl)
  (hb:∀ y,rgB Γ ord nb ((rgV Γ (nav p C) js ts s).getD (0,[],[],[])).2.2.1 (O1 y)=true:=by intro y;kernel_rfl) (hb0:rgB Γ ord nb ((rgV Γ (nav p C) js ts s).getD (0,[],[],[])).2.2.1 (List.replicate nb none)=true:=by kernel_rfl) (hj:∀ y,lpJ (Bj ((rgV Γ (nav p C) js ts s).getD (0,[],[],[])).2.2.1 ord nb (O1 y)) s.objs.length=some (js,j y):=by intro y;kernel_rfl):WP Γ C p Q s:=by
 subst hp0
 generalize ((rgV Γ (nav p C) js ts s).getD (0,[],[],[])).2.1=xs at *
 generalize ((rgV Γ (nav p C) js ts s).getD (0,[],[],[])).2.2.1=O at *
 refine ⟨?_⟩
 unfold rgV at hc
 split at hc
 ·rename_i g ps asg body he
  split at hc
  ·rename_i f' caps hg
   simp only [YM,Prod.mk.injEq] at hc
   obtain ⟨rfl,rfl,rfl,rfl⟩:=hc
   unfold rgB at hb hb0
   simp only [YE,Bool.not_eq_true'] at hb hb0
   obtain ⟨⟨⟨b1,b2⟩,_⟩,b4⟩:=hb0
   rw [he]
   refine ⟨s,.refl s,.inr ?_⟩
   unfold Jd
   rw [hg]
   refine ⟨js,ts,nb,No Z r1 O1,b1,?_,YQ b2,λ k hk=>?_,λ r O hR=>?_⟩
   ·rw [hxs,hO,hΓ];exact hr
   ·have:=YQ (Yr.1 b4 k hk)
    omega
   ·obtain ⟨y,hy,rfl,rfl⟩:=hR
    exact ⟨YQ (hb y).1.2,j y,hj y,(hk y hy).out⟩
  ·cases hc
 ·cases hc
theorem flS {P:Program} {fn:Func} {f:FuncId} {args:List AV} {O0:List (Option Ob)} {nb:Nat} {R:AV->List (Option Ob)->Prop} (hfol:P.follows .mixedOrders=true) (hΓ:CD P Γ) (hf:P.funcs[f]? = some fn) (h:WP Γ (AE fn) [] (Na nb Γ.ty fn.results.toList R) s)
  (hb:fn.body=some (AE fn):=by kernel_rfl) (hnm:(fn.name == "runtime.NumGoroutine")=false:=by kernel_rfl) (hnt:Γ.nt=⟨fn.ntmps,[],nb,Γ.nt.qf⟩:=by kernel_rfl) (hlen:Nat.ble args.length fn.ntmps=true:=by kernel_rfl) (hs:(⟨(List.range args.length).zip args,O0⟩:St)=s:=by kernel_rfl) (hrd:Γ.rd=false:=by kernel_rfl):BN P f args O0 nb R:=
 JK hfol hΓ hrd hf hb hnm hnt (YQ hlen) (λ _ _ h=>h) (by rw [hs];exact h.out)
end Go.AI
end
section
namespace Go.AI
variable {α:Type}
def Qu (rows:List (List α)) (i j:Int):Option α:=(idx rows i).bind λ r=>idx r j
def Qv (rows:List (List α)) (i j:Int) (b:α):Option (List (List α)):=(idx rows i).bind λ r=>(put r j b).bind λ r'=>put rows i r'
end Go.AI
end
section
namespace Go.AI
variable {P:Program} {Γ:Cx} {C:Code} {p:List Nat} {Q:Ex->St->Prop} {s s':St} {i nk:Nat}
variable {α β ζ:Type}
def XQ:D->Bool
 | .int _ _=>true
 | .bool _=>true
 | .str _=>true
 | _=>false
theorem OH:∀ (l pre cells:List AV),cells.length=l.length->splice (pre++cells) pre.length l=pre++l:=by
 intro l
 induction l with
 | nil=>intro pre cells h;rw [List.length_eq_zero_iff.1 h];rfl
 | cons v l ih=>
  intro pre cells h
  cases cells with
  | nil=>cases h
  | cons c cells=>
   simp only [splice]
   have e:(pre++c::cells).set pre.length v=(pre++[v])++cells:=by simp
   rw [e]
   have:=ih (pre++[v]) cells (by simpa using h)
   simp only [List.length_append,List.length_cons,List.length_nil] at this
   rw [this,List.append_assoc];rfl
theorem R9 (z:D) (N k:Nat) (t:Ty) (hk:obA s.objs k=some (.box ((List.replicate N z).map .d)):=by kernel_rfl) (ht:Nat.beq t.size N=true:=by kernel_rfl) :
  Gq s (Dx t s.objs (.ptr k 0) (.agg ((List.replicate N z).map .d))) .top [] [] (some (k,.box ((List.replicate N z).map .d))):=by
 have ht:=YK ht
 have hall:((List.replicate N z).map AV.d).all Di=true:=by
  rw [Yr]
  intro x hx
  obtain ⟨y,_,rfl⟩:=Yy.1 hx
  rfl
 have hsp:splice ((List.replicate N z).map AV.d) 0 ((List.replicate N z).map AV.d)=(List.replicate N z).map AV.d:=OH _ [] _ rfl
 refine .of (ob:=((List.replicate N z).map AV.d).length=t.size/\0+t.size<=((List.replicate N z).map AV.d).length) ?_ ⟨by simp [ht],by simp [ht]⟩
 simp only [Dx,hk,AW,Ai,hall,Bool.and_self,cond_true,hsp]
theorem TW {α:Type} (e:α->D) (b:α) (N n m k:Nat) (hN:Nat.beq (n*m) N=true) (h:obA s.objs k=some (.box ((List.replicate N (e b)).map .d))):As nk s ⟨s.env,s.objs.set k (some (.arr m ((List.replicate n (List.replicate m b)).map (List.map e))))⟩:=by
 have hN:=YK hN
 have e1:((List.replicate n ()).flatMap λ _=>List.replicate m (e b))=List.replicate N (e b):=by
  rw [List.flatMap_def,List.map_replicate,List.flatten_replicate_replicate,hN]
 have e2:(List.replicate n (List.replicate m b)).map (List.map e)=(List.replicate n ()).map λ _=>List.replicate m (e b):=by simp
 rw [e2]
 exact TN (λ _:Unit=>List.replicate m (e b)) (List.replicate n ()) k m (λ _=>by simp) (by rw [e1];exact h)
theorem Pp (k sz n esz i0 off:Nat) {j:Int} {u:Unit} (h:BK (decide (0<=j/\j<(n:Nat)))=some u) (hne:Nat.beq esz sz=false:=by kernel_rfl):Gq s (I4 (.array n esz) (.eptr k sz i0 off) j) (.eptr k sz i0 (off+j.toNat*esz)) [] [] none:=by
 refine .of (ob:=0<=j/\j<(n:Nat)) ?_ (of_decide_eq_true (Hc h))
 simp only [I4,hne,cond_false,AN]
theorem Qx {rows:List (List α)} {i j:Int} {b:α} (h:Qu rows i j=some b):∃ r,idx rows i=some r/\idx r j=some b:=by
 unfold Qu at h
 cases hr:idx rows i with
 | none=>rw [hr] at h;cases h
 | some r=>rw [hr] at h;exact ⟨r,rfl,h⟩
theorem U2 (e:α->D) (k sz:Nat) (t:Ty) {rows:List (List α)} {i j:Int} {b:α} (h:Qu rows i j=some b) (hk:obA s.objs k=some (.arr sz (rows.map (List.map e))):=by kernel_rfl) (ht:(!t.agg&&Nat.beq t.size 1)=true:=by kernel_rfl) :
  Gq s (B7 t s.objs (.eptr k sz (0+i.toNat) (0+j.toNat*1))) (.d (e b)) [] [] none:=by
 obtain ⟨r,h1,h2⟩:=Qx h
 obtain ⟨i0,i1,i2⟩:=DZ h1
 obtain ⟨j0,j1,j2⟩:=DZ h2
 simp only [YE,Bool.not_eq_true'] at ht
 have hs:=YK ht.2
 have e1:(rows.map (List.map e))[0+i.toNat]? = some (r.map e):=by rw [YP,YH,i2];rfl
 have e2:((r.map e).map AV.d)[0+j.toNat*1]? = some (.d (e b)):=by rw [YP,Nat.mul_one,YH,YH,j2];rfl
 refine .of (ob:=sz=sz/\0+i.toNat<(rows.map (List.map e)).length/\0+j.toNat*1+t.size<=(r.map e).length) ?_ ⟨rfl,Ac e1,?_⟩
 ·simp only [B7,hk,e1,Ys,BC,ht.1,cond_false,e2,AN]
 ·have:=Ac e2;rw [YB] at this;omega
theorem Qy {rows zs:List (List α)} {i j:Int} {b:α} (h:Qv rows i j b=some zs):∃ r r',idx rows i=some r/\put r j b=some r'/\put rows i r'=some zs:=by
 unfold Qv at h
 cases hr:idx rows i with
 | none=>rw [hr] at h;cases h
 | some r=>
  rw [hr] at h
  simp only [Yn] at h
  cases hp:put r j b with
  | none=>rw [hp] at h;cases h
  | some r'=>rw [hp] at h;exact ⟨r,r',rfl,hp,h⟩
theorem Pq {xs zs:List α} {i:Int} {y:α} (h:put xs i y=some zs):zs=xs.set i.toNat y/\i.toNat<xs.length:=by
 unfold put at h
 split at h
 ·rename_i hc;cases h;exact ⟨rfl,by omega⟩
 ·cases h
theorem XR (e:α->D) (k sz:Nat) (t:Ty) {rows zs:List (List α)} {n m:Int} {b:α} (h:Qv rows n m b=some zs) (hm:m<(sz:Int)) (hk:RF Γ C p (i+1) Q ((Iw Γ (nav p C) i .top [] [] (some (k,.arr sz (zs.map (List.map e)))) s).getD s))
  (h1:obA s.objs k=some (.arr sz (rows.map (List.map e))):=by kernel_rfl) (hv:stV (nav p C) i s=.d (e b):=by kernel_rfl) (hpl:XQ (e b)=true:=by kernel_rfl) (h5:Nat.beq t.size 1=true:=by kernel_rfl)
  (hx:IE Γ (nav p C) i s=Dx t s.objs (.eptr k sz (0+n.toNat) (0+m.toNat*1)) (stV (nav p C) i s):=by kernel_rfl) (hn:(Iw Γ (nav p C) i .top [] [] (some (k,.arr sz (zs.map (List.map e)))) s).isSome=true:=by kernel_rfl):RF Γ C p i Q s:=by
 obtain ⟨r,r',q1,q2,q3⟩:=Qy h
 obtain ⟨i0,i1,i2⟩:=DZ q1
 have hm0:0<=m:=by
  unfold put at q2
  split at q2
  ·omega
  ·cases q2
 obtain ⟨rfl,q4⟩:=Pq q2
 obtain ⟨rfl,q5⟩:=Pq q3
 have e1:(rows.map (List.map e))[0+n.toNat]? = some (r.map e):=by rw [YP,YH,i2];rfl
 have hex:BU s.objs [AV.d (e b)]=some ⟨[e b],[],True/\True⟩:=by
  have:EB s.objs (AV.d (e b))=some ⟨e b,[],True⟩:=by
   cases hb:e b<;>first|rfl|(rw [hb] at hpl;cases hpl)
  simp only [BU,this];rfl
 refine sp (v:=.top) (obs:=[]) (rm:=[]) ?_ hk hx hn
 rw [hv]
 have hs:=YK h5
 refine .of (ob:=sz=sz/\[e b].length=t.size/\0+n.toNat<(rows.map (List.map e)).length/\0+m.toNat*1+t.size<=sz/\(True/\True)) ?_ ⟨rfl,by simp [hs],Ac e1,by omega,trivial,trivial⟩
 have hsol:(AW (AV.d (e b))&&(Ai (AV.d (e b))).all Di&&!([]:List Nat).contains k)=true:=rfl
 have hcc:Ai (AV.d (e b))=[AV.d (e b)]:=rfl
 simp only [Dx,h1,hcc,hex]
 simp only [hcc] at hsol
 rw [hsol,cond_true,e1]
 simp only [Ys,YP,Nat.mul_one,DG,List.map_set]
theorem U3 {e1:α->AV} (k off m:Nat) (t:Ty) {xs:List α} {n:Int} {x:α} (h:idx xs n=some x) (hk:obA s.objs k=some (.box (Ha s k)):=by kernel_rfl) (hc:((Ha s k).drop off).take m=xs.map e1:=by kernel_rfl) (ht:(!t.agg&&Nat.beq t.size 1)=true:=by kernel_rfl) :
  Gq s (B7 t s.objs (.ptr k (off+n.toNat*1))) (e1 x) [] [] none:=by
 generalize Ha s k=cells at hk hc
 obtain ⟨h1,_,h2⟩:=DZ h
 simp only [YE,Bool.not_eq_true'] at ht
 have hs:=YK ht.2
 have hg:cells[off+n.toNat*1]? = some (e1 x):=by
  have hm:n.toNat<((cells.drop off).take m).length:=by rw [hc,YB];exact (List.getElem?_eq_some_iff.1 h2).1
  have:((cells.drop off).take m)[n.toNat]? = some (e1 x):=by rw [hc,YH,h2];rfl
  rw [YT (by simp at hm;omega),Yz] at this
  rw [Nat.mul_one];exact this
 have hl:=(List.getElem?_eq_some_iff.1 hg).1
 have:B7 t s.objs (.ptr k (off+n.toNat*1))=AN (e1 x) (off+n.toNat*1+t.size<=cells.length):=by
  simp only [B7,hk,BC,ht.1,cond_false,hg]
 rw [this]
 exact .of rfl (by omega)
theorem xcv (hX:XOK P Γ) (ord:List Nat) {f:FuncId} {ys:List AV} {O0 O1:List (Option Ob)} {nb:Nat} {r:AV} (hr:Bd P f ys O0 nb r O1) (hk:RF Γ C p (i+1) Q ((nxC Γ (nav p C) i ord nb r O1 s).getD s))
  (hc:Kv (nav p C) i s=some (((Kv (nav p C) i s).getD ((none,[]),[])).1,ord):=by kernel_rfl) (hm:UV P ((Kv (nav p C) i s).getD ((none,[]),[])).1.1 f=Nat.beq f f:=by kernel_rfl)
  (hxs:((Kv (nav p C) i s).getD ((none,[]),[])).1.2.map (Dj ord)=ys:=by kernel_rfl) (hO:BW s.objs ord=O0:=by kernel_rfl) (hn:(nxC Γ (nav p C) i ord nb r O1 s).isSome=true:=by kernel_rfl):RF Γ C p i Q s:=xc hX ord hr hk hc (hm.trans (Nat.beq_refl f)) hxs hO hn
end Go.AI
end
section
namespace Go.AI
open Go.Sort Go.Shelf Go.Proofs
variable {P:Program} {ρs:Ren}
theorem Sim.more {N:Nat->Prop} {H0 F0 F:Nat->Option Obj} {ρ:Nat->Option Loc} {O:List (Option Ob)} {h:Array Obj} (hS:Sim N H0 F0 F ρ O h) (os:Array Obj):Sim N H0 F0 F ρ O (h++os):=by
 have hl:∀ b,b<h.size->(h++os)[b]? = h[b]? := λ b hb=>Array.getElem?_append_left hb
 have hg:∀ b o,h[b]? = some o->(h++os)[b]? = some o:=λ b o hb=>by rw [hl b (Af hb)];exact hb
 obtain ⟨σ,hσ⟩:=hS.inn
 have hM:∀ k c M,σ k c=some M->(h++os)[M.b]? = h[M.b]? := λ k c M hM=>hl _ (hσ.new k c M hM).2.1
 refine { hS with size:=λ b hb=>hS.size b (by simp at hb;omega),old:=λ b hb=>?_,frz:=λ b o hb=>hg b o (hS.frz b o hb),loc:=λ k L hk=>?_,obj:=λ k L ob hk ho=>?_,inn:=⟨σ,λ k c M hM=>?_,hσ.obj,hσ.sep,λ k L sz es hk ho i e j isz xs hi hj cs t fr v hb hv=>?_⟩ }
 ·have:b<h.size:=by
   apply Classical.byContradiction;intro hn
   exact hb (hS.size b (by omega))
  rw [hl b this];exact hS.old b hb
 ·have:=hS.loc k L hk;simp;omega
 ·obtain ⟨g1,g2,g3⟩:=hS.obj k L ob hk ho
  exact ⟨g1.mono (FLe.refl _) (RLe.refl _) (hl _ (hS.loc k L hk)),g2,g3⟩
 ·obtain ⟨g1,g2,g3⟩:=hσ.new k c M hM
  exact ⟨g1,by simp;omega,g3⟩
 ·rw [hl _ (hS.loc k L hk)] at hb
  exact (hσ.rep k L sz es hk ho i e j isz xs hi hj cs t fr v hb hv).mono (FLe.refl _) λ L' hL'=>hM _ _ _ hL'
end Go.AI
end
section
namespace Go.AI
def OI {β:Type} (lt:β->β->Bool) (x:β):List β->List β
 | []=>[x]
 | y::l=>if lt y x=true then y::OI lt x l else x::y::l
def Fi {β:Type} (lt:β->β->Bool):List β->List β
 | []=>[]
 | x::l=>OI lt x (Fi lt l)
def Np {β:Type} (lt:β->β->Bool) (xs:List β):Option (List β):=if xs.length<4611686018427387904 then some (Fi lt xs) else none
section
variable {β:Type} {lt:β->β->Bool}
theorem HI (x:β):∀ l:List β,(OI lt x l).Perm (x::l)
 | []=>.refl _
 | y::l=>by
  unfold OI
  split
  ·exact ((HI x l).cons y).trans (.swap x y l)
  ·exact .refl _
theorem Cc:∀ l:List β,(Fi lt l).Perm l
 | []=>.refl _
 | x::l=>(HI x _).trans ((Cc l).cons x)
theorem Iy (hn:∀ x y z,lt x y=false->lt y z=false->lt x z=false) (ha:∀ x y,lt x y=true->lt y x=false) {x:β}:∀ {l:List β},l.Pairwise (λ a b=>lt b a=false)->(OI lt x l).Pairwise (λ a b=>lt b a=false)
 | [],_=>by simp [OI]
 | y::l,h=>by
  unfold OI
  rw [List.pairwise_cons] at h
  split
  ·rename_i hyx
   refine List.pairwise_cons.2 ⟨λ z hz=>?_,Iy hn ha h.2⟩
   rcases List.mem_cons.1 ((HI x l).mem_iff.1 hz) with rfl|hz
   ·exact ha _ _ hyx
   ·exact h.1 z hz
  ·rename_i hyx
   have hyx:lt y x=false:=by simpa using hyx
   refine List.pairwise_cons.2 ⟨λ z hz=>?_,List.pairwise_cons.2 h⟩
   rcases List.mem_cons.1 hz with rfl|hz
   ·exact hyx
   ·exact hn _ _ _ (h.1 z hz) hyx
theorem Ck (hn:∀ x y z,lt x y=false->lt y z=false->lt x z=false) (ha:∀ x y,lt x y=true->lt y x=false):∀ l:List β,(Fi lt l).Pairwise (λ a b=>lt b a=false)
 | []=>.nil
 | _::l=>Iy hn ha (Ck hn ha l)
theorem LW (hi:∀ x,lt x x=false) (hn:∀ x y z,lt x y=false->lt y z=false->lt x z=false) (ht:∀ x y z,lt x y=true->lt y z=true->lt x z=true) (hT:∀ x y,lt x y=false->lt y x=false->x=y) (l:List β):Fi lt l=l.mergeSort λ x y=>!lt y x:=by
 have ha:∀ x y,lt x y=true->lt y x=false:=λ x y h=>by
  rw [Bool.eq_false_iff];intro h'
  have:=ht x y x h h';rw [hi] at this;cases this
 refine List.Perm.eq_of_pairwise (le:=λ a b=>lt b a=false) (λ a b _ _ h1 h2=>hT _ _ h2 h1) (Ck hn ha l) ?_ ((Cc l).trans (List.mergeSort_perm _ _).symm)
 have:=List.pairwise_mergeSort (le:=λ x y:β=>!lt y x) (λ a b c h1 h2=>by simp at *;exact hn _ _ _ h2 h1) (λ a b=>by
  cases h:lt b a with
  | false=>simp
  | true=>simp [ha _ _ h]) l
 exact this.imp λ h=>by simpa using h
end
end Go.AI
end
section
namespace Go.AI
open Go.Sort Go.Shelf Go.Proofs
variable {P:Program} {ρs:Ren} {β:Type} [Inhabited β]
theorem AH.is_val {F:Nat->Option Obj} {x:D} {v:Value} (h:AH F x v) (hp:x.isPlain=true):v=x.val:=by
 cases h<;>first|rfl|cases hp
theorem Kz {x:D} (hp:x.isPlain=true):x.val.oneCell'=true:=AH.oneCell (AH.val (λ _=>none) hp)
theorem Sa {g:Nat} {enc:β->List D} (hpl:∀ x,∀ d∈enc x,d.isPlain=true) {cf:β->β->Int} (hcmp:∀ x y,Av P g [.agg ((enc x).map .d),.agg ((enc y).map .d)] (.d (.int .i64 (cf x y)))) (k blk off size:Nat) (w:World):CmpLays P g #[] (λ x=>(enc x).map D.val) k cf blk off size w:=by
 intro m os dk _ x y
 generalize sortWorldK (λ x=>(enc x).map D.val) k w blk off m dk os=W
 have ag:∀ z:β,Ad (λ _=>none) noR (.agg ((enc z).map .d)) (.agg ((enc z).map D.val).toArray):=λ z=>by
  refine .agg _ _ (by simp) λ i a v h1 h2=>?_
  simp only [YH,YG] at h1
  obtain ⟨d,hd,rfl⟩:=h1
  simp only [List.getElem?_toArray,YH,hd,Option.map_some,YM] at h2
  subst h2
  exact .d _ _ (AH.val _ (hpl z d (YF hd)))
 refine ((hcmp x y).2 (λ _=>none) W _ ⟨rfl,λ i a v h1 h2=>?_⟩ (λ b o h=>by cases h)).mono λ e w' he=>?_
 ·match i,h1,h2 with
  | 0,h1,h2=>cases h1;cases h2;exact ag x
  | 1,h1,h2=>cases h1;cases h2;exact ag y
 ·obtain ⟨v,F',ρ,rfl,hS,hv,hmu⟩:=he
  refine ⟨?_,w'.drawn-W.drawn,w'.heap.extract W.heap.size w'.heap.size,?_⟩
  ·have hv:Ad F' ρ (.d (.int .i64 (cf x y))) v:=hv
   rw [hv.int]
  ·obtain ⟨h1,h2,h3,h4,h5⟩:=hmu
   have hh:w'.heap=W.heap++w'.heap.extract W.heap.size w'.heap.size:=by
    apply Array.ext_getElem?
    intro b
    rw [Array.getElem?_append]
    split
    ·rename_i hb
     exact hS.old b (by omega)
    ·rename_i hb
     rw [Array.getElem?_extract]
     split
     ·congr 1;omega
     ·rw [Array.getElem?_eq_none (by omega)]
   show w'={ W with drawn:=W.drawn+(w'.drawn-W.drawn),heap:=W.heap++w'.heap.extract W.heap.size w'.heap.size }
   rw [← hh,Nat.add_sub_cancel' h5]
   cases w';cases W
   simp only at h1 h2 h4
   subst h1;subst h2;subst h4;rfl
theorem OJ (L:SlLaysF0.n6 P ρs) (k:Nat) (hk1:1<=k) (aE:∀ w,(isAgg (ρs.t 24)).run P w=.ok true w) (zE:∀ w,(Go.sizeOf (ρs.t 24)).run P w=.ok k w) {enc:β->List D} (hk:∀ x,(enc x).length=k) (hpl:∀ x,∀ d∈enc x,d.isPlain=true) {cf:β->β->Int} (hO:SWO (ltOf cf)) (hT:∀ x y,ltOf cf x y=false->ltOf cf y x=false->x=y) {g:Nat} (eg:∀ args w,(callFunc g args).run P w=.ok (.enter g args) w)
  (hcmp:∀ x y,Av P g [.agg ((enc x).map .d),.agg ((enc y).map .d)] (.d (.int .i64 (cf x y)))) (hf:∃ fn c,P.funcs[ρs.f 6]? = some fn/\fn.body=some c/\(fn.name == "runtime.NumGoroutine")=false) {xs zs:List β} (h:Np (ltOf cf) xs=some zs) :
  Bd P (ρs.f 6) [.osl 0 k 0 xs.length,.clo g []] [some (.arr k (xs.map enc))] 1 (.tup []) [some (.arr k (zs.map enc))]:=by
 have hz:xs.length<4611686018427387904/\zs=xs.mergeSort λ x y=>!(ltOf cf) y x:=by
  unfold Np at h
  split at h
  ·rename_i h1;exact ⟨h1,by rw [← LW hO.irrefl hO.ntrans hO.trans hT];exact (Option.some.inj h).symm⟩
  ·cases h
 obtain ⟨hlt,hzs⟩:=hz
 refine ⟨hf,λ N F ρ w vs hS hcr=>?_⟩
 obtain ⟨v,u,rfl⟩:∃ v u,vs=#[v,u]:=by
  have h1:vs.size=2:=by simpa using hcr.1.symm
  exact ⟨vs[0],vs[1],by apply Array.ext;simp [h1];intro i h1' h2;simp at h2;match i,h2 with|0,_=>rfl|1,_=>rfl⟩
 have hv:=hcr.2 0 _ v rfl rfl
 have hu:=hcr.2 1 _ u rfl rfl
 have hu:u=.func (.func g) #[] #[]:=by
  cases hu with
  | clo _ _ vs hl _=>
   have:vs=#[]:=Array.eq_empty_of_size_eq_zero hl.symm
   rw [this]
 subst hu
 have hlen:zs.length=xs.length:=by rw [hzs];exact List.length_mergeSort _
 have htup:∀ F' ρ',Ad F' ρ' (.tup []) (.tuple #[]):=λ F' ρ'=>.tup [] #[] rfl λ i a v h=>by simp at h
 generalize hn:xs.length=n at hv
 cases hv with
 | osl0 _ _ _ a=>
  have hx:xs=[]:=List.length_eq_zero_iff.1 hn
  have hz0:zs=[]:=List.length_eq_zero_iff.1 (by omega)
  refine (AnyF.slices_SortFunc_none L a 0 _ w).mono λ e w' he=>?_
  obtain ⟨rfl,rfl⟩:=he
  subst hx;subst hz0
  exact ⟨_,F,ρ,rfl,hS,λ j _ L h=>h,htup _ _,Mu.refl _⟩
 | osl _ _ _ _ cap Lo hL hc hs hz=>
  obtain ⟨⟨g1,g2,cs,t,fr,g3,g4,g5,g6⟩,gN,gF⟩:=hS.obj 0 Lo _ hL rfl
  simp only [YB] at g2
  have hdm:∀ j,j<xs.length*k->j / k<xs.length/\j % k<k/\j / k*k+j % k=j:=λ j hj=>⟨(Nat.div_lt_iff_lt_mul (by omega)).2 hj,Nat.mod_lt _ (by omega),by rw [Nat.mul_comm];exact Nat.div_add_mod j k⟩
  have hcell:∀ j,j<xs.length*k->cs[Lo.base+j]? = some ((flatK (λ x=>(enc x).map D.val) k xs.toArray)[j]!):=λ j hj=>by
   obtain ⟨d1,d2,d3⟩:=hdm j hj
   have hx:xs.toArray[j / k]! = xs[j / k]:=by rw [getElem!_pos _ (j / k) (by simpa using d1)];simp
   have hd2:j % k<(enc xs[j / k]).length:=by rw [hk];exact d2
   obtain ⟨v,hv,hd⟩:=g6 (j / k) (enc xs[j / k]) (by rw [YH,YD d1];rfl) (j % k) _ (YD hd2)
   have:=hd.is_val (hpl _ _ (Yt hd2))
   subst this
   rw [get_flatK _ _ _ j (by simpa using hj),hx]
   rw [show Lo.base+j=Lo.base+j / k*k+j % k by omega,hv,getElem!_pos _ (j % k) (by simpa using hd2)]
   simp
  have hH:HoldsK (λ x=>(enc x).map D.val) k w Lo.b (Lo.base+0*k) xs.toArray:=λ j hj=>by
   have hj:j<xs.length*k:=by simpa using hj
   have:=hcell j hj
   refine ⟨by simp only [World.cell?,g3,Option.isSome_none,YN,if_false,Nat.zero_mul,Nat.add_zero];exact this,Je g3 (g5 _ ?_)⟩
   simp;omega
  have hcon:=AnyQ.slices_SortFunc_total L k aE zE (λ x=>(enc x).map D.val) (λ x=>by simp [hk]) (λ x v hv=>by
   simp only [Yy] at hv
   obtain ⟨d,hd,rfl⟩:=hv
   exact Kz (hpl x d hd)) cf hO g #[] Lo.b (Lo.base+0*k) cap xs.toArray w eg (Sa hpl hcmp k _ _ _ w) hH (Af g3) (by simpa using hlt) hT
  rw [show xs.toArray.size=n by simpa using hn] at hcon
  refine hcon.mono λ e w' he=>?_
  obtain ⟨rfl,m,os,rfl⟩:=he
  rw [show xs.toArray.toList=xs from rfl,← hzs]
  have hheap:(sortWorldK (λ x=>(enc x).map D.val) k w Lo.b (Lo.base+0*k) m zs.toArray os).heap=w.heap.setIfInBounds Lo.b (.cells (putCells id Lo.base (flatK (λ x=>(enc x).map D.val) k zs.toArray) cs) t fr)++os:=by
   simp only [sortWorldK,putRowK,grow,putRow,mapBlock,Sort.ahead,Nat.zero_mul,Nat.add_zero]
   congr 1
   apply Array.ext_getElem?
   intro i
   rw [Array.getElem?_modify,Array.getElem?_setIfInBounds]
   split
   ·rename_i e;subst e
    rw [if_pos (Af g3),g3];rfl
   ·rfl
  have hS1:=hS.rewrite (k':=0) (L':=Lo) (x:=.cells (putCells id Lo.base (flatK (λ x=>(enc x).map D.val) k zs.toArray) cs) t fr) (O':=[some (.arr k (zs.map enc))]) hL rfl (by rw [A3 hL];exact RLe.refl _) rfl (λ j ob' hj hob'=>by
    have:=Aq hob';simp at this;omega) (by simp) (by simp) (λ ob' hob'=>by
    cases hob'
    refine ⟨λ e he=>?_,by simp;rw [hlen];exact g2,_,t,fr,by rw [Array.getElem?_setIfInBounds_self_of_lt (Af g3)],by simp [putCells,g4],g5,λ i e hi j x hx=>?_⟩
    ·simp only [Yy] at he;obtain ⟨y,_,rfl⟩:=he;exact hk y
    ·simp only [YH,YG] at hi
     obtain ⟨y,hy,rfl⟩:=hi
     have hj:j<k:=by have:=Ac hx;rw [hk] at this;exact this
     have hil:=Ac hy
     have hlt2:i*k+j<zs.length*k:=by
      have:(i+1)*k<=zs.length*k:=Yq k (by omega)
      rw [YO] at this;omega
     have hcs:Lo.base+i*k+j<cs.size:=by
      have:=hcell (i*k+j) (by rw [← hlen];exact hlt2)
      have:=Af this;omega
     refine ⟨x.val,?_,AH.val _ (hpl y x (YF hx))⟩
     have e1:(flatK (λ x=>(enc x).map D.val) k zs.toArray)[i*k+j]! = x.val:=by
      rw [get_flatK _ _ _ _ (by simpa using hlt2)]
      have h1:(i*k+j) / k=i:=by rw [Nat.mul_comm,Nat.mul_add_div (by omega),Nat.div_eq_of_lt hj];omega
      have h2:(i*k+j) % k=j:=by rw [Nat.mul_comm,Nat.mul_add_mod];exact Nat.mod_eq_of_lt hj
      rw [h1,h2]
      have e0:zs.toArray[i]! = y:=by
       rw [getElem!_pos _ i (by simpa using hil)]
       simpa [YD hil] using hy
      rw [e0]
      have hjl:j<((enc y).map D.val).length:=by simp [hk];exact hj
      rw [getElem!_pos _ j hjl,List.getElem_map]
      have:=YD (l:=enc y) (by rw [hk];exact hj)
      rw [this] at hx;cases hx;rfl
     simp only [putCells,Array.getElem?_mapIdx,YI hcs,Option.map_some]
     rw [if_pos ⟨by omega,by simp;omega⟩,show Lo.base+i*k+j-Lo.base=i*k+j by omega,e1];rfl) (λ ob' hob'=>by cases hob';rfl)
  rw [A3 hL] at hS1
  refine ⟨_,F,ρ,rfl,by rw [hheap];exact hS1.more os,λ j _ L h=>h,htup _ _,rfl,rfl,by rw [hheap];simp,rfl,Nat.le_add_right _ _⟩
end Go.AI
end
section
namespace Go.AI
variable {β:Type}
def ltC (c:β->β->Option Int) (x y:β):Bool:=decide ((c x y).getD 0<0)
structure Pr (c:β->β->Option Int):Prop where
 tot:∀ x y,(c x y).isSome=true
 irrefl:∀ x,ltC c x x=false
 trans:∀ x y z,ltC c x y=true->ltC c y z=true->ltC c x z=true
 ntrans:∀ x y z,ltC c x y=false->ltC c y z=false->ltC c x z=false
 one:∀ x y,ltC c x y=false->ltC c y x=false->x=y
open Classical in
noncomputable def Lc (c:β->β->Option Int) (xs:List β):Option (List β):=if Pr c then Np (ltC c) xs else none
theorem OK {c:β->β->Option Int} {xs zs:List β} (h:Lc c xs=some zs):Pr c/\Np (ltC c) xs=some zs:=by
 unfold Lc at h
 split at h
 ·rename_i hc;exact ⟨hc,h⟩
 ·cases h
theorem Sb {c:β->β->Option Int} (hc:Pr c) (xs:List β) (h:xs.length<4611686018427387904):Lc c xs=some (Fi (ltC c) xs):=by
 unfold Lc Np
 rw [if_pos hc,if_pos h]
end Go.AI
end
section
namespace Go.AI
open Go.Sort Go.Shelf Go.Proofs
theorem LX {P:Program} {g:Nat} {fn:Func} (hf:P.funcs[g]? = some fn) (hb:fn.body=some (AE fn):=by kernel_rfl) (hnm:(fn.name == "runtime.NumGoroutine")=false:=by kernel_rfl) (args:Array Value) (w:World):(callFunc g args).run P w=.ok (.enter g args) w:=by
 simp only [callFunc,Yo,run_program,Ym,hf,hnm,hb,YN,if_false,Option.isNone_some,Yp]
theorem OL {P:Program} {ρs:Ren} {β:Type} [Inhabited β] (L:SlLaysF0.n6 P ρs) {k:Nat} (hk1:1<=k) (aE:∀ w,(isAgg (ρs.t 24)).run P w=.ok true w) (zE:∀ w,(Go.sizeOf (ρs.t 24)).run P w=.ok k w) {enc:β->List D} (hk:∀ x,(enc x).length=k) (hpl:∀ x,∀ d∈enc x,d.isPlain=true) {c:β->β->Option Int} {g:Nat} (eg:∀ args w,(callFunc g args).run P w=.ok (.enter g args) w)
  (hcmp:∀ {x y:β} {z:Int},c x y=some z->Av P g [.agg ((enc x).map .d),.agg ((enc y).map .d)] (.d (.int .i64 z))) (hf:∃ fn c,P.funcs[ρs.f 6]? = some fn/\fn.body=some c/\(fn.name == "runtime.NumGoroutine")=false) {xs zs:List β} (h:Lc c xs=some zs) :
  Bd P (ρs.f 6) [.osl 0 k 0 xs.length,.clo g []] [some (.arr k (xs.map enc))] 1 (.tup []) [some (.arr k (zs.map enc))]:=by
 obtain ⟨hc,h⟩:=OK h
 refine OJ L k hk1 aE zE hk hpl (cf:=λ x y=>(c x y).getD 0) ⟨hc.irrefl,hc.trans,hc.ntrans⟩ hc.one eg (λ x y=>hcmp ?_) hf h
 have:=hc.tot x y
 rw [Option.isSome_iff_exists] at this
 obtain ⟨n,hn⟩:=this
 rw [hn];rfl
end Go.AI
end
section
namespace Go.Proofs
open Go.Shelf
def Try.laysSortF_ren:Go.Shelf.Ren:=⟨λ|6=>53|15=>61|14=>60|28=>74|29=>75|20=>66|21=>67|22=>68|23=>69|24=>70|25=>71|26=>72|27=>73|46=>77|47=>78|48=>79|49=>80|50=>81|57=>82|n=>n,λ|22=>27|24=>32|25=>71|3=>3|39=>84|0=>0|53=>97|55=>99|4=>4|46=>90|45=>89|50=>94|5=>5|9=>9|66=>100|70=>104|76=>106|77=>107|n=>n,λ|n=>n⟩
theorem Try.laysSortF:Go.Proofs.SlLaysF0.n6 Try.prog Try.laysSortF_ren:={
 mixed:=by kernel_rfl
 f6:=⟨ "slices.SortFunc[[]sixdot/api.Point,sixdot/api.Point]",by decide,Try.func53.trans (congrArg some (by kernel_rfl))⟩
 f14:=⟨ "slices.pdqsortCmpFunc[sixdot/api.Point]",by decide,Try.func60.trans (congrArg some (by kernel_rfl))⟩
 f15:=Try.func61.trans (congrArg some (by kernel_rfl))
 f20:=⟨ "slices.insertionSortCmpFunc[sixdot/api.Point]",by decide,Try.func66.trans (congrArg some (by kernel_rfl))⟩
 f21:=⟨ "slices.heapSortCmpFunc[sixdot/api.Point]",by decide,Try.func67.trans (congrArg some (by kernel_rfl))⟩
 f22:=⟨ "slices.breakPatternsCmpFunc[sixdot/api.Point]",by decide,Try.func68.trans (congrArg some (by kernel_rfl))⟩
 f23:=⟨ "slices.choosePivotCmpFunc[sixdot/api.Point]",by decide,Try.func69.trans (congrArg some (by kernel_rfl))⟩
 f24:=⟨ "slices.reverseRangeCmpFunc[sixdot/api.Point]",by decide,Try.func70.trans (congrArg some (by kernel_rfl))⟩
 f25:=⟨ "slices.partialInsertionSortCmpFunc[sixdot/api.Point]",by decide,Try.func71.trans (congrArg some (by kernel_rfl))⟩
 f26:=⟨ "slices.partitionEqualCmpFunc[sixdot/api.Point]",by decide,Try.func72.trans (congrArg some (by kernel_rfl))⟩
 f27:=⟨ "slices.partitionCmpFunc[sixdot/api.Point]",by decide,Try.func73.trans (congrArg some (by kernel_rfl))⟩
 f28:=Try.func74.trans (congrArg some (by kernel_rfl))
 f29:=Try.func75.trans (congrArg some (by kernel_rfl))
 f46:=⟨ "slices.siftDownCmpFunc[sixdot/api.Point]",by decide,Try.func77.trans (congrArg some (by kernel_rfl))⟩
 f47:=Try.func78.trans (congrArg some (by kernel_rfl))
 f48:=Try.func79.trans (congrArg some (by kernel_rfl))
 f49:=⟨ "slices.medianAdjacentCmpFunc[sixdot/api.Point]",by decide,Try.func80.trans (congrArg some (by kernel_rfl))⟩
 f50:=⟨ "slices.medianCmpFunc[sixdot/api.Point]",by decide,Try.func81.trans (congrArg some (by kernel_rfl))⟩
 f57:=⟨ "slices.order2CmpFunc[sixdot/api.Point]",by decide,Try.func82.trans (congrArg some (by kernel_rfl))⟩
 t0:=Try.underlying0
 a0:=Try.isAgg0
 z0:=Try.sizeOf0
 v0:=Try.zeroValue0
 t3:=Try.underlying3
 a3:=Try.isAgg3
 z3:=Try.sizeOf3
 v3:=Try.zeroValue3
 t4:=Try.underlying4
 a4:=Try.isAgg4
 z4:=Try.sizeOf4
 v4:=Try.zeroValue4
 t5:=Try.underlying5
 a5:=Try.isAgg5
 z5:=Try.sizeOf5
 v5:=Try.zeroValue5
 t9:=Try.underlying9
 a9:=Try.isAgg9
 z9:=Try.sizeOf9
 v9:=Try.zeroValue9
 t22:=Try.underlying27
 a22:=Try.isAgg27
 z22:=Try.sizeOf27
 v22:=Try.zeroValue27
 t25:=Try.underlying71
 a25:=Try.isAgg71
 z25:=Try.sizeOf71
 v25:=Try.zeroValue71
 t39:=Try.underlying84
 a39:=Try.isAgg84
 z39:=Try.sizeOf84
 v39:=Try.zeroValue84
 t45:=Try.underlying89
 a45:=Try.isAgg89
 z45:=Try.sizeOf89
 v45:=Try.zeroValue89
 t46:=Try.underlying90
 a46:=Try.isAgg90
 z46:=Try.sizeOf90
 v46:=Try.zeroValue90
 t50:=Try.underlying94
 a50:=Try.isAgg94
 z50:=Try.sizeOf94
 v50:=Try.zeroValue94
 t53:=Try.underlying97
 a53:=Try.isAgg97
 z53:=Try.sizeOf97
 v53:=Try.zeroValue97
 t55:=Try.underlying99
 a55:=Try.isAgg99
 z55:=Try.sizeOf99
 v55:=Try.zeroValue99
 t66:=Try.underlying100
 a66:=Try.isAgg100
 z66:=Try.sizeOf100
 v66:=Try.zeroValue100
 t70:=Try.underlying104
 a70:=Try.isAgg104
 z70:=Try.sizeOf104
 v70:=Try.zeroValue104
 t76:=Try.underlying106
 a76:=Try.isAgg106
 z76:=Try.sizeOf106
 v76:=Try.zeroValue106
 t77:=Try.underlying107
 a77:=Try.isAgg107
 z77:=Try.sizeOf107
 v77:=Try.zeroValue107 }
end Go.Proofs
end
section
namespace Go.AI
variable {P:Program} {F:Nat->Option Obj} {ρ:Nat->Option Loc} {w:World}
def At (F:Nat->Option Obj) (ρ:Nat->Option Loc) (xs:Array Value) (o:Nat) (l:List AV):Prop:=∀ (j:Nat) a,l[j]? = some a->∃ v,xs[o+j]? = some v/\Ad F ρ a v
theorem At.take {xs:Array Value} {o:Nat} {l:List AV} (h:At F ρ xs o l) (n:Nat):At F ρ xs o (l.take n):=λ j a ha=>by
 rw [List.getElem?_take] at ha
 split at ha
 ·exact h j a ha
 ·cases ha
theorem At.drop {xs:Array Value} {o:Nat} {l:List AV} (h:At F ρ xs o l) (n:Nat):At F ρ xs (o+n) (l.drop n):=λ j a ha=>by
 rw [Yz] at ha
 rw [YA];exact h _ a ha
end Go.AI
end
section
namespace Go.AI
open Go.Proofs
set_option maxRecDepth 100000
theorem Qz:Inf Try.prog 3 1 8 (.int .i64 0):=AM (by kernel_rfl)
theorem TX:Inf Try.prog 4 1 1 (.bool false):=AM (by kernel_rfl)
theorem TY:Inf Try.prog 5 1 1 (.int .u8 0):=AM (by kernel_rfl)
theorem XS:Inf Try.prog 9 1 16 (.string ⟨#[]⟩):=AM (by kernel_rfl)
theorem Ui:Inf Try.prog 22 1 24 (.slice none 0 0):=AM (by kernel_rfl)
theorem Xa:Inf Try.prog 24 3 32 (.agg #[.int .u8 0,.int .u8 0,.slice none 0 0]):=AM (by kernel_rfl)
theorem Sc:Inf Try.prog 25 2 2 (.agg #[.int .u8 0,.int .u8 0]):=AM (by kernel_rfl)
theorem Uj:Inf Try.prog 27 1 24 (.slice none 0 0):=AM (by kernel_rfl)
theorem Xb:Inf Try.prog 29 3 40 (.agg #[.int .i64 0,.int .i64 0,.slice none 0 0]):=AM (by kernel_rfl)
theorem Sd:Inf Try.prog 32 2 16 (.agg #[.int .i64 0,.int .i64 0]):=AM (by kernel_rfl)
theorem Uk:Inf Try.prog 40 1 1 (.int .i8 0):=AM (by kernel_rfl)
theorem Xc:Inf Try.prog 41 2 2 (.agg #[.int .i8 0,.int .i8 0]):=AM (by kernel_rfl)
theorem Xd:Inf Try.prog 43 6 6 (.agg #[.int .u8 0,.int .u8 0,.int .u8 0,.int .u8 0,.int .u8 0,.int .u8 0]):=AM (by kernel_rfl)
theorem Xe:Inf Try.prog 44 6 48 (.agg #[.int .i64 0,.int .i64 0,.int .i64 0,.int .i64 0,.int .i64 0,.int .i64 0]):=AM (by kernel_rfl)
theorem Xf:Inf Try.prog 53 1 24 (.slice none 0 0):=AM (by kernel_rfl)
theorem Xg:Inf Try.prog 57 1 8 (.map none):=AM (by kernel_rfl)
theorem Ul:Inf Try.prog 59 1 8 (.nilFunc):=AM (by kernel_rfl)
theorem Xh:Inf Try.prog 67 1 8 (.nilFunc):=AM (by kernel_rfl)
theorem Xi:Inf Try.prog 71 1 8 (.nilFunc):=AM (by kernel_rfl)
theorem Xj:Inf Try.prog 73 4 32 (.agg #[.nilFunc,.nilFunc,.nilFunc,.nilFunc]):=AM (by kernel_rfl)
theorem Um:Inf Try.prog 74 60 60 (.agg (Array.replicate 60 (.bool false))):=AM (by kernel_rfl)
theorem Xk:Inf Try.prog 75 3600 3600 (.agg (Array.replicate 3600 (.bool false))):=AM (by kernel_rfl)
theorem Xl:Inf Try.prog 79 1 24 (.slice none 0 0):=AM (by kernel_rfl)
theorem Xm:Inf Try.prog 84 1 8 (.int .u64 0):=AM (by kernel_rfl)
theorem Xn:Inf Try.prog 89 1 8 (.int .i64 0):=AM (by kernel_rfl)
theorem Xo:Inf Try.prog 97 1 4 (.int .u32 0):=AM (by kernel_rfl)
theorem Xp:Inf Try.prog 99 1 8 (.int .u64 0):=AM (by kernel_rfl)
theorem U4:Inf Try.prog 100 1 8 (.int .u64 0):=AM (by kernel_rfl)
theorem U5:Inf Try.prog 104 1 8 (.pointer none):=AM (by kernel_rfl)
def ty:Nat->Ty
 | 3=>⟨true,[],1,false,[.int .i64 0],.int .i64⟩
 | 4=>⟨true,[],1,false,[.bool false],.bool⟩
 | 5=>⟨true,[],1,false,[.int .u8 0],.int .u8⟩
 | 9=>⟨true,[],1,false,[.str []],.string⟩
 | 22=>⟨true,[],1,false,[.nil],.slice 2 2 [.int .u8 0,.int .u8 0]⟩
 | 24=>⟨true,[],3,true,[.int .u8 0,.int .u8 0,.nil],.struct [(0,1),(1,1),(2,1)]⟩
 | 25=>⟨true,[],2,true,[.int .u8 0,.int .u8 0],.array 2 1⟩
 | 27=>⟨true,[],1,false,[.nil],.slice 2 16 [.int .i64 0,.int .i64 0]⟩
 | 29=>⟨true,[],3,true,[.int .i64 0,.int .i64 0,.nil],.struct [(0,1),(1,1),(2,1)]⟩
 | 32=>⟨true,[.int .i64,.int .i64],2,true,[.int .i64 0,.int .i64 0],.struct [(0,1),(1,1)]⟩
 | 40=>⟨true,[],1,false,[.int .i8 0],.int .i8⟩
 | 41=>⟨true,[],2,true,[.int .i8 0,.int .i8 0],.array 2 1⟩
 | 43=>⟨true,[],6,true,[.int .u8 0,.int .u8 0,.int .u8 0,.int .u8 0,.int .u8 0,.int .u8 0],.array 3 2⟩
 | 44=>⟨true,[],6,true,[.int .i64 0,.int .i64 0,.int .i64 0,.int .i64 0,.int .i64 0,.int .i64 0],.array 3 2⟩
 | 53=>⟨true,[],1,false,[.nil],.slice 1 1 [.bool false]⟩
 | 57=>⟨true,[],1,false,[.nilm],.map [.int .i64,.int .i64] true false [.bool false]⟩
 | 59=>⟨true,[],1,false,[.nilf],.other⟩
 | 67=>⟨true,[],1,false,[.nilf],.other⟩
 | 71=>⟨true,[],1,false,[.nilf],.other⟩
 | 73=>⟨true,[],4,true,[.nilf,.nilf,.nilf,.nilf],.array 4 1⟩
 | 74=>⟨true,[],60,true,(List.replicate 60 (.bool false)),.array 60 1⟩
 | 75=>⟨true,[],3600,true,(List.replicate 3600 (.bool false)),.array 60 60⟩
 | 79=>⟨true,[],1,false,[.nil],.slice 1 8 [.int .i64 0]⟩
 | 84=>⟨true,[],1,false,[.int .u64 0],.int .u64⟩
 | 89=>⟨true,[],1,false,[.int .i64 0],.int .i64⟩
 | 97=>⟨true,[],1,false,[.int .u32 0],.int .u32⟩
 | 99=>⟨true,[],1,false,[.int .u64 0],.int .u64⟩
 | 100=>⟨true,[],1,false,[.int .u64 0],.int .u64⟩
 | 104=>⟨true,[],1,false,[.nilp],.other⟩
 | _=>⟨false,[],0,false,[],.other⟩
theorem tf3:Au Try.prog 3 (ty 3):=tfM Qz Try.underlying3 rfl
theorem tf4:Au Try.prog 4 (ty 4):=tfM TX Try.underlying4 rfl
theorem tf5:Au Try.prog 5 (ty 5):=tfM TY Try.underlying5 rfl
theorem tf9:Au Try.prog 9 (ty 9):=tfM XS Try.underlying9 rfl
theorem XT:Au Try.prog 22 (ty 22):=tfM Ui Try.underlying22 (slK Sc)
theorem XU:Au Try.prog 24 (ty 24):=tfM Xa Try.underlying24 (stF (FR (Nb TY Try.underlying5) (FR (Nb TY Try.underlying5) (FR (Nb Ui Try.underlying22) Rp))))
theorem XV:Au Try.prog 25 (ty 25):=tfM Sc Try.underlying25 (arK TY)
theorem XW:Au Try.prog 27 (ty 27):=tfM Uj Try.underlying27 (slK Sd)
theorem XX:Au Try.prog 29 (ty 29):=tfM Xb Try.underlying29 (stF (FR (Nb Qz Try.underlying3) (FR (Nb Qz Try.underlying3) (FR (Nb Uj Try.underlying27) Rp))))
theorem XY:Au Try.prog 32 (ty 32):=tfM Sd Try.underlying32 (stF (FR (Nb Qz Try.underlying3) (FR (Nb Qz Try.underlying3) Rp))) (λ _=>Tv Try.underlying32 (by kernel_rfl) (by kernel_rfl) rfl λ j f k h1 h2=>match j,h1,h2 with|0,h1,h2=>(by cases h1;cases h2;exact ⟨by decide,rfl,⟨_,Try.underlying3⟩⟩)|1,h1,h2=>(by cases h1;cases h2;exact ⟨by decide,rfl,⟨_,Try.underlying3⟩⟩)|n+2,h1,_=>by simp at h1)
theorem XZ:Au Try.prog 40 (ty 40):=tfM Uk Try.underlying40 rfl
theorem X0:Au Try.prog 41 (ty 41):=tfM Xc Try.underlying41 (arK Uk)
theorem X1:Au Try.prog 43 (ty 43):=tfM Xd Try.underlying43 (arK Sc)
theorem X2:Au Try.prog 44 (ty 44):=tfM Xe Try.underlying44 (arK Sd)
theorem X3:Au Try.prog 53 (ty 53):=tfM Xf Try.underlying53 (slK TX)
theorem X4:Au Try.prog 57 (ty 57):=tfM Xg Try.underlying57 (by obtain ⟨j,h1,h2,h3,h4⟩:=TX;exact ⟨_,_,j,_,rfl,(Ks Try.underlying32 (by kernel_rfl) rfl λ j f k h1 h2=>match j,h1,h2 with|0,h1,h2=>(by cases h1;cases h2;exact ⟨by decide,rfl,⟨_,Try.underlying3⟩⟩)|1,h1,h2=>(by cases h1;cases h2;exact ⟨by decide,rfl,⟨_,Try.underlying3⟩⟩)|n+2,h1,_=>by simp at h1),h1,h4,rfl,(λ h=>by cases h),(λ _=>⟨_,rfl,rfl⟩)⟩)
theorem X5:Au Try.prog 59 (ty 59):=tfM Ul Try.underlying59 trivial
theorem X6:Au Try.prog 67 (ty 67):=tfM Xh Try.underlying67 trivial
theorem X7:Au Try.prog 71 (ty 71):=tfM Xi Try.underlying71 trivial
theorem X8:Au Try.prog 73 (ty 73):=tfM Xj Try.underlying73 (arK Ul)
theorem X9:Au Try.prog 74 (ty 74):=tfM Um Try.underlying74 (arK TX)
theorem Ya:Au Try.prog 75 (ty 75):=tfM Xk Try.underlying75 (arK Um)
theorem Yb:Au Try.prog 79 (ty 79):=tfM Xl Try.underlying79 (slK Qz)
theorem Yc:Au Try.prog 84 (ty 84):=tfM Xm Try.underlying84 rfl
theorem Yd:Au Try.prog 89 (ty 89):=tfM Xn Try.underlying89 rfl
theorem Ye:Au Try.prog 97 (ty 97):=tfM Xo Try.underlying97 rfl
theorem Yf:Au Try.prog 99 (ty 99):=tfM Xp Try.underlying99 rfl
theorem Xq:Au Try.prog 100 (ty 100):=tfM U4 Try.underlying100 rfl
theorem Xr:Au Try.prog 104 (ty 104):=tfM U5 Try.underlying104 trivial
theorem tyOK:E4 Try.prog ty:=by
 intro t h
 unfold ty at h
 split at h
 ·exact tf3
 ·exact tf4
 ·exact tf5
 ·exact tf9
 ·exact XT
 ·exact XU
 ·exact XV
 ·exact XW
 ·exact XX
 ·exact XY
 ·exact XZ
 ·exact X0
 ·exact X1
 ·exact X2
 ·exact X3
 ·exact X4
 ·exact X5
 ·exact X6
 ·exact X7
 ·exact X8
 ·exact X9
 ·exact Ya
 ·exact Yb
 ·exact Yc
 ·exact Yd
 ·exact Ye
 ·exact Yf
 ·exact Xq
 ·exact Xr
 ·cases h
theorem follows:Try.prog.follows .mixedOrders=true:=by kernel_rfl
def qfT:List (Nat×Nat):=[]
theorem Yg:∀ f k,(f,k)∈qfT->∀ vs:Array Value,vs.size=k->QD Try.prog (Jb f vs):=λ _ _ h=>by cases h
def cxk (n nk:Nat):Cx:=⟨ty,⟨n,[],nk,qfT⟩,Av Try.prog,Bd Try.prog,GZ Try.prog,GG Try.prog,BN Try.prog,false⟩
def cxr (n nk:Nat):Cx:=⟨ty,⟨n,[],nk,[]⟩,Av Try.prog,Bd Try.prog,GZ Try.prog,GG Try.prog,BN Try.prog,true⟩
def cx (n:Nat):Cx:=cxk n 0
theorem Se (n nk:Nat):CD Try.prog (cxk n nk):=⟨tyOK,λ _ _ _ h=>h,λ _ _ _ _ _ _ h=>h,λ _ _ _ _ _ h=>h,λ _ _ _ _ h=>h,λ _ _ _ _ _ h=>h,Yg,λ h=>by cases h⟩
theorem Xs (n nk:Nat):CD Try.prog (cxr n nk):=⟨tyOK,λ _ _ _ h=>h,λ _ _ _ _ _ _ h=>h,λ _ _ _ _ _ h=>h,λ _ _ _ _ h=>h,λ _ _ _ _ _ h=>h,λ _ _ h=>(by cases h),λ _=>rfl⟩
end Go.AI
end
section
namespace Go.AI
structure Aa where
 X:Int
 Y:Int
 deriving DecidableEq,Inhabited
structure Ah where
 Kind:Int
 Texture:Int
 P:(List Aa)
 deriving DecidableEq,Inhabited
structure KA (α:Type) where
 a0:α
 a1:α
 deriving DecidableEq,Inhabited
structure HJ where
 Kind:Int
 Texture:Int
 L:(List (KA Int))
 deriving DecidableEq,Inhabited
structure Yl (α:Type) where
 a0:α
 a1:α
 a2:α
 deriving DecidableEq,Inhabited
def AJ (_:Nat) (p0_:Int) (p1_:Int):Option Aa:=
 some ({ X:=p0_,Y:=p1_ }:Aa)
def Bi (n:Nat) :Option (List Aa):=
 (AJ n 0 0).bind λ r1=>
 (AJ n 2 0).bind λ r2=>
 (AJ n 2 2).bind λ r3=>
 (AJ n 0 2).bind λ r4=>
 some [r1,r2,r3,r4]
def DK (_:Nat) (p0_:Ah) (x_1:Int):Option (Int⊕(Unit⊕Bool)):=
 if decide (x_1<((p0_.P.length:Nat):Int))=true then
  (idx p0_.P x_1).bind λ x1=>
  if ((((decide (x1.X<0))||(decide (x1.X>=60)))||(decide (x1.Y<0)))||(decide (x1.Y>=60)))=true then
   some (.inr (.inr false))
  else
   some (.inl (A6 .i64 x_1 1))
 else
  some (.inr (.inl ()))
def BO (n:Nat) (p0_:Ah):Option Bool:=
 if ((decide (((p0_.P.length:Nat):Int)<1))||(decide (((p0_.P.length:Nat):Int)>12)))=true then
  some false
 else
  (whl (λ (x:Int)=>DK n p0_ x) n 0).bind λ y1=>
  match y1 with
  | Sum.inl _=>
   if (p0_.Kind==1)=true then
    some ((((p0_.P.length:Nat):Int)==1)&&(p0_.Texture==0))
   else
    if (p0_.Kind==2)=true then
     some ((decide (((p0_.P.length:Nat):Int)>=2))&&(p0_.Texture==0))
    else
     if (p0_.Kind==3)=true then
      some (((decide (((p0_.P.length:Nat):Int)>=3))&&(decide (p0_.Texture>=0)))&&(decide (p0_.Texture<=3)))
     else
      some false
  | Sum.inr y3=>
   some y3
def Ee (_:Nat) (p0_:(List Aa)) (x_2:Int):Option (Int⊕(Unit⊕Bool)):=
 if decide (x_2<((p0_.length:Nat):Int))=true then
  (idx p0_ x_2).bind λ x2=>
  if ((((decide (x2.X<(-1000)))||(decide (x2.X>1000)))||(decide (x2.Y<(-1000))))||(decide (x2.Y>1000)))=true then
   some (.inr (.inr false))
  else
   some (.inl (A6 .i64 x_2 1))
 else
  some (.inr (.inl ()))
def JY (n:Nat) (p0_:(List Aa)):Option Bool:=
 (whl (λ (x:Int)=>Ee n p0_ x) n 0).bind λ y4=>
 match y4 with
 | Sum.inl _=>
  some true
 | Sum.inr y6=>
  some y6
def He (_:Nat) (p0_:Int):Option Int:=
 if decide (p0_<0)=true then
  some (Rq .i64 p0_)
 else
  some p0_
def Gk (n:Nat) (p0_:Aa) (p1_:Aa):Option Int:=
 (He n (A0 .i64 p0_.X p1_.X)).bind λ r5=>
 (He n (A0 .i64 p0_.Y p1_.Y)).bind λ r6=>
 some (if r6>r5 then r6 else r5)
def CI (_:Nat) (quotient_1:Int):Option Int:=
 some quotient_1
def Dq (n:Nat) (p0_:Int) (p1_:Int) (p2_:Int) (p3_:Int):Option Int:=
 (BK (!((Ba .i64 2 p3_)==0))).bind λ _=>
 (BK (!((Ba .i64 2 p3_)==0))).bind λ _=>
 if decide (BM (A6 .i64 (Ba .i64 2 (A6 .i64 (Ba .i64 p0_ p3_) (Ba .i64 p2_ (A0 .i64 p1_ p0_)))) p3_) (Ba .i64 2 p3_)<0)=true then
  CI n (A0 .i64 (Kt .i64 (A6 .i64 (Ba .i64 2 (A6 .i64 (Ba .i64 p0_ p3_) (Ba .i64 p2_ (A0 .i64 p1_ p0_)))) p3_) (Ba .i64 2 p3_)) 1)
 else
  CI n (Kt .i64 (A6 .i64 (Ba .i64 2 (A6 .i64 (Ba .i64 p0_ p3_) (Ba .i64 p2_ (A0 .i64 p1_ p0_)))) p3_) (Ba .i64 2 p3_))
def Ef (n:Nat) (p0_:Aa) (p1_:Aa) (r8:Int) (l_1:(List Aa)) (x_3:Int):Option (((List Aa)×Int)⊕(List Aa)):=
 if decide (x_3<A6 .i64 r8 1)=true then
  (Dq n p0_.X p1_.X x_3 r8).bind λ r9=>
  (Dq n p0_.Y p1_.Y x_3 r8).bind λ r10=>
  (app 16 l_1 [({ X:=r9,Y:=r10 }:Aa)]).bind λ l2=>
  some (.inl (l2,(A6 .i64 x_3 1)))
 else
  some (.inr l_1)
def JZ (n:Nat) (p0_:Aa) (p1_:Aa):Option (List Aa):=
 (JY n [p0_,p1_]).bind λ r7=>
 if (!r7)=true then
  some []
 else
  (Gk n p0_ p1_).bind λ r8=>
  if (r8==0)=true then
   some [p0_]
  else
   (mkc 16 0 (A6 .i64 r8 1) (⟨0,0⟩:Aa)).bind λ l1=>
   (whl (λ (x:((List Aa)×Int))=>Ef n p0_ p1_ r8 x.1 x.2) n (l1,0)).bind λ y7=>
   some y7
def Fj (_:Nat) (r11:(List Aa)) (dots_1:(List (Aa×Bool))) (x_5:Int):Option (((List (Aa×Bool))×Int)⊕(List (Aa×Bool))):=
 if decide (x_5<((r11.length:Nat):Int))=true then
  (idx r11 x_5).bind λ x3=>
  some (.inl ((FF x3 true dots_1),(A6 .i64 x_5 1)))
 else
  some (.inr dots_1)
def I0 (n:Nat) (p1_:Aa) (p2_:Aa) (o0_:(List (Aa×Bool))):Option (List (Aa×Bool)):=
 (JZ n p1_ p2_).bind λ r11=>
 (whl (λ (x:((List (Aa×Bool))×Int))=>Fj n r11 x.1 x.2) n (o0_,0)).bind λ y8=>
 some y8
def CJ (_:Nat) (p0_:Int):Option Bool:=
 some (p0_ != p0_)
def BP (n:Nat) (p0_:Int) (p1_:Int):Option Int:=
 (CJ n p0_).bind λ r12=>
 (CJ n p1_).bind λ r13=>
 if r12=true then
  if r13=true then
   some 0
  else
   some (-1)
 else
  if r13=true then
   some 1
  else
   if decide (p0_<p1_)=true then
    some (-1)
   else
    if decide (p0_>p1_)=true then
     some 1
    else
     some 0
def Cd (_:Nat) (p0_:(List Int)) (x_7:Int):Option (Int⊕(Unit⊕Int)):=
 if decide (x_7<((p0_.length:Nat):Int))=true then
  (idx p0_ x_7).bind λ x4=>
  if (x4 != 0)=true then
   some (.inr (.inr x4))
  else
   some (.inl (A6 .i64 x_7 1))
 else
  some (.inr (.inl ()))
def Eg (n:Nat) (p0_:(List Int)):Option Int:=
 (whl (λ (x:Int)=>Cd n p0_ x) n 0).bind λ y9=>
 match y9 with
 | Sum.inl _=>
  some 0
 | Sum.inr y11=>
  some y11
def BI (n:Nat) (p0_:Aa) (p1_:Aa):Option Int:=
 (BP n p0_.Y p1_.Y).bind λ r14=>
 (BP n p0_.X p1_.X).bind λ r15=>
 (Eg n [r14,r15]).bind λ r16=>
 some r16
def DL (n:Nat) (p0_:(List Aa)) (dots_2:(List (Aa×Bool))) (i_1:Int):Option (((List (Aa×Bool))×Int)⊕(List (Aa×Bool))):=
 if decide (i_1<((p0_.length:Nat):Int))=true then
  (idx p0_ (A0 .i64 i_1 1)).bind λ x5=>
  (idx p0_ i_1).bind λ x6=>
  (I0 n x5 x6 dots_2).bind λ r17=>
  some (.inl (r17,(A6 .i64 i_1 1)))
 else
  some (.inr dots_2)
def Gl (n:Nat) (p0_:(List Aa)):Option (List (Aa×Bool)):=
 (whl (λ (x:((List (Aa×Bool))×Int))=>DL n p0_ x.1 x.2) n ([],1)).bind λ y12=>
 some y12
def Gv (_:Nat) (_:Aa):Option Bool:=
 some false
def Cl (_:Nat) (p0_:Aa):Option Bool:=
 some ((BM (A6 .i64 p0_.X p0_.Y) 2)==0)
def Cm (_:Nat) (p0_:Aa):Option Bool:=
 some ((BM p0_.Y 2)==0)
def Gw (_:Nat) (_:Aa):Option Bool:=
 some true
def LY (_:Nat) (p0_:Aa) (p1_:Aa) (p2_:Aa):Option Bool:=
 if (((p2_.X==p0_.X)&&((p2_.Y==p0_.Y)&&true))||((p2_.X==p1_.X)&&((p2_.Y==p1_.Y)&&true)))=true then
  some true
 else
  if ((Ba .i64 (A0 .i64 p1_.X p0_.X) (A0 .i64 p2_.Y p0_.Y)) != (Ba .i64 (A0 .i64 p1_.Y p0_.Y) (A0 .i64 p2_.X p0_.X)))=true then
   some false
  else
   some ((((decide ((if p1_.X<p0_.X then p1_.X else p0_.X)<=p2_.X))&&(decide (p2_.X<=(if p1_.X>p0_.X then p1_.X else p0_.X))))&&(decide ((if p1_.Y<p0_.Y then p1_.Y else p0_.Y)<=p2_.Y)))&&(decide (p2_.Y<=(if p1_.Y>p0_.Y then p1_.Y else p0_.Y))))
def Fk (_:Nat) (p0_:Aa) (p1_:Aa) (p2_:Aa):Option Bool:=
 if ((decide (p0_.Y<=p2_.Y))==(decide (p1_.Y<=p2_.Y)))=true then
  some false
 else
  if decide (p1_.Y>p0_.Y)=true then
   some (decide (Ba .i64 (A0 .i64 p2_.Y p0_.Y) (A0 .i64 p1_.X p0_.X)>Ba .i64 (A0 .i64 p2_.X p0_.X) (A0 .i64 p1_.Y p0_.Y)))
  else
   some (decide (Ba .i64 (A0 .i64 p2_.Y p0_.Y) (A0 .i64 p1_.X p0_.X)<Ba .i64 (A0 .i64 p2_.X p0_.X) (A0 .i64 p1_.Y p0_.Y)))
def Db (_:Nat) (x_9:Int) (odd_3:Bool):Option ((Bool×Int)⊕(Bool⊕Bool)):=
 some (.inl (odd_3,(A6 .i64 x_9 1)))
def Dc (n:Nat) (p0_:(List Aa)) (p1_:Aa) (odd_1:Bool) (x_9:Int):Option ((Bool×Int)⊕(Bool⊕Bool)):=
 if decide (x_9<((p0_.length:Nat):Int))=true then
  (idx p0_ x_9).bind λ x7=>
  (BK (!(((p0_.length:Nat):Int)==0))).bind λ _=>
  (idx p0_ (BM (A6 .i64 x_9 1) ((p0_.length:Nat):Int))).bind λ x8=>
  (LY n x7 x8 p1_).bind λ r18=>
  if r18=true then
   some (.inr (.inr true))
  else
   (Fk n x7 x8 p1_).bind λ r19=>
   if r19=true then
    Db n x_9 (!odd_1)
   else
    Db n x_9 odd_1
 else
  some (.inr (.inl odd_1))
def Bu (n:Nat) (p0_:(List Aa)) (p1_:Aa):Option Bool:=
 (whl (λ (x:(Bool×Int))=>Dc n p0_ p1_ x.1 x.2) n (false,0)).bind λ y13=>
 match y13 with
 | Sum.inl y14=>
  some y14
 | Sum.inr y15=>
  some y15
def DB (_:Nat) (_:(List (Aa×Bool))):Option Unit:=
 some ()
def Fl (_:Nat) (p1_:Aa) (o2_:(List Aa)):Option (List Aa):=
 (app 16 o2_ [p1_]).bind λ l3=>
 some l3
def AG (n:Nat) (e1:(Aa×Bool)) (x_12:(List Aa)):Option ((List Aa)⊕Empty):=
 (Fl n e1.1 x_12).bind λ r20=>
 some (.inl r20)
noncomputable def B6 (n:Nat) (o3_:(List (Aa×Bool))) (o4_:(List Aa)):Option ((List Aa)->Prop):=
 Qr (λ (ord:(List (Aa×Bool)))=>List.Perm ord o3_) λ (ord:(List (Aa×Bool)))=>
 (DA (λ (e:(Aa×Bool)) (x:(List Aa))=>AG n e x) ord o4_).bind λ y16=>
 match y16 with
 | Sum.inl y17=>
  some (Ky y17)
 | Sum.inr r=>
  nomatch r
noncomputable def Fm (n:Nat) (o1_:(List (Aa×Bool))):Option ((List Aa)->Prop):=
 (B6 n o1_ ([]:List Aa)).bind λ S1=>
 Qr S1 λ (r21:(List Aa))=>
 some (Ky r21)
noncomputable def Eh (n:Nat) (o1_:(List (Aa×Bool))):Option ((List Aa)->Prop):=
 (Fm n o1_).bind λ S2=>
 Qr S2 λ (r22:(List Aa))=>
 some (Ky r22)
noncomputable def J0 (n:Nat) (o0_:(List Aa)):Option (List Aa):=
 Lc (λ (x:Aa) (y:Aa)=>BI n x y) o0_
noncomputable def DM (n:Nat) (o1_:(List (Aa×Bool))):Option (List Aa):=
 (Eh n o1_).bind λ S3=>
 dem S3 λ (r23:(List Aa))=>
 (J0 n r23).bind λ r24=>
 (BK (decide (List.length r23=List.length r24))).bind λ _=>
 some r24
noncomputable def Cw (n:Nat) (o0_:(List (Aa×Bool))):Option (List Aa):=
 (DB n o0_).bind λ _=>
 (DM n o0_).bind λ r26=>
 some r26
def Ew (_:Nat) (dots_4:(List (Aa×Bool))):Option (List (Aa×Bool)):=
 some dots_4
def Fn (n:Nat) (p0_:(List Aa)):Option (List (Aa×Bool)):=
 (Gl n p0_).bind λ r27=>
 if decide (((p0_.length:Nat):Int)>0)=true then
  (idx p0_ (A0 .i64 ((p0_.length:Nat):Int) 1)).bind λ x9=>
  (idx p0_ 0).bind λ x10=>
  (I0 n x9 x10 r27).bind λ r28=>
  Ew n r28
 else
  Ew n r27
def Ei (_:Nat) (p0_:Int):Option Nat:=
 (idx ([46,47,48,49]:List Nat) p0_).bind λ x11=>
 some x11
def Cn (_:Nat) (p0_:Ah) (_:(List (Aa×Bool))) (low_1:Aa) (high_1:Aa) (x_20:Int):Option ((Aa×Aa×Int)⊕(Aa×Aa)):=
 if decide (x_20<((p0_.P.length:Nat):Int))=true then
  (idx p0_.P x_20).bind λ x15=>
  some (.inl (({ X:=(if x15.X<low_1.X then x15.X else low_1.X),Y:=(if x15.Y<low_1.Y then x15.Y else low_1.Y) }:Aa),({ X:=(if x15.X>high_1.X then x15.X else high_1.X),Y:=(if x15.Y>high_1.Y then x15.Y else high_1.Y) }:Aa),(A6 .i64 x_20 1)))
 else
  some (.inr (low_1,high_1))
def Dd (_:Nat) (x_21:Int) (dots_9:(List (Aa×Bool))):Option (((List (Aa×Bool))×Int)⊕(List (Aa×Bool))):=
 some (.inl (dots_9,(A6 .i64 x_21 1)))
def Hf (n:Nat) (x:Nat) (p0_:Aa):Option Bool:=
 if Nat.beq x 46=true then
  Gv n p0_
 else
  if Nat.beq x 47=true then
   Cl n p0_
  else
   if Nat.beq x 48=true then
    Cm n p0_
   else
    if Nat.beq x 49=true then
     Gw n p0_
    else
     none
def De (n:Nat) (p0_:Ah) (y18:(Aa×Aa)) (r33:Nat) (y_1:Int) (dots_7:(List (Aa×Bool))) (x_21:Int):Option (((List (Aa×Bool))×Int)⊕(List (Aa×Bool))):=
 if decide (x_21<=y18.2.X)=true then
  (Hf n r33 ({ X:=x_21,Y:=y_1 }:Aa)).bind λ r34=>
  (if r34=true then Bu n p0_.P ({ X:=x_21,Y:=y_1 }:Aa) else some default).bind λ r35=>
  if (r34&&r35)=true then
   Dd n x_21 (FF ({ X:=x_21,Y:=y_1 }:Aa) true dots_7)
  else
   Dd n x_21 dots_7
 else
  some (.inr dots_7)
def Df (n:Nat) (p0_:Ah) (y18:(Aa×Aa)) (r33:Nat) (dots_5:(List (Aa×Bool))) (y_1:Int):Option (((List (Aa×Bool))×Int)⊕(List (Aa×Bool))):=
 if decide (y_1<=y18.2.Y)=true then
  (whl (λ (x:((List (Aa×Bool))×Int))=>De n p0_ y18 r33 y_1 x.1 x.2) n (dots_5,y18.1.X)).bind λ y19=>
  some (.inl (y19,(A6 .i64 y_1 1)))
 else
  some (.inr dots_5)
noncomputable def A5 (n:Nat) (p0_:Ah):Option (List Aa):=
 (BO n p0_).bind λ r29=>
 if (!r29)=true then
  some []
 else
  if (p0_.Kind==1)=true then
   (idx p0_.P 0).bind λ x12=>
   some [x12]
  else
   if (p0_.Kind==2)=true then
    (Gl n p0_.P).bind λ r30=>
    (Cw n r30).bind λ r31=>
    some r31
   else
    (Fn n p0_.P).bind λ r32=>
    (idx p0_.P 0).bind λ x13=>
    (idx p0_.P 0).bind λ x14=>
    (whl (λ (x:(Aa×Aa×Int))=>Cn n p0_ r32 x.1 x.2.1 x.2.2) n (x13,x14,0)).bind λ y18=>
    (Ei n p0_.Texture).bind λ r33=>
    (whl (λ (x:((List (Aa×Bool))×Int))=>Df n p0_ y18 r33 x.1 x.2) n (r32,y18.1.Y)).bind λ y20=>
    (Cw n y20).bind λ r36=>
    some r36
def DN (_:Nat) (p0_:(List Aa)) (p1_:(List Aa)) (i_2:Int):Option (Int⊕(Unit⊕Bool)):=
 if decide (i_2<((p0_.length:Nat):Int))=true then
  (idx p0_ i_2).bind λ x16=>
  (idx p1_ i_2).bind λ x17=>
  if (!((x16.X==x17.X)&&((x16.Y==x17.Y)&&true)))=true then
   some (.inr (.inr false))
  else
   some (.inl (A6 .i64 i_2 1))
 else
  some (.inr (.inl ()))
def C7 (n:Nat) (p0_:(List Aa)) (p1_:(List Aa)):Option Bool:=
 if (((p0_.length:Nat):Int) != ((p1_.length:Nat):Int))=true then
  some false
 else
  (whl (λ (x:Int)=>DN n p0_ p1_ x) n 0).bind λ y21=>
  match y21 with
  | Sum.inl _=>
   some true
  | Sum.inr y23=>
   some y23
noncomputable def Dr (n:Nat) (p0_:(List Aa)):Option (List Aa):=
 (Fn n p0_).bind λ r37=>
 (Cw n r37).bind λ r38=>
 some r38
noncomputable def FV (n:Nat) :Option Bool:=
 (AJ n 3 4).bind λ r39=>
 (AJ n 0 0).bind λ r40=>
 (AJ n 2 0).bind λ r41=>
 (Bi n).bind λ r42=>
 (Bi n).bind λ r43=>
 (A5 n ({ Kind:=1,Texture:=0,P:=[r39] }:Ah)).bind λ r44=>
 (C7 n r44 [r39]).bind λ r45=>
 (if r45=true then A5 n ({ Kind:=2,Texture:=0,P:=[r40,r41] }:Ah) else some default).bind λ r46=>
 (if r45=true then AJ n 0 0 else some default).bind λ r47=>
 (if r45=true then AJ n 1 0 else some default).bind λ r48=>
 (if r45=true then AJ n 2 0 else some default).bind λ r49=>
 (if r45=true then C7 n r46 [r47,r48,r49] else some default).bind λ r50=>
 (if (r45&&r50)=true then A5 n ({ Kind:=3,Texture:=0,P:=r42 }:Ah) else some default).bind λ r51=>
 (if ((r45&&r50)&&(((r51.length:Nat):Int)==8))=true then A5 n ({ Kind:=3,Texture:=3,P:=r43 }:Ah) else some default).bind λ r52=>
 (BO n ({ Kind:=1,Texture:=0,P:=[r39] }:Ah)).bind λ r53=>
 (if r53=true then BO n ({ Kind:=3,Texture:=3,P:=r43 }:Ah) else some default).bind λ r54=>
 (if (r53&&r54)=true then BO n ({ Kind:=0,Texture:=0,P:=[] }:Ah) else some default).bind λ r55=>
 (if ((r53&&r54)&&(!r55))=true then Bi n else some default).bind λ r56=>
 (if ((r53&&r54)&&(!r55))=true then BO n ({ Kind:=1,Texture:=0,P:=r56 }:Ah) else some default).bind λ r57=>
 (if (((r53&&r54)&&(!r55))&&(!r57))=true then Bi n else some default).bind λ r58=>
 (if (((r53&&r54)&&(!r55))&&(!r57))=true then BO n ({ Kind:=3,Texture:=4,P:=r58 }:Ah) else some default).bind λ r59=>
 (if ((((r53&&r54)&&(!r55))&&(!r57))&&(!r59))=true then AJ n 60 0 else some default).bind λ r60=>
 (if ((((r53&&r54)&&(!r55))&&(!r57))&&(!r59))=true then BO n ({ Kind:=1,Texture:=0,P:=[r60] }:Ah) else some default).bind λ r61=>
 (if ((((r45&&r50)&&(((r51.length:Nat):Int)==8))&&(((r52.length:Nat):Int)==9))&&(((((r53&&r54)&&(!r55))&&(!r57))&&(!r59))&&(!r61)))=true then Bi n else some default).bind λ r62=>
 (if ((((r45&&r50)&&(((r51.length:Nat):Int)==8))&&(((r52.length:Nat):Int)==9))&&(((((r53&&r54)&&(!r55))&&(!r57))&&(!r59))&&(!r61)))=true then AJ n 1 1 else some default).bind λ r63=>
 (if ((((r45&&r50)&&(((r51.length:Nat):Int)==8))&&(((r52.length:Nat):Int)==9))&&(((((r53&&r54)&&(!r55))&&(!r57))&&(!r59))&&(!r61)))=true then Bu n r62 r63 else some default).bind λ r64=>
 (if (((((r45&&r50)&&(((r51.length:Nat):Int)==8))&&(((r52.length:Nat):Int)==9))&&(((((r53&&r54)&&(!r55))&&(!r57))&&(!r59))&&(!r61)))&&r64)=true then Bi n else some default).bind λ r65=>
 (if (((((r45&&r50)&&(((r51.length:Nat):Int)==8))&&(((r52.length:Nat):Int)==9))&&(((((r53&&r54)&&(!r55))&&(!r57))&&(!r59))&&(!r61)))&&r64)=true then AJ n 2 1 else some default).bind λ r66=>
 (if (((((r45&&r50)&&(((r51.length:Nat):Int)==8))&&(((r52.length:Nat):Int)==9))&&(((((r53&&r54)&&(!r55))&&(!r57))&&(!r59))&&(!r61)))&&r64)=true then Bu n r65 r66 else some default).bind λ r67=>
 (if ((((((r45&&r50)&&(((r51.length:Nat):Int)==8))&&(((r52.length:Nat):Int)==9))&&(((((r53&&r54)&&(!r55))&&(!r57))&&(!r59))&&(!r61)))&&r64)&&r67)=true then Bi n else some default).bind λ r68=>
 (if ((((((r45&&r50)&&(((r51.length:Nat):Int)==8))&&(((r52.length:Nat):Int)==9))&&(((((r53&&r54)&&(!r55))&&(!r57))&&(!r59))&&(!r61)))&&r64)&&r67)=true then AJ n 0 2 else some default).bind λ r69=>
 (if ((((((r45&&r50)&&(((r51.length:Nat):Int)==8))&&(((r52.length:Nat):Int)==9))&&(((((r53&&r54)&&(!r55))&&(!r57))&&(!r59))&&(!r61)))&&r64)&&r67)=true then Bu n r68 r69 else some default).bind λ r70=>
 (if (((((((r45&&r50)&&(((r51.length:Nat):Int)==8))&&(((r52.length:Nat):Int)==9))&&(((((r53&&r54)&&(!r55))&&(!r57))&&(!r59))&&(!r61)))&&r64)&&r67)&&r70)=true then Bi n else some default).bind λ r71=>
 (if (((((((r45&&r50)&&(((r51.length:Nat):Int)==8))&&(((r52.length:Nat):Int)==9))&&(((((r53&&r54)&&(!r55))&&(!r57))&&(!r59))&&(!r61)))&&r64)&&r67)&&r70)=true then AJ n 3 1 else some default).bind λ r72=>
 (if (((((((r45&&r50)&&(((r51.length:Nat):Int)==8))&&(((r52.length:Nat):Int)==9))&&(((((r53&&r54)&&(!r55))&&(!r57))&&(!r59))&&(!r61)))&&r64)&&r67)&&r70)=true then Bu n r71 r72 else some default).bind λ r73=>
 (if ((((((((r45&&r50)&&(((r51.length:Nat):Int)==8))&&(((r52.length:Nat):Int)==9))&&(((((r53&&r54)&&(!r55))&&(!r57))&&(!r59))&&(!r61)))&&r64)&&r67)&&r70)&&(!r73))=true then Bi n else some default).bind λ r74=>
 (if ((((((((r45&&r50)&&(((r51.length:Nat):Int)==8))&&(((r52.length:Nat):Int)==9))&&(((((r53&&r54)&&(!r55))&&(!r57))&&(!r59))&&(!r61)))&&r64)&&r67)&&r70)&&(!r73))=true then AJ n (-1) 0 else some default).bind λ r75=>
 (if ((((((((r45&&r50)&&(((r51.length:Nat):Int)==8))&&(((r52.length:Nat):Int)==9))&&(((((r53&&r54)&&(!r55))&&(!r57))&&(!r59))&&(!r61)))&&r64)&&r67)&&r70)&&(!r73))=true then Bu n r74 r75 else some default).bind λ r76=>
 (if (((((((((r45&&r50)&&(((r51.length:Nat):Int)==8))&&(((r52.length:Nat):Int)==9))&&(((((r53&&r54)&&(!r55))&&(!r57))&&(!r59))&&(!r61)))&&r64)&&r67)&&r70)&&(!r73))&&(!r76))=true then AJ n 0 0 else some default).bind λ r77=>
 (if (((((((((r45&&r50)&&(((r51.length:Nat):Int)==8))&&(((r52.length:Nat):Int)==9))&&(((((r53&&r54)&&(!r55))&&(!r57))&&(!r59))&&(!r61)))&&r64)&&r67)&&r70)&&(!r73))&&(!r76))=true then Bu n [] r77 else some default).bind λ r78=>
 (if ((((((((((r45&&r50)&&(((r51.length:Nat):Int)==8))&&(((r52.length:Nat):Int)==9))&&(((((r53&&r54)&&(!r55))&&(!r57))&&(!r59))&&(!r61)))&&r64)&&r67)&&r70)&&(!r73))&&(!r76))&&(!r78))=true then Bi n else some default).bind λ r79=>
 (if ((((((((((r45&&r50)&&(((r51.length:Nat):Int)==8))&&(((r52.length:Nat):Int)==9))&&(((((r53&&r54)&&(!r55))&&(!r57))&&(!r59))&&(!r61)))&&r64)&&r67)&&r70)&&(!r73))&&(!r76))&&(!r78))=true then Dr n r79 else some default).bind λ r80=>
 some (((((((((((r45&&r50)&&(((r51.length:Nat):Int)==8))&&(((r52.length:Nat):Int)==9))&&(((((r53&&r54)&&(!r55))&&(!r57))&&(!r59))&&(!r61)))&&r64)&&r67)&&r70)&&(!r73))&&(!r76))&&(!r78))&&(((r80.length:Nat):Int)==8))
def Cr (_:Nat) (p0_:(List (KA Int))) (p1_:Int) (out_1:(List Aa)) (i_3:Int):Option (((List Aa)×Int)⊕(List Aa)):=
 if ((decide (i_3<((p0_.length:Nat):Int)))&&(decide (i_3<p1_)))=true then
  (idx p0_ i_3).bind λ x18=>
  (idx p0_ i_3).bind λ x19=>
  (app 16 out_1 [({ X:=IntKind.i64.wrap (BM x18.a0 24),Y:=IntKind.i64.wrap (BM x19.a1 24) }:Aa)]).bind λ l7=>
  some (.inl (l7,(A6 .i64 i_3 1)))
 else
  some (.inr out_1)
def Fp (n:Nat) (p0_:(List (KA Int))) (p1_:Int):Option (List Aa):=
 (whl (λ (x:((List Aa)×Int))=>Cr n p0_ p1_ x.1 x.2) n (([]:List Aa),0)).bind λ y24=>
 some y24
def DO (_:Nat) (_:HJ) (l_3:(List Aa)):Option ((List Aa)⊕(List Aa)):=
 if decide (((l_3.length:Nat):Int)<3)=true then
  (app 16 l_3 [({ X:=Ba .i64 5 ((l_3.length:Nat):Int),Y:=A6 .i64 3 (Ba .i64 ((l_3.length:Nat):Int) ((l_3.length:Nat):Int)) }:Aa)]).bind λ l8=>
  some (.inl l8)
 else
  some (.inr l_3)
def HK (n:Nat) (p0_:HJ):Option Ah:=
 (Fp n p0_.L 6).bind λ r81=>
 (whl (λ (x:(List Aa))=>DO n p0_ x) n r81).bind λ y25=>
 if ((BM p0_.Kind 3)==0)=true then
  (sub y25 0 1).bind λ l9=>
  some ({ Kind:=1,Texture:=0,P:=l9 }:Ah)
 else
  if ((BM p0_.Kind 3)==1)=true then
   (BK (!((A0 .i64 ((y25.length:Nat):Int) 1)==0))).bind λ _=>
   (sub y25 0 (A6 .i64 2 (BM (IntKind.i64.wrap p0_.Texture) (A0 .i64 ((y25.length:Nat):Int) 1)))).bind λ l10=>
   some ({ Kind:=2,Texture:=0,P:=l10 }:Ah)
  else
   some ({ Kind:=3,Texture:=IntKind.i64.wrap (BM p0_.Texture 4),P:=y25 }:Ah)
def EM (_:Nat) (p0_:(List Aa)) (p1_:Int):Option (Aa×Aa):=
 (idx p0_ p1_).bind λ x20=>
 (BK (!(((p0_.length:Nat):Int)==0))).bind λ _=>
 (idx p0_ (BM (A6 .i64 p1_ 1) ((p0_.length:Nat):Int))).bind λ x21=>
 some (x20,x21)
def Hg (_:Nat) (p0_:Int):Option Int:=
 some (if Rq .i64 p0_>p0_ then Rq .i64 p0_ else p0_)
def Hh (n:Nat) (p0_:Aa) (p1_:Aa):Option Int:=
 (Hg n (A0 .i64 p0_.X p1_.X)).bind λ r82=>
 (Hg n (A0 .i64 p0_.Y p1_.Y)).bind λ r83=>
 some (if r83>r82 then r83 else r82)
def Dg (_:Nat) (q_1:Int):Option Int:=
 some q_1
def D2 (n:Nat) (p0_:Int) (p1_:Int):Option Int:=
 (BK (!(p1_==0))).bind λ _=>
 (BK (!(p1_==0))).bind λ _=>
 if decide (BM p0_ p1_<0)=true then
  Dg n (A0 .i64 (Kt .i64 p0_ p1_) 1)
 else
  Dg n (Kt .i64 p0_ p1_)
def DP (n:Nat) (p0_:Aa) (p1_:Aa) (r84:Int) (out_3:(List Aa)) (k_1:Int):Option (((List Aa)×Int)⊕(List Aa)):=
 if decide (k_1<=r84)=true then
  (D2 n (A6 .i64 (Ba .i64 2 (A6 .i64 (Ba .i64 p0_.X r84) (Ba .i64 k_1 (A0 .i64 p1_.X p0_.X)))) r84) (Ba .i64 2 r84)).bind λ r85=>
  (D2 n (A6 .i64 (Ba .i64 2 (A6 .i64 (Ba .i64 p0_.Y r84) (Ba .i64 k_1 (A0 .i64 p1_.Y p0_.Y)))) r84) (Ba .i64 2 r84)).bind λ r86=>
  (app 16 out_3 [({ X:=r85,Y:=r86 }:Aa)]).bind λ l11=>
  some (.inl (l11,(A6 .i64 k_1 1)))
 else
  some (.inr out_3)
def HL (n:Nat) (p0_:Aa) (p1_:Aa):Option (List Aa):=
 (Hh n p0_ p1_).bind λ r84=>
 if (r84==0)=true then
  some [p0_]
 else
  (whl (λ (x:((List Aa)×Int))=>DP n p0_ p1_ r84 x.1 x.2) n (([]:List Aa),0)).bind λ y26=>
  some y26
def Dh (n:Nat) (p0_:(List Aa)) (p1_:Int) (out_5:(List Aa)) (i_4:Int):Option (((List Aa)×Int)⊕(List Aa)):=
 if decide (i_4<p1_)=true then
  (EM n p0_ i_4).bind λ r87=>
  (HL n r87.1 r87.2).bind λ r88=>
  (app 16 out_5 r88).bind λ l12=>
  some (.inl (l12,(A6 .i64 i_4 1)))
 else
  some (.inr out_5)
def D3 (n:Nat) (p0_:(List Aa)) (p1_:Int):Option (List Aa):=
 (whl (λ (x:((List Aa)×Int))=>Dh n p0_ p1_ x.1 x.2) n (([]:List Aa),0)).bind λ y27=>
 some y27
def CK (_:Nat) (i_5:Int) (there_3:(List (List Bool))):Option (((List (List Bool))×Int)⊕(List (List Bool))):=
 some (.inl (there_3,(A6 .i64 i_5 1)))
def CL (n:Nat) (p0_:(List Aa)) (there_1:(List (List Bool))) (i_5:Int):Option (((List (List Bool))×Int)⊕(List (List Bool))):=
 if decide (i_5<((p0_.length:Nat):Int))=true then
  (idx p0_ i_5).bind λ x22=>
  if ((((decide (x22.X>=0))&&(decide (x22.Y>=0)))&&(decide (x22.X<60)))&&(decide (x22.Y<60)))=true then
   (BK (decide ((0:Int)<=x22.Y/\x22.Y<((60:Nat):Int)))).bind λ _=>
   (BK (decide ((0:Int)<=x22.X/\x22.X<((60:Nat):Int)))).bind λ _=>
   (Qv there_1 x22.Y x22.X true).bind λ l13=>
   CK n i_5 l13
  else
   CK n i_5 there_1
 else
  some (.inr there_1)
def CM (_:Nat) (x_22:Int) (out_11:(List Aa)):Option (((List Aa)×Int)⊕(List Aa)):=
 some (.inl (out_11,(A6 .i64 x_22 1)))
def CN (n:Nat) (y28:(List (List Bool))) (y_2:Int) (out_9:(List Aa)) (x_22:Int):Option (((List Aa)×Int)⊕(List Aa)):=
 if decide (x_22<60)=true then
  (BK (decide ((0:Int)<=y_2/\y_2<((60:Nat):Int)))).bind λ _=>
  (BK (decide ((0:Int)<=x_22/\x_22<((60:Nat):Int)))).bind λ _=>
  (Qu y28 y_2 x_22).bind λ x23=>
  if x23=true then
   (app 16 out_9 [({ X:=x_22,Y:=y_2 }:Aa)]).bind λ l14=>
   CM n x_22 l14
  else
   CM n x_22 out_9
 else
  some (.inr out_9)
def CO (n:Nat) (y28:(List (List Bool))) (out_7:(List Aa)) (y_2:Int):Option (((List Aa)×Int)⊕(List Aa)):=
 if decide (y_2<60)=true then
  (whl (λ (x:((List Aa)×Int))=>CN n y28 y_2 x.1 x.2) n (out_7,0)).bind λ y29=>
  some (.inl (y29,(A6 .i64 y_2 1)))
 else
  some (.inr out_7)
def Ds (n:Nat) (p0_:(List Aa)):Option (List Aa):=
 (whl (λ (x:((List (List Bool))×Int))=>CL n p0_ x.1 x.2) n ((List.replicate 60 (List.replicate 60 (false:Bool))),0)).bind λ y28=>
 (whl (λ (x:((List Aa)×Int))=>CO n y28 x.1 x.2) n (([]:List Aa),0)).bind λ y30=>
 some y30
def DQ (_:Nat) (p0_:Int) (p1_:Aa):Option Bool:=
 some (((p0_==3)||((p0_==2)&&((BM p1_.Y 2)==0)))||((p0_==1)&&((BM (A6 .i64 p1_.X p1_.Y) 2)==0)))
def HM (_:Nat) (p0_:Aa) (p1_:Aa) (p2_:Aa):Option Int:=
 some (A0 .i64 (Ba .i64 (A0 .i64 p1_.X p0_.X) (A0 .i64 p2_.Y p0_.Y)) (Ba .i64 (A0 .i64 p1_.Y p0_.Y) (A0 .i64 p2_.X p0_.X)))
def I1 (n:Nat) (p0_:Aa) (p1_:Aa) (p2_:Aa):Option Bool:=
 (HM n p0_ p1_ p2_).bind λ r89=>
 some (((((r89==0)&&(decide (p2_.X>=(if p1_.X<p0_.X then p1_.X else p0_.X))))&&(decide (p2_.X<=(if p1_.X>p0_.X then p1_.X else p0_.X))))&&(decide (p2_.Y>=(if p1_.Y<p0_.Y then p1_.Y else p0_.Y))))&&(decide (p2_.Y<=(if p1_.Y>p0_.Y then p1_.Y else p0_.Y))))
def Ej (_:Nat) (p0_:Aa) (p1_:Aa) (p2_:Aa):Option Bool:=
 if ((decide (p0_.Y<=p2_.Y))==(decide (p1_.Y<=p2_.Y)))=true then
  some false
 else
  if decide (p1_.Y>p0_.Y)=true then
   some (decide (Ba .i64 (A0 .i64 p2_.X p0_.X) (A0 .i64 p1_.Y p0_.Y)<Ba .i64 (A0 .i64 p2_.Y p0_.Y) (A0 .i64 p1_.X p0_.X)))
  else
   some (decide (Ba .i64 (A0 .i64 p2_.X p0_.X) (A0 .i64 p1_.Y p0_.Y)>Ba .i64 (A0 .i64 p2_.Y p0_.Y) (A0 .i64 p1_.X p0_.X)))
def CP (_:Nat) (i_6:Int) (odd_6:Bool):Option ((Bool×Int)⊕(Bool⊕Bool)):=
 some (.inl (odd_6,(A6 .i64 i_6 1)))
def CQ (n:Nat) (p0_:(List Aa)) (p1_:Aa) (odd_4:Bool) (i_6:Int):Option ((Bool×Int)⊕(Bool⊕Bool)):=
 if decide (i_6<((p0_.length:Nat):Int))=true then
  (EM n p0_ i_6).bind λ r90=>
  (I1 n r90.1 r90.2 p1_).bind λ r91=>
  if r91=true then
   some (.inr (.inr true))
  else
   (Ej n r90.1 r90.2 p1_).bind λ r92=>
   if r92=true then
    CP n i_6 (!odd_4)
   else
    CP n i_6 odd_4
 else
  some (.inr (.inl odd_4))
def Ek (n:Nat) (p0_:(List Aa)) (p1_:Aa):Option Bool:=
 (whl (λ (x:(Bool×Int))=>CQ n p0_ p1_ x.1 x.2) n (false,0)).bind λ y31=>
 match y31 with
 | Sum.inl y32=>
  some y32
 | Sum.inr y33=>
  some y33
def CS (_:Nat) (x_23:Int) (out_16:(List Aa)):Option (((List Aa)×Int)⊕(List Aa)):=
 some (.inl (out_16,(A6 .i64 x_23 1)))
def CT (n:Nat) (p0_:Ah) (y_3:Int) (out_14:(List Aa)) (x_23:Int):Option (((List Aa)×Int)⊕(List Aa)):=
 if decide (x_23<60)=true then
  (DQ n p0_.Texture ({ X:=x_23,Y:=y_3 }:Aa)).bind λ r96=>
  (if r96=true then Ek n p0_.P ({ X:=x_23,Y:=y_3 }:Aa) else some default).bind λ r97=>
  if (r96&&r97)=true then
   (app 16 out_14 [({ X:=x_23,Y:=y_3 }:Aa)]).bind λ l15=>
   CS n x_23 l15
  else
   CS n x_23 out_14
 else
  some (.inr out_14)
def CU (n:Nat) (p0_:Ah) (out_12:(List Aa)) (y_3:Int):Option (((List Aa)×Int)⊕(List Aa)):=
 if decide (y_3<60)=true then
  (whl (λ (x:((List Aa)×Int))=>CT n p0_ y_3 x.1 x.2) n (out_12,0)).bind λ y34=>
  some (.inl (y34,(A6 .i64 y_3 1)))
 else
  some (.inr out_12)
def Dt (n:Nat) (p0_:Ah):Option (List Aa):=
 if (p0_.Kind==1)=true then
  some p0_.P
 else
  if (p0_.Kind==2)=true then
   (D3 n p0_.P (A0 .i64 ((p0_.P.length:Nat):Int) 1)).bind λ r93=>
   (Ds n r93).bind λ r94=>
   some r94
  else
   (D3 n p0_.P ((p0_.P.length:Nat):Int)).bind λ r95=>
   (whl (λ (x:((List Aa)×Int))=>CU n p0_ x.1 x.2) n (r95,0)).bind λ y35=>
   (Ds n y35).bind λ r98=>
   some r98
def Fq (n:Nat) (p0_:(List Aa)):Option (List Aa):=
 (D3 n p0_ ((p0_.length:Nat):Int)).bind λ r99=>
 (Ds n r99).bind λ r100=>
 some r100
noncomputable def Bv (n:Nat) (p0_:HJ) (p1_:(KA Int)):Option Bool:=
 (FV n).bind λ r101=>
 (HK n p0_).bind λ r102=>
 (AJ n (A0 .i64 (IntKind.i64.wrap (BM p1_.a0 64)) 20) (A0 .i64 (IntKind.i64.wrap (BM p1_.a1 64)) 20)).bind λ r103=>
 (if r101=true then BO n r102 else some default).bind λ r104=>
 (if (r101&&r104)=true then A5 n r102 else some default).bind λ r105=>
 (if (r101&&r104)=true then Dt n r102 else some default).bind λ r106=>
 (if (r101&&r104)=true then C7 n r105 r106 else some default).bind λ r107=>
 (if ((r101&&r104)&&r107)=true then Dr n r102.P else some default).bind λ r108=>
 (if ((r101&&r104)&&r107)=true then Fq n r102.P else some default).bind λ r109=>
 (if ((r101&&r104)&&r107)=true then C7 n r108 r109 else some default).bind λ r110=>
 (if (((r101&&r104)&&r107)&&r110)=true then Bu n r102.P r103 else some default).bind λ r111=>
 (if (((r101&&r104)&&r107)&&r110)=true then Ek n r102.P r103 else some default).bind λ r112=>
 some ((((r101&&r104)&&r107)&&r110)&&(r111==r112))
end Go.AI
end
section
namespace Go.AI
open Go.Proofs
set_option maxRecDepth 10000
theorem xok (n kl:Nat):XOK Try.prog (cxk n kl):=⟨tyOK,rfl⟩
noncomputable def Bg:H9:=lpd (AE Try.f59) [1,0,1,0] 13 [7] []
theorem fO (k:Nat) (s:St) {fn:Func} {f:FuncId} {args:List AV} {r:AV} (hf:Try.prog.funcs[f]? = some fn) (h:WP (cxk k 0) (AE fn) [] (M9 (cxk k 0).ty fn.results.toList r) s) (hb:fn.body=some (AE fn):=by kernel_rfl) (hnm:(fn.name == "runtime.NumGoroutine")=false:=by kernel_rfl) (hnt:(cxk k 0).nt.n=fn.ntmps:=by kernel_rfl) (hlen:Nat.ble args.length fn.ntmps=true:=by kernel_rfl) (hs:(⟨(List.range args.length).zip args,[]⟩:St)=s:=by kernel_rfl):Av Try.prog f args r:=fo follows (Se k 0) hf h hb hnm hnt hlen hs
theorem fL (k nb:Nat) (s:St) {fn:Func} {f:FuncId} {args:List AV} {O0 O1:List (Option Ob)} {r:AV} (hf:Try.prog.funcs[f]? = some fn) (h:WP (cxk k nb) (AE fn) [] (K4 nb (cxk k nb).ty fn.results.toList r O1) s) (hb:fn.body=some (AE fn):=by kernel_rfl) (hnm:(fn.name == "runtime.NumGoroutine")=false:=by kernel_rfl) (hnt:(cxk k nb).nt=⟨fn.ntmps,[],nb,qfT⟩:=by kernel_rfl) (hlen:Nat.ble args.length fn.ntmps=true:=by kernel_rfl) (hs:(⟨(List.range args.length).zip args,O0⟩:St)=s:=by kernel_rfl):Bd Try.prog f args O0 nb r O1:=fl follows (Se k nb) hf h hb hnm hnt hlen hs
theorem fS (k nb:Nat) (s:St) {fn:Func} {f:FuncId} {args:List AV} {O0:List (Option Ob)} {R:AV->List (Option Ob)->Prop} (hf:Try.prog.funcs[f]? = some fn) (h:WP (cxk k nb) (AE fn) [] (Na nb (cxk k nb).ty fn.results.toList R) s) (hb:fn.body=some (AE fn):=by kernel_rfl) (hnm:(fn.name == "runtime.NumGoroutine")=false:=by kernel_rfl) (hnt:(cxk k nb).nt=⟨fn.ntmps,[],nb,qfT⟩:=by kernel_rfl) (hlen:Nat.ble args.length fn.ntmps=true:=by kernel_rfl) (hs:(⟨(List.range args.length).zip args,O0⟩:St)=s:=by kernel_rfl):BN Try.prog f args O0 nb R:=flS follows (Se k nb) hf h hb hnm hnt hlen hs
theorem yok (n kl:Nat):YOK Try.prog (cxk n kl):=⟨rfl⟩
variable {n:Nat}
def Ab (x:Aa):List D:=[.int .i64 x.X,.int .i64 x.Y]
@[reducible] def Fw {α:Type} (e:α->List D) (x:KA α):List D:=e x.a0++e x.a1
def Xt (x:HJ):List D:=[.int .u8 x.Kind,.int .u8 x.Texture,.sl (x.L.map (Fw eU8))]
def Bw (x:Ah):List AV:=[.d (.int .i64 x.Kind),.d (.int .i64 x.Texture),.d (.sl (x.P.map Ab))]
def TZ (x:HJ):List AV:=[.d (.int .u8 x.Kind),.d (.int .u8 x.Texture),.d (.sl (x.L.map (Fw eU8)))]
theorem Un:∀ a b:Aa,Ay [.int .i64,.int .i64] ((Ab a).map .d) ((Ab b).map .d)=some (decide (a=b)):=by
  intro a b
  cases a;cases b
  simp [Ay,Ab,Bool.decide_and]
  all_goals (first|rfl|(rw [Bool.eq_iff_iff];simp))
section
variable (p0_:Int) (p1_:Int)
def U6:St:=⟨(0,.d (.int .i64 p0_))::(1,.d (.int .i64 p1_))::[],[]⟩
variable {p0_ p1_}
theorem Ax {z} (H:AJ n p0_ p1_=some z):Av Try.prog 12 [.d (.int .i64 p0_),.d (.int .i64 p1_)] (.agg [.d (.int .i64 z.X),.d (.int .i64 z.Y)]):=by
 exact fO 8 (U6 p0_ p1_) Try.func12 (sr (ck 1 (en (sr (ck 4 (en (re (by cases H;exact pr rd))))))))
end
def U7:St:=⟨[],[]⟩
theorem AS {z} (H:Bi n=some z):Av Try.prog 27 [] (.own 2 (z.map Ab)):=by
 exact fO 6 U7 Try.func27 (sr (ck 1 (en (sr (bx H λ r1 h1 H=>ca false (Ax h1) (bx H λ r2 h2 H=>ca false (Ax h2) (bx H λ r3 h3 H=>ca false (Ax h3) (bx H λ r4 h4 H=>ca false (Ax h4) (ck 2 (en (re (by cases H;exact pr (rO (v:=.osl 0 2 0 (List.length [r1,r2,r3,r4])) [0] (ao vo))))))))))))))
section
variable (p0_:Ah) (x_1:Int)
def U9:St:=⟨(0,.agg [.d (.int .i64 p0_.Kind),.d (.int .i64 p0_.Texture),.d (.sl (p0_.P.map Ab))])::[],[]⟩
def Va:St:=⟨(1,.ptr 0 0)::(3,.d (.int .i64 ((p0_.P.length:Nat):Int)))::(16,.d (.sl (p0_.P.map Ab)))::(17,.d (.int .i64 ((p0_.P.length:Nat):Int)))::(18,.d (.int .i64 x_1))::[],[some (.box (Bw p0_))]⟩
def Vb:St:=⟨(1,.ptr 0 0)::(3,.d (.int .i64 ((p0_.P.length:Nat):Int)))::[],[some (.box (Bw p0_))]⟩
def J1:(Unit⊕Bool)->Ex->St->Prop:=xS (xX 0 0 (λ (y:Unit)=>Vb p0_)) (xR ty Try.f13 (λ (y:Bool)=>.d (.bool y)))
def FW:Int->St:=(λ (x:Int)=>Va p0_ x)
variable {p0_ x_1}
theorem Fx (x:Int) (z:(Int⊕(Unit⊕Bool))) (H:DK n p0_ x=some z):WP (cxk 75 0) (AE Try.f13) [1,1,1,0,1,0,0] (AO 0 (FW p0_) (J1 p0_) z) (FW p0_ x):=by
 revert H
 generalize x=x_1
 intro H
 refine sr (ck 1 (en (sq (cn H (λ H=>?_) (λ H=>?_)))))
 ·refine sk (qz (sq (bk 1 (sr (bx H λ x1 h5 H=>sp (Bf Ab h5) (ck 3 (en (sr (ck 5 (gc 2 (!(decide (x1.X<0))) (pO (ck 2 (gc 2 (!((decide (x1.X<0))||(decide (x1.X>=60)))) (pO (ck 2 (gc 2 (!(((decide (x1.X<0))||(decide (x1.X>=60)))||(decide (x1.Y<0)))) (pO (en (cn H (λ H=>?_) (λ H=>?_))))))))))))))))))))
  ·exact sr (ck 1 (en (re (qR (qr (by cases H;exact ro rfl rd))))))
  ·exact sk (qN (qz (rz (ck 2 (ae (by cases H;exact og (sg [1,3,16,17,18])))))))
 ·exact ex 0 (qx (by cases H;exact xo rfl (sg [1,3])))
theorem BJ {z} (H:BO n p0_=some z):Av Try.prog 13 [.agg (Bw p0_)] (.d (.bool z)):=by
 refine fO 75 (U9 p0_) Try.func13 (sr (ck 2 (en (sr (ck 2 (sp (Bo Ab p0_.P) (ck 1 (en (sq (sr (ck 4 (gc 1 (!(decide (((p0_.P.length:Nat):Int)<1))) (pO (en (cn H (λ H=>?_) (λ H=>?_))))))))))))))))
 ·exact sr (ck 1 (en (re (qr (by cases H;exact pr rd)))))
 ·refine sk (qz (sq (sr (ck 2 (sp (Bo Ab p0_.P) (ck 1 (en (bk 0 (bx H λ y1 h6 H=>?_)))))))))
  rcases y1 with y2|y3
  ·refine lX Fx h6 (sg [1,3,16,17,18]) rfl λ s hE1=>qH (qs (hE1) (sq (sr (ck 2 (en (bk 2 (sr (ck 2 (en (cn H (λ H=>?_) (λ H=>?_)))))))))))
   ·exact sr (ck 4 (gc 2 (((p0_.P.length:Nat):Int)==1) (pA (ck 1 (en (re (qR (qr (by cases H;exact pr rd)))))))))
   ·refine sr (ck 2 (en (cn H (λ H=>?_) (λ H=>?_))))
    ·exact sr (ck 4 (gc 2 (decide (((p0_.P.length:Nat):Int)>=2)) (pA (ck 1 (en (re (qR (qr (by cases H;exact pr rd)))))))))
    ·refine sr (ck 2 (en (cn H (λ H=>?_) (λ H=>?_))))
     ·exact sr (ck 4 (gc 2 (decide (((p0_.P.length:Nat):Int)>=3)) (pA (ck 2 (gc 2 ((decide (((p0_.P.length:Nat):Int)>=3))&&(decide (p0_.Texture>=0))) (pA (ck 1 (en (re (qR (qr (by cases H;exact pr rd))))))))))))
     ·exact sk (qN (qz (sr (ck 1 (en (re (by cases H;exact pr rd)))))))
  ·exact lR Fx h6 (sg [1,3,16,17,18]) rfl λ s hE2=>qR (qr (by cases H;exact pr hE2))
end
section
variable (p0_:(List Aa)) (x_2:Int)
def Vc:St:=⟨(0,.d (.sl (p0_.map Ab)))::[],[]⟩
def Vd:St:=⟨(5,.d (.sl (p0_.map Ab)))::(6,.d (.int .i64 ((p0_.length:Nat):Int)))::(7,.d (.int .i64 x_2))::[],[]⟩
def Ve:St:=⟨[],[]⟩
def KB:(Unit⊕Bool)->Ex->St->Prop:=xS (xX 0 0 (λ (y:Unit)=>Ve)) (xR ty Try.f62 (λ (y:Bool)=>.d (.bool y)))
def Gx:Int->St:=(λ (x:Int)=>Vd p0_ x)
variable {p0_ x_2}
theorem FX (x:Int) (z:(Int⊕(Unit⊕Bool))) (H:Ee n p0_ x=some z):WP (cxk 30 0) (AE Try.f62) [1,0,1,0,0] (AO 0 (Gx p0_) (KB) z) (Gx p0_ x):=by
 revert H
 generalize x=x_2
 intro H
 refine sr (ck 1 (en (sq (cn H (λ H=>?_) (λ H=>?_)))))
 ·refine sk (qz (sq (bk 1 (sr (bx H λ x2 h7 H=>sp (Bf Ab h7) (ck 3 (en (sr (ck 5 (gc 2 (!(decide (x2.X<(-1000)))) (pO (ck 2 (gc 2 (!((decide (x2.X<(-1000)))||(decide (x2.X>1000)))) (pO (ck 2 (gc 2 (!(((decide (x2.X<(-1000)))||(decide (x2.X>1000)))||(decide (x2.Y<(-1000))))) (pO (en (cn H (λ H=>?_) (λ H=>?_))))))))))))))))))))
  ·exact sr (ck 1 (en (re (qR (qr (by cases H;exact ro rfl rd))))))
  ·exact sk (qN (qz (rz (ck 2 (ae (by cases H;exact og (sg [5,6,7])))))))
 ·exact ex 0 (qx (by cases H;exact xo rfl (sg [])))
theorem Nq {z} (H:JY n p0_=some z):Av Try.prog 62 [.d (.sl (p0_.map Ab))] (.d (.bool z)):=by
 refine fO 30 (Vc p0_) Try.func62 (sr (ck 1 (en (sq (sr (ck 1 (sp (Bo Ab p0_) (ck 1 (en (bk 0 (bx H λ y4 h8 H=>?_)))))))))))
 rcases y4 with y5|y6
 ·exact lX FX h8 (sg [5,6,7]) rfl λ s hE3=>qH (qs (hE3) (sr (ck 1 (en (re (by cases H;exact pr rd))))))
 ·exact lR FX h8 (sg [5,6,7]) rfl λ s hE4=>qR (qr (by cases H;exact pr hE4))
end
section
variable (p0_:Int)
def Vf:St:=⟨(0,.d (.int .i64 p0_))::[],[]⟩
variable {p0_}
theorem J2 {z} (H:He n p0_=some z):Av Try.prog 76 [.d (.int .i64 p0_)] (.d (.int .i64 z)):=by
 refine fO 8 (Vf p0_) Try.func76 (sr (ck 1 (en (sq (sr (ck 2 (en (cn H (λ H=>?_) (λ H=>?_)))))))))
 ·exact sr (ck 3 (en (re (qr (by cases H;exact pr rd)))))
 ·exact sk (qz (sr (ck 2 (en (re (by cases H;exact pr rd))))))
end
section
variable (p0_:Aa) (p1_:Aa)
def Vg:St:=⟨(0,.agg [.d (.int .i64 p0_.X),.d (.int .i64 p0_.Y)])::(1,.agg [.d (.int .i64 p1_.X),.d (.int .i64 p1_.Y)])::[],[]⟩
variable {p0_ p1_}
theorem LZ {z} (H:Gk n p0_ p1_=some z):Av Try.prog 63 [.agg [.d (.int .i64 p0_.X),.d (.int .i64 p0_.Y)],.agg [.d (.int .i64 p1_.X),.d (.int .i64 p1_.Y)]] (.d (.int .i64 z)):=by
 exact fO 18 (Vg p0_ p1_) Try.func63 (sr (ck 3 (en (sr (ck 5 (bx H λ r5 h9 H=>ca false (J2 h9) (ck 5 (bx H λ r6 h10 H=>ca false (J2 h10) (ck 2 (en (re (by cases H;exact pr rd))))))))))))
end
section
variable (p0_:Int) (p1_:Int) (p2_:Int) (p3_:Int) (quotient_1:Int)
def Vh:St:=⟨(0,.d (.int .i64 p0_))::(1,.d (.int .i64 p1_))::(2,.d (.int .i64 p2_))::(3,.d (.int .i64 p3_))::[],[]⟩
def Vi:St:=⟨(10,.d (.int .i64 quotient_1))::[],[]⟩
variable {p0_ p1_ p2_ p3_ quotient_1}
theorem FY {z} (H:Dq n p0_ p1_ p2_ p3_=some z):Av Try.prog 64 [.d (.int .i64 p0_),.d (.int .i64 p1_),.d (.int .i64 p2_),.d (.int .i64 p3_)] (.d (.int .i64 z)):=by
 refine fO 35 (Vh p0_ p1_ p2_ p3_) Try.func64 (sr (ck 1 (en (sr (ck 13 (en (sr (ck 3 (bx H λ gd1 h11 H=>so (D1 h11) (ck 1 (en (sj (λ (x:Int)=>Vi x) (λ (x:Int)=>CI n x) z ?_ (λ hFGr_between_J1=>?_)))))))))))))
 ·intro quotient_1 H
  exact sr (ck 2 (en (re (by cases H;exact pr rd))))
 refine sr (ck 3 (bx H λ gd2 h12 H=>so (D1 h12) (ck 1 (en (cn H (λ H=>?_) (λ H=>?_))))))
 ·exact rz (ck 3 (ae (qs (sg [10]) (hFGr_between_J1 (A0 .i64 (Kt .i64 (A6 .i64 (Ba .i64 2 (A6 .i64 (Ba .i64 p0_ p3_) (Ba .i64 p2_ (A0 .i64 p1_ p0_)))) p3_) (Ba .i64 2 p3_)) 1) H))))
 ·exact sk (qs (sg [10]) (hFGr_between_J1 (Kt .i64 (A6 .i64 (Ba .i64 2 (A6 .i64 (Ba .i64 p0_ p3_) (Ba .i64 p2_ (A0 .i64 p1_ p0_)))) p3_) (Ba .i64 2 p3_)) H))
end
section
variable (p0_:Aa) (p1_:Aa) (r8:Int) (l_1:(List Aa)) (x_3:Int) (l_2:(List Aa))
def Vj:St:=⟨(0,.agg [.d (.int .i64 p0_.X),.d (.int .i64 p0_.Y)])::(1,.agg [.d (.int .i64 p1_.X),.d (.int .i64 p1_.Y)])::[],[]⟩
def Vk:St:=⟨(2,.ptr 0 0)::(3,.ptr 1 0)::(5,.d (.int .i64 r8))::(6,.osl 2 2 0 (l_1.length))::(24,.d (.int .i64 (A6 .i64 r8 1)))::(25,.d (.int .i64 x_3))::[],[some (.box [.d (.int .i64 p0_.X),.d (.int .i64 p0_.Y)]),some (.box [.d (.int .i64 p1_.X),.d (.int .i64 p1_.Y)]),some (.arr 2 (l_1.map Ab))]⟩
def Vl:St:=⟨(6,.osl 0 2 0 (l_2.length))::[],[some (.arr 2 (l_2.map Ab))]⟩
def KC:(List Aa)->Ex->St->Prop:=xX 0 0 (λ (y:(List Aa))=>Vl y)
def Gy:((List Aa)×Int)->St:=(λ (x:((List Aa)×Int))=>Vk p0_ p1_ r8 x.1 x.2)
variable {p0_ p1_ r8 l_1 x_3 l_2}
theorem J3 (x:((List Aa)×Int)) (z:(((List Aa)×Int)⊕(List Aa))) (H:Ef n p0_ p1_ r8 x.1 x.2=some z):WP (cxk 48 0) (AE Try.f56) [1,1,1,1,1,0,1,0,0] (AO 0 (Gy p0_ p1_ r8) (KC) z) (Gy p0_ p1_ r8 x):=by
 obtain ⟨l_1,x_3⟩:=x
 refine sr (ck 1 (en (sq (cn H (λ H=>?_) (λ H=>?_)))))
 ·exact sk (qz (sq (bk 1 (sr (ck 2 (en (rz (ck 7 (bx H λ r9 h16 H=>ca false (FY h16) (ck 6 (bx H λ r10 h17 H=>ca false (FY h17) (ck 2 (bx H λ l2 h18 H=>sp (Fh Ab 2 2 h18) (ck 1 (ae (qN (qz (rz (ck 2 (ae (by cases H;exact og (sg [2,3,5,6,24,25]))))))))))))))))))))))
 ·exact ex 0 (qx (by cases H;exact xo rfl (sg [6])))
theorem Ns {z} (H:JZ n p0_ p1_=some z):Av Try.prog 56 [.agg [.d (.int .i64 p0_.X),.d (.int .i64 p0_.Y)],.agg [.d (.int .i64 p1_.X),.d (.int .i64 p1_.Y)]] (.own 2 (z.map Ab)):=by
 refine fO 48 (Vj p0_ p1_) Try.func56 (sr (ck 3 (en (sq (sr (ck 3 (bx H λ r7 h13 H=>cb (ks:=[2]) (obl:=[(0+List.length [p0_,p1_],List.length (List.map Ab [p0_,p1_]))]) false (leK leM (leZ)) (Cb Hb rfl) (Nq h13) (Or.inr trivial) rfl (ck 1 (en (cn H (λ H=>?_) (λ H=>?_)))))))))))
 ·exact sr (ck 1 (en (re (qr (by cases H;exact pr (rO (v:=.d (.nil)) [] (ad vz)))))))
 ·refine sk (qz (sr (ck 2 (bx H λ r8 h14 H=>ca false (LZ h14) (ck 1 (en (sq (sr (ck 2 (en (cn H (λ H=>?_) (λ H=>?_))))))))))))
  ·exact sr (ck 3 (en (re (qr (by cases H;exact pr (rO (v:=.osl 3 2 0 (List.length [p0_])) [3] (ao vo)))))))
  ·exact sk (qz (sr (ck 2 (bx H λ l1 h15 H=>sp (US Ab 2 h15) (ck 1 (en (sq (sr (ck 3 (en (bk 0 (bx H λ y7 h19 H=>lX J3 h19 (sg [2,3,5,6,24,25]) rfl λ s hE5=>qH (qs (hE5) (sr (ck 2 (en (re (by cases H;exact pr (rO (v:=.osl 0 2 0 (z.length)) [0] (ao vo))))))))))))))))))))
end
section
variable (p1_:Aa) (p2_:Aa) (o0_:(List (Aa×Bool))) (x_4:(List (Aa×Bool))) (r11:(List Aa)) (dots_1:(List (Aa×Bool))) (x_5:Int) (x_6:(List (Aa×Bool)))
def Sf:St:=⟨(0,.mp 0)::(1,.agg [.d (.int .i64 p1_.X),.d (.int .i64 p1_.Y)])::(2,.agg [.d (.int .i64 p2_.X),.d (.int .i64 p2_.Y)])::[],[some (.map true false (Bn Ab eB o0_))]⟩
def Sg:St:=⟨[],[some (.map true false (Bn Ab eB x_4))]⟩
def Sh:St:=⟨(0,.mp 0)::(10,.d (.sl (r11.map Ab)))::(11,.d (.int .i64 ((r11.length:Nat):Int)))::(12,.d (.int .i64 x_5))::[],[some (.map true false (Bn Ab eB dots_1))]⟩
def Si:St:=⟨[],[some (.map true false (Bn Ab eB x_6))]⟩
def L3:(List (Aa×Bool))->Ex->St->Prop:=xX 1 0 (λ (y:(List (Aa×Bool)))=>Si y)
def Hi:((List (Aa×Bool))×Int)->St:=(λ (x:((List (Aa×Bool))×Int))=>Sh r11 x.1 x.2)
variable {p1_ p2_ o0_ x_4 r11 dots_1 x_5 x_6}
theorem KD (x:((List (Aa×Bool))×Int)) (z:(((List (Aa×Bool))×Int)⊕(List (Aa×Bool)))) (H:Fj n r11 x.1 x.2=some z):WP (cxk 19 1) (AE Try.f45) [1,1,0,0] (AO 1 (Hi r11) (L3) z) (Hi r11 x):=by
 obtain ⟨dots_1,x_5⟩:=x
 refine sr (ck 1 (en (sq (cn H (λ H=>?_) (λ H=>?_)))))
 ·exact sk (qz (sq (bk 1 (sr (bx H λ x3 h21 H=>sp (Bf Ab h21) (ck 3 (en (rz (ck 2 (sp (Pk (enc:=eB) (encK:=Ab) (k:=0) (e1:=λ x=>.bool x) (m:=dots_1) (l:=[.d (.int .i64 x3.X),.d (.int .i64 x3.Y)]) (key:=x3) (y:=true) (v:=.d (.bool true)) (vz:=[.bool false]) Un) (ae (qN (qz (rz (ck 2 (ae (by cases H;exact og (sg [0,10,11,12]))))))))))))))))))
 ·exact ex 0 (qx (by cases H;exact xo rfl (sg [])))
theorem J4 {z} (H:I0 n p1_ p2_ o0_=some z):Bd Try.prog 45 [.mp 0,.agg [.d (.int .i64 p1_.X),.d (.int .i64 p1_.Y)],.agg [.d (.int .i64 p2_.X),.d (.int .i64 p2_.Y)]] [some (.map true false (Bn Ab eB o0_))] 1 (.tup []) [some (.map true false (Bn Ab eB z))]:=by
 exact fL 19 1 (Sf p1_ p2_ o0_) Try.func45 (sr (ck 2 (en (sr (ck 2 (bx H λ r11 h20 H=>ca false (Ns h20) (sp (Bo Ab r11) (ck 1 (en (bk 0 (bx H λ y8 h22 H=>lX KD h22 (sg [0,10,11,12]) rfl λ s hE6=>qH (by cases H;exact pL' (rl (s':=Sg z) (tr (hE6) (sg [])))))))))))))))
end
section
variable (p0_:Int)
def Vm:St:=⟨(0,.d (.int .i64 p0_))::[],[]⟩
variable {p0_}
theorem El {z} (H:CJ n p0_=some z):Av Try.prog 55 [.d (.int .i64 p0_)] (.d (.bool z)):=by
 exact fO 6 (Vm p0_) Try.func55 (sr (ck 1 (en (sr (ck 4 (en (re (by cases H;exact pr rd))))))))
end
section
variable (p0_:Int) (p1_:Int)
def Vn:St:=⟨(0,.d (.int .i64 p0_))::(1,.d (.int .i64 p1_))::[],[]⟩
variable {p0_ p1_}
theorem DF {z} (H:BP n p0_ p1_=some z):Av Try.prog 44 [.d (.int .i64 p0_),.d (.int .i64 p1_)] (.d (.int .i64 z)):=by
 refine fO 20 (Vn p0_ p1_) Try.func44 (sr (ck 1 (en (sr (ck 1 (bx H λ r12 h23 H=>ca false (El h23) (ck 1 (en (sr (ck 1 (bx H λ r13 h24 H=>ca false (El h24) (ck 1 (en (sq (sr (ck 1 (en (cn H (λ H=>?_) (λ H=>?_)))))))))))))))))))
 ·refine sq (sr (ck 1 (en (cn H (λ H=>?_) (λ H=>?_)))))
  ·exact sr (ck 1 (en (re (qr (qr (by cases H;exact pr rd))))))
  ·exact sk (qz (sr (ck 1 (en (re (qr (by cases H;exact pr rd)))))))
 ·refine sk (qz (sq (sr (ck 1 (en (cn H (λ H=>?_) (λ H=>?_)))))))
  ·exact sr (ck 1 (en (re (qr (by cases H;exact pr rd)))))
  ·refine sk (qz (sq (sr (ck 3 (en (cn H (λ H=>?_) (λ H=>?_)))))))
   ·exact sr (ck 1 (en (re (qr (by cases H;exact pr rd)))))
   ·refine sk (qz (sq (sr (ck 3 (en (cn H (λ H=>?_) (λ H=>?_)))))))
    ·exact sr (ck 1 (en (re (qr (by cases H;exact pr rd)))))
    ·exact sk (qz (sr (ck 1 (en (re (by cases H;exact pr rd))))))
end
section
variable (p0_:(List Int)) (x_7:Int)
def Vo:St:=⟨(0,.d (.sl (p0_.map Ql)))::[],[]⟩
def Vp:St:=⟨(3,.d (.int .i64 0))::(6,.d (.sl (p0_.map Ql)))::(7,.d (.int .i64 ((p0_.length:Nat):Int)))::(8,.d (.int .i64 x_7))::[],[]⟩
def Vq:St:=⟨(3,.d (.int .i64 0))::[],[]⟩
def HN:(Unit⊕Int)->Ex->St->Prop:=xS (xX 0 0 (λ (y:Unit)=>Vq)) (xR ty Try.f43 (λ (y:Int)=>.d (.int .i64 y)))
def EN:Int->St:=(λ (x:Int)=>Vp p0_ x)
variable {p0_ x_7}
theorem Em (x:Int) (z:(Int⊕(Unit⊕Int))) (H:Cd n p0_ x=some z):WP (cxk 18 0) (AE Try.f43) [1,1,0,1,0,0] (AO 0 (EN p0_) (HN) z) (EN p0_ x):=by
 revert H
 generalize x=x_7
 intro H
 refine sr (ck 1 (en (sq (cn H (λ H=>?_) (λ H=>?_)))))
 ·refine sk (qz (sq (bk 1 (sr (bx H λ x4 h25 H=>sp (Bf Ql h25) (ck 2 (en (sr (ck 3 (en (cn H (λ H=>?_) (λ H=>?_))))))))))))
  ·exact sr (ck 2 (en (re (qR (qr (by cases H;exact ro rfl rd))))))
  ·exact sk (qN (qz (rz (ck 2 (ae (by cases H;exact og (sg [3,6,7,8])))))))
 ·exact ex 0 (qx (by cases H;exact xo rfl (sg [3])))
theorem J5 {z} (H:Eg n p0_=some z):Av Try.prog 43 [.d (.sl (p0_.map Ql))] (.d (.int .i64 z)):=by
 refine fO 18 (Vo p0_) Try.func43 (sr (ck 1 (en (sr (ck 1 (en (sq (sr (ck 1 (sp (Bo Ql p0_) (ck 1 (en (bk 0 (bx H λ y9 h26 H=>?_))))))))))))))
 rcases y9 with y10|y11
 ·exact lX Em h26 (sg [3,6,7,8]) rfl λ s hE7=>qH (qs (hE7) (sr (ck 2 (en (re (by cases H;exact pr rd))))))
 ·exact lR Em h26 (sg [3,6,7,8]) rfl λ s hE8=>qR (qr (by cases H;exact pr hE8))
end
section
variable (p0_:Aa) (p1_:Aa)
def Vr:St:=⟨(0,.agg [.d (.int .i64 p0_.X),.d (.int .i64 p0_.Y)])::(1,.agg [.d (.int .i64 p1_.X),.d (.int .i64 p1_.Y)])::[],[]⟩
variable {p0_ p1_}
theorem IF {z} (H:BI n p0_ p1_=some z):Av Try.prog 42 [.agg [.d (.int .i64 p0_.X),.d (.int .i64 p0_.Y)],.agg [.d (.int .i64 p1_.X),.d (.int .i64 p1_.Y)]] (.d (.int .i64 z)):=by
 exact fO 17 (Vr p0_ p1_) Try.func42 (sr (ck 3 (en (sr (ck 4 (bx H λ r14 h27 H=>ca false (DF h27) (ck 4 (bx H λ r15 h28 H=>ca false (DF h28) (ck 1 (bx H λ r16 h29 H=>cb (ks:=[2]) (obl:=[(0+List.length [r14,r15],List.length (List.map Ql [r14,r15]))]) true (leK leM (leZ)) (Cb Hb rfl) (J5 h29) (Or.inr trivial) rfl (ck 1 (en (re (by cases H;exact pr rd))))))))))))))
end
section
variable (p0_:(List Aa)) (x_8:(List (Aa×Bool))) (dots_2:(List (Aa×Bool))) (i_1:Int) (dots_3:(List (Aa×Bool)))
def Sj:St:=⟨(0,.d (.sl (p0_.map Ab)))::[],[]⟩
def Sk:St:=⟨(2,.mp 0)::[],[some (.map true false (Bn Ab eB x_8))]⟩
def Sl:St:=⟨(0,.d (.sl (p0_.map Ab)))::(3,.mp 0)::(4,.d (.int .i64 i_1))::[],[some (.map true false (Bn Ab eB dots_2))]⟩
def Sn:St:=⟨(3,.mp 0)::[],[some (.map true false (Bn Ab eB dots_3))]⟩
def J6:(List (Aa×Bool))->Ex->St->Prop:=xX 0 0 (λ (y:(List (Aa×Bool)))=>Sn y)
def FZ:((List (Aa×Bool))×Int)->St:=(λ (x:((List (Aa×Bool))×Int))=>Sl p0_ x.1 x.2)
variable {p0_ x_8 dots_2 i_1 dots_3}
theorem IG (x:((List (Aa×Bool))×Int)) (z:(((List (Aa×Bool))×Int)⊕(List (Aa×Bool)))) (H:DL n p0_ x.1 x.2=some z):WP (cxk 24 0) (AE Try.f30) [1,1,0,1,0,0] (AO 0 (FZ p0_) (J6) z) (FZ p0_ x):=by
 obtain ⟨dots_2,i_1⟩:=x
 refine sq (sr (ck 2 (sp (Bo Ab p0_) (ck 1 (en (cn H (λ H=>?_) (λ H=>?_)))))))
 ·exact sk (qz (sq (bk 1 (rx 11 10 (.refl _) (ck 4 (bx H λ x5 h30 H=>sp (Bf Ab h30) (ck 3 (bx H λ x6 h31 H=>sp (Bf Ab h31) (ck 1 (mx (bx H λ r17 h32 H=>lt [0] (J4 h32) (nz (qN (qz (rz (ck 3 (ae (by cases H;exact og (sg [0,3,4])))))))))))))))))))
 ·exact ex 0 (qx (by cases H;exact xo rfl (sg [3])))
theorem Hj {z} (H:Gl n p0_=some z):Bd Try.prog 30 [.d (.sl (p0_.map Ab))] [] 0 (.mp 0) [some (.map true false (Bn Ab eB z))]:=by
 exact fL 24 0 (Sj p0_) Try.func30 (sr (ck 1 (en (sr (ck 2 (en (sq (sr (ck 1 (en (bk 0 (bx H λ y12 h33 H=>lX IG h33 (sg [0,3,4]) rfl λ s hE9=>qH (qs (hE9) (sr (ck 2 (en (re (by cases H;exact pL (rl (s':=Sk z) (sg [2]))))))))))))))))))))
end
section
variable (p0_:Aa)
def Vs:St:=⟨(0,.agg [.d (.int .i64 p0_.X),.d (.int .i64 p0_.Y)])::[],[]⟩
variable {p0_}
theorem HO {z} (H:Gv n p0_=some z):Av Try.prog 46 [.agg [.d (.int .i64 p0_.X),.d (.int .i64 p0_.Y)]] (.d (.bool z)):=by
 exact fO 3 (Vs p0_) Try.func46 (sr (ck 2 (en (sr (ck 1 (en (re (by cases H;exact pr rd))))))))
end
section
variable (p0_:Aa)
def Vt:St:=⟨(0,.agg [.d (.int .i64 p0_.X),.d (.int .i64 p0_.Y)])::[],[]⟩
variable {p0_}
theorem HP {z} (H:Cl n p0_=some z):Av Try.prog 47 [.agg [.d (.int .i64 p0_.X),.d (.int .i64 p0_.Y)]] (.d (.bool z)):=by
 exact fO 10 (Vt p0_) Try.func47 (sr (ck 2 (en (sr (ck 8 (en (re (by cases H;exact pr rd))))))))
end
section
variable (p0_:Aa)
def Vu:St:=⟨(0,.agg [.d (.int .i64 p0_.X),.d (.int .i64 p0_.Y)])::[],[]⟩
variable {p0_}
theorem HQ {z} (H:Cm n p0_=some z):Av Try.prog 48 [.agg [.d (.int .i64 p0_.X),.d (.int .i64 p0_.Y)]] (.d (.bool z)):=by
 exact fO 7 (Vu p0_) Try.func48 (sr (ck 2 (en (sr (ck 5 (en (re (by cases H;exact pr rd))))))))
end
section
variable (p0_:Aa)
def Vv:St:=⟨(0,.agg [.d (.int .i64 p0_.X),.d (.int .i64 p0_.Y)])::[],[]⟩
variable {p0_}
theorem HR {z} (H:Gw n p0_=some z):Av Try.prog 49 [.agg [.d (.int .i64 p0_.X),.d (.int .i64 p0_.Y)]] (.d (.bool z)):=by
 exact fO 3 (Vv p0_) Try.func49 (sr (ck 2 (en (sr (ck 1 (en (re (by cases H;exact pr rd))))))))
end
section
variable (p0_:Aa) (p1_:Aa) (p2_:Aa)
def Vw:St:=⟨(0,.agg [.d (.int .i64 p0_.X),.d (.int .i64 p0_.Y)])::(1,.agg [.d (.int .i64 p1_.X),.d (.int .i64 p1_.Y)])::(2,.agg [.d (.int .i64 p2_.X),.d (.int .i64 p2_.Y)])::[],[]⟩
variable {p0_ p1_ p2_}
theorem QA {z} (H:LY n p0_ p1_ p2_=some z):Av Try.prog 35 [.agg [.d (.int .i64 p0_.X),.d (.int .i64 p0_.Y)],.agg [.d (.int .i64 p1_.X),.d (.int .i64 p1_.Y)],.agg [.d (.int .i64 p2_.X),.d (.int .i64 p2_.Y)]] (.d (.bool z)):=by
 refine fO 76 (Vw p0_ p1_ p2_) Try.func35 (sr (ck 4 (en (sq (sr (ck 6 (gc 1 (!((p2_.X==p0_.X)&&((p2_.Y==p0_.Y)&&true))) (pO (en (cn H (λ H=>?_) (λ H=>?_)))))))))))
 ·exact sr (ck 1 (en (re (qr (by cases H;exact pr rd)))))
 ·refine sk (qz (sq (sr (ck 23 (en (cn H (λ H=>?_) (λ H=>?_)))))))
  ·exact sr (ck 1 (en (re (qr (by cases H;exact pr rd)))))
  ·exact sk (qz (sr (ck 10 (gc 1 (decide ((if p1_.X<p0_.X then p1_.X else p0_.X)<=p2_.X)) (ck 1 (gc 1 (decide ((if p1_.X<p0_.X then p1_.X else p0_.X)<=p2_.X)) (ck 1 (gc 3 (decide ((if p1_.X<p0_.X then p1_.X else p0_.X)<=p2_.X)) (pA (ck 2 (gc 1 ((decide ((if p1_.X<p0_.X then p1_.X else p0_.X)<=p2_.X))&&(decide (p2_.X<=(if p1_.X>p0_.X then p1_.X else p0_.X)))) (ck 1 (gc 2 ((decide ((if p1_.X<p0_.X then p1_.X else p0_.X)<=p2_.X))&&(decide (p2_.X<=(if p1_.X>p0_.X then p1_.X else p0_.X)))) (ck 1 (gc 2 ((decide ((if p1_.X<p0_.X then p1_.X else p0_.X)<=p2_.X))&&(decide (p2_.X<=(if p1_.X>p0_.X then p1_.X else p0_.X)))) (pA (ck 2 (gc 1 (((decide ((if p1_.X<p0_.X then p1_.X else p0_.X)<=p2_.X))&&(decide (p2_.X<=(if p1_.X>p0_.X then p1_.X else p0_.X))))&&(decide ((if p1_.Y<p0_.Y then p1_.Y else p0_.Y)<=p2_.Y))) (ck 1 (gc 1 (((decide ((if p1_.X<p0_.X then p1_.X else p0_.X)<=p2_.X))&&(decide (p2_.X<=(if p1_.X>p0_.X then p1_.X else p0_.X))))&&(decide ((if p1_.Y<p0_.Y then p1_.Y else p0_.Y)<=p2_.Y))) (ck 1 (gc 3 (((decide ((if p1_.X<p0_.X then p1_.X else p0_.X)<=p2_.X))&&(decide (p2_.X<=(if p1_.X>p0_.X then p1_.X else p0_.X))))&&(decide ((if p1_.Y<p0_.Y then p1_.Y else p0_.Y)<=p2_.Y))) (pA (ck 1 (en (re (by cases H;exact pr rd)))))))))))))))))))))))))))
end
section
variable (p0_:Aa) (p1_:Aa) (p2_:Aa)
def Vx:St:=⟨(0,.agg [.d (.int .i64 p0_.X),.d (.int .i64 p0_.Y)])::(1,.agg [.d (.int .i64 p1_.X),.d (.int .i64 p1_.Y)])::(2,.agg [.d (.int .i64 p2_.X),.d (.int .i64 p2_.Y)])::[],[]⟩
variable {p0_ p1_ p2_}
theorem KE {z} (H:Fk n p0_ p1_ p2_=some z):Av Try.prog 36 [.agg [.d (.int .i64 p0_.X),.d (.int .i64 p0_.Y)],.agg [.d (.int .i64 p1_.X),.d (.int .i64 p1_.Y)],.agg [.d (.int .i64 p2_.X),.d (.int .i64 p2_.Y)]] (.d (.bool z)):=by
 refine fO 53 (Vx p0_ p1_ p2_) Try.func36 (sr (ck 4 (en (sq (sr (ck 11 (en (cn H (λ H=>?_) (λ H=>?_)))))))))
 ·exact sr (ck 1 (en (re (qr (by cases H;exact pr rd)))))
 ·refine sk (qz (sr (ck 24 (en (sq (sr (ck 5 (en (cn H (λ H=>?_) (λ H=>?_))))))))))
  ·exact sr (ck 4 (en (re (qr (by cases H;exact pr rd)))))
  ·exact sk (qz (sr (ck 4 (en (re (by cases H;exact pr rd))))))
end
section
variable (p0_:(List Aa)) (p1_:Aa) (odd_1:Bool) (x_9:Int) (odd_2:Bool) (odd_3:Bool)
def Vy:St:=⟨(0,.d (.sl (p0_.map Ab)))::(1,.agg [.d (.int .i64 p1_.X),.d (.int .i64 p1_.Y)])::[],[]⟩
def Vz:St:=⟨(0,.d (.sl (p0_.map Ab)))::(3,.ptr 0 0)::(5,.d (.bool odd_1))::(9,.d (.sl (p0_.map Ab)))::(10,.d (.int .i64 ((p0_.length:Nat):Int)))::(11,.d (.int .i64 x_9))::[],[some (.box [.d (.int .i64 p1_.X),.d (.int .i64 p1_.Y)])]⟩
def VA:St:=⟨(5,.d (.bool odd_2))::[],[]⟩
def VB:St:=⟨(0,.d (.sl (p0_.map Ab)))::(3,.ptr 0 0)::(5,.d (.bool odd_3))::(9,.d (.sl (p0_.map Ab)))::(10,.d (.int .i64 ((p0_.length:Nat):Int)))::(11,.d (.int .i64 x_9))::[],[some (.box [.d (.int .i64 p1_.X),.d (.int .i64 p1_.Y)])]⟩
def IH:(Bool⊕Bool)->Ex->St->Prop:=xS (xX 0 0 (λ (y:Bool)=>VA y)) (xR ty Try.f19 (λ (y:Bool)=>.d (.bool y)))
def Fy:(Bool×Int)->St:=(λ (x:(Bool×Int))=>Vz p0_ p1_ x.1 x.2)
variable {p0_ p1_ odd_1 x_9 odd_2 odd_3}
theorem EO (x:(Bool×Int)) (z:((Bool×Int)⊕(Bool⊕Bool))) (H:Dc n p0_ p1_ x.1 x.2=some z):WP (cxk 36 0) (AE Try.f19) [1,1,0,1,0,0] (AO 0 (Fy p0_ p1_) (IH) z) (Fy p0_ p1_ x):=by
 obtain ⟨odd_1,x_9⟩:=x
 refine sr (ck 1 (en (sq (cn H (λ H=>?_) (λ H=>?_)))))
 ·refine sk (qz (sj (λ (x:Bool)=>VB p0_ p1_ x_9 x) (λ (x:Bool)=>Db n x_9 x) z ?_ (λ hFSh_Inside_J1=>?_)))
  ·intro odd_3 H
   exact rz (ck 2 (ae (by cases H;exact og (sg [0,3,5,9,10,11]))))
  refine bk 1 (sr (ck 1 (bx H λ x7 h34 H=>sp (Bf Ab h34) (ck 4 (en (sr (ck 4 (sp (Bo Ab p0_) (bx H λ gd3 h35 H=>so (D1 h35) (bx H λ x8 h36 H=>sp (Bf Ab h36) (ck 3 (en (sq (sr (ck 3 (bx H λ r18 h37 H=>ca false (QA h37) (en (cn H (λ H=>?_) (λ H=>?_)))))))))))))))))))
  ·exact sr (ck 1 (en (re (qr (qR (qr (by cases H;exact ro rfl rd)))))))
  ·refine sk (qz (sr (ck 3 (bx H λ r19 h38 H=>ca false (KE h38) (en (cn H (λ H=>?_) (λ H=>?_)))))))
   ·exact rz (ck 3 (ae (qN (qs (sg [0,3,5,9,10,11]) (hFSh_Inside_J1 (!odd_1) H)))))
   ·exact sk (qN (qs (sg [0,3,5,9,10,11]) (hFSh_Inside_J1 odd_1 H)))
 ·exact ex 0 (qx (by cases H;exact xo rfl (sg [5])))
theorem Bp {z} (H:Bu n p0_ p1_=some z):Av Try.prog 19 [.d (.sl (p0_.map Ab)),.agg [.d (.int .i64 p1_.X),.d (.int .i64 p1_.Y)]] (.d (.bool z)):=by
 refine fO 36 (Vy p0_ p1_) Try.func19 (sr (ck 2 (en (sr (ck 1 (en (sq (sr (ck 1 (sp (Bo Ab p0_) (ck 1 (en (bk 0 (bx H λ y13 h39 H=>?_))))))))))))))
 rcases y13 with y14|y15
 ·exact lX EO h39 (sg [0,3,5,9,10,11]) rfl λ s hE10=>qH (qs (hE10) (sr (ck 2 (en (re (by cases H;exact pr rd))))))
 ·exact lR EO h39 (sg [0,3,5,9,10,11]) rfl λ s hE11=>qR (qr (by cases H;exact pr hE11))
end
section
variable (o0_:(List (Aa×Bool)))
def So:St:=⟨(0,.mp 0)::[],[some (.map true false (Bn Ab eB o0_))]⟩
def Sp:St:=⟨(2,.clo 54 [.ptr 1 0])::[],[some (.map true false (Bn Ab eB o0_)),some (.box [.mp 0])]⟩
variable {o0_}
theorem GM {z} (H:DB n o0_=some z):Bd Try.prog 41 [.mp 0] [some (.map true false (Bn Ab eB o0_))] 1 (.clo 54 [.ptr 1 0]) [some (.map true false (Bn Ab eB o0_)),some (.box [.mp 0])]:=by
 exact fL 4 1 (So o0_) Try.func41 (sr (ck 2 (en (sr (xm (xok _ _) (ck 1 (en (re (by cases H;exact pL (rl (s':=Sp o0_) (sg [2])))))))))))
end
noncomputable def Sr (p1_:Aa) (o2_:(List Aa)):St:=⟨(7,.agg [.d (.int .i64 p1_.X),.d (.int .i64 p1_.Y)])::(2,.ptr 1 0)::[],[some (.lp Bg [2] [.ptr 1 0] 0),some (.box [.osl 2 2 0 (o2_.length)]),some (.arr 2 (o2_.map Ab))]⟩
noncomputable def Ss (x_10:(List Aa)):St:=⟨[],[some (.lp Bg [2] [.ptr 1 0] 1),some (.box [.osl 3 2 0 (x_10.length)]),none,some (.arr 2 (x_10.map Ab))]⟩
section
variable (p1_:Aa) (o2_:(List Aa))
variable {p1_ o2_}
theorem II {z} (H:Fl n p1_ o2_=some z):Nk Try.prog [.agg [.d (.int .i64 p1_.X),.d (.int .i64 p1_.Y)]] [some (.lp Bg [2] [.ptr 1 0] 0),some (.box [.osl 2 2 0 (o2_.length)]),some (.arr 2 (o2_.map Ab))] 3 0 [some (.lp Bg [2] [.ptr 1 0] 0),some (.box [.osl 3 2 0 (z.length)]),none,some (.arr 2 (z.map Ab))]:=by
 exact fk (C:=AE Try.f59) (p:=[1,0,1,0]) 13 [7] [] (ts:=[2]) (vs:=[.ptr 1 0]) (Sr p1_ o2_) follows (Xs 13 3) (rz (ck 2 (ae (aq (js:=[]) (bk 1 (rz (ck 3 (bx H λ l3 h40 H=>sp (Fh Ab 2 2 h40) (ck 1 (ae (qN (by cases H;exact rq (s':=Ss z) (sg [])))))))))))))
end
section
variable (o3_:(List (Aa×Bool))) (o4_:(List Aa)) (x_11:(List Aa)) (l4:(List (Aa×Bool))) (x_12:(List Aa)) (x_13:(List Aa))
noncomputable def Su:St:=⟨(0,.yld 0)::(1,.ptr 1 0)::[],[some (.lp Bg [2] [.ptr 2 0] 0),some (.box [.mp 3]),some (.box [.osl 4 2 0 (o4_.length)]),some (.map true false (Bn Ab eB o3_)),some (.arr 2 (o4_.map Ab))]⟩
noncomputable def Sv:St:=⟨[],[some (.lp Bg [2] [.ptr 2 0] 0),some (.box [.mp 3]),some (.box [.osl 5 2 0 (x_11.length)]),none,none,some (.arr 2 (x_11.map Ab))]⟩
noncomputable def Sw:St:=⟨(0,.yld 0)::(5,.ptr 5 0)::[],[some (.lp Bg [2] [.ptr 2 0] 0),some (.box [.mp 3]),some (.box [.osl 6 2 0 (x_12.length)]),none,none,some (.iter true false none (Bn Ab eB l4)),some (.arr 2 (x_12.map Ab))]⟩
noncomputable def Sx:St:=⟨[],[some (.lp Bg [2] [.ptr 2 0] 0),some (.box [.mp 3]),some (.box [.osl 5 2 0 (x_13.length)]),none,none,some (.arr 2 (x_13.map Ab))]⟩
def CV:Empty->Ex->St->Prop:=(λ (_:Empty) _ _=>False)
variable {o3_ o4_ x_11 l4 x_12 x_13}
end
noncomputable def CA :(List Aa)->Ex->St->Prop:=(λ (x:(List Aa))=>xX 5 0 (λ (y:(List Aa))=>Sx y) x)
section
variable (o3_:(List (Aa×Bool))) (o4_:(List Aa))
noncomputable def CW:(List (Aa×Bool))->(List Aa)->St:=(λ (l:(List (Aa×Bool))) (x:(List Aa))=>Sw l x)
variable {o3_ o4_}
theorem EP (l4:(List (Aa×Bool))) (x:(List Aa)) (hz:∀ e,e∈l4->∃ z,AG n e x=some z):WP (cxk 14 5) (AE Try.f54) [1,0,0] (TV 5 (CW) (CA) (CV) (λ (e:(Aa×Bool)) (x:(List Aa))=>AG n e x) l4 x) (CW l4 x):=by
 revert hz
 generalize x=x_12
 intro hz
 refine sq (rn 0 (.refl _) (nd0 (nxt (yok _ _) (encK:=Ab) (enc:=eB) (ka:=true) (va:=false) 5 (λ hl=>?_) (λ e1 l5 l6 hl1=>bE (hz e1 (XP hl1)) λ z hF=>?_))))
 ·exact ck 1 (en (sq (cF (ex 0 (qx (mE hl rfl (sg [])))))))
 ·have H:=hF
  exact ck 1 (en (sq (cT (sk (qz (bk 1 (sr (xr (xok _ _) (ck 3 (en (sr (ck 2 (bx H λ r20 h41 H=>xy (xok _ _) (g:=true) rfl (Bt) [0,2,6] (II h41) rfl (ck 1 (en (cF (sk (qN (by cases H;exact mg hl1 hF (tr (W9 5 (by kernel_rfl)) (sg [0,5])))))))))))))))))))))
theorem F4 {z} (H:B6 n o3_ o4_=some z):BN Try.prog 54 [.yld 0,.ptr 1 0] [some (.lp Bg [2] [.ptr 2 0] 0),some (.box [.mp 3]),some (.box [.osl 4 2 0 (o4_.length)]),some (.map true false (Bn Ab eB o3_)),some (.arr 2 (o4_.map Ab))] 5 (No z (λ (q:(List Aa))=>.tup []) (λ (q:(List Aa))=>[some (.lp Bg [2] [.ptr 2 0] 0),some (.box [.mp 3]),some (.box [.osl 5 2 0 (q.length)]),none,none,some (.arr 2 (q.map Ab))])):=by
 refine fS 14 5 (Su o3_ o4_) Try.func54 (sr (ck 1 (xr (xok _ _) (en (bk 0 ?_)))))
 have hD:=LU H
 refine lM (F:=(λ (e:(Aa×Bool)) (x:(List Aa))=>AG n e x)) (E:=CV) (E0:=CA) EP (tr (LS (k:=4) (sz:=2) 2 0 (o4_.map Ab) (o4_.length) (by kernel_rfl) FT leM rfl) (sg [0,5])) (λ ord ho=>(by obtain ⟨_,h,_⟩:=hD ord ho;exact bI h)) (λ ord y17 ho hy e s hE=>xQ hE (λ he hE12=>?_)) (λ ord r ho hy e s hE=>?_)
 ·subst he
  obtain ⟨Z',H,hz1⟩:=hD ord ho
  replace H:=bK H hy
  exact qH (by cases H;exact pS' (hz1 _ rfl) (rl (s':=Sv y17) (tr (hE12) (sg []))))
 ·cases r
end
section
variable (o1_:(List (Aa×Bool))) (x_14:(List Aa))
def Sy:St:=⟨(0,.d (.nil))::(1,.clo 54 [.ptr 0 0])::[],[some (.box [.mp 1]),some (.map true false (Bn Ab eB o1_))]⟩
def Sz:St:=⟨(4,.osl 2 2 0 (x_14.length))::[],[some (.box [.mp 1]),none,some (.arr 2 (x_14.map Ab))]⟩
variable {o1_ x_14}
theorem KF {z} (H:Fm n o1_=some z):BN Try.prog 59 [.d (.nil),.clo 54 [.ptr 0 0]] [some (.box [.mp 1]),some (.map true false (Bn Ab eB o1_))] 2 (No z (λ (q:(List Aa))=>.osl 2 2 0 (q.length)) (λ (q:(List Aa))=>[some (.box [.mp 1]),none,some (.arr 2 (q.map Ab))])):=by
 refine fS 13 2 (Sy o1_) Try.func59 (sr (ck 2 (en (sq (sr (ck 1 (en (bk 0 (wsh (Pg 2 0 2 (by kernel_rfl)) (bx H λ S1 h42 H=>?_))))))))))
 have hD:=LU H
 refine rfN rfl [] [2] [4,0,2,1,3] (λ (r21:(List Aa))=>0) (F4 h42) rfl (λ r21 hr=>?_)
 obtain ⟨Z',H,hz2⟩:=hD r21 hr
 exact jz (qN (qz (sr (ck 2 (en (re (by cases H;exact pS (hz2 _ rfl) (rl (s':=Sz r21) (sg [4])))))))))
end
section
variable (o1_:(List (Aa×Bool))) (x_15:(List Aa))
def SA:St:=⟨(0,.clo 54 [.ptr 0 0])::[],[some (.box [.mp 1]),some (.map true false (Bn Ab eB o1_))]⟩
def SB:St:=⟨(2,.osl 2 2 0 (x_15.length))::[],[some (.box [.mp 1]),none,some (.arr 2 (x_15.map Ab))]⟩
variable {o1_ x_15}
theorem J7 {z} (H:Eh n o1_=some z):BN Try.prog 52 [.clo 54 [.ptr 0 0]] [some (.box [.mp 1]),some (.map true false (Bn Ab eB o1_))] 2 (No z (λ (q:(List Aa))=>.osl 2 2 0 (q.length)) (λ (q:(List Aa))=>[some (.box [.mp 1]),none,some (.arr 2 (q.map Ab))])):=by
 refine fS 5 2 (SA o1_) Try.func52 (sr (ck 1 (en (sq (rn 1 (.refl _) (ck 1 (bx H λ S2 h43 H=>?_)))))))
 have hD:=LU H
 refine nd0 (nc (yok _ _) [0,1] (KF h43) rfl (λ r22 hr=>?_))
 obtain ⟨Z',H,hz3⟩:=hD r22 hr
 exact ck 1 (en (re (by cases H;exact pS (hz3 _ rfl) (rl (s':=SB r22) (sg [2])))))
end
theorem Nt {n:Nat} {o0_:(List Aa)} {z:(List Aa)} (H:J0 n o0_=some z):Bd Try.prog 53 [.osl 0 2 0 (o0_.length),.clo 42 []] [some (.arr 2 (o0_.map Ab))] 1 (.tup []) [some (.arr 2 (z.map Ab))]:=OL Try.laysSortF (by decide) Try.isAgg32 Try.sizeOf32 (enc:=Ab) (λ _=>rfl) (λ x d hd=>by simp only [Ab,List.mem_cons,List.not_mem_nil,or_false] at hd;rcases hd with rfl|rfl<;>rfl) (LX Try.func42) (λ h=>IF h) ⟨_,_,Try.func53,rfl,rfl⟩ H
section
variable (o1_:(List (Aa×Bool))) (x_16:(List Aa))
def SC:St:=⟨(0,.clo 54 [.ptr 0 0])::(1,.clo 42 [])::[],[some (.box [.mp 1]),some (.map true false (Bn Ab eB o1_))]⟩
def SD:St:=⟨(4,.osl 2 2 0 (x_16.length))::[],[some (.box [.mp 1]),none,some (.arr 2 (x_16.map Ab))]⟩
variable {o1_ x_16}
theorem IJ {z} (H:DM n o1_=some z):Bd Try.prog 40 [.clo 54 [.ptr 0 0],.clo 42 []] [some (.box [.mp 1]),some (.map true false (Bn Ab eB o1_))] 2 (.osl 2 2 0 (z.length)) [some (.box [.mp 1]),none,some (.arr 2 (z.map Ab))]:=by
 refine fL 12 2 (SC o1_) Try.func40 (sr (ck 1 (en (sq (rn 1 (.refl _) (ck 1 (bx H λ S3 h44 H=>?_)))))))
 have hD:=U0 H
 refine nd0 (nc (yok _ _) [0,1] (J7 h44) rfl (λ r23 hr=>?_))
 have H:=hD r23 hr
 exact ck 1 (en (sr (ck 2 (bx H λ r24 h45 H=>lt [2] (Nt h45) (bx H λ _ h46 H=>en (sq (rg (tr (tr (sn 7 2 2 (HH h46)) (sn 5 2 2 (HH h46))) (sn 8 2 2 (HH h46))) (ck 2 (en (re (by cases H;exact pL (rl (s':=SD z) (sg [4])))))))))))))
end
section
variable (o0_:(List (Aa×Bool))) (x_17:(List Aa))
def SE:St:=⟨(0,.mp 0)::[],[some (.map true false (Bn Ab eB o0_))]⟩
def SF:St:=⟨(2,.osl 1 2 0 (x_17.length))::[],[none,some (.arr 2 (x_17.map Ab))]⟩
variable {o0_ x_17}
theorem Ey {z} (H:Cw n o0_=some z):Bd Try.prog 29 [.mp 0] [some (.map true false (Bn Ab eB o0_))] 1 (.osl 1 2 0 (z.length)) [none,some (.arr 2 (z.map Ab))]:=by
 exact fL 6 1 (SE o0_) Try.func29 (sr (ck 1 (en (sr (ck 1 (bx H λ r25 h47 H=>lt [0] (GM h47) (bx H λ r26 h48 H=>lt [1,0] (IJ h48) (ck 1 (en (re (by cases H;exact pL (rl (s':=SF z) (sg [2])))))))))))))
end
section
variable (p0_:(List Aa)) (x_18:(List (Aa×Bool))) (dots_4:(List (Aa×Bool)))
def SG:St:=⟨(0,.d (.sl (p0_.map Ab)))::[],[]⟩
def SH:St:=⟨(2,.mp 0)::[],[some (.map true false (Bn Ab eB x_18))]⟩
def SI:St:=⟨(3,.mp 0)::[],[some (.map true false (Bn Ab eB dots_4))]⟩
variable {p0_ x_18 dots_4}
theorem Gz {z} (H:Fn n p0_=some z):Bd Try.prog 31 [.d (.sl (p0_.map Ab))] [] 0 (.mp 0) [some (.map true false (Bn Ab eB z))]:=by
 refine fL 21 0 (SG p0_) Try.func31 (sr (ck 1 (en (sr (ck 1 (bx H λ r27 h49 H=>lt [] (Hj h49) (ck 1 (en (sj (λ (x:(List (Aa×Bool)))=>SI x) (λ (x:(List (Aa×Bool)))=>Ew n x) z ?_ (λ hFSh_around_J1=>?_))))))))))
 ·intro dots_4 H
  exact sr (ck 2 (en (re (by cases H;exact pL (rl (s':=SH z) (sg [2]))))))
 refine sr (ck 1 (sp (Bo Ab p0_) (ck 1 (en (cn H (λ H=>?_) (λ H=>?_))))))
 ·exact rx 11 10 (.refl _) (ck 3 (sp (Bo Ab p0_) (ck 1 (bx H λ x9 h50 H=>sp (Bf Ab h50) (ck 2 (bx H λ x10 h51 H=>sp (Bf Ab h51) (ck 1 (mx (bx H λ r28 h52 H=>lt [0] (J4 h52) (nz (qs (sg [3]) (hFSh_around_J1 r28 H))))))))))))
 ·exact sk (qs (sg [3]) (hFSh_around_J1 r27 H))
end
section
variable (p0_:Int) (x_19:Nat)
def SJ:St:=⟨(0,.d (.int .i64 p0_))::[],[]⟩
def SK:St:=⟨(2,.clo x_19 [])::[],[]⟩
variable {p0_ x_19}
theorem J8 {z} (H:Ei n p0_=some z):Bd Try.prog 32 [.d (.int .i64 p0_)] [] 0 (.clo z []) []:=by
 exact fL 8 0 (SJ p0_) Try.func32 (sr (ck 1 (en (sr (ck 3 (en (sr (ck 1 (bx H λ x11 h53 H=>sp (TQ 0 0 4 h53) (sp (U3 (e1:=λ x=>.clo x []) 0 0 4 (ty 59) h53) (ck 1 (en (re (by cases H;exact pL (rl (s':=SK z) (sg [2]))))))))))))))))
end
def VC (p0_:Ah):St:=⟨(0,.agg [.d (.int .i64 p0_.Kind),.d (.int .i64 p0_.Texture),.d (.sl (p0_.P.map Ab))])::[],[]⟩
def VD (p0_:Ah) (r32:(List (Aa×Bool))) (low_1:Aa) (high_1:Aa) (x_20:Int):St:=⟨(1,.ptr 0 0)::(3,.mp 1)::(4,.ptr 2 0)::(5,.ptr 3 0)::(42,.d (.sl (p0_.P.map Ab)))::(43,.d (.int .i64 ((p0_.P.length:Nat):Int)))::(44,.d (.int .i64 x_20))::[],[some (.box (Bw p0_)),some (.map true false (Bn Ab eB r32)),some (.box [.d (.int .i64 low_1.X),.d (.int .i64 low_1.Y)]),some (.box [.d (.int .i64 high_1.X),.d (.int .i64 high_1.Y)])]⟩
def VE (p0_:Ah) (r32:(List (Aa×Bool))) (low_2:Aa) (high_2:Aa):St:=⟨(1,.ptr 0 0)::(3,.mp 1)::(4,.ptr 2 0)::(5,.ptr 3 0)::[],[some (.box (Bw p0_)),some (.map true false (Bn Ab eB r32)),some (.box [.d (.int .i64 low_2.X),.d (.int .i64 low_2.Y)]),some (.box [.d (.int .i64 high_2.X),.d (.int .i64 high_2.Y)])]⟩
def IK (p0_:Ah) (r32:(List (Aa×Bool))):(Aa×Aa)->Ex->St->Prop:=xX 0 1 (λ (y:(Aa×Aa))=>VE p0_ r32 y.1 y.2)
def Fz (p0_:Ah) (r32:(List (Aa×Bool))):(Aa×Aa×Int)->St:=(λ (x:(Aa×Aa×Int))=>VD p0_ r32 x.1 x.2.1 x.2.2)
theorem HS {n:Nat} {p0_:Ah} {r32:(List (Aa×Bool))} (x:(Aa×Aa×Int)) (z:((Aa×Aa×Int)⊕(Aa×Aa))) (H:Cn n p0_ r32 x.1 x.2.1 x.2.2=some z):WP (cxk 106 0) (AE Try.f15) [1,1,1,1,1,0,1,0,0] (AO 0 (Fz p0_ r32) (IK p0_ r32) z) (Fz p0_ r32 x):=by
 obtain ⟨low_1,high_1,x_20⟩:=x
 refine sr (ck 1 (en (sq (cn H (λ H=>?_) (λ H=>?_)))))
 ·exact sk (qz (sq (bk 2 (sr (bx H λ x15 h61 H=>sp (Bf Ab h61) (ck 3 (en (sr (ck 12 (en (rz (ck 12 (ae (qN (qz (rz (ck 2 (ae (by cases H;exact og (sg [1,3,4,5,42,43,44]))))))))))))))))))))
 ·exact ex 1 (qx (by cases H;exact xo rfl (sg [1,3,4,5])))
def VF (p0_:Ah) (y18:(Aa×Aa)) (r33:Nat) (dots_5:(List (Aa×Bool))) (y_1:Int):St:=⟨(1,.ptr 0 0)::(3,.mp 1)::(4,.ptr 2 0)::(5,.ptr 3 0)::(8,.clo r33 [])::(9,.d (.int .i64 y_1))::[],[some (.box (Bw p0_)),some (.map true false (Bn Ab eB dots_5)),some (.box [.d (.int .i64 y18.1.X),.d (.int .i64 y18.1.Y)]),some (.box [.d (.int .i64 y18.2.X),.d (.int .i64 y18.2.Y)])]⟩
def VG (dots_6:(List (Aa×Bool))):St:=⟨(3,.mp 0)::[],[some (.map true false (Bn Ab eB dots_6))]⟩
def VH (p0_:Ah) (y18:(Aa×Aa)) (r33:Nat) (y_1:Int) (dots_7:(List (Aa×Bool))) (x_21:Int):St:=⟨(1,.ptr 0 0)::(3,.mp 1)::(4,.ptr 2 0)::(5,.ptr 3 0)::(8,.clo r33 [])::(9,.d (.int .i64 y_1))::(10,.d (.int .i64 x_21))::[],[some (.box (Bw p0_)),some (.map true false (Bn Ab eB dots_7)),some (.box [.d (.int .i64 y18.1.X),.d (.int .i64 y18.1.Y)]),some (.box [.d (.int .i64 y18.2.X),.d (.int .i64 y18.2.Y)])]⟩
def VI (p0_:Ah) (y18:(Aa×Aa)) (r33:Nat) (y_1:Int) (dots_8:(List (Aa×Bool))):St:=⟨(1,.ptr 0 0)::(3,.mp 1)::(4,.ptr 2 0)::(5,.ptr 3 0)::(8,.clo r33 [])::(9,.d (.int .i64 y_1))::[],[some (.box (Bw p0_)),some (.map true false (Bn Ab eB dots_8)),some (.box [.d (.int .i64 y18.1.X),.d (.int .i64 y18.1.Y)]),some (.box [.d (.int .i64 y18.2.X),.d (.int .i64 y18.2.Y)])]⟩
def VJ (p0_:Ah) (y18:(Aa×Aa)) (r33:Nat) (y_1:Int) (x_21:Int) (dots_9:(List (Aa×Bool))):St:=⟨(1,.ptr 0 0)::(3,.mp 1)::(4,.ptr 2 0)::(5,.ptr 3 0)::(8,.clo r33 [])::(9,.d (.int .i64 y_1))::(10,.d (.int .i64 x_21))::[],[some (.box (Bw p0_)),some (.map true false (Bn Ab eB dots_9)),some (.box [.d (.int .i64 y18.1.X),.d (.int .i64 y18.1.Y)]),some (.box [.d (.int .i64 y18.2.X),.d (.int .i64 y18.2.Y)])]⟩
theorem OM {n x:Nat} {p0_:Aa} {z:Bool} (H:Hf n x p0_=some z):Av Try.prog x [.agg [.d (.int .i64 p0_.X),.d (.int .i64 p0_.Y)]] (.d (.bool z)):=by
 unfold Hf at H
 split at H
 ·rename_i hx;have hx:=YK hx;subst hx;exact HO H
 ·split at H
  ·rename_i hx;have hx:=YK hx;subst hx;exact HP H
  ·split at H
   ·rename_i hx;have hx:=YK hx;subst hx;exact HQ H
   ·split at H
    ·rename_i hx;have hx:=YK hx;subst hx;exact HR H
    ·cases H
section
variable (p0_:Ah) (y18:(Aa×Aa)) (r33:Nat) (y_1:Int)
def IL:(List (Aa×Bool))->Ex->St->Prop:=xX 0 5 (λ (y:(List (Aa×Bool)))=>VI p0_ y18 r33 y_1 y)
def FA:((List (Aa×Bool))×Int)->St:=(λ (x:((List (Aa×Bool))×Int))=>VH p0_ y18 r33 y_1 x.1 x.2)
def IM:(List (Aa×Bool))->Ex->St->Prop:=xX 0 3 (λ (y:(List (Aa×Bool)))=>VG y)
def FB:((List (Aa×Bool))×Int)->St:=(λ (x:((List (Aa×Bool))×Int))=>VF p0_ y18 r33 x.1 x.2)
variable {p0_ y18 r33 y_1}
theorem HT (x:((List (Aa×Bool))×Int)) (z:(((List (Aa×Bool))×Int)⊕(List (Aa×Bool)))) (H:De n p0_ y18 r33 y_1 x.1 x.2=some z):WP (cxk 106 0) (AE Try.f15) [1,1,1,1,1,1,1,0,1,0,0,1,0,0,1,0,0] (AO 0 (FA p0_ y18 r33 y_1) (IL p0_ y18 r33 y_1) z) (FA p0_ y18 r33 y_1 x):=by
 obtain ⟨dots_7,x_21⟩:=x
 refine sq (sr (ck 4 (en (cn H (λ H=>?_) (λ H=>?_)))))
 ·refine sk (qz (sj (λ (x:(List (Aa×Bool)))=>VJ p0_ y18 r33 y_1 x_21 x) (λ (x:(List (Aa×Bool)))=>Dd n x_21 x) z ?_ (λ hFSh_Points_J1=>?_)))
  ·intro dots_9 H
   exact rz (ck 3 (ae (by cases H;exact og (sg [1,3,4,5,8,9,10]))))
  refine bk 6 (sr (ck 5 (en (sr (ck 2 (bx H λ r34 h64 H=>xcv (xok _ _) [] ((OM h64).lent rfl) (ck 2 (gc 1 r34 (ck 1 (bx H λ r35 h65 H=>cG false (leZ) rfl (λ hg=>Bp (BA h65 hg)) (Or.inl rfl) (BT (λ hh=>hh) (BT (λ hh=>hh) (Bt))) rfl (pA (en (cn H (λ H=>?_) (λ H=>?_))))))))))))))
  ·exact rz (ck 2 (sp (Pk (enc:=eB) (encK:=Ab) (k:=1) (e1:=λ x=>.bool x) (m:=dots_7) (l:=[.d (.int .i64 x_21),.d (.int .i64 y_1)]) (key:=({ X:=x_21,Y:=y_1 }:Aa)) (y:=true) (v:=.d (.bool true)) (vz:=[.bool false]) Un) (ae (qN (qs (sg [1,3,4,5,8,9,10]) (hFSh_Points_J1 (FF ({ X:=x_21,Y:=y_1 }:Aa) true dots_7) H))))))
  ·exact sk (qN (qs (sg [1,3,4,5,8,9,10]) (hFSh_Points_J1 dots_7 H)))
 ·exact ex 5 (qx (by cases H;exact xo rfl (sg [1,3,4,5,8,9])))
theorem HU (x:((List (Aa×Bool))×Int)) (z:(((List (Aa×Bool))×Int)⊕(List (Aa×Bool)))) (H:Df n p0_ y18 r33 x.1 x.2=some z):WP (cxk 106 0) (AE Try.f15) [1,1,1,1,1,1,1,0,1,0,0] (AO 0 (FB p0_ y18 r33) (IM) z) (FB p0_ y18 r33 x):=by
 obtain ⟨dots_5,y_1⟩:=x
 refine sq (sr (ck 4 (en (cn H (λ H=>?_) (λ H=>?_)))))
 ·exact sk (qz (sq (bk 4 (sr (ck 3 (en (bk 5 (bx H λ y19 h66 H=>lX HT h66 (sg [1,3,4,5,8,9,10]) rfl λ s hE14=>qH (qN (qs (hE14) (rz (ck 3 (ae (by cases H;exact og (sg [1,3,4,5,8,9])))))))))))))))
 ·exact ex 3 (qx (by cases H;exact xo rfl (sg [3])))
theorem Co {z} (H:A5 n p0_=some z):Av Try.prog 15 [.agg (Bw p0_)] (.own 2 (z.map Ab)):=by
 refine fO 106 (VC p0_) Try.func15 (sr (ck 2 (en (sq (sr (ck 1 (bx H λ r29 h54 H=>ca false (BJ h54) (ck 1 (en (cn H (λ H=>?_) (λ H=>?_)))))))))))
 ·exact sr (ck 1 (en (re (qr (by cases H;exact pr (rO (v:=.d (.nil)) [] (ad vz)))))))
 ·refine sk (qz (sq (sr (ck 2 (en (bk 0 (sr (ck 2 (en (cn H (λ H=>?_) (λ H=>?_)))))))))))
  ·exact sr (ck 2 (bx H λ x12 h55 H=>sp (Bf Ab h55) (ck 3 (en (re (qR (qr (by cases H;exact pr (rO (v:=.osl 1 2 0 (List.length [x12])) [1] (ao vo))))))))))
  ·refine sr (ck 2 (en (cn H (λ H=>?_) (λ H=>?_))))
   ·exact sr (ck 2 (bx H λ r30 h56 H=>lt [] (Hj h56) (bx H λ r31 h57 H=>lt [1] (Ey h57) (ck 1 (en (re (qR (qr (by cases H;exact pr (rO (v:=.osl 2 2 0 (z.length)) [2] (ao vo)))))))))))
   ·exact sk (qN (qz (sr (ck 2 (bx H λ r32 h58 H=>lt [] (Gz h58) (ck 1 (en (sr (ck 2 (bx H λ x13 h59 H=>sp (Bf Ab h59) (ck 3 (bx H λ x14 h60 H=>sp (Bf Ab h60) (ck 5 (en (sq (sr (ck 2 (sp (Bo Ab p0_.P) (ck 1 (en (bk 1 (bx H λ y18 h62 H=>lX HS h62 (sg [1,3,4,5,42,43,44]) rfl λ s hE13=>qH (qs (hE13) (sr (ck 2 (bx H λ r33 h63 H=>lt [] (J8 h63) (ck 1 (en (sq (sr (ck 3 (en (bk 3 (bx H λ y20 h67 H=>lX HU h67 (sg [1,3,4,5,8,9]) rfl λ s hE15=>qH (qs (hE15) (sr (ck 1 (bx H λ r36 h68 H=>lt [0] (Ey h68) (ck 1 (en (re (by cases H;exact pr (rO (v:=.osl 1 2 0 (z.length)) [1] (ao vo))))))))))))))))))))))))))))))))))))))))))))
end
section
variable (p0_:(List Aa)) (p1_:(List Aa)) (i_2:Int)
def VK:St:=⟨(0,.d (.sl (p0_.map Ab)))::(1,.d (.sl (p1_.map Ab)))::[],[]⟩
def VL:St:=⟨(0,.d (.sl (p0_.map Ab)))::(1,.d (.sl (p1_.map Ab)))::(5,.d (.int .i64 i_2))::[],[]⟩
def VM:St:=⟨[],[]⟩
def J9:(Unit⊕Bool)->Ex->St->Prop:=xS (xX 0 0 (λ (y:Unit)=>VM)) (xR ty Try.f14 (λ (y:Bool)=>.d (.bool y)))
def F5:Int->St:=(λ (x:Int)=>VL p0_ p1_ x)
variable {p0_ p1_ i_2}
theorem FC (x:Int) (z:(Int⊕(Unit⊕Bool))) (H:DN n p0_ p1_ x=some z):WP (cxk 26 0) (AE Try.f14) [1,1,0,1,0,0] (AO 0 (F5 p0_ p1_) (J9) z) (F5 p0_ p1_ x):=by
 revert H
 generalize x=i_2
 intro H
 refine sq (sr (ck 2 (sp (Bo Ab p0_) (ck 1 (en (cn H (λ H=>?_) (λ H=>?_)))))))
 ·refine sk (qz (sq (bk 1 (sr (ck 2 (bx H λ x16 h69 H=>sp (Bf Ab h69) (ck 3 (bx H λ x17 h70 H=>sp (Bf Ab h70) (ck 2 (en (cn H (λ H=>?_) (λ H=>?_))))))))))))
  ·exact sr (ck 1 (en (re (qR (qr (by cases H;exact ro rfl rd))))))
  ·exact sk (qN (qz (rz (ck 3 (ae (by cases H;exact og (sg [0,1,5])))))))
 ·exact ex 0 (qx (by cases H;exact xo rfl (sg [])))
theorem DR {z} (H:C7 n p0_ p1_=some z):Av Try.prog 14 [.d (.sl (p0_.map Ab)),.d (.sl (p1_.map Ab))] (.d (.bool z)):=by
 refine fO 26 (VK p0_ p1_) Try.func14 (sr (ck 1 (en (sq (sr (ck 1 (sp (Bo Ab p0_) (ck 1 (sp (Bo Ab p1_) (ck 1 (en (cn H (λ H=>?_) (λ H=>?_)))))))))))))
 ·exact sr (ck 1 (en (re (qr (by cases H;exact pr rd)))))
 ·refine sk (qz (sq (sr (ck 1 (en (bk 0 (bx H λ y21 h71 H=>?_)))))))
  rcases y21 with y22|y23
  ·exact lX FC h71 (sg [0,1,5]) rfl λ s hE16=>qH (qs (hE16) (sr (ck 1 (en (re (by cases H;exact pr rd))))))
  ·exact lR FC h71 (sg [0,1,5]) rfl λ s hE17=>qR (qr (by cases H;exact pr hE17))
end
section
variable (p0_:(List Aa))
def VN:St:=⟨(0,.d (.sl (p0_.map Ab)))::[],[]⟩
variable {p0_}
theorem F6 {z} (H:Dr n p0_=some z):Av Try.prog 17 [.d (.sl (p0_.map Ab))] (.own 2 (z.map Ab)):=by
 exact fO 6 (VN p0_) Try.func17 (sr (ck 1 (en (sr (ck 1 (bx H λ r37 h72 H=>lt [] (Gz h72) (bx H λ r38 h73 H=>lt [0] (Ey h73) (ck 1 (en (re (by cases H;exact pr (rO (v:=.osl 1 2 0 (z.length)) [1] (ao vo)))))))))))))
end
def VO:St:=⟨[],[]⟩
theorem Ka {z} (H:FV n=some z):Av Try.prog 10 [] (.d (.bool z)):=by
 exact fO 116 VO Try.func10 (sr (ck 1 (en (sr (bx H λ r39 h74 H=>ca false (Ax h74) (ck 4 (en (sr (bx H λ r40 h75 H=>ca false (Ax h75) (bx H λ r41 h76 H=>ca false (Ax h76) (ck 4 (en (sr (bx H λ r42 h77 H=>ca false (AS h77) (ck 3 (en (sr (bx H λ r43 h78 H=>ca false (AS h78) (ck 3 (en (sr (ck 1 (bx H λ r44 h79 H=>cb (ks:=[0]) (obl:=[(0+List.length [r39],List.length (List.map Ab [r39]))]) false (leK leM (leZ)) (Cb (TH (Cb rfl (Cb rfl (Cb Hb rfl)))) rfl) (Co h79) (Or.inr (UT λ _=>rfl)) rfl (ck 2 (bx H λ r45 h80 H=>cb (ks:=[0]) (obl:=[(0+List.length [r39],List.length (List.map Ab [r39]))]) false (leK leM (leZ)) (Cb rfl (Cb Hb rfl)) (DR h80) (Or.inr trivial) rfl (ck 2 (bx H λ r46 h81 H=>cG (ks:=[2]) (obl:=[(0+List.length [r40,r41],List.length (List.map Ab [r40,r41]))]) false (leK leM (leZ)) (Cb (TH (Cb rfl (Cb rfl (Cb Hb rfl)))) rfl) (λ hg=>Co (BA h81 hg)) (Or.inr (UT λ _=>rfl)) (BT (λ hh=>hh) (Bt)) rfl (bx H λ r47 h82 H=>cG false (leZ) rfl (λ hg=>Ax (BA h82 hg)) (Or.inl rfl) (Bt) rfl (bx H λ r48 h83 H=>cG false (leZ) rfl (λ hg=>Ax (BA h83 hg)) (Or.inl rfl) (Bt) rfl (bx H λ r49 h84 H=>cG false (leZ) rfl (λ hg=>Ax (BA h84 hg)) (Or.inl rfl) (Bt) rfl (gc 1 r45 (bx H λ r50 h85 H=>cG (ks:=[6]) (obl:=[(0+List.length [r47,r48,r49],List.length (List.map Ab [r47,r48,r49]))]) false (leK leM (leZ)) (Cb rfl (Cb Hb rfl)) (λ hg=>DR (BA h85 hg)) (Or.inr trivial) (BT (λ hh=>hh) (BT (λ hh=>hh) (Bt))) rfl (pA (ck 2 (bx H λ r51 h86 H=>cG false (leZ) rfl (λ hg=>Co (BA h86 hg)) (Or.inl rfl) (BT (λ hh=>hh) (Bt)) rfl (sE (g:=(r45&&r50)) (λ hg=>Bo Ab r51) (gc 1 (r45&&r50) (pA (ck 2 (bx H λ r52 h87 H=>cG false (leZ) rfl (λ hg=>Co (BA h87 hg)) (Or.inl rfl) (BT (λ hh=>hh) (Bt)) rfl (sE (g:=((r45&&r50)&&(((r51.length:Nat):Int)==8))) (λ hg=>Bo Ab r52) (gc 1 ((r45&&r50)&&(((r51.length:Nat):Int)==8)) (pA (ck 1 (en (sr (ck 1 (bx H λ r53 h88 H=>cb (ks:=[0]) (obl:=[(0+List.length [r39],List.length (List.map Ab [r39]))]) false (leK leM (leZ)) (Cb (TH (Cb rfl (Cb rfl (Cb Hb rfl)))) rfl) (BJ h88) (Or.inr trivial) rfl (ck 2 (bx H λ r54 h89 H=>cG false (leZ) rfl (λ hg=>BJ (BA h89 hg)) (Or.inl rfl) (BT (λ hh=>hh) (Bt)) rfl (pA (ck 2 (bx H λ r55 h90 H=>cG false (leZ) rfl (λ hg=>BJ (BA h90 hg)) (Or.inl rfl) (BT (λ hh=>hh) (Bt)) rfl (gc 1 (r53&&r54) (pA (ck 1 (bx H λ r56 h91 H=>cG false (leZ) rfl (λ hg=>AS (BA h91 hg)) (Or.inl rfl) (Bt) rfl (gc 1 ((r53&&r54)&&(!r55)) (bx H λ r57 h92 H=>cG false (leZ) rfl (λ hg=>BJ (BA h92 hg)) (Or.inl rfl) (BT (λ hh=>hh) (Bt)) rfl (gc 1 ((r53&&r54)&&(!r55)) (pA (ck 1 (bx H λ r58 h93 H=>cG false (leZ) rfl (λ hg=>AS (BA h93 hg)) (Or.inl rfl) (Bt) rfl (gc 1 (((r53&&r54)&&(!r55))&&(!r57)) (bx H λ r59 h94 H=>cG false (leZ) rfl (λ hg=>BJ (BA h94 hg)) (Or.inl rfl) (BT (λ hh=>hh) (Bt)) rfl (gc 1 (((r53&&r54)&&(!r55))&&(!r57)) (pA (ck 1 (bx H λ r60 h95 H=>cG false (leZ) rfl (λ hg=>Ax (BA h95 hg)) (Or.inl rfl) (Bt) rfl (gc 2 ((((r53&&r54)&&(!r55))&&(!r57))&&(!r59)) (bx H λ r61 h96 H=>cG (ks:=[7]) (obl:=[(0+List.length [r60],List.length (List.map Ab [r60]))]) false (leK leM (leZ)) (Cb (TH (Cb rfl (Cb rfl (Cb Hb rfl)))) rfl) (λ hg=>BJ (BA h96 hg)) (Or.inr trivial) (BT (λ hh=>hh) (Bt)) rfl (gc 1 ((((r53&&r54)&&(!r55))&&(!r57))&&(!r59)) (pA (ck 1 (en (sr (ck 3 (pA (ck 1 (bx H λ r62 h97 H=>cG false (leZ) rfl (λ hg=>AS (BA h97 hg)) (Or.inl rfl) (Bt) rfl (bx H λ r63 h98 H=>cG false (leZ) rfl (λ hg=>Ax (BA h98 hg)) (Or.inl rfl) (Bt) rfl (bx H λ r64 h99 H=>cG false (leZ) rfl (λ hg=>Bp (BA h99 hg)) (Or.inl rfl) (BT (λ hh=>hh) (BT (λ hh=>hh) (Bt))) rfl (pA (ck 1 (bx H λ r65 h100 H=>cG false (leZ) rfl (λ hg=>AS (BA h100 hg)) (Or.inl rfl) (Bt) rfl (bx H λ r66 h101 H=>cG false (leZ) rfl (λ hg=>Ax (BA h101 hg)) (Or.inl rfl) (Bt) rfl (bx H λ r67 h102 H=>cG false (leZ) rfl (λ hg=>Bp (BA h102 hg)) (Or.inl rfl) (BT (λ hh=>hh) (BT (λ hh=>hh) (Bt))) rfl (pA (ck 1 (bx H λ r68 h103 H=>cG false (leZ) rfl (λ hg=>AS (BA h103 hg)) (Or.inl rfl) (Bt) rfl (bx H λ r69 h104 H=>cG false (leZ) rfl (λ hg=>Ax (BA h104 hg)) (Or.inl rfl) (Bt) rfl (bx H λ r70 h105 H=>cG false (leZ) rfl (λ hg=>Bp (BA h105 hg)) (Or.inl rfl) (BT (λ hh=>hh) (BT (λ hh=>hh) (Bt))) rfl (pA (ck 1 (bx H λ r71 h106 H=>cG false (leZ) rfl (λ hg=>AS (BA h106 hg)) (Or.inl rfl) (Bt) rfl (bx H λ r72 h107 H=>cG false (leZ) rfl (λ hg=>Ax (BA h107 hg)) (Or.inl rfl) (Bt) rfl (bx H λ r73 h108 H=>cG false (leZ) rfl (λ hg=>Bp (BA h108 hg)) (Or.inl rfl) (BT (λ hh=>hh) (BT (λ hh=>hh) (Bt))) rfl (gc 1 (((((((r45&&r50)&&(((r51.length:Nat):Int)==8))&&(((r52.length:Nat):Int)==9))&&(((((r53&&r54)&&(!r55))&&(!r57))&&(!r59))&&(!r61)))&&r64)&&r67)&&r70) (pA (ck 1 (bx H λ r74 h109 H=>cG false (leZ) rfl (λ hg=>AS (BA h109 hg)) (Or.inl rfl) (Bt) rfl (bx H λ r75 h110 H=>cG false (leZ) rfl (λ hg=>Ax (BA h110 hg)) (Or.inl rfl) (Bt) rfl (bx H λ r76 h111 H=>cG false (leZ) rfl (λ hg=>Bp (BA h111 hg)) (Or.inl rfl) (BT (λ hh=>hh) (BT (λ hh=>hh) (Bt))) rfl (gc 1 ((((((((r45&&r50)&&(((r51.length:Nat):Int)==8))&&(((r52.length:Nat):Int)==9))&&(((((r53&&r54)&&(!r55))&&(!r57))&&(!r59))&&(!r61)))&&r64)&&r67)&&r70)&&(!r73)) (pA (ck 1 (bx H λ r77 h112 H=>cG false (leZ) rfl (λ hg=>Ax (BA h112 hg)) (Or.inl rfl) (Bt) rfl (bx H λ r78 h113 H=>cG false (leZ) rfl (λ hg=>Bp (BA h113 hg)) (Or.inl rfl) (BT (λ hh=>hh) (Bt)) rfl (gc 1 (((((((((r45&&r50)&&(((r51.length:Nat):Int)==8))&&(((r52.length:Nat):Int)==9))&&(((((r53&&r54)&&(!r55))&&(!r57))&&(!r59))&&(!r61)))&&r64)&&r67)&&r70)&&(!r73))&&(!r76)) (pA (ck 1 (bx H λ r79 h114 H=>cG false (leZ) rfl (λ hg=>AS (BA h114 hg)) (Or.inl rfl) (Bt) rfl (bx H λ r80 h115 H=>cG false (leZ) rfl (λ hg=>F6 (BA h115 hg)) (Or.inl rfl) (BT (λ hh=>hh) (Bt)) rfl (sE (g:=((((((((((r45&&r50)&&(((r51.length:Nat):Int)==8))&&(((r52.length:Nat):Int)==9))&&(((((r53&&r54)&&(!r55))&&(!r57))&&(!r59))&&(!r61)))&&r64)&&r67)&&r70)&&(!r73))&&(!r76))&&(!r78))) (λ hg=>Bo Ab r80) (gc 1 ((((((((((r45&&r50)&&(((r51.length:Nat):Int)==8))&&(((r52.length:Nat):Int)==9))&&(((((r53&&r54)&&(!r55))&&(!r57))&&(!r59))&&(!r61)))&&r64)&&r67)&&r70)&&(!r73))&&(!r76))&&(!r78)) (pA (ck 1 (en (re (by cases H;exact pr rd))))))))))))))))))))))))))))))))))))))))))))))))))))))))))))))))))))))))))))))))))))))))))))))))))))))))))))))))))))))))
section
variable (p0_:(List (KA Int))) (p1_:Int) (out_1:(List Aa)) (i_3:Int) (out_2:(List Aa))
def VP:St:=⟨(0,.d (.sl (p0_.map (Fw eU8))))::(1,.d (.int .i64 p1_))::[],[]⟩
def VQ:St:=⟨(0,.d (.sl (p0_.map (Fw eU8))))::(1,.d (.int .i64 p1_))::(5,.osl 0 2 0 (out_1.length))::(6,.d (.int .i64 i_3))::[],[some (.arr 2 (out_1.map Ab))]⟩
def VR:St:=⟨(5,.osl 0 2 0 (out_2.length))::[],[some (.arr 2 (out_2.map Ab))]⟩
def Hk:(List Aa)->Ex->St->Prop:=xX 0 0 (λ (y:(List Aa))=>VR y)
def En:((List Aa)×Int)->St:=(λ (x:((List Aa)×Int))=>VQ p0_ p1_ x.1 x.2)
variable {p0_ p1_ out_1 i_3 out_2}
theorem GN (x:((List Aa)×Int)) (z:(((List Aa)×Int)⊕(List Aa))) (H:Cr n p0_ p1_ x.1 x.2=some z):WP (cxk 38 0) (AE Try.f28) [1,1,0,1,0,0] (AO 0 (En p0_ p1_) (Hk) z) (En p0_ p1_ x):=by
 obtain ⟨out_1,i_3⟩:=x
 refine sq (sr (ck 2 (sp (Bo (Fw eU8) p0_) (ck 4 (gc 1 (decide (i_3<((p0_.length:Nat):Int))) (pA (en (cn H (λ H=>?_) (λ H=>?_)))))))))
 ·exact sk (qz (sq (bk 1 (rz (ck 3 (bx H λ x18 h116 H=>sp (Bf (Fw eU8) h116) (ck 6 (bx H λ x19 h117 H=>sp (Bf (Fw eU8) h117) (ck 6 (bx H λ l7 h118 H=>sp (Fh Ab 0 2 h118) (ck 1 (ae (qN (qz (rz (ck 3 (ae (by cases H;exact og (sg [0,1,5,6])))))))))))))))))))
 ·exact ex 0 (qx (by cases H;exact xo rfl (sg [5])))
theorem IN {z} (H:Fp n p0_ p1_=some z):Av Try.prog 28 [.d (.sl (p0_.map (Fw eU8))),.d (.int .i64 p1_)] (.own 2 (z.map Ab)):=by
 exact fO 38 (VP p0_ p1_) Try.func28 (sr (ck 1 (en (sr (ck 2 (en (sq (sr (ck 1 (en (bk 0 (bx H λ y24 h119 H=>lX GN h119 (sg [0,1,5,6]) rfl λ s hE18=>qH (qs (hE18) (sr (ck 2 (en (re (by cases H;exact pr (rO (v:=.osl 0 2 0 (z.length)) [0] (ao vo))))))))))))))))))))
end
section
variable (p0_:HJ) (l_3:(List Aa)) (l_4:(List Aa))
def VS:St:=⟨(0,.agg [.d (.int .u8 p0_.Kind),.d (.int .u8 p0_.Texture),.d (.sl (p0_.L.map (Fw eU8)))])::[],[]⟩
def VT:St:=⟨(1,.ptr 0 0)::(2,.ptr 1 0)::(3,.osl 2 2 0 (l_3.length))::[],[some (.box (TZ p0_)),some (.box [.d (.int .i64 0),.d (.int .i64 0),.osl 3 2 0 (List.length ([]:List Aa))]),some (.arr 2 (l_3.map Ab)),some (.arr 2 (List.map Ab ([]:List Aa)))]⟩
def VU:St:=⟨(1,.ptr 0 0)::(2,.ptr 1 0)::(3,.osl 2 2 0 (l_4.length))::[],[some (.box (TZ p0_)),some (.box [.d (.int .i64 0),.d (.int .i64 0),.osl 3 2 0 (List.length ([]:List Aa))]),some (.arr 2 (l_4.map Ab)),some (.arr 2 (List.map Ab ([]:List Aa)))]⟩
def Kb:(List Aa)->Ex->St->Prop:=xX 0 0 (λ (y:(List Aa))=>VU p0_ y)
def F7:(List Aa)->St:=(λ (x:(List Aa))=>VT p0_ x)
variable {p0_ l_3 l_4}
theorem IP (x:(List Aa)) (z:((List Aa)⊕(List Aa))) (H:DO n p0_ x=some z):WP (cxk 50 0) (AE Try.f11) [1,1,0,0,0] (AO 0 (F7 p0_) (Kb p0_) z) (F7 p0_ x):=by
 revert H
 generalize x=l_3
 intro H
 refine sq (sr (ck 3 (en (cn H (λ H=>?_) (λ H=>?_)))))
 ·exact sk (qz (bk 1 (rz (ck 12 (bx H λ l8 h121 H=>sp (Fh Ab 2 2 h121) (ck 1 (ae (qN (by cases H;exact og (sg [1,2,3]))))))))))
 ·exact ex 0 (qx (by cases H;exact xo rfl (sg [1,2,3])))
theorem L4 {z} (H:HK n p0_=some z):Av Try.prog 11 [.agg (TZ p0_)] (.agg [.d (.int .i64 z.Kind),.d (.int .i64 z.Texture),.own 2 (z.P.map Ab)]):=by
 refine fO 50 (VS p0_) Try.func11 (sr (ck 2 (en (sr (ck 2 (bx H λ r81 h120 H=>cl [List.length r81] (IN h120) (ck 1 (en (sq (bk 0 (bx H λ y25 h122 H=>lX IP h122 (tr (Pg 1 2 2 (by kernel_rfl)) (sg [1,2,3])) rfl λ s hE19=>qH (qs (hE19) (sq (sr (ck 3 (en (bk 2 (sr (ck 2 (en (cn H (λ H=>?_) (λ H=>?_))))))))))))))))))))))
 ·exact sr (ck 1 (bx H λ l9 h123 H=>sp (RU 2 2 h123) (ck 2 (ae (qs (LS (k:=2) (sz:=2) 1 2 (l9.map Ab) (l9.length) (by kernel_rfl) (Ph h123) (RO (enc:=Ab) h123) (Pi h123)) (re (qR (qr (by cases H;exact pr (rO (v:=.agg [.d (.int .i64 1),.d (.int .i64 0),.osl 4 2 0 (l9.length)]) [4] (a1 (c1 vd (c1 vd (c1 vo (c0)))))))))))))))
 ·refine sr (ck 2 (en (cn H (λ H=>?_) (λ H=>?_))))
  ·exact sr (ck 7 (bx H λ gd4 h124 H=>so (D1 h124) (ck 1 (bx H λ l10 h125 H=>sp (RU 2 2 h125) (ck 2 (ae (qs (LS (k:=2) (sz:=2) 1 2 (l10.map Ab) (l10.length) (by kernel_rfl) (Ph h125) (RO (enc:=Ab) h125) (Pi h125)) (re (qR (qr (by cases H;exact pr (rO (v:=.agg [.d (.int .i64 2),.d (.int .i64 0),.osl 4 2 0 (l10.length)]) [4] (a1 (c1 vd (c1 vd (c1 vo (c0)))))))))))))))))
  ·exact sk (qN (qz (sr (ck 7 (en (re (by cases H;exact pr (rO (v:=.agg [.d (.int .i64 3),.d (.int .i64 (IntKind.i64.wrap (BM p0_.Texture 4))),.osl 2 2 0 (y25.length)]) [2] (a1 (c1 vd (c1 vd (c1 vo (c0)))))))))))))
end
section
variable (p0_:(List Aa)) (p1_:Int)
def VV:St:=⟨(0,.d (.sl (p0_.map Ab)))::(1,.d (.int .i64 p1_))::[],[]⟩
variable {p0_ p1_}
theorem Hl {z} (H:EM n p0_ p1_=some z):Av Try.prog 37 [.d (.sl (p0_.map Ab)),.d (.int .i64 p1_)] (.tup [.agg [.d (.int .i64 z.1.X),.d (.int .i64 z.1.Y)],.agg [.d (.int .i64 z.2.X),.d (.int .i64 z.2.Y)]]):=by
 exact fO 18 (VV p0_ p1_) Try.func37 (sr (ck 2 (en (sr (ck 2 (bx H λ x20 h126 H=>sp (Bf Ab h126) (ck 5 (sp (Bo Ab p0_) (bx H λ gd5 h127 H=>so (D1 h127) (bx H λ x21 h128 H=>sp (Bf Ab h128) (ck 3 (en (re (by cases H;exact pr rdT))))))))))))))
end
section
variable (p0_:Int)
def VW:St:=⟨(0,.d (.int .i64 p0_))::[],[]⟩
variable {p0_}
theorem Iz {z} (H:Hg n p0_=some z):Av Try.prog 65 [.d (.int .i64 p0_)] (.d (.int .i64 z)):=by
 exact fO 7 (VW p0_) Try.func65 (sr (ck 1 (en (sr (ck 5 (en (re (by cases H;exact pr rd))))))))
end
section
variable (p0_:Aa) (p1_:Aa)
def VX:St:=⟨(0,.agg [.d (.int .i64 p0_.X),.d (.int .i64 p0_.Y)])::(1,.agg [.d (.int .i64 p1_.X),.d (.int .i64 p1_.Y)])::[],[]⟩
variable {p0_ p1_}
theorem Nu {z} (H:Hh n p0_ p1_=some z):Av Try.prog 57 [.agg [.d (.int .i64 p0_.X),.d (.int .i64 p0_.Y)],.agg [.d (.int .i64 p1_.X),.d (.int .i64 p1_.Y)]] (.d (.int .i64 z)):=by
 exact fO 18 (VX p0_ p1_) Try.func57 (sr (ck 3 (en (sr (ck 5 (bx H λ r82 h129 H=>ca false (Iz h129) (ck 5 (bx H λ r83 h130 H=>ca false (Iz h130) (ck 2 (en (re (by cases H;exact pr rd))))))))))))
end
section
variable (p0_:Int) (p1_:Int) (q_1:Int)
def VY:St:=⟨(0,.d (.int .i64 p0_))::(1,.d (.int .i64 p1_))::[],[]⟩
def VZ:St:=⟨(5,.d (.int .i64 q_1))::[],[]⟩
variable {p0_ p1_ q_1}
theorem GA {z} (H:D2 n p0_ p1_=some z):Av Try.prog 58 [.d (.int .i64 p0_),.d (.int .i64 p1_)] (.d (.int .i64 z)):=by
 refine fO 16 (VY p0_ p1_) Try.func58 (sr (ck 1 (en (sr (ck 2 (bx H λ gd6 h131 H=>so (D1 h131) (ck 1 (en (sj (λ (x:Int)=>VZ x) (λ (x:Int)=>Dg n x) z ?_ (λ hFR12_floor_J1=>?_))))))))))
 ·intro q_1 H
  exact sr (ck 2 (en (re (by cases H;exact pr rd))))
 refine sr (ck 2 (bx H λ gd7 h132 H=>so (D1 h132) (ck 1 (en (cn H (λ H=>?_) (λ H=>?_))))))
 ·exact rz (ck 3 (ae (qs (sg [5]) (hFR12_floor_J1 (A0 .i64 (Kt .i64 p0_ p1_) 1) H))))
 ·exact sk (qs (sg [5]) (hFR12_floor_J1 (Kt .i64 p0_ p1_) H))
end
section
variable (p0_:Aa) (p1_:Aa) (r84:Int) (out_3:(List Aa)) (k_1:Int) (out_4:(List Aa))
def V0:St:=⟨(0,.agg [.d (.int .i64 p0_.X),.d (.int .i64 p0_.Y)])::(1,.agg [.d (.int .i64 p1_.X),.d (.int .i64 p1_.Y)])::[],[]⟩
def V1:St:=⟨(2,.ptr 0 0)::(3,.ptr 1 0)::(5,.d (.int .i64 r84))::(6,.osl 2 2 0 (out_3.length))::(7,.d (.int .i64 k_1))::[],[some (.box [.d (.int .i64 p0_.X),.d (.int .i64 p0_.Y)]),some (.box [.d (.int .i64 p1_.X),.d (.int .i64 p1_.Y)]),some (.arr 2 (out_3.map Ab))]⟩
def V2:St:=⟨(6,.osl 0 2 0 (out_4.length))::[],[some (.arr 2 (out_4.map Ab))]⟩
def Kc:(List Aa)->Ex->St->Prop:=xX 0 0 (λ (y:(List Aa))=>V2 y)
def F8:((List Aa)×Int)->St:=(λ (x:((List Aa)×Int))=>V1 p0_ p1_ r84 x.1 x.2)
variable {p0_ p1_ r84 out_3 k_1 out_4}
theorem IQ (x:((List Aa)×Int)) (z:(((List Aa)×Int)⊕(List Aa))) (H:DP n p0_ p1_ r84 x.1 x.2=some z):WP (cxk 66 0) (AE Try.f50) [1,1,1,0,1,0,0] (AO 0 (F8 p0_ p1_ r84) (Kc) z) (F8 p0_ p1_ r84 x):=by
 obtain ⟨out_3,k_1⟩:=x
 refine sq (sr (ck 3 (en (cn H (λ H=>?_) (λ H=>?_)))))
 ·exact sk (qz (sq (bk 1 (sr (ck 17 (bx H λ r85 h134 H=>ca false (GA h134) (ck 1 (en (sr (ck 17 (bx H λ r86 h135 H=>ca false (GA h135) (ck 1 (en (rz (ck 5 (bx H λ l11 h136 H=>sp (Fh Ab 2 2 h136) (ck 1 (ae (qN (qz (rz (ck 3 (ae (by cases H;exact og (sg [2,3,5,6,7])))))))))))))))))))))))))
 ·exact ex 0 (qx (by cases H;exact xo rfl (sg [6])))
theorem L5 {z} (H:HL n p0_ p1_=some z):Av Try.prog 50 [.agg [.d (.int .i64 p0_.X),.d (.int .i64 p0_.Y)],.agg [.d (.int .i64 p1_.X),.d (.int .i64 p1_.Y)]] (.own 2 (z.map Ab)):=by
 refine fO 66 (V0 p0_ p1_) Try.func50 (sr (ck 3 (en (sr (ck 2 (bx H λ r84 h133 H=>ca false (Nu h133) (ck 3 (en (sq (sr (ck 2 (en (cn H (λ H=>?_) (λ H=>?_))))))))))))))
 ·exact sr (ck 3 (en (re (qr (by cases H;exact pr (rO (v:=.osl 3 2 0 (List.length [p0_])) [3] (ao vo)))))))
 ·exact sk (qz (sq (sr (ck 1 (en (bk 0 (bx H λ y26 h137 H=>lX IQ h137 (sg [2,3,5,6,7]) rfl λ s hE20=>qH (qs (hE20) (sr (ck 2 (en (re (by cases H;exact pr (rO (v:=.osl 0 2 0 (z.length)) [0] (ao vo)))))))))))))))
end
section
variable (p0_:(List Aa)) (p1_:Int) (out_5:(List Aa)) (i_4:Int) (out_6:(List Aa))
def V3:St:=⟨(0,.d (.sl (p0_.map Ab)))::(1,.d (.int .i64 p1_))::[],[]⟩
def V4:St:=⟨(0,.d (.sl (p0_.map Ab)))::(1,.d (.int .i64 p1_))::(5,.osl 0 2 0 (out_5.length))::(6,.d (.int .i64 i_4))::[],[some (.arr 2 (out_5.map Ab))]⟩
def V5:St:=⟨(5,.osl 0 2 0 (out_6.length))::[],[some (.arr 2 (out_6.map Ab))]⟩
def IR:(List Aa)->Ex->St->Prop:=xX 0 0 (λ (y:(List Aa))=>V5 y)
def FD:((List Aa)×Int)->St:=(λ (x:((List Aa)×Int))=>V4 p0_ p1_ x.1 x.2)
variable {p0_ p1_ out_5 i_4 out_6}
theorem HV (x:((List Aa)×Int)) (z:(((List Aa)×Int)⊕(List Aa))) (H:Dh n p0_ p1_ x.1 x.2=some z):WP (cxk 27 0) (AE Try.f34) [1,1,0,1,0,0] (AO 0 (FD p0_ p1_) (IR) z) (FD p0_ p1_ x):=by
 obtain ⟨out_5,i_4⟩:=x
 refine sq (sr (ck 3 (en (cn H (λ H=>?_) (λ H=>?_)))))
 ·exact sk (qz (sq (bk 1 (sr (ck 2 (bx H λ r87 h138 H=>ca false (Hl h138) (ck 7 (en (rz (ck 3 (bx H λ r88 h139 H=>ca false (L5 h139) (bx H λ l12 h140 H=>sp (UR Ab 0 2 h140) (ck 1 (ae (qN (qz (rz (ck 3 (ae (by cases H;exact og (sg [0,1,5,6])))))))))))))))))))))
 ·exact ex 0 (qx (by cases H;exact xo rfl (sg [5])))
theorem Ez {z} (H:D3 n p0_ p1_=some z):Av Try.prog 34 [.d (.sl (p0_.map Ab)),.d (.int .i64 p1_)] (.own 2 (z.map Ab)):=by
 exact fO 27 (V3 p0_ p1_) Try.func34 (sr (ck 1 (en (sr (ck 2 (en (sq (sr (ck 1 (en (bk 0 (bx H λ y27 h141 H=>lX HV h141 (sg [0,1,5,6]) rfl λ s hE21=>qH (qs (hE21) (sr (ck 2 (en (re (by cases H;exact pr (rO (v:=.osl 0 2 0 (z.length)) [0] (ao vo))))))))))))))))))))
end
section
variable (p0_:(List Aa)) (there_1:(List (List Bool))) (i_5:Int) (there_2:(List (List Bool))) (there_3:(List (List Bool))) (y28:(List (List Bool))) (out_7:(List Aa)) (y_2:Int) (out_8:(List Aa)) (out_9:(List Aa)) (x_22:Int) (out_10:(List Aa)) (out_11:(List Aa))
def V6:St:=⟨(0,.d (.sl (p0_.map Ab)))::[],[]⟩
def V7:St:=⟨(0,.d (.sl (p0_.map Ab)))::(3,.eptr 0 60 0 0)::(4,.d (.int .i64 i_5))::[],[some (.arr 60 (List.map (List.map D.bool) there_1))]⟩
def V8:St:=⟨(3,.eptr 0 60 0 0)::[],[some (.arr 60 (List.map (List.map D.bool) there_2))]⟩
def V9:St:=⟨(0,.d (.sl (p0_.map Ab)))::(3,.eptr 0 60 0 0)::(4,.d (.int .i64 i_5))::[],[some (.arr 60 (List.map (List.map D.bool) there_3))]⟩
def HW:(List (List Bool))->Ex->St->Prop:=xX 0 0 (λ (y:(List (List Bool)))=>V8 y)
def EQ:((List (List Bool))×Int)->St:=(λ (x:((List (List Bool))×Int))=>V7 p0_ x.1 x.2)
def Wa:St:=⟨(3,.eptr 0 60 0 0)::(6,.osl 1 2 0 (out_7.length))::(7,.d (.int .i64 y_2))::[],[some (.arr 60 (List.map (List.map D.bool) y28)),some (.arr 2 (out_7.map Ab))]⟩
def Wb:St:=⟨(6,.osl 0 2 0 (out_8.length))::[],[some (.arr 2 (out_8.map Ab))]⟩
def Wc:St:=⟨(3,.eptr 0 60 0 0)::(6,.osl 1 2 0 (out_9.length))::(7,.d (.int .i64 y_2))::(8,.d (.int .i64 x_22))::[],[some (.arr 60 (List.map (List.map D.bool) y28)),some (.arr 2 (out_9.map Ab))]⟩
def Wd:St:=⟨(3,.eptr 0 60 0 0)::(6,.osl 1 2 0 (out_10.length))::(7,.d (.int .i64 y_2))::[],[some (.arr 60 (List.map (List.map D.bool) y28)),some (.arr 2 (out_10.map Ab))]⟩
def We:St:=⟨(3,.eptr 0 60 0 0)::(6,.osl 1 2 0 (out_11.length))::(7,.d (.int .i64 y_2))::(8,.d (.int .i64 x_22))::[],[some (.arr 60 (List.map (List.map D.bool) y28)),some (.arr 2 (out_11.map Ab))]⟩
def HX:(List Aa)->Ex->St->Prop:=xX 0 4 (λ (y:(List Aa))=>Wd y28 y_2 y)
def ES:((List Aa)×Int)->St:=(λ (x:((List Aa)×Int))=>Wc y28 y_2 x.1 x.2)
def HY:(List Aa)->Ex->St->Prop:=xX 0 2 (λ (y:(List Aa))=>Wb y)
def ET:((List Aa)×Int)->St:=(λ (x:((List Aa)×Int))=>Wa y28 x.1 x.2)
variable {p0_ there_1 i_5 there_2 there_3 y28 out_7 y_2 out_8 out_9 x_22 out_10 out_11}
theorem Hm (x:((List (List Bool))×Int)) (z:(((List (List Bool))×Int)⊕(List (List Bool)))) (H:CL n p0_ x.1 x.2=some z):WP (cxk 65 0) (AE Try.f33) [1,1,0,1,0,0] (AO 0 (EQ p0_) (HW) z) (EQ p0_ x):=by
 obtain ⟨there_1,i_5⟩:=x
 refine sq (sr (ck 2 (sp (Bo Ab p0_) (ck 1 (en (cn H (λ H=>?_) (λ H=>?_)))))))
 ·refine sk (qz (sj (λ (x:(List (List Bool)))=>V9 p0_ i_5 x) (λ (x:(List (List Bool)))=>CK n i_5 x) z ?_ (λ hFR13_sorted_J1=>?_)))
  ·intro there_3 H
   exact rz (ck 3 (ae (by cases H;exact og (sg [0,3,4]))))
  refine bk 1 (sr (ck 2 (bx H λ x22 h142 H=>sp (Bf Ab h142) (ck 3 (en (sr (ck 5 (gc 2 (decide (x22.X>=0)) (pA (ck 2 (gc 2 ((decide (x22.X>=0))&&(decide (x22.Y>=0))) (pA (ck 2 (gc 2 (((decide (x22.X>=0))&&(decide (x22.Y>=0)))&&(decide (x22.X<60))) (pA (en (cn H (λ H=>?_) (λ H=>?_))))))))))))))))))
  ·exact rz (ck 4 (bx H λ gd8 h143 H=>sp (Pn 0 60 0 60 (j:=0) h143) (bx H λ gd9 h144 H=>sp (Pp 0 60 60 1 (0+Int.toNat x22.Y) 0 h144) (bx H λ l13 h145 H=>XR D.bool 0 60 (ty 4) h145 (of_decide_eq_true (Hc h144)).2 (ae (qN (qs (sg [0,3,4]) (hFR13_sorted_J1 l13 H))))))))
  ·exact sk (qN (qs (sg [0,3,4]) (hFR13_sorted_J1 there_1 H)))
 ·exact ex 0 (qx (by cases H;exact xo rfl (sg [3])))
theorem Hn (x:((List Aa)×Int)) (z:(((List Aa)×Int)⊕(List Aa))) (H:CN n y28 y_2 x.1 x.2=some z):WP (cxk 65 0) (AE Try.f33) [1,1,1,1,0,1,0,0,1,0,0,1,0,0] (AO 0 (ES y28 y_2) (HX y28 y_2) z) (ES y28 y_2 x):=by
 obtain ⟨out_9,x_22⟩:=x
 refine sq (sr (ck 2 (en (cn H (λ H=>?_) (λ H=>?_)))))
 ·refine sk (qz (sj (λ (x:(List Aa))=>We y28 y_2 x_22 x) (λ (x:(List Aa))=>CM n x_22 x) z ?_ (λ hFR13_sorted_J2=>?_)))
  ·intro out_11 H
   exact rz (ck 3 (ae (by cases H;exact og (sg [3,6,7,8]))))
  refine bk 5 (sr (ck 2 (bx H λ gd10 h147 H=>sp (Pn 0 60 0 60 (j:=0) h147) (bx H λ gd11 h148 H=>sp (Pp 0 60 60 1 (0+Int.toNat y_2) 0 h148) (bx H λ x23 h149 H=>sp (U2 D.bool 0 60 (ty 4) h149) (en (cn H (λ H=>?_) (λ H=>?_))))))))
  ·exact rz (ck 5 (bx H λ l14 h150 H=>sp (Fh Ab 1 2 h150) (ck 1 (ae (qN (qs (sg [3,6,7,8]) (hFR13_sorted_J2 l14 H)))))))
  ·exact sk (qN (qs (sg [3,6,7,8]) (hFR13_sorted_J2 out_9 H)))
 ·exact ex 4 (qx (by cases H;exact xo rfl (sg [3,6,7])))
theorem Ho (x:((List Aa)×Int)) (z:(((List Aa)×Int)⊕(List Aa))) (H:CO n y28 x.1 x.2=some z):WP (cxk 65 0) (AE Try.f33) [1,1,1,1,0,1,0,0] (AO 0 (ET y28) (HY) z) (ET y28 x):=by
 obtain ⟨out_7,y_2⟩:=x
 refine sq (sr (ck 2 (en (cn H (λ H=>?_) (λ H=>?_)))))
 ·exact sk (qz (sq (bk 3 (sr (ck 1 (en (bk 4 (bx H λ y29 h151 H=>lX Hn h151 (sg [3,6,7,8]) rfl λ s hE23=>qH (qN (qs (hE23) (rz (ck 3 (ae (by cases H;exact og (sg [3,6,7])))))))))))))))
 ·exact ex 2 (qx (by cases H;exact xo rfl (sg [6])))
theorem D4 {z} (H:Ds n p0_=some z):Av Try.prog 33 [.d (.sl (p0_.map Ab))] (.own 2 (z.map Ab)):=by
 exact fO 65 (V6 p0_) Try.func33 (sr (ck 1 (en (sr (ck 2 (sp (R9 (D.bool false) 3600 0 (ty 75)) (en (sq (sq (rg (tr (TW D.bool false 3600 60 60 0 (by kernel_rfl) (by kernel_rfl)) (W3 3 0 60 (by kernel_rfl))) (ck 1 (en (bk 0 (bx H λ y28 h146 H=>lX Hm h146 (sg [0,3,4]) rfl λ s hE22=>qH (qs (hE22) (sr (ck 2 (en (sq (sr (ck 1 (en (bk 2 (bx H λ y30 h152 H=>lX Ho h152 (sg [3,6,7]) rfl λ s hE24=>qH (qs (hE24) (sr (ck 2 (en (re (by cases H;exact pr (rO (v:=.osl 0 2 0 (z.length)) [0] (ao vo))))))))))))))))))))))))))))))))
end
section
variable (p0_:Int) (p1_:Aa)
def Wf:St:=⟨(0,.d (.int .i64 p0_))::(1,.agg [.d (.int .i64 p1_.X),.d (.int .i64 p1_.Y)])::[],[]⟩
variable {p0_ p1_}
theorem IS {z} (H:DQ n p0_ p1_=some z):Av Try.prog 25 [.d (.int .i64 p0_),.agg [.d (.int .i64 p1_.X),.d (.int .i64 p1_.Y)]] (.d (.bool z)):=by
 exact fO 30 (Wf p0_ p1_) Try.func25 (sr (ck 2 (en (sr (ck 4 (gc 2 (!(p0_==3)) (ck 1 (gc 3 ((!(p0_==3))&&(p0_==2)) (pG (g:=(!(p0_==3))) (v:=.d (.bool ((p0_==2)&&((BM p1_.Y 2)==0)))) (λ hg=>K8 (c:=.gv (!(p0_==3)) (.d (.bool (p0_==2)))) (a:=.gv ((!(p0_==3))&&(p0_==2)) (.d (.bool ((BM p1_.Y 2)==0)))) (b:=.d (.bool false)) rfl rfl rfl ((λ hh=>hh) hg) (λ ht=>by rw [(λ hh=>hh) hg,ht];rfl) trivial) (pO (ck 2 (gc 2 (!((p0_==3)||((p0_==2)&&((BM p1_.Y 2)==0)))) (ck 1 (gc 1 ((!((p0_==3)||((p0_==2)&&((BM p1_.Y 2)==0))))&&(p0_==1)) (ck 1 (gc 4 ((!((p0_==3)||((p0_==2)&&((BM p1_.Y 2)==0))))&&(p0_==1)) (pG (g:=(!((p0_==3)||((p0_==2)&&((BM p1_.Y 2)==0))))) (v:=.d (.bool ((p0_==1)&&((BM (A6 .i64 p1_.X p1_.Y) 2)==0)))) (λ hg=>K8 (c:=.gv (!((p0_==3)||((p0_==2)&&((BM p1_.Y 2)==0)))) (.d (.bool (p0_==1)))) (a:=.gv ((!((p0_==3)||((p0_==2)&&((BM p1_.Y 2)==0))))&&(p0_==1)) (.d (.bool ((BM (A6 .i64 p1_.X p1_.Y) 2)==0)))) (b:=.d (.bool false)) rfl rfl rfl ((λ hh=>hh) hg) (λ ht=>by rw [(λ hh=>hh) hg,ht];rfl) trivial) (pO (ck 1 (en (re (by cases H;exact pr rd))))))))))))))))))))))
end
section
variable (p0_:Aa) (p1_:Aa) (p2_:Aa)
def Wg:St:=⟨(0,.agg [.d (.int .i64 p0_.X),.d (.int .i64 p0_.Y)])::(1,.agg [.d (.int .i64 p1_.X),.d (.int .i64 p1_.Y)])::(2,.agg [.d (.int .i64 p2_.X),.d (.int .i64 p2_.Y)])::[],[]⟩
variable {p0_ p1_ p2_}
theorem L6 {z} (H:HM n p0_ p1_ p2_=some z):Av Try.prog 51 [.agg [.d (.int .i64 p0_.X),.d (.int .i64 p0_.Y)],.agg [.d (.int .i64 p1_.X),.d (.int .i64 p1_.Y)],.agg [.d (.int .i64 p2_.X),.d (.int .i64 p2_.Y)]] (.d (.int .i64 z)):=by
 exact fO 30 (Wg p0_ p1_ p2_) Try.func51 (sr (ck 4 (en (sr (ck 24 (en (re (by cases H;exact pr rd))))))))
end
section
variable (p0_:Aa) (p1_:Aa) (p2_:Aa)
def Wh:St:=⟨(0,.agg [.d (.int .i64 p0_.X),.d (.int .i64 p0_.Y)])::(1,.agg [.d (.int .i64 p1_.X),.d (.int .i64 p1_.Y)])::(2,.agg [.d (.int .i64 p2_.X),.d (.int .i64 p2_.Y)])::[],[]⟩
variable {p0_ p1_ p2_}
theorem ON {z} (H:I1 n p0_ p1_ p2_=some z):Av Try.prog 38 [.agg [.d (.int .i64 p0_.X),.d (.int .i64 p0_.Y)],.agg [.d (.int .i64 p1_.X),.d (.int .i64 p1_.Y)],.agg [.d (.int .i64 p2_.X),.d (.int .i64 p2_.Y)]] (.d (.bool z)):=by
 exact fO 52 (Wh p0_ p1_ p2_) Try.func38 (sr (ck 4 (en (sr (ck 3 (bx H λ r89 h153 H=>ca false (L6 h153) (ck 3 (gc 1 (r89==0) (ck 1 (gc 1 (r89==0) (ck 1 (gc 3 (r89==0) (pA (ck 2 (gc 1 ((r89==0)&&(decide (p2_.X>=(if p1_.X<p0_.X then p1_.X else p0_.X)))) (ck 1 (gc 1 ((r89==0)&&(decide (p2_.X>=(if p1_.X<p0_.X then p1_.X else p0_.X)))) (ck 1 (gc 3 ((r89==0)&&(decide (p2_.X>=(if p1_.X<p0_.X then p1_.X else p0_.X)))) (pA (ck 2 (gc 1 (((r89==0)&&(decide (p2_.X>=(if p1_.X<p0_.X then p1_.X else p0_.X))))&&(decide (p2_.X<=(if p1_.X>p0_.X then p1_.X else p0_.X)))) (ck 1 (gc 1 (((r89==0)&&(decide (p2_.X>=(if p1_.X<p0_.X then p1_.X else p0_.X))))&&(decide (p2_.X<=(if p1_.X>p0_.X then p1_.X else p0_.X)))) (ck 1 (gc 3 (((r89==0)&&(decide (p2_.X>=(if p1_.X<p0_.X then p1_.X else p0_.X))))&&(decide (p2_.X<=(if p1_.X>p0_.X then p1_.X else p0_.X)))) (pA (ck 2 (gc 1 ((((r89==0)&&(decide (p2_.X>=(if p1_.X<p0_.X then p1_.X else p0_.X))))&&(decide (p2_.X<=(if p1_.X>p0_.X then p1_.X else p0_.X))))&&(decide (p2_.Y>=(if p1_.Y<p0_.Y then p1_.Y else p0_.Y)))) (ck 1 (gc 1 ((((r89==0)&&(decide (p2_.X>=(if p1_.X<p0_.X then p1_.X else p0_.X))))&&(decide (p2_.X<=(if p1_.X>p0_.X then p1_.X else p0_.X))))&&(decide (p2_.Y>=(if p1_.Y<p0_.Y then p1_.Y else p0_.Y)))) (ck 1 (gc 3 ((((r89==0)&&(decide (p2_.X>=(if p1_.X<p0_.X then p1_.X else p0_.X))))&&(decide (p2_.X<=(if p1_.X>p0_.X then p1_.X else p0_.X))))&&(decide (p2_.Y>=(if p1_.Y<p0_.Y then p1_.Y else p0_.Y)))) (pA (ck 1 (en (re (by cases H;exact pr rd))))))))))))))))))))))))))))))))))))))
end
section
variable (p0_:Aa) (p1_:Aa) (p2_:Aa)
def Wi:St:=⟨(0,.agg [.d (.int .i64 p0_.X),.d (.int .i64 p0_.Y)])::(1,.agg [.d (.int .i64 p1_.X),.d (.int .i64 p1_.Y)])::(2,.agg [.d (.int .i64 p2_.X),.d (.int .i64 p2_.Y)])::[],[]⟩
variable {p0_ p1_ p2_}
theorem Kd {z} (H:Ej n p0_ p1_ p2_=some z):Av Try.prog 39 [.agg [.d (.int .i64 p0_.X),.d (.int .i64 p0_.Y)],.agg [.d (.int .i64 p1_.X),.d (.int .i64 p1_.Y)],.agg [.d (.int .i64 p2_.X),.d (.int .i64 p2_.Y)]] (.d (.bool z)):=by
 refine fO 53 (Wi p0_ p1_ p2_) Try.func39 (sr (ck 4 (en (sq (sr (ck 11 (en (cn H (λ H=>?_) (λ H=>?_)))))))))
 ·exact sr (ck 1 (en (re (qr (by cases H;exact pr rd)))))
 ·refine sk (qz (sr (ck 12 (en (sr (ck 12 (en (sq (sr (ck 5 (en (cn H (λ H=>?_) (λ H=>?_)))))))))))))
  ·exact sr (ck 4 (en (re (qr (by cases H;exact pr rd)))))
  ·exact sk (qz (sr (ck 4 (en (re (by cases H;exact pr rd))))))
end
section
variable (p0_:(List Aa)) (p1_:Aa) (odd_4:Bool) (i_6:Int) (odd_5:Bool) (odd_6:Bool)
def Wj:St:=⟨(0,.d (.sl (p0_.map Ab)))::(1,.agg [.d (.int .i64 p1_.X),.d (.int .i64 p1_.Y)])::[],[]⟩
def Wk:St:=⟨(0,.d (.sl (p0_.map Ab)))::(3,.ptr 0 0)::(5,.d (.bool odd_4))::(6,.d (.int .i64 i_6))::[],[some (.box [.d (.int .i64 p1_.X),.d (.int .i64 p1_.Y)])]⟩
def Wl:St:=⟨(5,.d (.bool odd_5))::[],[]⟩
def Wm:St:=⟨(0,.d (.sl (p0_.map Ab)))::(3,.ptr 0 0)::(5,.d (.bool odd_6))::(6,.d (.int .i64 i_6))::[],[some (.box [.d (.int .i64 p1_.X),.d (.int .i64 p1_.Y)])]⟩
def HZ:(Bool⊕Bool)->Ex->St->Prop:=xS (xX 0 0 (λ (y:Bool)=>Wl y)) (xR ty Try.f20 (λ (y:Bool)=>.d (.bool y)))
def EU:(Bool×Int)->St:=(λ (x:(Bool×Int))=>Wk p0_ p1_ x.1 x.2)
variable {p0_ p1_ odd_4 i_6 odd_5 odd_6}
theorem Eo (x:(Bool×Int)) (z:((Bool×Int)⊕(Bool⊕Bool))) (H:CQ n p0_ p1_ x.1 x.2=some z):WP (cxk 32 0) (AE Try.f20) [1,1,0,1,0,0] (AO 0 (EU p0_ p1_) (HZ) z) (EU p0_ p1_ x):=by
 obtain ⟨odd_4,i_6⟩:=x
 refine sq (sr (ck 2 (sp (Bo Ab p0_) (ck 1 (en (cn H (λ H=>?_) (λ H=>?_)))))))
 ·refine sk (qz (sj (λ (x:Bool)=>Wm p0_ p1_ i_6 x) (λ (x:Bool)=>CP n i_6 x) z ?_ (λ hFR13_Inside_J1=>?_)))
  ·intro odd_6 H
   exact rz (ck 3 (ae (by cases H;exact og (sg [0,3,5,6]))))
  refine bk 1 (sr (ck 2 (bx H λ r90 h154 H=>ca false (Hl h154) (ck 7 (en (sq (sr (ck 3 (bx H λ r91 h155 H=>ca false (ON h155) (en (cn H (λ H=>?_) (λ H=>?_))))))))))))
  ·exact sr (ck 1 (en (re (qr (qR (qr (by cases H;exact ro rfl rd)))))))
  ·refine sk (qz (sr (ck 3 (bx H λ r92 h156 H=>ca false (Kd h156) (en (cn H (λ H=>?_) (λ H=>?_)))))))
   ·exact rz (ck 3 (ae (qN (qs (sg [0,3,5,6]) (hFR13_Inside_J1 (!odd_4) H)))))
   ·exact sk (qN (qs (sg [0,3,5,6]) (hFR13_Inside_J1 odd_4 H)))
 ·exact ex 0 (qx (by cases H;exact xo rfl (sg [5])))
theorem F9 {z} (H:Ek n p0_ p1_=some z):Av Try.prog 20 [.d (.sl (p0_.map Ab)),.agg [.d (.int .i64 p1_.X),.d (.int .i64 p1_.Y)]] (.d (.bool z)):=by
 refine fO 32 (Wj p0_ p1_) Try.func20 (sr (ck 2 (en (sr (ck 1 (en (sq (sr (ck 1 (en (bk 0 (bx H λ y31 h157 H=>?_))))))))))))
 rcases y31 with y32|y33
 ·exact lX Eo h157 (sg [0,3,5,6]) rfl λ s hE25=>qH (qs (hE25) (sr (ck 2 (en (re (by cases H;exact pr rd))))))
 ·exact lR Eo h157 (sg [0,3,5,6]) rfl λ s hE26=>qR (qr (by cases H;exact pr hE26))
end
end Go.AI
end
section
namespace Go.AI
open Go.Proofs
set_option maxRecDepth 10000
variable {n:Nat}
section
variable (p0_:Ah) (out_12:(List Aa)) (y_3:Int) (out_13:(List Aa)) (out_14:(List Aa)) (x_23:Int) (out_15:(List Aa)) (out_16:(List Aa))
def Wn:St:=⟨(0,.agg [.d (.int .i64 p0_.Kind),.d (.int .i64 p0_.Texture),.d (.sl (p0_.P.map Ab))])::[],[]⟩
def Wo:St:=⟨(1,.ptr 0 0)::(3,.osl 1 2 0 (out_12.length))::(4,.d (.int .i64 y_3))::[],[some (.box (Bw p0_)),some (.arr 2 (out_12.map Ab))]⟩
def Wp:St:=⟨(3,.osl 0 2 0 (out_13.length))::[],[some (.arr 2 (out_13.map Ab))]⟩
def Wq:St:=⟨(1,.ptr 0 0)::(3,.osl 1 2 0 (out_14.length))::(4,.d (.int .i64 y_3))::(5,.d (.int .i64 x_23))::[],[some (.box (Bw p0_)),some (.arr 2 (out_14.map Ab))]⟩
def Ws:St:=⟨(1,.ptr 0 0)::(3,.osl 1 2 0 (out_15.length))::(4,.d (.int .i64 y_3))::[],[some (.box (Bw p0_)),some (.arr 2 (out_15.map Ab))]⟩
def Wt:St:=⟨(1,.ptr 0 0)::(3,.osl 1 2 0 (out_16.length))::(4,.d (.int .i64 y_3))::(5,.d (.int .i64 x_23))::[],[some (.box (Bw p0_)),some (.arr 2 (out_16.map Ab))]⟩
def H1:(List Aa)->Ex->St->Prop:=xX 0 3 (λ (y:(List Aa))=>Ws p0_ y_3 y)
def EV:((List Aa)×Int)->St:=(λ (x:((List Aa)×Int))=>Wq p0_ y_3 x.1 x.2)
def H2:(List Aa)->Ex->St->Prop:=xX 0 1 (λ (y:(List Aa))=>Wp y)
def EW:((List Aa)×Int)->St:=(λ (x:((List Aa)×Int))=>Wo p0_ x.1 x.2)
variable {p0_ out_12 y_3 out_13 out_14 x_23 out_15 out_16}
theorem Hp (x:((List Aa)×Int)) (z:(((List Aa)×Int)⊕(List Aa))) (H:CT n p0_ y_3 x.1 x.2=some z):WP (cxk 56 0) (AE Try.f16) [1,1,1,0,1,0,0,1,0,0,1,0,0] (AO 0 (EV p0_ y_3) (H1 p0_ y_3) z) (EV p0_ y_3 x):=by
 obtain ⟨out_14,x_23⟩:=x
 refine sq (sr (ck 2 (en (cn H (λ H=>?_) (λ H=>?_)))))
 ·refine sk (qz (sj (λ (x:(List Aa))=>Wt p0_ y_3 x_23 x) (λ (x:(List Aa))=>CS n x_23 x) z ?_ (λ hFR13_Points_J1=>?_)))
  ·intro out_16 H
   exact rz (ck 3 (ae (by cases H;exact og (sg [1,3,4,5]))))
  refine bk 4 (sr (ck 5 (en (sr (ck 3 (bx H λ r96 h161 H=>ca false (IS h161) (ck 2 (gc 1 r96 (ck 1 (bx H λ r97 h162 H=>cG false (leZ) rfl (λ hg=>F9 (BA h162 hg)) (Or.inl rfl) (BT (λ hh=>hh) (BT (λ hh=>hh) (Bt))) rfl (pA (en (cn H (λ H=>?_) (λ H=>?_))))))))))))))
  ·exact rz (ck 3 (bx H λ l15 h163 H=>sp (Fh Ab 1 2 h163) (ck 1 (ae (qN (qs (sg [1,3,4,5]) (hFR13_Points_J1 l15 H)))))))
  ·exact sk (qN (qs (sg [1,3,4,5]) (hFR13_Points_J1 out_14 H)))
 ·exact ex 3 (qx (by cases H;exact xo rfl (sg [1,3,4])))
theorem Hq (x:((List Aa)×Int)) (z:(((List Aa)×Int)⊕(List Aa))) (H:CU n p0_ x.1 x.2=some z):WP (cxk 56 0) (AE Try.f16) [1,1,1,0,1,0,0] (AO 0 (EW p0_) (H2) z) (EW p0_ x):=by
 obtain ⟨out_12,y_3⟩:=x
 refine sq (sr (ck 2 (en (cn H (λ H=>?_) (λ H=>?_)))))
 ·exact sk (qz (sq (bk 2 (sr (ck 1 (en (bk 3 (bx H λ y34 h164 H=>lX Hp h164 (sg [1,3,4,5]) rfl λ s hE27=>qH (qN (qs (hE27) (rz (ck 3 (ae (by cases H;exact og (sg [1,3,4])))))))))))))))
 ·exact ex 1 (qx (by cases H;exact xo rfl (sg [3])))
theorem Ke {z} (H:Dt n p0_=some z):Av Try.prog 16 [.agg (Bw p0_)] (.d (.sl (z.map Ab))):=by
 refine fO 56 (Wn p0_) Try.func16 (sr (ck 2 (en (sq (sr (ck 2 (en (bk 0 (sr (ck 2 (en (cn H (λ H=>?_) (λ H=>?_)))))))))))))
 ·exact sr (ck 3 (en (re (qR (qr (by cases H;exact pr rd))))))
 ·refine sr (ck 2 (en (cn H (λ H=>?_) (λ H=>?_))))
  ·exact sr (ck 4 (sp (Bo Ab p0_.P) (ck 1 (bx H λ r93 h158 H=>ca false (Ez h158) (bx H λ r94 h159 H=>cl [List.length r94] (D4 h159) (ck 1 (ae (qs (fz (enc:=Ab) (xs:=r94) 2 1 2) (re (qR (qr (by cases H;exact pr rd))))))))))))
  ·exact sk (qN (qz (sr (ck 4 (sp (Bo Ab p0_.P) (bx H λ r95 h160 H=>cl [List.length r95] (Ez h160) (ck 1 (en (sq (sr (ck 1 (en (bk 1 (bx H λ y35 h165 H=>lX Hq h165 (sg [1,3,4]) rfl λ s hE28=>qH (qs (hE28) (sr (ck 1 (bx H λ r98 h166 H=>cb (ks:=[0]) (obl:=[(0+List.length y35,List.length (y35.map Ab))]) (ls:=[List.length r98]) true (leK leM (leZ)) (Cb Hb rfl) (D4 h166) (Or.inr (UT λ _=>rfl)) (XM rfl) (ck 1 (ae (qs (fz (enc:=Ab) (xs:=r98) 2 1 2) (re (by cases H;exact pr rd)))))))))))))))))))))))
end
section
variable (p0_:(List Aa))
def Wu:St:=⟨(0,.d (.sl (p0_.map Ab)))::[],[]⟩
variable {p0_}
theorem IT {z} (H:Fq n p0_=some z):Av Try.prog 18 [.d (.sl (p0_.map Ab))] (.own 2 (z.map Ab)):=by
 exact fO 8 (Wu p0_) Try.func18 (sr (ck 1 (en (sr (ck 2 (sp (Bo Ab p0_) (bx H λ r99 h167 H=>ca false (Ez h167) (bx H λ r100 h168 H=>cl [List.length r100] (D4 h168) (ck 1 (en (re (by cases H;exact pr (rO (v:=.osl 0 2 0 (z.length)) [0] (ao vo))))))))))))))
end
section
variable (p0_:HJ) (p1_:(KA Int))
def Xu:St:=⟨(0,.agg [.d (.int .u8 p0_.Kind),.d (.int .u8 p0_.Texture),.d (.sl (p0_.L.map (Fw eU8)))])::(1,.agg [.d (.int .u8 p1_.a0),.d (.int .u8 p1_.a1)])::[],[]⟩
variable {p0_ p1_}
theorem Du {z} (H:Bv n p0_ p1_=some z):Av Try.prog 3 [.agg (TZ p0_),.agg [.d (.int .u8 p1_.a0),.d (.int .u8 p1_.a1)]] (.d (.bool z)):=by
 exact fO 54 (Xu p0_ p1_) Try.func3 (sr (ck 3 (en (sr (bx H λ r101 h169 H=>ca false (Ka h169) (ck 1 (en (sr (ck 1 (bx H λ r102 h170 H=>ca false (L4 h170) (ck 2 (en (sr (ck 10 (bx H λ r103 h171 H=>ca false (Ax h171) (ck 2 (en (sr (ck 3 (bx H λ r104 h172 H=>cG false (leZ) rfl (λ hg=>BJ (BA h172 hg)) (Or.inl rfl) (BT (λ hh=>hh) (Bt)) rfl (pA (ck 2 (bx H λ r105 h173 H=>cG false (leZ) rfl (λ hg=>Co (BA h173 hg)) (Or.inl rfl) (BT (λ hh=>hh) (Bt)) rfl (ck 1 (bx H λ r106 h174 H=>cG false (leZ) rfl (λ hg=>Ke (BA h174 hg)) (Or.inl rfl) (BT (λ hh=>hh) (Bt)) rfl (bx H λ r107 h175 H=>cG false (leZ) rfl (λ hg=>DR (BA h175 hg)) (Or.inl rfl) (BT (λ hh=>hh) (BT (λ hh=>hh) (Bt))) rfl (pA (ck 2 (gc 1 ((r101&&r104)&&r107) (bx H λ r108 h176 H=>cG false (leZ) rfl (λ hg=>F6 (BA h176 hg)) (Or.inl rfl) (BT (λ hh=>hh) (Bt)) rfl (ck 1 (gc 1 ((r101&&r104)&&r107) (bx H λ r109 h177 H=>cG false (leZ) rfl (λ hg=>IT (BA h177 hg)) (Or.inl rfl) (BT (λ hh=>hh) (Bt)) rfl (bx H λ r110 h178 H=>cG false (leZ) rfl (λ hg=>DR (BA h178 hg)) (Or.inl rfl) (BT (λ hh=>hh) (BT (λ hh=>hh) (Bt))) rfl (pA (ck 2 (gc 1 (((r101&&r104)&&r107)&&r110) (ck 1 (bx H λ r111 h179 H=>cG false (leZ) rfl (λ hg=>Bp (BA h179 hg)) (Or.inl rfl) (BT (λ hh=>hh) (BT (λ hh=>hh) (Bt))) rfl (ck 1 (gc 1 (((r101&&r104)&&r107)&&r110) (ck 1 (bx H λ r112 h180 H=>cG false (leZ) rfl (λ hg=>F9 (BA h180 hg)) (Or.inl rfl) (BT (λ hh=>hh) (BT (λ hh=>hh) (Bt))) rfl (gc 1 (((r101&&r104)&&r107)&&r110) (pA (ck 1 (en (re (by cases H;exact pr rd)))))))))))))))))))))))))))))))))))))))))))))))))
end
end Go.AI
end
section
namespace Go.AI
def CRd (F:Nat->Option Obj) (l:List D) (cs:List Value):Prop:=l.length=cs.length/\∀ (i:Nat) (y:D) (v:Value),l[i]? = some y->cs[i]? = some v->AH F y v
def GB {α:Type} (P:Program) (t:TypeId) (enc:α->List D) (ok:α->Prop):Prop:=
 ∀ (H:Type) (e:TypeId×Value->H) (w:World) (base:Nat) (spare:Nat->Bool) (held:Bool) (fuel:Nat) (cs:List Value) (x:DataW H×List MemPlace),DataW.trod e P w base spare held fuel t cs=some x->∃ a:α,ok a/\CRd (λ b=>w.heap[b]?) (enc a) cs
theorem L7 {F:Nat->Option Obj} {y:D} {v:Value} (h:AH F y v):CRd F [y] [v]:=by
 refine ⟨rfl,λ i a b ha hb=>?_⟩
 cases i with
 | zero=>simp at ha hb;subst ha;subst hb;exact h
 | succ i=>simp at ha
theorem QB {P:Program} {t:TypeId} {k:IntKind} (ht:P.underlying t=some (.int k)):GB P t (λ n=>[.int k n]) (λ n=>(Lit.int k n).wf=true):=by
 intro H e w base spare held fuel cs x h
 obtain ⟨n,rfl,_,hw⟩:=DataW.trod_int ht h
 exact ⟨n,hw,L7 (.int k n)⟩
theorem Nv {α:Type} {Q:Nat->α->Prop}:∀ n,(∀ i,i<n->∃ a,Q i a)->∃ l:List α,l.length=n/\∀ i a,l[i]? = some a->Q i a:=by
 intro n
 induction n with
 | zero=>intro _;exact ⟨[],rfl,λ i a h=>by simp at h⟩
 | succ n ih=>
  intro h
  obtain ⟨l,hl,hq⟩:=ih λ i hi=>h i (by omega)
  obtain ⟨a,ha⟩:=h n (by omega)
  refine ⟨l++[a],by simp [hl],λ i b hb=>?_⟩
  rcases Yw i l.length with hlt|hge
  ·rw [YL hlt] at hb;exact hq i b hb
  ·rw [YR hge] at hb
   have:i-l.length=0:=by have:=Ac hb;simp at this;omega
   rw [this] at hb
   simp at hb
   subst hb
   have:i=n:=by omega
   subst this
   exact ha
theorem Nw {α β:Type} {f:α->Option β}:∀ {l:List α} {r:List β},l.mapM f=some r->r.length=l.length/\∀ (i:Nat) (a:α),l[i]? = some a->r[i]? = f a:=by
 intro l
 induction l with
 | nil=>intro r h;simp at h;subst h;exact ⟨rfl,λ i a h=>by simp at h⟩
 | cons a l ih=>
  intro r h
  rw [List.mapM_cons] at h
  simp only [Option.bind_eq_bind,Option.bind_eq_some_iff,Option.pure_def,YM] at h
  obtain ⟨b,hb,r',hr',rfl⟩:=h
  obtain ⟨h1,h2⟩:=ih hr'
  refine ⟨by simp [h1],λ i x hx=>?_⟩
  cases i with
  | zero=>simp at hx;subst hx;simp [hb]
  | succ i=>simpa using h2 i x (by simpa using hx)
theorem Nx {α:Type} {P:Program} {t e:TypeId} {enc:α->List D} {ok:α->Prop} {sz:Nat} (ht:P.underlying t=some (.slice e)) (hsz:P.cellsOf e=sz) (h1:Nat.ble 1 sz=true) (hl:∀ a,(enc a).length=sz) (he:GB P e enc ok):GB P t (eL enc) (λ l=>∀ a∈l,ok a):=by
 intro H en w base spare held fuel cs x h
 have h1:=YQ h1
 rcases DataW.trod_slice ht h with ⟨rfl,_⟩|⟨a,len,cap,elems,rest,n,_,rfl,_,_,hcap,_,hel,hget,_,_⟩
 ·exact ⟨[],λ a h=>by simp at h,L7 (.sl0 _ _)⟩
 ·rw [hsz] at hget
  have hex:∀ i,i<len->∃ y:α,ok y/\∃ ci,w.cells? base (a.add (i*sz)) sz=some ci/\CRd (λ b=>w.heap[b]?) (enc y) ci:=λ i hi=>by
   have hg:=hget i hi
   rw [YD (show i<elems.length by omega)] at hg
   simp only [Option.bind_eq_some_iff] at hg
   obtain ⟨ci,hc,htr⟩:=hg
   obtain ⟨y,hy,hcr⟩:=he H en w base spare held n ci _ htr
   exact ⟨y,hy,ci,hc,hcr⟩
  obtain ⟨l,hll,hq⟩:=Nv len hex
  refine ⟨l,λ y hy=>?_,L7 ?_⟩
  ·obtain ⟨i,hi⟩:=List.mem_iff_getElem?.1 hy
   exact (hq i y hi).1
  ·rcases Nat.eq_zero_or_pos len with h0|hpos
   ·have:l=[]:=List.length_eq_zero_iff.1 (by omega)
    subst this;subst h0
    exact .sl0 _ _
   ·
    have hcell:∀ i y,l[i]? = some y->∀ j,j<sz->∃ v,w.cell? ((a.add (i*sz)).add j)=some v/\∀ d,(enc y)[j]? = some d->AH (λ b=>w.heap[b]?) d v:=λ i y hy j hj=>by
     obtain ⟨_,ci,hc,hcr⟩:=hq i y hy
     unfold World.cells? at hc
     split at hc
     ·obtain ⟨g1,g2⟩:=Nw hc
      have:=g2 j j (by simp [hj])
      have hjc:j<ci.length:=by rw [g1];simpa using hj
      rw [YD hjc] at this
      exact ⟨ci[j],this.symm,λ d hd=>hcr.2 j d _ hd (YD hjc)⟩
     ·cases hc
    have h0:l[0]? = some l[0]:=YD (by omega)
    obtain ⟨v0,hv0,_⟩:=hcell 0 _ h0 0 (by omega)
    have ha0:(a.add (0*sz)).add 0=a:=by simp [Addr.add]
    rw [ha0] at hv0
    obtain ⟨b,off,spot⟩:=a
    unfold World.cell? at hv0
    simp only at hv0
    split at hv0
    ·rename_i c ty fr hblk
     cases spot with
     | some s=>simp at hv0
     | none=>
      have hcell':∀ i y,l[i]? = some y->∀ j d,(enc y)[j]? = some d->∃ v,c[off+i*sz+j]? = some v/\AH (λ b=>w.heap[b]?) d v:=λ i y hy j d hd=>by
       have hj:j<sz:=by rw [← hl y];exact Ac hd
       obtain ⟨v,hv,hr⟩:=hcell i y hy j hj
       rw [Bc,Bc,FK hblk] at hv
       exact ⟨v,hv,hr d hd⟩
      have hlen:(l.map enc).length=len:=by simp [hll]
      have:=AH.sl (F:=λ b=>w.heap[b]?) (l.map enc) b off cap sz c ty fr (λ i j=>(c[off+i*sz+j]?).getD undef) hblk (λ e he=>by
        simp only [Yy] at he
        obtain ⟨y,_,rfl⟩:=he
        exact hl y) (by omega) (λ i e hi j d hd=>by
        simp only [YH,YG] at hi
        obtain ⟨y,hy,rfl⟩:=hi
        obtain ⟨v,hv,_⟩:=hcell' i y hy j d hd
        simp only [hv,Ys]) (λ i e hi j d hd=>by
        simp only [YH,YG] at hi
        obtain ⟨y,hy,rfl⟩:=hi
        obtain ⟨v,hv,hr⟩:=hcell' i y hy j d hd
        simp only [hv,Ys]
        exact hr)
      rw [hlen] at this
      exact this
    ·cases hv0
theorem Ga {F:Nat->Option Obj} {l m:List D} {cs:List Value} {o n:Nat} (h:CRd F l ((cs.drop o).take n)) (hn:Nat.beq l.length n=true) (h':CRd F m (cs.drop (o+n))):CRd F (l++m) (cs.drop o):=by
 have hn:=YK hn
 have e:cs.drop o=(cs.drop o).take n++cs.drop (o+n):=by rw [← List.drop_drop,List.take_append_drop]
 rw [e]
 refine ⟨by simp only [List.length_append,h.1,h'.1],λ i y v hy hv=>?_⟩
 rcases Yw i l.length with hlt|hge
 ·rw [YL hlt] at hy
  rw [YL (by rw [← h.1];exact hlt)] at hv
  exact h.2 i y v hy hv
 ·rw [YR hge] at hy
  rw [YR (by rw [← h.1];exact hge),← h.1] at hv
  exact h'.2 _ y v hy hv
theorem Pt {F:Nat->Option Obj} {cs:List Value} {o:Nat} (h:cs.length<=o):CRd F [] (cs.drop o):=by
 rw [List.drop_eq_nil_of_le h];exact ⟨rfl,λ i y v hy=>by simp at hy⟩
theorem OO {H:Type} {enc:TypeId×Value->H} {P:Program} {w:World} {base:Nat} {spare:Nat->Bool} {held:Bool} {fuel:Nat} {t e:TypeId} {n:Nat} {cs:List Value} {x:DataW H×List MemPlace} (ht:P.underlying t=some (.array n e)) (h:DataW.trod enc P w base spare held fuel t cs=some x) :
  ∃ m,cs.length=P.cellsOf t/\∀ i,i<n->∃ y,DataW.trod enc P w base spare held m e ((cs.drop (i*P.cellsOf e)).take (P.cellsOf e))=some y:=by
 cases fuel with
 | zero=>simp [DataW.trod] at h
 | succ m=>
  unfold DataW.trod at h
  rw [ht] at h
  split at h<;>simp_all
  obtain ⟨xs,hp,_⟩:=h.2
  refine ⟨m,λ i hi=>?_⟩
  obtain ⟨g1,g2⟩:=Nw hp
  have:=g2 i i (by simp [hi])
  have hlt:i<xs.length:=by rw [g1];simpa using hi
  rw [YD hlt] at this
  exact ⟨_,_,this.symm⟩
end Go.AI
end
section
namespace Go.AI
open Go.ChangeShapes Go.WideShapes Go.ChangeAt Go.RowKit
variable {P:Program} {H:Type} {en:TypeId×Value->H} {W W':World} {base:Nat} {spare:Nat->Bool} {held:Bool} {t e:TypeId} {v:Value} {d:DataW H} {ps:List MemPlace} {α:Type} {enc:α->List D} {ok:α->Prop}
theorem L8 {P:Program} {w:World} {r:Go.Reach} {base:Nat} {t e:TypeId} {n:Nat} {v:Value} (ht:P.underlying t=some (.array n e)) (h:Value.okWide P w r base t v):∃ cs,v=.agg cs/\cs.size=P.cellsOf t:=by
 simp only [Value.okWide,ht] at h
 obtain ⟨cs,h1,h2,_⟩:=h
 exact ⟨cs,h1,h2⟩
theorem Pu {cs:Array Value} (hv:v=.agg cs) (hd:DataW.Trod en P W base spare held t v d ps) (hr:GB P t enc ok):∃ a,ok a/\Ad (λ b=>W.heap[b]?) noR (.agg ((enc a).map .d)) v:=by
 subst hv
 obtain ⟨fuel,hf⟩:=hd
 obtain ⟨a,h1,h2,h3⟩:=hr H en W base spare held fuel _ _ hf
 refine ⟨a,h1,.agg _ _ (by simpa [Value.cells] using h2) λ i x u hx hu=>?_⟩
 simp only [YH,YG] at hx
 obtain ⟨y,hy,rfl⟩:=hx
 exact .d _ _ (h3 i y u hy (by simpa [Value.cells] using hu))
theorem Wv {F:Nat->Option Obj} {ρ:Nat->Option Loc}:CR F ρ [] []:=⟨rfl,λ i a v h=>by simp at h⟩
theorem Pv {F:Nat->Option Obj} {ρ:Nat->Option Loc} {a:AV} {v:Value} {l:List AV} {vs:List Value} (h:Ad F ρ a v) (h':CR F ρ l vs):CR F ρ (a::l) (v::vs):=by
 refine ⟨by simp [h'.1],λ i x u hx hu=>?_⟩
 cases i with
 | zero=>simp at hx hu;subst hx;subst hu;exact h
 | succ i=>exact h'.2 i x u (by simpa using hx) (by simpa using hu)
theorem fld {w:World} {fuel:Nat} {cs:List Value} {fs:Array Field} {xs:List (DataW H×List MemPlace)} (hg:∀ (i:Nat) (f:Field),fs[i]? = some f->DataW.trod en P w base spare held fuel f.type ((cs.drop f.offset).take (P.cellsOf f.type))=xs[i]?) (hxl:xs.length=fs.size) (i:Nat) {f:Field} (hf:fs[i]? = some f) (u o n:Nat) (hu:f.type=u) (ho:f.offset=o) (hn:P.cellsOf u=n) (hr:GB P u enc ok) :
  ∃ a,ok a/\CRd (λ b=>w.heap[b]?) (enc a) ((cs.drop o).take n):=by
 have:=hg i f hf
 have hi:i<xs.length:=by rw [hxl];exact Af hf
 rw [YD hi,hu,ho,hn] at this
 exact hr H en w base spare held fuel _ _ this
theorem Xv {w:World} {fuel:Nat} {cs:List Value} {m:Nat} (hg:∀ i,i<m->∃ y,DataW.trod en P w base spare held fuel e ((cs.drop (i*P.cellsOf e)).take (P.cellsOf e))=some y) (i:Nat) (hi:Nat.ble (i+1) m=true) (o n:Nat) (hn:P.cellsOf e=n) (ho:i*n=o) (hr:GB P e enc ok) :
  ∃ a,ok a/\CRd (λ b=>w.heap[b]?) (enc a) ((cs.drop o).take n):=by
 obtain ⟨y,hy⟩:=hg i (YQ hi)
 rw [hn,ho] at hy
 exact hr H en w base spare held fuel _ _ hy
theorem SL {f:FuncId} {args:List AV} {vs:Array Value} (hc:Av P f args (.d (.bool true))) (hcr:CR (λ b=>W.heap[b]?) noR args vs.toList):Calls P f vs W λ e W'=>e=.returned (.bool true)/\(∀ before:List MemPlace,W.keptBut W' (·∈before))/\∀ b,b<W.heap.size->W'.heap[b]? = W.heap[b]? := by
 refine (hc.2 (λ b=>W.heap[b]?) W vs hcr λ b o h=>h).mono λ e W' h=>?_
 obtain ⟨v,F',ρ,rfl,hS,hr,hmu⟩:=h
 have hv:v=.bool true:=by
  have:(AZ true 0 (.d (.bool true))).1=.d (.bool true):=rfl
  rw [this] at hr
  exact hr.bool
 subst hv
 have hold:∀ b,b<W.heap.size->W'.heap[b]? = W.heap[b]? := λ b hb=>hS.old b (by omega)
 refine ⟨rfl,λ before=>World.keptBut_mono (λ p hp=>hp.elim) (?_:W.keptBut W' λ _=>False),hold⟩
 refine ⟨hmu.os,hmu.out,λ i hi=>?_⟩
 rw [hold i hi]
 cases hh:W.heap[i]? with
 | none=>rfl
 | some o=>cases o<;>first|exact ⟨rfl,rfl,rfl,λ _ _=>rfl⟩|exact .inr ⟨rfl,rfl⟩|rfl
theorem QC {f:Func} {s:ChangeSpec} {apart fresh handsOn again:Bool} {args:Array Value} {ds gs:List (DataW H)} {before pa pv:List MemPlace}
  (hW:DataW.Whole en P f.params.toList s.vars apart W args.toList ds gs before)
  (hres:∀ (b:Nat) (sp:Nat->Bool) (hd:Bool),DataW.TrodAll en P W' b sp hd f.resultTypes.toList (v.resultList f.resultTypes.size) (s.fn H (ds++gs)).results [])
  (hargs:∀ sp:Nat->Bool,(∀ p∈before,sp p.block=true)->DataW.TrodAll en P W' 0 sp true f.params.toList args.toList (s.fn H (ds++gs)).args pa)
  (hvars:∀ sp:Nat->Bool,(∀ p∈before,sp p.block=true)->DataW.TrodVars en P W' sp s.vars (s.fn H (ds++gs)).vars pv)
  (hps:before=pa++pv) (hk:W.keptBut W' (·∈before)) (hold:∀ b,b<W.heap.size->W'.heap[b]? = W.heap[b]?)
  (hok:∀ (j:Nat) (t:TypeId) (r:Value),f.resultTypes[j]? = some t->(v.resultList f.resultTypes.size)[j]? = some r->Value.okWide P W' .any 0 t r) :
  s.post en P f apart fresh handsOn again W args v W':=by
 have hin:∀ p∈before,(λ b=>decide (b<W.heap.size)) p.block=true:=λ p hp=>by simpa using hW.lt p hp
 have hlt:=hW.lt
 refine ⟨ds,gs,before,[],pa,pv,hW,hres _ _ _,hargs _ hin,hvars _ hin,World.keptBut_mono (λ p hp=>⟨hp,?_⟩) hk,λ _=>?_⟩
 ·rw [hps,List.mem_append] at hp
  exact Or.inr hp
 ·obtain ⟨_,_,_,_,_,hz,hn⟩:=hW
  refine ⟨hok,_,_,([]++pa)++pv,⟨[]++pa,pv,trodAll_append (hargs _ (λ _ _=>rfl)) (hres _ _ _),hvars _ (λ _ _=>rfl),rfl,?_,?_⟩,?_⟩
  ·intro b off hp
   have hp:MemPlace.cell b off∈before:=by rw [hps];simpa using hp
   have:=hz b off hp
   simp only [World.frozen?,hold b (hlt _ hp)] at this ⊢
   exact this
  ·intro ha
   have:=hn ha
   rw [hps] at this
   simpa using this
  ·intro p hp _
   rw [hps]
   simpa using hp
theorem Uo (hl:laidOutB P=true) (hr:P.readableRec t=true) (hrow:t<P.types.size) (h:DataW.Trod en P W 0 (λ _=>true) true t v d ps) (hb:∀ p∈ps,p.block<W.heap.size) {sp:Nat->Bool} (hs:∀ p∈ps,sp p.block=true) (hold:∀ b,b<W.heap.size->W'.heap[b]? = W.heap[b]?):DataW.Trod en P W' 0 sp true t v d ps:=by
 refine WideElems.Trod_stays hl hr hrow h (λ p hp=>?_) hs
 have:=hb p hp
 cases p with
 | cell b o=>exact World.cell?_of_block (w:=W) (hold b this)
 | map b=>exact hold b this
end Go.AI
end
section
namespace Go.AI
open Go.Proofs Go.ChangeShapes Go.WideShapes Go.ChangeAt Go.RowKit
def okI (k:IntKind) (n:Int):Prop:=(Lit.int k n).wf=true
theorem rd5:GB Try.prog 5 eU8 (okI .u8):=QB Try.underlying5
theorem Xw:GB Try.prog 25 (Fw eU8) (λ x=>okI .u8 x.a0/\okI .u8 x.a1):=by
 intro H e w base spare held fuel cs x h
 obtain ⟨m,hcl,hg⟩:=OO Try.underlying25 h
 have hcl:cs.length=2:=hcl.trans (by kernel_rfl)
 obtain ⟨a0,k0,c0⟩:=Xv hg 0 rfl 0 1 (by kernel_rfl) rfl rd5
 obtain ⟨a1,k1,c1⟩:=Xv hg 1 rfl 1 1 (by kernel_rfl) rfl rd5
 refine ⟨⟨a0,a1⟩,⟨k0,k1⟩,?_⟩
 have:=Ga c0 rfl (Ga c1 rfl (Pt (Nat.le_of_eq hcl)))
 exact this
theorem Yh:GB Try.prog 22 (eL (Fw eU8)) (λ l=>∀ a∈l,(okI .u8 a.a0/\okI .u8 a.a1)):=Nx (sz:=2) Try.underlying22 (by kernel_rfl) rfl (λ _=>rfl) Xw
def OP (x:HJ):Prop:=okI .u8 x.Kind/\okI .u8 x.Texture/\(∀ a∈x.L,(okI .u8 a.a0/\okI .u8 a.a1))
theorem Yi:GB Try.prog 24 Xt OP:=by
 intro H e w base spare held fuel cs x h
 obtain ⟨xs,n,_,_,hcl,hxl,hg⟩:=DataW.trod_struct Try.underlying24 h
 have hcl:cs.length=3:=hcl.trans (by kernel_rfl)
 obtain ⟨a0,k0,c0⟩:=fld hg hxl 0 rfl 5 0 1 rfl rfl (by kernel_rfl) rd5
 obtain ⟨a1,k1,c1⟩:=fld hg hxl 1 rfl 5 1 1 rfl rfl (by kernel_rfl) rd5
 obtain ⟨a2,k2,c2⟩:=fld hg hxl 2 rfl 22 2 1 rfl rfl (by kernel_rfl) Yh
 refine ⟨⟨a0,a1,a2⟩,⟨k0,k1,k2⟩,?_⟩
 have:=Ga c0 rfl (Ga c1 rfl (Ga c2 rfl (Pt (Nat.le_of_eq hcl))))
 exact this
end Go.AI
end
section
namespace Go.AI
def Le {α:Type} (a b:Option α):Prop:=∀ z,a=some z->b=some z
theorem Le.refl {α:Type} (a:Option α):Le a a:=λ _ h=>h
theorem Le.bind {α β:Type} {a a':Option α} {f f':α->Option β} (h:Le a a') (hf:∀ x,Le (f x) (f' x)):Le (a.bind f) (a'.bind f'):=by
 intro z hz
 obtain ⟨x,h1,h2⟩:=bind_some hz
 rw [h x h1]
 exact hf x z h2
theorem Le.ite {α:Type} {c:Prop} [Decidable c] {a a' b b':Option α} (h:Le a a') (h':Le b b'):Le (if c then a else b) (if c then a' else b'):=by
 split
 ·exact h
 ·exact h'
theorem Le.whl {σ ρ:Type} {body body':σ->Option (σ⊕ρ)} (hb:∀ x,Le (body x) (body' x)):∀ {n m:Nat},n<=m->∀ x,Le (whl body n x) (whl body' m x):=by
 intro n
 induction n with
 | zero=>intro m _ x z hz;cases hz
 | succ n ih=>
  intro m hm x z hz
  cases m with
  | zero=>omega
  | succ m=>
   simp only [Go.AI.whl] at hz ⊢
   cases hx:body x with
   | none=>rw [hx] at hz;cases hz
   | some y=>
    rw [hb x y hx]
    rw [hx] at hz
    cases y with
    | inl y=>exact ih (by omega) y z hz
    | inr r=>exact hz
def Ev {α:Type} (f:Nat->Option α) (z:α):Prop:=∃ n,∀ m,n<=m->f m=some z
theorem Ev.const {α:Type} {z:α}:Ev (λ _=>some z) z:=⟨0,λ _ _=>rfl⟩
theorem Ev.of {α:Type} {f:Nat->Option α} {z:α} (hm:∀ n m,n<=m->Le (f n) (f m)) {n:Nat} (h:f n=some z):Ev f z:=⟨n,λ m hnm=>hm n m hnm z h⟩
theorem Ev.all {α:Type} {f:Nat->Option α} {z:α} (h:∀ n,f n=some z):Ev f z:=⟨0,λ m _=>h m⟩
theorem Ev.bind {α β:Type} {f:Nat->Option α} {g:Nat->α->Option β} {x:α} {z:β} (h:Ev f x) (hg:Ev (λ n=>g n x) z):Ev (λ n=>(f n).bind (g n)) z:=by
 obtain ⟨n,hn⟩:=h
 obtain ⟨m,hm⟩:=hg
 refine ⟨max n m,λ k hk=>?_⟩
 show (f k).bind (g k)=_
 rw [hn k (by omega)]
 exact hm k (by omega)
theorem Ev.out {α:Type} {f:Nat->Option α} {z:α} (h:Ev f z):∃ n,f n=some z:=by
 obtain ⟨n,hn⟩:=h
 exact ⟨n,hn n (Yv n)⟩
theorem Ev.congr {α:Type} {f g:Nat->Option α} {z:α} (h:Ev f z) (e:∀ n,g n=f n):Ev g z:=by
 obtain ⟨n,hn⟩:=h
 exact ⟨n,λ m hm=>by rw [e m];exact hn m hm⟩
theorem Ev.whl {σ ρ:Type} {body:Nat->σ->Option (σ⊕ρ)} {r:ρ} (I:Nat->σ->Prop) (h:∀ k x,I k x->(∃ y j,j<k/\I j y/\Ev (λ n=>body n x) (.inl y))\/Ev (λ n=>body n x) (.inr r)):∀ (k:Nat) (x:σ),I k x->Ev (λ n=>Go.AI.whl (body n) n x) r:=by
 have key:∀ (k:Nat) (x:σ),I k x->∃ N c,∀ n fuel,N<=n->c<=fuel->Go.AI.whl (body n) fuel x=some r:=by
  intro k
  induction k using Nat.strongRecOn with
  | _ k ih=>
   intro x hx
   rcases h k x hx with ⟨y,j,hj,hy,N1,h1⟩|⟨N1,h1⟩
   ·obtain ⟨N2,c,h2⟩:=ih j hj y hy
    refine ⟨max N1 N2,c+1,λ n fuel hn hf=>?_⟩
    cases fuel with
    | zero=>omega
    | succ fuel=>
     have e:=h1 n (by omega)
     simp only at e
     simp only [Go.AI.whl,e]
     exact h2 n fuel (by omega) (by omega)
   ·refine ⟨N1,1,λ n fuel hn hf=>?_⟩
    cases fuel with
    | zero=>omega
    | succ fuel=>
     have e:=h1 n hn
     simp only at e
     simp only [Go.AI.whl,e]
 intro k x hx
 obtain ⟨N,c,hh⟩:=key k x hx
 exact ⟨max N c,λ m hm=>hh m m (by omega) (by omega)⟩
end Go.AI
end
section
namespace Go.AI
def Tot {α:Type} (f:Nat->Option α) (P:α->Prop):Prop:=∃ z,P z/\Ev f z
def Rd2 {σ ρ:Type} (I:σ->Prop) (P:ρ->Prop):σ⊕ρ->Prop
 | .inl y=>I y
 | .inr r=>P r
variable {α β σ ρ:Type} {P R:α->Prop}
theorem Tot.ev {f:Nat->Option α} {z:α} (h:Tot f (λ x=>x=z)):Ev f z:=by obtain ⟨_,rfl,h⟩:=h;exact h
theorem Ev.tot {f:Nat->Option α} {z:α} (h:Ev f z) (hp:P z):Tot f P:=⟨z,hp,h⟩
theorem Tot.pure {z:α} (h:P z):Tot (λ _=>some z) P:=⟨z,h,Ev.const⟩
theorem Tot.all {f:Nat->Option α} {z:α} (h:∀ n,f n=some z) (hp:P z):Tot f P:=⟨z,hp,Ev.all h⟩
theorem Tot.mono {f:Nat->Option α} (h:Tot f R) (hp:∀ x,R x->P x):Tot f P:=by obtain ⟨z,hz,h⟩:=h;exact ⟨z,hp z hz,h⟩
theorem Tot.bind {f:Nat->Option β} {g:Nat->β->Option α} {R:β->Prop} (h:Tot f R) (k:∀ x,R x->Tot (λ n=>g n x) P):Tot (λ n=>(f n).bind (g n)) P:=by
 obtain ⟨x,hx,h⟩:=h
 obtain ⟨z,hz,h'⟩:=k x hx
 exact ⟨z,hz,Ev.bind h h'⟩
theorem Tot.bindE {f:Nat->Option β} {g:Nat->β->Option α} {x:β} (h:Ev f x) (k:Tot (λ n=>g n x) P):Tot (λ n=>(f n).bind (g n)) P:=by
 obtain ⟨z,hz,h'⟩:=k
 exact ⟨z,hz,Ev.bind h h'⟩
theorem Tot.bindC {x:Option β} {y:β} {g:Nat->β->Option α} (h:x=some y) (k:Tot (λ n=>g n y) P):Tot (λ n=>x.bind (g n)) P:=by subst h;exact k
theorem Tot.bindA {f:Nat->Option β} {y:β} {g:Nat->β->Option α} (h:∀ n,f n=some y) (k:Tot (λ n=>g n y) P):Tot (λ n=>(f n).bind (g n)) P:=Tot.bindE (Ev.all h) k
theorem Tot.ite {c:Bool} {a b:Nat->Option α} (h1:c=true->Tot a P) (h2:c=false->Tot b P):Tot (λ n=>if c=true then a n else b n) P:=by
 cases c with
 | true=>exact h1 rfl
 | false=>exact h2 rfl
theorem Tot.iteT {c:Bool} {a b:Nat->Option α} (h:c=true) (k:Tot a P):Tot (λ n=>if c=true then a n else b n) P:=by subst h;exact k
theorem Tot.iteF {c:Bool} {a b:Nat->Option α} (h:c=false) (k:Tot b P):Tot (λ n=>if c=true then a n else b n) P:=by subst h;exact k
theorem Tot.guard {c:Bool} {f:Nat->Option β} {d:β} {g:Nat->β->Option α} {R:β->Prop} (h:c=true->Tot f R) (k:∀ x,(c=true->R x)->Tot (λ n=>g n x) P):Tot (λ n=>(if c=true then f n else some d).bind (g n)) P:=by
 cases c with
 | true=>exact Tot.bind (h rfl) λ x hx=>k x λ _=>hx
 | false=>exact k d λ h=>by cases h
theorem Tot.congr {f g:Nat->Option α} (h:Tot f P) (e:∀ n,g n=f n):Tot g P:=by obtain ⟨z,hz,h⟩:=h;exact ⟨z,hz,h.congr e⟩
theorem Tot.whl {body:Nat->σ->Option (σ⊕ρ)} {P:ρ->Prop} (I:Nat->σ->Prop) (h:∀ k x,I k x->Tot (λ n=>body n x) (Rd2 (λ y=>∃ j,j<k/\I j y) P)):∀ (k:Nat) (x:σ),I k x->Tot (λ n=>Go.AI.whl (body n) n x) P:=by
 have key:∀ (k:Nat) (x:σ),I k x->∃ r,P r/\∃ N c,∀ n fuel,N<=n->c<=fuel->Go.AI.whl (body n) fuel x=some r:=by
  intro k
  induction k using Nat.strongRecOn with
  | _ k ih=>
   intro x hx
   obtain ⟨z,hz,N1,h1⟩:=h k x hx
   cases z with
   | inl y=>
    obtain ⟨j,hj,hy⟩:=hz
    obtain ⟨r,hr,N2,c,h2⟩:=ih j hj y hy
    refine ⟨r,hr,max N1 N2,c+1,λ n fuel hn hf=>?_⟩
    cases fuel with
    | zero=>omega
    | succ fuel=>
     have e:=h1 n (by omega)
     simp only at e
     simp only [Go.AI.whl,e]
     exact h2 n fuel (by omega) (by omega)
   | inr r=>
    refine ⟨r,hz,N1,1,λ n fuel hn hf=>?_⟩
    cases fuel with
    | zero=>omega
    | succ fuel=>
     have e:=h1 n hn
     simp only at e
     simp only [Go.AI.whl,e]
 intro k x hx
 obtain ⟨r,hr,N,c,hh⟩:=key k x hx
 exact ⟨r,hr,max N c,λ m hm=>hh m m (by omega) (by omega)⟩
theorem Tot.upto {body:Nat->σ->Option (σ⊕ρ)} {P:ρ->Prop} (N:Nat) (I:Nat->σ->Prop)
  (step:∀ i x,i<N->I i x->Tot (λ n=>body n x) (Rd2 (I (i+1)) P))
  (last:∀ x,I N x->Tot (λ n=>body n x) (Rd2 (λ _=>False) P)) (x:σ) (h0:I 0 x):Tot (λ n=>Go.AI.whl (body n) n x) P:=by
 refine Tot.whl (body:=body) (λ k x=>∃ i,i<=N/\k=N-i/\I i x) ?_ N x ⟨0,by omega,by omega,h0⟩
 rintro k x ⟨i,hi,rfl,hx⟩
 rcases Yw i N with hlt|hge
 ·refine (step i x hlt hx).mono λ z hz=>?_
  cases z with
  | inl y=>exact ⟨N-(i+1),by omega,i+1,by omega,rfl,hz⟩
  | inr r=>exact hz
 ·have:i=N:=by omega
  subst this
  refine (last x hx).mono λ z hz=>?_
  cases z with
  | inl y=>exact hz.elim
  | inr r=>exact hz
theorem Ww {l:List α} {i:Nat} {x:α} (h:l[i]? = some x):idx l (i:Int)=some x:=by
 unfold idx
 rw [if_pos (by omega)]
 simpa using h
theorem Gb {l:List α} {i:Nat} (h:i<l.length):idx l (i:Int)=some l[i]:=Ww (YD h)
theorem Gc {eb:Nat} {xs ys:List α} (h:(xs.length+ys.length)*eb<=70368744177664):app eb xs ys=some (xs++ys):=by
 unfold app;rw [if_pos h]
theorem SM {l:List α} {i:Nat} {y:α} (h:i<l.length):put l (i:Int) y=some (l.set i y):=by
 unfold put;rw [if_pos (by omega),Int.toNat_natCast]
end Go.AI
end
section
namespace Go.AI
theorem T0 (a:Int):IntKind.i64.wrap a=if decide (a % 18446744073709551616>=9223372036854775808)=true then a % 18446744073709551616-18446744073709551616 else a % 18446744073709551616:=rfl
theorem w64 {a:Int} (h:-9223372036854775808<=a) (h':a<9223372036854775808):IntKind.i64.wrap a=a:=by
 rw [T0]
 simp only [decide_eq_true_eq]
 split<;>omega
theorem Hr {a b:Int} (h:-9223372036854775808<=a+b) (h':a+b<9223372036854775808):A6 .i64 a b=a+b:=w64 h h'
theorem CY {a b:Int} (h:-9223372036854775808<=a-b) (h':a-b<9223372036854775808):A0 .i64 a b=a-b:=w64 h h'
theorem IA {a b:Int} (h:-9223372036854775808<=a*b) (h':a*b<9223372036854775808):Ba .i64 a b=a*b:=w64 h h'
theorem Bm {i:Nat} (h:i<9223372036854775807):A6 .i64 (i:Int) 1=((i+1:Nat):Int):=by rw [Hr]<;>omega
theorem BQ {a m:Int} (h:0<=a) (hm:0<m):BM a m=a % m/\0<=BM a m/\BM a m<m:=by
 have e:BM a m=a % m:=by unfold BM;rw [Int.tmod_eq_emod_of_nonneg h]
 rw [e];exact ⟨rfl,Int.emod_nonneg _ (by omega),Int.emod_lt_of_pos _ hm⟩
variable {α β σ ρ:Type}
theorem Xx [Inhabited α] {l:List α} {i:Int} (h:0<=i) (h':i<l.length):idx l i=some (l.getD i.toNat default):=by
 unfold idx
 rw [if_pos h,List.getD_eq_getElem?_getD,YD (by omega)];rfl
theorem Cy [Inhabited α] {l:List α} {i:Nat} (h:i<l.length):idx l (i:Int)=some (l.getD i default):=by
 rw [Xx (by omega) (by omega),Int.toNat_natCast]
theorem Xy {l:List α} {a b:Int} (h:0<=a) (h1:a<=b) (h2:b<=l.length):sub l a b=some ((l.take b.toNat).drop a.toNat):=by
 unfold sub;rw [if_pos ⟨h,h1,h2⟩]
theorem Pw {l:List α} {k:Nat} (h:k<=l.length):sub l 0 (k:Int)=some (l.take k):=by
 rw [Xy (by omega) (by omega) (by omega)];simp
theorem Ny:BK true=some ():=rfl
theorem C8 {b:Bool} (h:b=true):BK b=some ():=by subst h;rfl
theorem OQ {body:σ->Option (σ⊕ρ)} {r:ρ} (st:Nat->σ) (k:Nat) (step:∀ i,i<k->body (st i)=some (.inl (st (i+1)))) (last:body (st k)=some (.inr r)):∀ n,k<n->whl body n (st 0)=some r:=by
 have key:∀ (j n i:Nat),i+j=k->j<n->whl body n (st i)=some r:=by
  intro j
  induction j with
  | zero=>
   intro n i hi hn
   cases n with
   | zero=>omega
   | succ n=>
    have:i=k:=by omega
    subst this;simp only [whl,last]
  | succ j ih=>
   intro n i hi hn
   cases n with
   | zero=>omega
   | succ n=>simp only [whl,step i (by omega)];exact ih n (i+1) (by omega) (by omega)
 intro n hn
 exact key k n 0 (by omega) hn
theorem Ev.to {body:Nat->σ->Option (σ⊕ρ)} {r:ρ} (st:Nat->σ) (k:Nat) (h:∃ N,∀ n,N<=n->(∀ i,i<k->body n (st i)=some (.inl (st (i+1))))/\body n (st k)=some (.inr r)):Ev (λ n=>Go.AI.whl (body n) n (st 0)) r:=by
 obtain ⟨N,h⟩:=h
 exact ⟨max N (k+1),λ n hn=>OQ st k (h n (by omega)).1 (h n (by omega)).2 n (by omega)⟩
def Ep (N:Nat) (stop:Nat->Option ρ) (d:ρ):ρ:=((List.range N).findSome? stop).getD d
theorem QE {N:Nat} {stop:Nat->Option ρ} {d:ρ} (h:∀ i,i<N->stop i=none):Ep N stop d=d:=by
 unfold Ep
 rw [List.findSome?_eq_none_iff.2 λ i hi=>h i (List.mem_range.1 hi)];rfl
theorem QF {N:Nat} {stop:Nat->Option ρ} {d r:ρ} (k:Nat) (hk:k<N) (hr:stop k=some r) (h:∀ i,i<k->stop i=none):Ep N stop d=r:=by
 unfold Ep
 have:(List.range N).findSome? stop=some r:=by
  have e:List.range N=List.range k++(List.range (N-k)).map (k+·):=by rw [← List.range_add];congr 1;omega
  rw [e,List.findSome?_append,List.findSome?_eq_none_iff.2 λ i hi=>h i (List.mem_range.1 hi)]
  have:N-k=(N-k-1)+1:=by omega
  rw [this,List.range_succ_eq_map]
  simp [hr]
 rw [this];rfl
theorem KG (N:Nat) (stop:Nat->Option ρ) (d:ρ):((∀ i,i<N->stop i=none)/\Ep N stop d=d)\/∃ k r,k<N/\stop k=some r/\(∀ i,i<k->stop i=none)/\Ep N stop d=r:=by
 by_cases h:∀ i,i<N->stop i=none
 ·exact .inl ⟨h,QE h⟩
 ·right
  have hex:∃ k,k<N/\stop k≠none:=by
   apply Classical.byContradiction
   intro hh
   exact h λ i hi=>Classical.byContradiction λ hn=>hh ⟨i,hi,hn⟩
  have key:∀ m,(∃ k,k<m/\k<N/\stop k≠none)->∃ k,k<N/\stop k≠none/\∀ i,i<k->stop i=none:=by
   intro m
   induction m with
   | zero=>rintro ⟨k,hk,_⟩;omega
   | succ m ih=>
    rintro ⟨k,hk,h1,h2⟩
    by_cases hm:∃ k,k<m/\k<N/\stop k≠none
    ·exact ih hm
    ·refine ⟨k,h1,h2,λ i hi=>Classical.byContradiction λ hn=>hm ⟨i,by omega,by omega,hn⟩⟩
  obtain ⟨k0,h1,h2⟩:=hex
  obtain ⟨k,h3,h4,h5⟩:=key (k0+1) ⟨k0,by omega,h1,h2⟩
  obtain ⟨r,hr⟩:=Option.ne_none_iff_exists'.1 h4
  exact ⟨k,r,h3,hr,h5,QF k h3 hr h5⟩
theorem QG {body:Int->Option (Int⊕ρ)} {N:Nat} (stop:Nat->Option ρ) {d:ρ} (h1:∀ i,i<N->body (i:Int)=some (match stop i with|some r=>.inr r|none=>.inl ((i+1:Nat):Int))) (h2:body (N:Int)=some (.inr d)):∀ n,N<n->whl body n 0=some (Ep N stop d):=by
 intro n hn
 rcases KG N stop d with ⟨h,e⟩|⟨k,r,hk,hr,h,e⟩
 ·rw [e]
  exact OQ (λ i=>(i:Int)) N (λ i hi=>by rw [h1 i hi,h i hi]) h2 n hn
 ·rw [e]
  exact OQ (λ i=>(i:Int)) k (λ i hi=>by rw [h1 i (by omega),h i hi]) (by rw [h1 k hk,hr]) n (by omega)
theorem Ev.first {body:Nat->Int->Option (Int⊕ρ)} {N:Nat} (stop:Nat->Option ρ) {d:ρ} (h:∃ M,∀ n,M<=n->(∀ i,i<N->body n (i:Int)=some (match stop i with|some r=>.inr r|none=>.inl ((i+1:Nat):Int)))/\body n (N:Int)=some (.inr d)):Ev (λ n=>Go.AI.whl (body n) n 0) (Ep N stop d):=by
 obtain ⟨M,h⟩:=h
 exact ⟨max M (N+1),λ n hn=>QG stop (h n (by omega)).1 (h n (by omega)).2 n (by omega)⟩
theorem Tot.gE {P:α->Prop} {c:Bool} {f:Nat->Option β} {d x:β} {g:Nat->β->Option α} (hc:c=true) (h:Ev f x) (k:Tot (λ n=>g n x) P):Tot (λ n=>(if c=true then f n else some d).bind (g n)) P:=by
 subst hc;exact Tot.bindE h k
theorem Tot.gF {P:α->Prop} {c:Bool} {f:Nat->Option β} {d:β} {g:Nat->β->Option α} (hc:c=false) (k:Tot (λ n=>g n d) P):Tot (λ n=>(if c=true then f n else some d).bind (g n)) P:=by
 subst hc;exact k
theorem Ev.many {f:Nat->Nat->Option α} {z:Nat->α} (N:Nat) (h:∀ i,i<N->Ev (λ n=>f n i) (z i)):∃ M,∀ n,M<=n->∀ i,i<N->f n i=some (z i):=by
 induction N with
 | zero=>exact ⟨0,λ n _ i hi=>by omega⟩
 | succ N ih=>
  obtain ⟨M1,h1⟩:=ih λ i hi=>h i (by omega)
  obtain ⟨M2,h2⟩:=h N (by omega)
  exact ⟨max M1 M2,λ n hn i hi=>by
   by_cases e:i=N
   ·subst e;exact h2 n (by omega)
   ·exact h1 n (by omega) i (by omega)⟩
end Go.AI
end
section
namespace Go.AI
def Nr (p:Aa):Prop:=(-1000<=p.X/\p.X<=1000)/\-1000<=p.Y/\p.Y<=1000
theorem T1 {a b:Int} (A B:Int) (h1:-A<=a) (h2:a<=A) (h3:-B<=b) (h4:b<=B):-(A*B)<=a*b/\a*b<=A*B:=by
 have hA:a.natAbs<=A.toNat:=by omega
 have hB:b.natAbs<=B.toNat:=by omega
 have h:=Nat.mul_le_mul hA hB
 rw [← Int.natAbs_mul] at h
 have e:((A.toNat*B.toNat:Nat):Int)=A*B:=by
  rw [Int.natCast_mul,Int.toNat_of_nonneg (by omega),Int.toNat_of_nonneg (by omega)]
 omega
theorem Nz (P:List Aa) {i:Nat} (h:i<P.length):P.getD i default∈P:=by
 rw [List.getD_eq_getElem?_getD,YD h]
 exact Yt _
def DC (a b:Aa):Nat:=max (a.X-b.X).natAbs (a.Y-b.Y).natAbs
def btw (a b:Int) (k n:Nat):Int:=(2*(a*n+k*(b-a))+n) / (2*n)
def ptL (a b:Aa) (k:Nat):Aa:=⟨btw a.X b.X k (DC a b),btw a.Y b.Y k (DC a b)⟩
def CB (a b:Aa):List Aa:=if DC a b=0 then [a] else (List.range (DC a b+1)).map (ptL a b)
theorem Hs {a b:Aa} (ha:Nr a) (hb:Nr b):DC a b<=2000:=by
 unfold DC;unfold Nr at ha hb;omega
theorem Ld {a d:Int} (hd:0<d):(if decide (BM a d<0)=true then a.tdiv d-1 else a.tdiv d)=a / d:=by
 unfold BM
 have h1:=Int.mul_tdiv_add_tmod a d
 have h2:=Int.mul_ediv_add_emod a d
 have h3:=Int.emod_nonneg a (show d≠0 by omega)
 have h4:=Int.emod_lt_of_pos a hd
 rcases Int.lt_or_le a 0 with ha|ha
 ·have h5:a.tmod d<=0:=by
   have:=Int.tmod_nonneg d (a:=-a) (by omega)
   rw [Int.neg_tmod] at this
   omega
  have h6:-d<a.tmod d:=by
   have:=Int.lt_tmod_of_pos a hd
   omega
  split
  ·rename_i h
   have h:=of_decide_eq_true h
   refine Eq.symm (Int.ediv_eq_iff_of_pos hd |>.2 ?_)
   have:d*(a.tdiv d-1)=d*a.tdiv d-d:=by rw [Int.mul_sub,Int.mul_one]
   constructor
   ·rw [Int.mul_comm];omega
   ·rw [Int.mul_comm];omega
  ·rename_i h
   have h:¬a.tmod d<0:=λ hh=>h (decide_eq_true hh)
   refine Eq.symm (Int.ediv_eq_iff_of_pos hd |>.2 ?_)
   constructor
   ·rw [Int.mul_comm];omega
   ·rw [Int.mul_comm];omega
 ·have h5:=Int.tmod_nonneg d ha
  rw [if_neg (by simpa using h5)]
  exact Int.tdiv_eq_ediv_of_nonneg ha
theorem SN {a b:Int} {k n:Nat} (ha:-1000<=a) (ha':a<=1000) (hb:-1000<=b) (hb':b<=1000) (hk:k<=2000) (hn:n<=2000) :
  (Ba .i64 a n=a*n/\A0 .i64 b a=b-a/\Ba .i64 k (b-a)=k*(b-a)/\A6 .i64 (a*n) (k*(b-a))=a*n+k*(b-a) /\
  Ba .i64 2 (a*n+k*(b-a))=2*(a*n+k*(b-a))/\A6 .i64 (2*(a*n+k*(b-a))) n=2*(a*n+k*(b-a))+n/\Ba .i64 2 n=2*n) /\
  -20000000<=2*(a*n+k*(b-a))+n/\2*(a*n+k*(b-a))+n<=20000000:=by
 have h1:=T1 (a:=a) (b:=n) 1000 2000 ha ha' (by omega) (by omega)
 have h2:=T1 (a:=k) (b:=b-a) 2000 2000 (by omega) (by omega) (by omega) (by omega)
 exact ⟨⟨IA (by omega) (by omega),CY (by omega) (by omega),IA (by omega) (by omega),Hr (by omega) (by omega),IA (by omega) (by omega),Hr (by omega) (by omega),IA (by omega) (by omega)⟩,by omega,by omega⟩
theorem SO {a d:Int} (h:-20000000<=a) (h':a<=20000000):-20000000<=a.tdiv d/\a.tdiv d<=20000000:=by
 have:=Int.natAbs_tdiv_le_natAbs a d
 omega
theorem Kf (m:Nat) {a b:Int} {k n:Nat} (ha:-1000<=a) (ha':a<=1000) (hb:-1000<=b) (hb':b<=1000) (hk:k<=2000) (hn:n<=2000) (h0:0<n) :
  Dq m a b k n=some (btw a b k n):=by
 obtain ⟨⟨e1,e2,e3,e4,e5,e6,e7⟩,l1,l2⟩:=SN ha ha' hb hb' hk hn
 unfold Dq CI btw
 rw [e1,e2,e3,e4,e5,e6,e7]
 have hz:(!(2*(n:Int)==0))=true:=by simp;omega
 rw [hz]
 have q:=SO (d:=2*n) l1 l2
 have e8:Kt .i64 (2*(a*n+k*(b-a))+n) (2*n)=(2*(a*n+k*(b-a))+n).tdiv (2*n):=w64 (by omega) (by omega)
 rw [e8,CY (by omega) (by omega)]
 have:=Ld (a:=2*(a*n+k*(b-a))+n) (d:=2*n) (by omega)
 rw [← this]
 simp only [Ny,Yn]
 split<;>rfl
theorem NA (m:Nat) {a b:Int} {k n:Nat} (ha:-1000<=a) (ha':a<=1000) (hb:-1000<=b) (hb':b<=1000) (hk:k<=2000) (hn:n<=2000) (h0:0<n) :
  D2 m (A6 .i64 (Ba .i64 2 (A6 .i64 (Ba .i64 a n) (Ba .i64 k (A0 .i64 b a)))) n) (Ba .i64 2 n)=some (btw a b k n):=by
 obtain ⟨⟨e1,e2,e3,e4,e5,e6,e7⟩,l1,l2⟩:=SN ha ha' hb hb' hk hn
 unfold D2 Dg btw
 rw [e1,e2,e3,e4,e5,e6,e7]
 have hz:(!(2*(n:Int)==0))=true:=by simp;omega
 rw [hz]
 have q:=SO (d:=2*n) l1 l2
 have e8:Kt .i64 (2*(a*n+k*(b-a))+n) (2*n)=(2*(a*n+k*(b-a))+n).tdiv (2*n):=w64 (by omega) (by omega)
 rw [e8,CY (by omega) (by omega)]
 have:=Ld (a:=2*(a*n+k*(b-a))+n) (d:=2*n) (by omega)
 rw [← this]
 simp only [Ny,Yn]
 split<;>rfl
theorem Wx (m:Nat) {a b:Aa} (ha:Nr a) (hb:Nr b):Hh m a b=some ((DC a b:Nat):Int):=by
 unfold Nr at ha hb
 unfold Hh Hg DC
 simp only [Yn]
 rw [CY (a:=a.X) (by omega) (by omega),CY (a:=a.Y) (by omega) (by omega)]
 unfold Rq
 rw [w64 (a:=0-(a.X-b.X)) (by omega) (by omega),w64 (a:=0-(a.Y-b.Y)) (by omega) (by omega)]
 congr 1
 split<;>split<;>split<;>omega
theorem SP (m:Nat) {a b:Aa} (ha:Nr a) (hb:Nr b):Gk m a b=some ((DC a b:Nat):Int):=by
 unfold Nr at ha hb
 have ab:∀ x:Int,-2000<=x->x<=2000->He m x=some ((x.natAbs:Nat):Int):=by
  intro x h h'
  unfold He Rq
  rw [w64 (a:=0-x) (by omega) (by omega)]
  split<;>rename_i hx<;>simp at hx<;>congr 1<;>omega
 unfold Gk DC
 rw [CY (a:=a.X) (by omega) (by omega),CY (a:=a.Y) (by omega) (by omega),ab _ (by omega) (by omega),ab _ (by omega) (by omega)]
 simp only [Yn]
 congr 1
 split<;>omega
theorem T3 {l:List Aa} (hl:l.length<=1000) (h:∀ p∈l,Nr p):Ev (λ n=>JY n l) true:=by
 refine Tot.ev (Tot.bind (R:=λ y=>y=.inl ()) (Tot.upto l.length (λ i (x:Int)=>x=(i:Int)) ?_ ?_ 0 rfl) λ y hy=>by subst hy;exact Tot.pure rfl)
 ·rintro i _ hi rfl
  unfold Ee
  refine Tot.iteT (decide_eq_true (by omega)) (Tot.bindC (Cy hi) (Tot.iteF ?_ (Tot.pure ?_)))
  ·have:=h _ (Nz l hi)
   unfold Nr at this
   simp only [Bool.or_eq_false_iff,decide_eq_false_iff_not]
   omega
  ·exact Bm (by omega)
 ·rintro _ rfl
  unfold Ee
  exact Tot.iteF (decide_eq_false (by omega)) (Tot.pure rfl)
theorem Gd {α:Type} (f:Nat->α) (i:Nat):(List.range (i+1)).map f=(List.range i).map f++[f i]:=by
 rw [List.range_succ,List.map_append];rfl
theorem T4 {a b:Aa} (ha:Nr a) (hb:Nr b):Ev (λ n=>JZ n a b) (CB a b):=by
 have hf:=Hs ha hb
 have ha':=ha
 have hb':=hb
 unfold Nr at ha' hb'
 refine Tot.ev (Tot.bindE (T3 (l:=[a,b]) (by simp) (by simp [ha,hb])) (Tot.iteF rfl (Tot.bindA (λ n=>SP n ha hb) ?_)))
 unfold CB
 by_cases h0:DC a b=0
 ·rw [if_pos h0,h0]
  exact Tot.iteT rfl (Tot.pure rfl)
 ·rw [if_neg h0]
  refine Tot.iteF (by simpa using h0) ?_
  refine Tot.bindC (y:=[]) ?_ ?_
  ·unfold mkc
   rw [Hr (by omega) (by omega),if_pos (by omega)];rfl
  ·refine Tot.bind (R:=λ y=>y=(List.range (DC a b+1)).map (ptL a b)) (Tot.upto (DC a b+1) (λ i (x:List Aa×Int)=>x.2=(i:Int)/\x.1=(List.range i).map (ptL a b)) ?_ ?_ _ ⟨rfl,rfl⟩) λ y hy=>Tot.pure hy
   ·rintro i ⟨l,k⟩ hi ⟨hk,hl⟩
    simp only at hk hl
    subst hk hl
    unfold Ef
    have e:A6 .i64 ((DC a b:Nat):Int) 1=((DC a b+1:Nat):Int):=Bm (by omega)
    refine Tot.iteT (decide_eq_true (by omega)) (Tot.bindA (λ n=>Kf n (by omega) (by omega) (by omega) (by omega) (by omega) hf (by omega)) (Tot.bindA (λ n=>Kf n (by omega) (by omega) (by omega) (by omega) (by omega) hf (by omega)) (Tot.bindC (Gc ?_) (Tot.pure ⟨Bm (by omega),?_⟩))))
    ·simp;omega
    ·rw [Gd];rfl
   ·rintro ⟨l,k⟩ ⟨hk,hl⟩
    simp only at hk hl
    subst hk hl
    unfold Ef
    have e:A6 .i64 ((DC a b:Nat):Int) 1=((DC a b+1:Nat):Int):=Bm (by omega)
    exact Tot.iteF (decide_eq_false (by omega)) (Tot.pure rfl)
theorem QH {a b:Aa} (ha:Nr a) (hb:Nr b):Ev (λ n=>HL n a b) (CB a b):=by
 have hf:=Hs ha hb
 have ha':=ha
 have hb':=hb
 unfold Nr at ha' hb'
 refine Tot.ev (Tot.bindA (λ n=>Wx n ha hb) ?_)
 unfold CB
 by_cases h0:DC a b=0
 ·rw [if_pos h0,h0]
  exact Tot.iteT rfl (Tot.pure rfl)
 ·rw [if_neg h0]
  refine Tot.iteF (by simpa using h0) ?_
  refine Tot.bind (R:=λ y=>y=(List.range (DC a b+1)).map (ptL a b)) (Tot.upto (DC a b+1) (λ i (x:List Aa×Int)=>x.2=(i:Int)/\x.1=(List.range i).map (ptL a b)) ?_ ?_ _ ⟨rfl,rfl⟩) λ y hy=>Tot.pure hy
  ·rintro i ⟨l,k⟩ hi ⟨hk,hl⟩
   simp only at hk hl
   subst hk hl
   unfold DP
   refine Tot.iteT (decide_eq_true (by omega)) (Tot.bindA (λ n=>NA n (by omega) (by omega) (by omega) (by omega) (by omega) hf (by omega)) (Tot.bindA (λ n=>NA n (by omega) (by omega) (by omega) (by omega) (by omega) hf (by omega)) (Tot.bindC (Gc ?_) (Tot.pure ⟨Bm (by omega),?_⟩))))
   ·simp;omega
   ·rw [Gd];rfl
  ·rintro ⟨l,k⟩ ⟨hk,hl⟩
   simp only at hk hl
   subst hk hl
   unfold DP
   exact Tot.iteF (decide_eq_false (by omega)) (Tot.pure rfl)
theorem SQ {a b p:Aa}:p∈CB a b↔(DC a b=0/\p=a)\/(DC a b≠0/\∃ k,k<=DC a b/\p=ptL a b k):=by
 unfold CB
 split
 ·rename_i h;simp [h]
 ·rename_i h
  simp only [Yy,List.mem_range,h,false_and,false_or,ne_eq,not_false_eq_true,true_and]
  constructor
  ·rintro ⟨k,hk,rfl⟩;exact ⟨k,by omega,rfl⟩
  ·rintro ⟨k,hk,rfl⟩;exact ⟨k,by omega,rfl⟩
theorem SR {a b m:Int} {k n:Nat} (h:0<n) (hk:k<=n) (ha:m<=a) (hb:m<=b):m<=btw a b k n:=by
 unfold btw
 rw [Int.le_ediv_iff_mul_le (by omega)]
 have e:a*n+k*(b-a)=a*(n-k:Nat)+k*b:=by
  have:((n-k:Nat):Int)=n-k:=by omega
  rw [this,Int.mul_sub,Int.mul_sub,Int.mul_comm (k:Int) a];omega
 rw [e]
 have h1:m*(n-k:Nat)<=a*(n-k:Nat):=Int.mul_le_mul_of_nonneg_right ha (by omega)
 have h2:k*m<=k*b:=Int.mul_le_mul_of_nonneg_left hb (by omega)
 have h3:m*(2*(n:Int))=2*(m*(n-k:Nat)+k*m):=by
  have:((n-k:Nat):Int)=n-k:=by omega
  rw [this,Int.mul_sub,Int.mul_comm (k:Int) m,Int.sub_add_cancel,← Int.mul_assoc,Int.mul_comm m 2,Int.mul_assoc]
 omega
theorem SS {a b m:Int} {k n:Nat} (h:0<n) (hk:k<=n) (ha:a<=m) (hb:b<=m):btw a b k n<=m:=by
 unfold btw
 have:(2*(a*n+k*(b-a))+n) / (2*(n:Int))<m+1:=by
  rw [Int.ediv_lt_iff_lt_mul (by omega)]
  have e:a*n+k*(b-a)=a*(n-k:Nat)+k*b:=by
   have:((n-k:Nat):Int)=n-k:=by omega
   rw [this,Int.mul_sub,Int.mul_sub,Int.mul_comm (k:Int) a];omega
  rw [e]
  have h1:a*(n-k:Nat)<=m*(n-k:Nat):=Int.mul_le_mul_of_nonneg_right ha (by omega)
  have h2:k*b<=k*m:=Int.mul_le_mul_of_nonneg_left hb (by omega)
  have h3:m*(2*(n:Int))=2*(m*(n-k:Nat)+k*m):=by
   have:((n-k:Nat):Int)=n-k:=by omega
   rw [this,Int.mul_sub,Int.mul_comm (k:Int) m,Int.sub_add_cancel,← Int.mul_assoc,Int.mul_comm m 2,Int.mul_assoc]
  rw [Int.add_mul,h3]
  omega
 omega
theorem Kg (a b:Aa):(CB a b).length=DC a b+1:=by
 unfold CB
 split
 ·rename_i h;rw [h];rfl
 ·simp
def In (m n:Aa) (p:Aa):Prop:=(m.X<=p.X/\p.X<=n.X)/\m.Y<=p.Y/\p.Y<=n.Y
theorem T5 {a b p m n:Aa} (h:p∈CB a b) (ha:In m n a) (hb:In m n b):In m n p:=by
 rw [SQ] at h
 rcases h with ⟨h,rfl⟩|⟨h,k,hk,rfl⟩
 ·exact ha
 ·exact ⟨⟨SR (by omega) hk ha.1.1 hb.1.1,SS (by omega) hk ha.1.2 hb.1.2⟩,SR (by omega) hk ha.2.1 hb.2.1,SS (by omega) hk ha.2.2 hb.2.2⟩
def mvG (t p:Aa):Aa:=⟨p.X+t.X,p.Y+t.Y⟩
end Go.AI
end
section
namespace Go.AI
def crS (a b q:Aa):Int:=(q.Y-a.Y)*(b.X-a.X)-(q.X-a.X)*(b.Y-a.Y)
def OnP (a b q:Aa):Prop:=crS a b q=0/\(min a.X b.X<=q.X/\q.X<=max a.X b.X)/\min a.Y b.Y<=q.Y/\q.Y<=max a.Y b.Y
instance (a b q:Aa):Decidable (OnP a b q):=by unfold OnP;infer_instance
def psS (a b q:Aa):Bool:=(decide (a.Y<=q.Y) != decide (b.Y<=q.Y))&&(bif decide (a.Y<b.Y) then decide (0<crS a b q) else decide (crS a b q<0))
def sd (P:List Aa) (i:Nat):Aa×Aa:=(P.getD i default,P.getD ((i+1) % P.length) default)
def onB (P:List Aa) (q:Aa) (i:Nat):Bool:=decide (OnP (sd P i).1 (sd P i).2 q)
def psB (P:List Aa) (q:Aa) (i:Nat):Bool:=psS (sd P i).1 (sd P i).2 q
def KH (P:List Aa) (q:Aa) (i:Nat):Nat:=(List.range i).countP (psB P q)
def D5 (P:List Aa) (q:Aa):Bool:=(List.range P.length).any (onB P q)||decide (KH P q P.length % 2=1)
theorem Px (a b q:Aa):crS b a q=-crS a b q:=by
 unfold crS
 have e1:q.Y-b.Y=(q.Y-a.Y)-(b.Y-a.Y):=by omega
 have e2:q.X-b.X=(q.X-a.X)-(b.X-a.X):=by omega
 have e3:a.X-b.X=-(b.X-a.X):=by omega
 have e4:a.Y-b.Y=-(b.Y-a.Y):=by omega
 rw [e1,e2,e3,e4]
 generalize q.Y-a.Y=u
 generalize q.X-a.X=v
 generalize b.X-a.X=s
 generalize b.Y-a.Y=r
 rw [Int.mul_neg,Int.mul_neg,Int.sub_mul,Int.sub_mul,Int.mul_comm r s]
 omega
theorem Xz {a b q:Aa} (ha:Nr a) (hb:Nr b) (hq:Nr q) :
  (-4000000<=(q.Y-a.Y)*(b.X-a.X)/\(q.Y-a.Y)*(b.X-a.X)<=4000000)/\-4000000<=(q.X-a.X)*(b.Y-a.Y)/\(q.X-a.X)*(b.Y-a.Y)<=4000000:=by
 unfold Nr at ha hb hq
 have h1:=T1 (a:=q.Y-a.Y) (b:=b.X-a.X) 2000 2000 (by omega) (by omega) (by omega) (by omega)
 have h2:=T1 (a:=q.X-a.X) (b:=b.Y-a.Y) 2000 2000 (by omega) (by omega) (by omega) (by omega)
 omega
theorem Py {a b q:Aa} (ha:Nr a) (hb:Nr b) (hq:Nr q) :
  (A0 .i64 b.X a.X=b.X-a.X/\A0 .i64 b.Y a.Y=b.Y-a.Y/\A0 .i64 q.X a.X=q.X-a.X/\A0 .i64 q.Y a.Y=q.Y-a.Y) /\
  Ba .i64 (q.Y-a.Y) (b.X-a.X)=(q.Y-a.Y)*(b.X-a.X)/\Ba .i64 (q.X-a.X) (b.Y-a.Y)=(q.X-a.X)*(b.Y-a.Y) /\
  Ba .i64 (b.X-a.X) (q.Y-a.Y)=(q.Y-a.Y)*(b.X-a.X)/\Ba .i64 (b.Y-a.Y) (q.X-a.X)=(q.X-a.X)*(b.Y-a.Y) /\
  A0 .i64 ((q.Y-a.Y)*(b.X-a.X)) ((q.X-a.X)*(b.Y-a.Y))=crS a b q:=by
 obtain ⟨h1,h2⟩:=Xz ha hb hq
 have e1:=Int.mul_comm (q.Y-a.Y) (b.X-a.X)
 have e2:=Int.mul_comm (q.X-a.X) (b.Y-a.Y)
 unfold Nr at ha hb hq
 exact ⟨⟨CY (by omega) (by omega),CY (by omega) (by omega),CY (by omega) (by omega),CY (by omega) (by omega)⟩,IA (by omega) (by omega),IA (by omega) (by omega),(IA (by omega) (by omega)).trans e1.symm,(IA (by omega) (by omega)).trans e2.symm,CY (by omega) (by omega)⟩
theorem XA (n:Nat) {a b q:Aa} (ha:Nr a) (hb:Nr b) (hq:Nr q):LY n a b q=some (decide (OnP a b q)):=by
 obtain ⟨⟨e1,e2,e3,e4⟩,e5,e6,e7,e8,e9⟩:=Py ha hb hq
 unfold LY
 rw [e1,e2,e3,e4,e7,e8]
 have hA:(q.Y-a.Y)*(b.X-a.X)=(q.X-a.X)*(b.Y-a.Y)↔crS a b q=0:=by unfold crS;omega
 split
 ·rename_i h
  simp only [Bool.and_true,YS,YE,beq_iff_eq] at h
  congr 1
  symm
  rw [decide_eq_true_eq]
  unfold OnP
  rw [← hA]
  rcases h with ⟨h1,h2⟩|⟨h1,h2⟩
  ·rw [h1,h2]
   refine ⟨by simp,by omega,by omega⟩
  ·rw [h1,h2]
   refine ⟨Int.mul_comm _ _,by omega,by omega⟩
 ·split
  ·rename_i h
   congr 1
   symm
   rw [decide_eq_false_iff_not]
   simp only [bne_iff_ne,ne_eq] at h
   exact λ hh=>h (hA.2 hh.1)
  ·rename_i h
   congr 1
   have h:(q.Y-a.Y)*(b.X-a.X)=(q.X-a.X)*(b.Y-a.Y):=by simpa using h
   rw [Bool.eq_iff_iff,decide_eq_true_eq]
   simp only [YE,decide_eq_true_eq]
   unfold OnP
   have hB:(if b.X<a.X then b.X else a.X)=min a.X b.X:=by split<;>omega
   have hC:(if b.X>a.X then b.X else a.X)=max a.X b.X:=by split<;>omega
   have hD:(if b.Y<a.Y then b.Y else a.Y)=min a.Y b.Y:=by split<;>omega
   have hE:(if b.Y>a.Y then b.Y else a.Y)=max a.Y b.Y:=by split<;>omega
   rw [hB,hC,hD,hE]
   constructor
   ·rintro ⟨⟨⟨h1,h2⟩,h3⟩,h4⟩;exact ⟨hA.1 h,⟨h1,h2⟩,h3,h4⟩
   ·rintro ⟨_,⟨h1,h2⟩,h3,h4⟩;exact ⟨⟨⟨h1,h2⟩,h3⟩,h4⟩
theorem T6 (n:Nat) {a b q:Aa} (ha:Nr a) (hb:Nr b) (hq:Nr q):I1 n a b q=some (decide (OnP a b q)):=by
 obtain ⟨⟨e1,e2,e3,e4⟩,e5,e6,e7,e8,e9⟩:=Py ha hb hq
 unfold I1 HM
 rw [e1,e2,e3,e4,e7,e8,e9]
 rw [Yn]
 congr 1
 rw [Bool.eq_iff_iff,decide_eq_true_eq]
 simp only [YE,decide_eq_true_eq,beq_iff_eq]
 unfold OnP
 have hB:(if b.X<a.X then b.X else a.X)=min a.X b.X:=by split<;>omega
 have hC:(if b.X>a.X then b.X else a.X)=max a.X b.X:=by split<;>omega
 have hD:(if b.Y<a.Y then b.Y else a.Y)=min a.Y b.Y:=by split<;>omega
 have hE:(if b.Y>a.Y then b.Y else a.Y)=max a.Y b.Y:=by split<;>omega
 rw [hB,hC,hD,hE]
 constructor
 ·rintro ⟨⟨⟨⟨h0,h1⟩,h2⟩,h3⟩,h4⟩;exact ⟨h0,⟨h1,h2⟩,h3,h4⟩
 ·rintro ⟨h0,⟨h1,h2⟩,h3,h4⟩;exact ⟨⟨⟨⟨h0,h1⟩,h2⟩,h3⟩,h4⟩
theorem QI (n:Nat) {a b q:Aa} (ha:Nr a) (hb:Nr b) (hq:Nr q):Fk n a b q=some (psS a b q):=by
 obtain ⟨⟨e1,e2,e3,e4⟩,e5,e6,e7,e8,e9⟩:=Py ha hb hq
 unfold Fk psS
 rw [e1,e2,e3,e4,e5,e6]
 have h1:decide ((q.Y-a.Y)*(b.X-a.X)>(q.X-a.X)*(b.Y-a.Y))=decide (0<crS a b q):=decide_eq_decide.2 (by unfold crS;omega)
 have h2:decide ((q.Y-a.Y)*(b.X-a.X)<(q.X-a.X)*(b.Y-a.Y))=decide (crS a b q<0):=decide_eq_decide.2 (by unfold crS;omega)
 rw [h1,h2]
 have h3:decide (b.Y>a.Y)=decide (a.Y<b.Y):=rfl
 rw [h3,bne]
 cases (decide (a.Y<=q.Y)==decide (b.Y<=q.Y))<;>cases decide (a.Y<b.Y)<;>rfl
theorem NB (n:Nat) {a b q:Aa} (ha:Nr a) (hb:Nr b) (hq:Nr q):Ej n a b q=some (psS a b q):=by
 obtain ⟨⟨e1,e2,e3,e4⟩,e5,e6,e7,e8,e9⟩:=Py ha hb hq
 unfold Ej psS
 rw [e1,e2,e3,e4,e5,e6]
 have h1:decide ((q.X-a.X)*(b.Y-a.Y)<(q.Y-a.Y)*(b.X-a.X))=decide (0<crS a b q):=decide_eq_decide.2 (by unfold crS;omega)
 have h2:decide ((q.X-a.X)*(b.Y-a.Y)>(q.Y-a.Y)*(b.X-a.X))=decide (crS a b q<0):=decide_eq_decide.2 (by unfold crS;omega)
 rw [h1,h2]
 have h3:decide (b.Y>a.Y)=decide (a.Y<b.Y):=rfl
 rw [h3,bne]
 cases (decide (a.Y<=q.Y)==decide (b.Y<=q.Y))<;>cases decide (a.Y<b.Y)<;>rfl
theorem Wy {N:Nat} (h:N≠0):(!(((N:Nat):Int)==0))=true:=by
 rw [Bool.not_eq_true'];exact beq_eq_false_iff_ne.2 (by omega)
theorem ST {i N:Nat} (hi:i<N) (hN:N<=1000):BM (A6 .i64 (i:Int) 1) ((N:Nat):Int)=(((i+1) % N:Nat):Int):=by
 rw [Bm (by omega),(BQ (by omega) (by omega)).1]
 omega
theorem Lf {P:List Aa} (h:∀ p∈P,Nr p) {i:Nat} (hi:i<P.length):Nr (sd P i).1/\Nr (sd P i).2:=
 ⟨h _ (Nz P hi),h _ (Nz P (Nat.mod_lt _ (by omega)))⟩
theorem Ht (P:List Aa) (q:Aa) (i:Nat):KH P q (i+1)=KH P q i+(if psB P q i=true then 1 else 0):=by
 unfold KH
 rw [List.range_succ,List.countP_append,List.countP_singleton]
theorem NC {n:Nat}:(!decide (n % 2=1))=decide ((n+1) % 2=1):=by
 rw [Bool.eq_iff_iff];simp;omega
theorem H3 {P:List Aa} {q:Aa} (hl:P.length<=1000) (h:∀ p∈P,Nr p) (hq:Nr q):Ev (λ n=>Bu n P q) (D5 P q):=by
 refine Tot.ev (Tot.bind (R:=λ y=>y=if (List.range P.length).any (onB P q)=true then .inr true else .inl (decide (KH P q P.length % 2=1)))
  (Tot.upto P.length (λ i (x:Bool×Int)=>x.2=(i:Int)/\x.1=decide (KH P q i % 2=1)/\∀ j,j<i->onB P q j=false) ?_ ?_ _ ⟨rfl,rfl,λ j hj=>by omega⟩) λ y hy=>?_)
 ·rintro i ⟨o,x⟩ hi ⟨h1,h2,h3⟩
  simp only at h1 h2
  subst h1 h2
  unfold Dc
  obtain ⟨n1,n2⟩:=Lf h hi
  have e:idx P (BM (A6 .i64 (i:Int) 1) ((P.length:Nat):Int))=some (sd P i).2:=by
   rw [ST hi hl];exact Cy (Nat.mod_lt _ (by omega))
  refine Tot.iteT (decide_eq_true (by omega)) (Tot.bindC (Cy hi) (Tot.bindC (C8 (Wy (by omega))) (Tot.bindC e (Tot.bindA (λ n=>XA n n1 n2 hq) (Tot.ite (λ ho=>Tot.pure ?_) λ ho=>Tot.bindA (λ n=>QI n n1 n2 hq) ?_)))))
  ·show _=_
   rw [if_pos]
   exact List.any_eq_true.2 ⟨i,List.mem_range.2 hi,ho⟩
  ·have hj:∀ j,j<i+1->onB P q j=false:=λ j hj=>by
    rcases Nat.lt_succ_iff_lt_or_eq.1 hj with hj|rfl
    ·exact h3 j hj
    ·exact ho
   unfold Db
   refine Tot.ite (λ hp=>Tot.pure ⟨Bm (by omega),?_,hj⟩) λ hp=>Tot.pure ⟨Bm (by omega),?_,hj⟩
   ·have hp:psB P q i=true:=hp
    rw [Ht,if_pos hp];exact NC
   ·have hp:psB P q i=false:=hp
    rw [Ht,hp];rfl
 ·rintro ⟨o,x⟩ ⟨h1,h2,h3⟩
  simp only at h1 h2
  subst h1 h2
  unfold Dc
  refine Tot.iteF (decide_eq_false (by omega)) (Tot.pure ?_)
  show _=_
  rw [if_neg]
  intro hh
  obtain ⟨j,hj,hh⟩:=List.any_eq_true.1 hh
  rw [h3 j (List.mem_range.1 hj)] at hh
  cases hh
 ·subst hy
  unfold D5
  cases (List.range P.length).any (onB P q) with
  | true=>exact Tot.pure rfl
  | false=>exact Tot.pure rfl
theorem Pz (n:Nat) {P:List Aa} {i:Nat} (hi:i<P.length) (hl:P.length<=1000):EM n P i=some (sd P i):=by
 unfold EM
 rw [Cy hi,C8 (Wy (by omega)),ST hi hl,Cy (Nat.mod_lt _ (by omega))]
 rfl
theorem IB {P:List Aa} {q:Aa} (hl:P.length<=1000) (h:∀ p∈P,Nr p) (hq:Nr q):Ev (λ n=>Ek n P q) (D5 P q):=by
 refine Tot.ev (Tot.bind (R:=λ y=>y=if (List.range P.length).any (onB P q)=true then .inr true else .inl (decide (KH P q P.length % 2=1)))
  (Tot.upto P.length (λ i (x:Bool×Int)=>x.2=(i:Int)/\x.1=decide (KH P q i % 2=1)/\∀ j,j<i->onB P q j=false) ?_ ?_ _ ⟨rfl,rfl,λ j hj=>by omega⟩) λ y hy=>?_)
 ·rintro i ⟨o,x⟩ hi ⟨h1,h2,h3⟩
  simp only at h1 h2
  subst h1 h2
  unfold CQ
  obtain ⟨n1,n2⟩:=Lf h hi
  refine Tot.iteT (decide_eq_true (by omega)) (Tot.bindA (λ n=>Pz n hi hl) (Tot.bindA (λ n=>T6 n n1 n2 hq) (Tot.ite (λ ho=>Tot.pure ?_) λ ho=>Tot.bindA (λ n=>NB n n1 n2 hq) ?_)))
  ·show _=_
   rw [if_pos]
   exact List.any_eq_true.2 ⟨i,List.mem_range.2 hi,ho⟩
  ·have hj:∀ j,j<i+1->onB P q j=false:=λ j hj=>by
    rcases Nat.lt_succ_iff_lt_or_eq.1 hj with hj|rfl
    ·exact h3 j hj
    ·exact ho
   unfold CP
   refine Tot.ite (λ hp=>Tot.pure ⟨Bm (by omega),?_,hj⟩) λ hp=>Tot.pure ⟨Bm (by omega),?_,hj⟩
   ·have hp:psB P q i=true:=hp
    rw [Ht,if_pos hp];exact NC
   ·have hp:psB P q i=false:=hp
    rw [Ht,hp];rfl
 ·rintro ⟨o,x⟩ ⟨h1,h2,h3⟩
  simp only at h1 h2
  subst h1 h2
  unfold CQ
  refine Tot.iteF (decide_eq_false (by omega)) (Tot.pure ?_)
  show _=_
  rw [if_neg]
  intro hh
  obtain ⟨j,hj,hh⟩:=List.any_eq_true.1 hh
  rw [h3 j (List.mem_range.1 hj)] at hh
  cases hh
 ·subst hy
  unfold D5
  cases (List.range P.length).any (onB P q) with
  | true=>exact Tot.pure rfl
  | false=>exact Tot.pure rfl
theorem XB (x y z:Bool) (c:Nat) (h:c % 2=if (x != y)=true then 1 else 0):(c+if (y != z)=true then 1 else 0) % 2=if (x != z)=true then 1 else 0:=by
 cases x<;>cases y<;>cases z<;>simp at h ⊢<;>omega
theorem XC (x y:Bool) (c:Nat) (h:c % 2=if (x != y)=true then 1 else 0):(c+if (y != x)=true then 1 else 0) % 2=0:=by
 cases x<;>cases y<;>simp at h ⊢<;>omega
theorem Up (f:Nat->Bool):∀ m:Nat,((List.range m).countP λ i=>f i != f (i+1)) % 2=if (f 0 != f m)=true then 1 else 0
 | 0=>by simp
 | m+1=>by
  rw [List.range_succ,List.countP_append,List.countP_singleton]
  exact XB _ _ _ _ (Up f m)
theorem QJ (f:Nat->Bool) (N:Nat):((List.range N).countP λ i=>f i != f ((i+1) % N)) % 2=0:=by
 cases N with
 | zero=>simp
 | succ m=>
  rw [List.range_succ,List.countP_append,List.countP_singleton]
  have e:(List.range m).countP (λ i=>f i != f ((i+1) % (m+1)))=(List.range m).countP (λ i=>f i != f (i+1)):=by
   refine List.countP_congr λ i hi=>?_
   rw [Nat.mod_eq_of_lt (by have:=List.mem_range.1 hi;omega)]
  rw [e,Nat.mod_self]
  exact XC _ _ _ (Up f m)
theorem SU {a b q:Aa} (ha:a.X<q.X) (hb:b.X<q.X):psS a b q=false:=by
 cases h:psS a b q with
 | false=>rfl
 | true=>
  exfalso
  unfold psS at h
  rw [YE] at h
  obtain ⟨h1,h2⟩:=h
  have hm:∀ {u v w z:Int},0<=u->u<=w->0<w->v<z->0<z->u*v<z*w:=by
   intro u v w z h1 h2 h3 h4 h5
   rcases Int.lt_or_le 0 u with hu|hu
   ·have e1:u*v<u*z:=Int.mul_lt_mul_of_pos_left h4 hu
    have e2:u*z<=w*z:=Int.mul_le_mul_of_nonneg_right h2 (by omega)
    rw [Int.mul_comm z w];omega
   ·have:u=0:=by omega
    rw [this,Int.zero_mul];exact Int.mul_pos h5 h3
  rcases Int.lt_or_le a.Y b.Y with hy|hy
  ·rw [decide_eq_true hy,cond_true,decide_eq_true_eq] at h2
   unfold crS at h2
   have hq1:a.Y<=q.Y:=by
    refine Int.le_of_not_gt λ hh=>?_
    rw [decide_eq_false (by omega),decide_eq_false (by omega)] at h1;cases h1
   have hq2:q.Y<b.Y:=by
    refine Int.lt_of_not_ge λ hh=>?_
    rw [decide_eq_true hq1,decide_eq_true (by omega)] at h1;cases h1
   have:=hm (u:=q.Y-a.Y) (v:=b.X-a.X) (w:=b.Y-a.Y) (z:=q.X-a.X) (by omega) (by omega) (by omega) (by omega) (by omega)
   omega
  ·rw [decide_eq_false (by omega),cond_false,decide_eq_true_eq] at h2
   have hs:=Px a b q
   have hq1:b.Y<=q.Y:=by
    refine Int.le_of_not_gt λ hh=>?_
    rw [decide_eq_false (by omega),decide_eq_false (by omega)] at h1;cases h1
   have hq2:q.Y<a.Y:=by
    refine Int.lt_of_not_ge λ hh=>?_
    rw [decide_eq_true (by omega),decide_eq_true (by omega)] at h1;cases h1
   have:=hm (u:=q.Y-b.Y) (v:=a.X-b.X) (w:=a.Y-b.Y) (z:=q.X-b.X) (by omega) (by omega) (by omega) (by omega) (by omega)
   unfold crS at hs h2
   omega
theorem T7 {a b q:Aa} (ha:q.X<a.X) (hb:q.X<b.X):psS a b q=(decide (a.Y<=q.Y) != decide (b.Y<=q.Y)):=by
 unfold psS
 cases h1:(decide (a.Y<=q.Y) != decide (b.Y<=q.Y)) with
 | false=>rfl
 | true=>
  rw [Bool.true_and]
  have hm:∀ {u v w z:Int},0<=u->u<w->-z<v->0<z->0<u*v+z*w:=by
   intro u v w z h1 h2 h3 h4
   have e1:u*(-z)<=u*v:=Int.mul_le_mul_of_nonneg_left (by omega) h1
   have e2:u*z<w*z:=Int.mul_lt_mul_of_pos_right h2 h4
   rw [Int.mul_neg] at e1
   rw [Int.mul_comm z w];omega
  rcases Int.lt_or_le a.Y b.Y with hy|hy
  ·rw [decide_eq_true hy,cond_true,decide_eq_true_eq]
   have hq1:a.Y<=q.Y:=by
    refine Int.le_of_not_gt λ hh=>?_
    rw [decide_eq_false (by omega),decide_eq_false (by omega)] at h1;cases h1
   have hq2:q.Y<b.Y:=by
    refine Int.lt_of_not_ge λ hh=>?_
    rw [decide_eq_true hq1,decide_eq_true (by omega)] at h1;cases h1
   have:=hm (u:=q.Y-a.Y) (v:=b.X-a.X) (w:=b.Y-a.Y) (z:=a.X-q.X) (by omega) (by omega) (by omega) (by omega)
   unfold crS
   have e:q.X-a.X=-(a.X-q.X):=by omega
   rw [e,Int.neg_mul]
   omega
  ·rw [decide_eq_false (by omega),cond_false,decide_eq_true_eq]
   have hs:=Px a b q
   have hq1:b.Y<=q.Y:=by
    refine Int.le_of_not_gt λ hh=>?_
    rw [decide_eq_false (by omega),decide_eq_false (by omega)] at h1;cases h1
   have hq2:q.Y<a.Y:=by
    refine Int.lt_of_not_ge λ hh=>?_
    rw [decide_eq_true (by omega),decide_eq_true (by omega)] at h1;cases h1
   have:=hm (u:=q.Y-b.Y) (v:=a.X-b.X) (w:=a.Y-b.Y) (z:=b.X-q.X) (by omega) (by omega) (by omega) (by omega)
   have e:crS b a q=(q.Y-b.Y)*(a.X-b.X)+(b.X-q.X)*(a.Y-b.Y):=by
    unfold crS
    have e:q.X-b.X=-(b.X-q.X):=by omega
    rw [e,Int.neg_mul]
    omega
   omega
theorem OR {P:List Aa} {q m n:Aa} (h:∀ p∈P,In m n p) (hq:D5 P q=true):In m n q:=by
 unfold D5 at hq
 rw [YS,List.any_eq_true,decide_eq_true_eq] at hq
 have hs:∀ i,i<P.length->In m n (sd P i).1/\In m n (sd P i).2:=λ i hi=>⟨h _ (Nz P hi),h _ (Nz P (Nat.mod_lt _ (by omega)))⟩
 rcases hq with ⟨i,hi,hq⟩|hq
 ·have hi:=List.mem_range.1 hi
  obtain ⟨h1,h2⟩:=hs i hi
  have hq:=(of_decide_eq_true hq).2
  unfold In at *
  omega
 ·have hex:∃ i,i<P.length/\psB P q i=true:=by
   refine Classical.byContradiction λ hh=>?_
   have:KH P q P.length=0:=List.countP_eq_zero.2 λ i hi hp=>hh ⟨i,List.mem_range.1 hi,hp⟩
   omega
  obtain ⟨i,hi,hp⟩:=hex
  obtain ⟨h1,h2⟩:=hs i hi
  have hY:m.Y<=q.Y/\q.Y<=n.Y:=by
   unfold psB psS at hp
   rw [YE] at hp
   have hp:=hp.1
   unfold In at h1 h2
   constructor
   ·refine Int.le_of_not_gt λ hh=>?_
    rw [decide_eq_false (by omega),decide_eq_false (by omega)] at hp;cases hp
   ·refine Int.le_of_not_gt λ hh=>?_
    rw [decide_eq_true (by omega),decide_eq_true (by omega)] at hp;cases hp
  have hX:m.X<=q.X:=by
   refine Int.le_of_not_gt λ hh=>?_
   have e:KH P q P.length=(List.range P.length).countP λ i=>(λ j=>decide ((P.getD j default).Y<=q.Y)) i != (λ j=>decide ((P.getD j default).Y<=q.Y)) ((i+1) % P.length):=by
    refine List.countP_congr λ i hi=>?_
    obtain ⟨h1,h2⟩:=hs i (List.mem_range.1 hi)
    unfold In at h1 h2
    unfold psB
    rw [T7 (by omega) (by omega)]
    exact Iff.rfl
   rw [e,QJ] at hq
   cases hq
  have hX':q.X<=n.X:=by
   refine Int.le_of_not_gt λ hh=>?_
   unfold In at h1 h2
   unfold psB at hp
   rw [SU (by omega) (by omega)] at hp
   cases hp
  exact ⟨⟨hX,hX'⟩,hY⟩
end Go.AI
end
section
namespace Go.AI
def ltG (p q:Aa):Prop:=p.Y<q.Y\/(p.Y=q.Y/\p.X<q.X)
instance (p q:Aa):Decidable (ltG p q):=by unfold ltG;infer_instance
def ltB (p q:Aa):Bool:=decide (ltG p q)
theorem Fr (p:Aa):¬ltG p p:=by unfold ltG;omega
theorem H4 {p q r:Aa} (h:ltG p q) (h':ltG q r):ltG p r:=by unfold ltG at *;omega
theorem L9 {p q:Aa} (h:¬ltG p q) (h':¬ltG q p):p=q:=by
 unfold ltG at *
 cases p;cases q;simp only [Aa.mk.injEq] at *;omega
def Inc (l:List Aa):Prop:=l.Pairwise ltG
theorem Inc.nodup {l:List Aa} (h:Inc l):l.Nodup:=h.imp λ {a b} h e=>by subst e;exact Fr _ h
theorem Inc.uniq {l m:List Aa} (h:Inc l) (h':Inc m) (e:∀ p,p∈l↔p∈m):l=m:=
 ((List.perm_ext_iff_of_nodup h.nodup h'.nodup).2 e).eq_of_pairwise (le:=ltG) (λ _ _ _ _ h1 h2=>absurd (H4 h1 h2) (Fr _)) h h'
def QK (a b:Int):Int:=if a<b then -1 else if b<a then 1 else 0
theorem Kh (n:Nat) (a b:Int):BP n a b=some (QK a b):=by
 unfold BP CJ QK
 simp only [bne_self_eq_false,Yn,YN,if_false,decide_eq_true_eq]
 split
 ·rfl
 ·split<;>rfl
theorem XD (k:Nat) (a b:Int):Eg (k+4) [a,b]=some (if a=0 then b else a):=by
 have s0:Cd (k+4) [a,b] 0=if (a != 0)=true then some (.inr (.inr a)) else some (.inl 1):=rfl
 have s1:Cd (k+4) [a,b] 1=if (b != 0)=true then some (.inr (.inr b)) else some (.inl 2):=rfl
 have s2:Cd (k+4) [a,b] 2=some (.inr (.inl ())):=rfl
 unfold Eg
 by_cases ha:a=0
 ·rw [if_neg (by simpa using ha)] at s0
  by_cases hb:b=0
  ·rw [if_neg (by simpa using hb)] at s1
   simp only [Go.AI.whl,s0,s1,s2]
   rw [ha,hb];rfl
  ·rw [if_pos (by simpa using hb)] at s1
   simp only [Go.AI.whl,s0,s1]
   rw [ha];rfl
 ·rw [if_pos (by simpa using ha)] at s0
  simp only [Go.AI.whl,s0]
  rw [if_neg ha];rfl
theorem SV (k:Nat) (p q:Aa):BI (k+4) p q=some (if QK p.Y q.Y=0 then QK p.X q.X else QK p.Y q.Y):=by
 unfold BI
 rw [Kh,Kh,Yn,Yn,XD];rfl
theorem Ge (k:Nat):ltC (λ x y=>BI (k+4) x y)=ltB:=by
 funext p q
 have e:BI (k+4) p q=some _:=SV k p q
 unfold ltC ltB
 simp only [e,Ys]
 refine decide_eq_decide.2 ?_
 unfold QK ltG
 split<;>split<;>(try split)<;>(try split)<;>omega
theorem SW (k:Nat):Pr (λ x y=>BI (k+4) x y):={
 tot x y:=by show (BI (k+4) x y).isSome=true;rw [SV];rfl
 irrefl x:=by rw [Ge];exact decide_eq_false (Fr x)
 trans x y z:=by rw [Ge];exact λ h h'=>decide_eq_true (H4 (of_decide_eq_true h) (of_decide_eq_true h'))
 ntrans x y z:=by
  rw [Ge]
  intro h h'
  refine decide_eq_false ?_
  have h:=of_decide_eq_false h
  have h':=of_decide_eq_false h'
  unfold ltG at *;omega
 one x y:=by rw [Ge];exact λ h h'=>L9 (of_decide_eq_false h) (of_decide_eq_false h') }
def srt (m:List (Aa×Bool)):List Aa:=Fi ltB (m.map Prod.fst)
theorem SX (x y z:Aa) (h:ltB x y=false) (h':ltB y z=false):ltB x z=false:=(Ge 0)▸(SW 0).ntrans x y z ((Ge 0).symm▸h) ((Ge 0).symm▸h')
theorem SY (x y:Aa) (h:ltB x y=true):ltB y x=false:=decide_eq_false λ h'=>Fr _ (H4 (of_decide_eq_true h) h')
theorem OS {l m:List Aa} (h:l.Perm m):Fi ltB l=Fi ltB m:=
 List.Perm.eq_of_pairwise (le:=λ a b=>ltB b a=false) (λ _ _ _ _ h1 h2=>L9 (of_decide_eq_false h2) (of_decide_eq_false h1)) (Ck SX SY l) (Ck SX SY m) ((Cc l).trans (h.trans (Cc m).symm))
theorem Ma {m:List (Aa×Bool)} (h:(m.map Prod.fst).Nodup):Inc (srt m):=by
 have h1:(srt m).Nodup:=(Cc (lt:=ltB) (m.map Prod.fst)).nodup_iff.2 h
 have h2:=Ck SX SY (m.map Prod.fst)
 refine (List.Pairwise.and h2 h1).imp λ {a b} hh=>?_
 have h3:=of_decide_eq_false hh.1
 rcases Classical.em (ltG a b) with h|h
 ·exact h
 ·exact absurd (L9 h h3) hh.2
theorem Mb {m:List (Aa×Bool)} {p:Aa}:p∈srt m↔p∈m.map Prod.fst:=(Cc (m.map Prod.fst)).mem_iff
theorem I2 (m:List (Aa×Bool)):(srt m).length=m.length:=by
 unfold srt
 rw [(Cc (lt:=ltB) (m.map Prod.fst)).length_eq,YB]
theorem Lg (n:Nat):∀ (ord:List (Aa×Bool)) (x:List Aa),(x.length+ord.length)*16<=70368744177664 ->
  DA (λ (e:(Aa×Bool)) (x:(List Aa))=>AG n e x) ord x=some (.inl (x++ord.map Prod.fst))
 | [],x,_=>by simp [DA]
 | e::ord,x,h=>by
  rw [List.length_cons] at h
  have e1:AG n e x=some (.inl (x++[e.1])):=by
   unfold AG Fl
   rw [Gc (by simp;omega)];rfl
  unfold DA
  rw [e1]
  show DA _ ord (x++[e.1])=_
  rw [Lg n ord _ (by simp;omega)]
  simp
theorem QL (k:Nat) {m:List (Aa×Bool)} (hl:m.length<=1000000):Cw (k+4) m=some (srt m):=by
 have h1:∃ S,B6 (k+4) m ([]:List Aa)=some S/\(∀ z,S z->z.Perm (m.map Prod.fst))/\S (m.map Prod.fst):=by
  unfold B6
  have hk:∀ a:List (Aa×Bool),a.Perm m->(DA (λ (e:(Aa×Bool)) (x:(List Aa))=>AG (k+4) e x) a ([]:List Aa))=some (.inl (a.map Prod.fst)):=λ a ha=>by
   have:=ha.length_eq
   rw [Lg _ _ _ (by simp;omega)];rfl
  refine ⟨_,LV λ a ha=>⟨Ky (a.map Prod.fst),by rw [hk a ha];rfl⟩,?_,?_⟩
  ·rintro z ⟨a,Z,ha,hZ,hz⟩
   rw [hk a ha] at hZ
   obtain rfl:Ky (a.map Prod.fst)=Z:=by simpa using hZ
   rw [show z=a.map Prod.fst from hz]
   exact ha.map _
  ·exact ⟨m,Ky (m.map Prod.fst),.refl _,by rw [hk m (.refl _)];rfl,rfl⟩
 obtain ⟨S1,e1,p1,q1⟩:=h1
 have h2:∃ S,Fm (k+4) m=some S/\(∀ z,S z->z.Perm (m.map Prod.fst))/\S (m.map Prod.fst):=by
  unfold Fm
  rw [e1]
  refine ⟨_,LV (S:=S1) λ a _=>⟨Ky a,rfl⟩,?_,?_⟩
  ·rintro z ⟨a,Z,ha,hZ,hz⟩
   obtain rfl:Ky a=Z:=by simpa using hZ
   rw [show z=a from hz]
   exact p1 a ha
  ·exact ⟨m.map Prod.fst,_,q1,rfl,rfl⟩
 obtain ⟨S2,e2,p2,q2⟩:=h2
 have h3:∃ S,Eh (k+4) m=some S/\(∀ z,S z->z.Perm (m.map Prod.fst))/\S (m.map Prod.fst):=by
  unfold Eh
  rw [e2]
  refine ⟨_,LV (S:=S2) λ a _=>⟨Ky a,rfl⟩,?_,?_⟩
  ·rintro z ⟨a,Z,ha,hZ,hz⟩
   obtain rfl:Ky a=Z:=by simpa using hZ
   rw [show z=a from hz]
   exact p2 a ha
  ·exact ⟨m.map Prod.fst,_,q2,rfl,rfl⟩
 obtain ⟨S3,e3,p3,q3⟩:=h3
 have h4:DM (k+4) m=some (srt m):=by
  unfold DM
  rw [e3]
  refine U1 (S:=S3) ⟨_,q3⟩ λ r hr=>?_
  have hp:=p3 r hr
  have hlen:=hp.length_eq
  rw [YB] at hlen
  unfold J0
  rw [Sb (SW k) r (by omega),Ge,OS hp]
  have:decide (r.length=(srt m).length)=true:=decide_eq_true (by rw [I2];exact hlen)
  show (BK (decide (r.length=(srt m).length))).bind _=_
  rw [this];rfl
 unfold Cw DB
 rw [Yn,h4];rfl
theorem H5 {m:List (Aa×Bool)} (hl:m.length<=1000000):Ev (λ n=>Cw n m) (srt m):=
 ⟨4,λ n hn=>by obtain ⟨k,rfl⟩:∃ k,n=k+4:=⟨n-4,by omega⟩;exact QL k hl⟩
structure KS (m:List (Aa×Bool)) (N:Nat) (S:Aa->Prop):Prop where
 nd:(m.map Prod.fst).Nodup
 len:m.length<=N
 mem:∀ p,p∈m.map Prod.fst↔S p
theorem Ki (k:Aa):∀ (m:List (Aa×Bool)) (p:Aa),p∈(FF k true m).map Prod.fst↔p∈m.map Prod.fst\/p=k
 | [],p=>by simp [FF]
 | e::m,p=>by
  unfold FF
  split
  ·rename_i h
   simp only [YC,List.mem_cons]
   rw [← h]
   constructor
   ·rintro (h|h)
    ·exact .inr h
    ·exact .inl (.inr h)
   ·rintro ((h|h)|h)
    ·exact .inl h
    ·exact .inr h
    ·exact .inl h
  ·simp only [YC,List.mem_cons]
   rw [Ki k m p,or_assoc]
theorem PA (k:Aa):∀ (m:List (Aa×Bool)),(m.map Prod.fst).Nodup->((FF k true m).map Prod.fst).Nodup
 | [],_=>by simp [FF]
 | e::m,h=>by
  rw [YC,List.nodup_cons] at h
  unfold FF
  split
  ·rename_i h1
   rw [YC,List.nodup_cons,h1];exact h
  ·rename_i h1
   rw [YC,List.nodup_cons]
   refine ⟨λ hh=>?_,PA k m h.2⟩
   rcases (Ki k m _).1 hh with hh|hh
   ·exact h.1 hh
   ·exact h1 hh.symm
theorem NE (k:Aa):∀ (m:List (Aa×Bool)),(FF k true m).length<=m.length+1
 | []=>by simp [FF]
 | e::m=>by
  unfold FF
  split
  ·simp
  ·have:=NE k m
   rw [List.length_cons,List.length_cons];omega
theorem KS.nil {S:Aa->Prop} (h:∀ p,¬S p):KS [] 0 S:=⟨by simp,by simp,λ p=>by simp [h p]⟩
theorem KS.put {m:List (Aa×Bool)} {N:Nat} {S T:Aa->Prop} (h:KS m N S) (k:Aa) (hT:∀ p,T p↔S p\/p=k):KS (FF k true m) (N+1) T:=
 ⟨PA k m h.nd,by have:=NE k m;have:=h.len;omega,λ p=>by rw [Ki,h.mem,hT]⟩
theorem KS.to {m:List (Aa×Bool)} {N M:Nat} {S T:Aa->Prop} (h:KS m N S) (hM:N<=M) (hT:∀ p,T p↔S p):KS m M T:=
 ⟨h.nd,by have:=h.len;omega,λ p=>by rw [h.mem,hT]⟩
theorem SZ {a b:Aa} (ha:Nr a) (hb:Nr b) {m:List (Aa×Bool)} {N:Nat} {S:Aa->Prop} (hm:KS m N S) :
  Tot (λ n=>I0 n a b m) (λ z=>KS z (N+(CB a b).length) (λ p=>S p\/p∈CB a b)):=by
 have hlen:(CB a b).length<=2001:=by rw [Kg];have:=Hs ha hb;omega
 refine Tot.bindE (T4 ha hb) (Tot.bind (R:=λ z=>KS z (N+(CB a b).length) (λ p=>S p\/p∈CB a b)) ?_ λ y hy=>Tot.pure hy)
 generalize CB a b=L at *
 refine Tot.upto L.length (λ i (x:List (Aa×Bool)×Int)=>x.2=(i:Int)/\KS x.1 (N+i) (λ p=>S p\/p∈L.take i)) ?_ ?_ _ ⟨rfl,hm.to (by omega) (by simp)⟩
 ·rintro i ⟨m1,x⟩ hi ⟨h1,h2⟩
  simp only at h1 h2
  subst h1
  unfold Fj
  refine Tot.iteT (decide_eq_true (by omega)) (Tot.bindC (Gb hi) (Tot.pure ⟨Bm (by omega),h2.put _ λ p=>?_⟩))
  rw [List.take_succ_eq_append_getElem hi,List.mem_append,List.mem_singleton,or_assoc]
 ·rintro ⟨m1,x⟩ ⟨h1,h2⟩
  simp only at h1 h2
  subst h1
  unfold Fj
  exact Tot.iteF (decide_eq_false (by omega)) (Tot.pure (h2.to (by omega) (by simp)))
def lnS (P:List Aa) (i:Nat) (p:Aa):Prop:=∃ j,j<i/\p∈CB (sd P j).1 (sd P j).2
theorem Kj {P:List Aa} {i:Nat} {p:Aa}:lnS P (i+1) p↔lnS P i p\/p∈CB (sd P i).1 (sd P i).2:=by
 constructor
 ·rintro ⟨j,hj,h⟩
  rcases Nat.lt_succ_iff_lt_or_eq.1 hj with hj|rfl
  ·exact .inl ⟨j,hj,h⟩
  ·exact .inr h
 ·rintro (⟨j,hj,h⟩|h)
  ·exact ⟨j,by omega,h⟩
  ·exact ⟨i,by omega,h⟩
def lnN (P:List Aa):Nat->Nat
 | 0=>0
 | i+1=>lnN P i+(CB (sd P i).1 (sd P i).2).length
theorem EA {P:List Aa} (h:∀ p∈P,Nr p):∀ {i:Nat},i<=P.length->lnN P i<=2001*i
 | 0,_=>by simp [lnN]
 | i+1,hi=>by
  have h1:=EA h (i:=i) (by omega)
  obtain ⟨h2,h3⟩:=Lf h (show i<P.length by omega)
  have:=Hs h2 h3
  unfold lnN
  rw [Kg];omega
theorem NF {P:List Aa} (hl:P.length<=400) (h:∀ p∈P,Nr p):Tot (λ n=>Gl n P) (λ z=>KS z (lnN P (P.length-1)) (lnS P (P.length-1))):=by
 refine Tot.bind (R:=λ z=>KS z (lnN P (P.length-1)) (lnS P (P.length-1))) ?_ λ y hy=>Tot.pure hy
 refine Tot.upto (P.length-1) (λ i (x:List (Aa×Bool)×Int)=>x.2=((i+1:Nat):Int)/\KS x.1 (lnN P i) (lnS P i)) ?_ ?_ _ ⟨rfl,KS.nil λ p ⟨j,hj,_⟩=>by omega⟩
 ·rintro i ⟨m1,x⟩ hi ⟨h1,h2⟩
  simp only at h1 h2
  subst h1
  unfold DL
  have e:A0 .i64 ((i+1:Nat):Int) 1=((i:Nat):Int):=(CY (by omega) (by omega)).trans (by omega)
  obtain ⟨n1,n2⟩:=Lf h (show i<P.length by omega)
  have e2:(sd P i).2=P.getD (i+1) default:=by
   show P.getD ((i+1) % P.length) default=_
   rw [Nat.mod_eq_of_lt (by omega)]
  refine Tot.iteT (decide_eq_true (by omega)) (Tot.bindC (y:=(sd P i).1) (by rw [e];exact Cy (by omega)) (Tot.bindC (y:=(sd P i).2) (by rw [e2];exact Cy (by omega)) (Tot.bind (SZ n1 n2 h2) λ y hy=>Tot.pure ⟨Bm (by omega),hy.to (Yv _) λ p=>Kj⟩)))
 ·rintro ⟨m1,x⟩ ⟨h1,h2⟩
  simp only at h1 h2
  subst h1
  unfold DL
  exact Tot.iteF (decide_eq_false (by omega)) (Tot.pure h2)
theorem Lh {P:List Aa} (hl:P.length<=400) (h:∀ p∈P,Nr p):Tot (λ n=>Fn n P) (λ z=>KS z (lnN P P.length) (lnS P P.length)):=by
 refine Tot.bind (NF hl h) λ m hm=>?_
 cases hP:P with
 | nil=>subst hP;exact Tot.iteF rfl (Tot.pure hm)
 | cons a r=>
  rw [← hP]
  obtain ⟨N,hN⟩:∃ N,P.length=N+1:=⟨P.length-1,by rw [hP];simp⟩
  have e:A0 .i64 ((P.length:Nat):Int) 1=((N:Nat):Int):=(CY (by omega) (by omega)).trans (by omega)
  obtain ⟨n1,n2⟩:=Lf h (show N<P.length by omega)
  have e2:(sd P N).2=P.getD 0 default:=by
   show P.getD ((N+1) % P.length) default=_
   rw [hN,Nat.mod_self]
  have e3:P.length-1=N:=by omega
  rw [e3] at hm
  refine Tot.iteT (decide_eq_true (by omega)) (Tot.bindC (y:=(sd P N).1) (by rw [e];exact Cy (by omega)) (Tot.bindC (y:=(sd P N).2) (by rw [e2];exact Cy (i:=0) (by omega)) (Tot.bind (SZ n1 n2 hm) λ y hy=>Tot.pure ?_)))
  rw [hN]
  exact hy.to (Yv _) λ p=>Kj
end Go.AI
end
section
namespace Go.AI
theorem GO {P:List Aa} (hl:P.length<=400) (h:∀ p∈P,Nr p) {k:Nat} (hk:k<=P.length) :
  Tot (λ n=>D3 n P (k:Int)) (λ z=>z.length=lnN P k/\∀ p,p∈z↔lnS P k p):=by
 refine Tot.bind (R:=λ z=>z.length=lnN P k/\∀ p,p∈z↔lnS P k p) ?_ λ y hy=>Tot.pure hy
 refine Tot.upto k (λ i (x:List Aa×Int)=>x.2=(i:Int)/\x.1.length=lnN P i/\∀ p,p∈x.1↔lnS P i p) ?_ ?_ _ ⟨rfl,rfl,λ p=>⟨λ h=>(by cases h),λ ⟨j,hj,_⟩=>by omega⟩⟩
 ·rintro i ⟨l,x⟩ hi ⟨h1,h2,h3⟩
  simp only at h1 h2 h3
  subst h1
  unfold Dh
  obtain ⟨n1,n2⟩:=Lf h (show i<P.length by omega)
  have hb:=EA h (i:=i) (by omega)
  have:=Hs n1 n2
  refine Tot.iteT (decide_eq_true (by omega)) (Tot.bindA (λ n=>Pz n (by omega) (by omega)) (Tot.bindE (QH n1 n2) (Tot.bindC (Gc ?_) (Tot.pure ⟨Bm (by omega),?_,λ p=>?_⟩))))
  ·rw [Kg,h2];omega
  ·show (l++CB _ _).length=_
   rw [List.length_append,h2];rfl
  ·rw [List.mem_append,h3,Kj]
 ·rintro ⟨l,x⟩ ⟨h1,h2,h3⟩
  simp only at h1 h2 h3
  subst h1
  unfold Dh
  exact Tot.iteF (decide_eq_false (by omega)) (Tot.pure ⟨h2,h3⟩)
def Bx (p:Aa):Prop:=(0<=p.X/\p.X<60)/\0<=p.Y/\p.Y<60
theorem Bx.nr {p:Aa} (h:Bx p):Nr p:=by unfold Bx at h;unfold Nr;omega
structure Sq (t:List (List Bool)):Prop where
 len:t.length=60
 row:∀ y,y<60->(t.getD y []).length=60
def atT (t:List (List Bool)) (x y:Nat):Bool:=(t.getD y []).getD x false
theorem Wz {t:List (List Bool)} (h:Sq t) {x y:Nat} (hx:x<60) (hy:y<60):Qu t (y:Int) (x:Int)=some (atT t x y):=by
 unfold Qu
 have e:idx t (y:Int)=some (t.getD y []):=Cy (by rw [h.len];exact hy)
 rw [e,Yn]
 have e2:idx (t.getD y []) (x:Int)=some ((t.getD y []).getD x false):=Cy (by rw [h.row y hy];exact hx)
 exact e2
theorem T8 {t:List (List Bool)} (h:Sq t) {x y:Nat} (hx:x<60) (hy:y<60) :
  ∃ t',Qv t (y:Int) (x:Int) true=some t'/\Sq t'/\∀ x' y',x'<60->y'<60->(atT t' x' y'=true↔atT t x' y'=true\/(x'=x/\y'=y)):=by
 have e:idx t (y:Int)=some (t.getD y []):=Cy (by rw [h.len];exact hy)
 have e2:put (t.getD y []) (x:Int) true=some ((t.getD y []).set x true):=SM (by rw [h.row y hy];exact hx)
 have e3:put t (y:Int) ((t.getD y []).set x true)=some (t.set y ((t.getD y []).set x true)):=SM (by rw [h.len];exact hy)
 have hg:∀ y',y'<60->(t.set y ((t.getD y []).set x true)).getD y' []=if y=y' then (t.getD y []).set x true else t.getD y' []:=by
  intro y' hy'
  rw [List.getD_eq_getElem?_getD,List.getElem?_set,List.getD_eq_getElem?_getD (l:=t) (i:=y')]
  split
  ·rw [if_pos (by rw [h.len];exact hy)];rfl
  ·rfl
 refine ⟨_,by unfold Qv;rw [e,Yn,e2,Yn,e3],⟨by rw [List.length_set,h.len],λ y' hy'=>?_⟩,λ x' y' hx' hy'=>?_⟩
 ·rw [hg y' hy']
  split
  ·rw [List.length_set,h.row y hy]
  ·exact h.row y' hy'
 ·unfold atT
  rw [hg y' hy']
  split
  ·rename_i e;subst e
   have hr:=h.row y hy
   generalize t.getD y []=r at hr
   rw [List.getD_eq_getElem?_getD,List.getElem?_set,List.getD_eq_getElem?_getD]
   split
   ·rename_i e;subst e
    rw [if_pos (by rw [hr];exact hx)];simp
   ·rename_i e
    constructor
    ·exact .inl
    ·rintro (h|h)
     ·exact h
     ·exact absurd h.1.symm e
  ·rename_i e
   constructor
   ·exact .inl
   ·rintro (h|h)
    ·exact h
    ·exact absurd h.2.symm e
theorem Gf {l:List Aa} (hl:l.length<=1000000):Tot (λ n=>Ds n l) (λ z=>Inc z/\∀ p,p∈z↔p∈l/\Bx p):=by
 refine Tot.bind (R:=λ t=>Sq t/\∀ x y,x<60->y<60->(atT t x y=true↔(⟨x,y⟩:Aa)∈l)) ?_ ?_
 ·refine Tot.upto l.length (λ i (x:List (List Bool)×Int)=>x.2=(i:Int)/\Sq x.1/\∀ a b,a<60->b<60->(atT x.1 a b=true↔(⟨a,b⟩:Aa)∈l.take i)) ?_ ?_ _ ⟨rfl,⟨by simp,λ y hy=>?_⟩,λ a b ha hb=>?_⟩
  ·rintro i ⟨t,x⟩ hi ⟨h1,h2,h3⟩
   simp only at h1 h2 h3
   subst h1
   unfold CL CK
   have hm:∀ p,p∈l.take (i+1)↔p∈l.take i\/p=l[i]:=λ p=>by
    rw [List.take_succ_eq_append_getElem hi,List.mem_append,List.mem_singleton]
   refine Tot.iteT (decide_eq_true (by omega)) (Tot.bindC (Gb hi) (Tot.ite (λ hb=>?_) λ hb=>?_))
   ·simp only [YE,decide_eq_true_eq] at hb
    generalize l[i]=q at hb hm
    obtain ⟨X,Y⟩:=q
    obtain ⟨X,rfl⟩:∃ m:Nat,X=m:=⟨X.toNat,by simp only at hb;omega⟩
    obtain ⟨Y,rfl⟩:∃ m:Nat,Y=m:=⟨Y.toNat,by simp only at hb;omega⟩
    simp only at hb
    obtain ⟨t',e,s',m'⟩:=T8 h2 (show X<60 by omega) (show Y<60 by omega)
    refine Tot.bindC (C8 (decide_eq_true (by show (0:Int)<=(Y:Int)/\(Y:Int)<_;omega))) (Tot.bindC (C8 (decide_eq_true (by show (0:Int)<=(X:Int)/\(X:Int)<_;omega))) (Tot.bindC e (Tot.pure ⟨Bm (by omega),s',λ a b ha hb=>?_⟩)))
    show atT t' a b=true↔_
    rw [m' a b ha hb,h3 a b ha hb,hm]
    simp only [Aa.mk.injEq]
    constructor
    ·rintro (h|h)
     ·exact .inl h
     ·exact .inr (by omega)
    ·rintro (h|h)
     ·exact .inl h
     ·exact .inr (by omega)
   ·refine Tot.pure ⟨Bm (by omega),h2,λ a b ha hb'=>?_⟩
    show atT t a b=true↔_
    rw [h3 a b ha hb',hm]
    constructor
    ·exact .inl
    ·rintro (h|h)
     ·exact h
     ·rw [← h] at hb
      simp only [Bool.and_eq_false_iff,decide_eq_false_iff_not] at hb
      omega
  ·rintro ⟨t,x⟩ ⟨h1,h2,h3⟩
   simp only at h1 h2 h3
   subst h1
   unfold CL
   refine Tot.iteF (decide_eq_false (by omega)) (Tot.pure ⟨h2,λ a b ha hb=>?_⟩)
   rw [h3 a b ha hb,List.take_length]
  ·rw [List.getD_eq_getElem?_getD,List.getElem?_replicate,if_pos hy];simp
  ·have:atT (List.replicate 60 (List.replicate 60 (false:Bool))) a b=false:=by
    unfold atT
    rw [List.getD_eq_getElem?_getD (l:=List.replicate _ _),List.getElem?_replicate,if_pos hb,Ys,List.getD_eq_getElem?_getD,List.getElem?_replicate,if_pos ha,Ys]
   rw [List.take_zero]
   constructor
   ·intro h;exact absurd (this.symm.trans h) (by simp)
   ·intro h;cases h
 ·rintro t ⟨st,mt⟩
  have hG:∀ p,Bx p->((atT t p.X.toNat p.Y.toNat=true)↔p∈l):=λ p hp=>by
   unfold Bx at hp
   rw [mt _ _ (by omega) (by omega)]
   have:(⟨((p.X.toNat:Nat):Int),((p.Y.toNat:Nat):Int)⟩:Aa)=p:=by cases p;simp only [Aa.mk.injEq] at *;omega
   rw [this]
  refine Tot.bind (R:=λ z=>Inc z/\∀ p,p∈z↔p∈l/\Bx p) ?_ λ y hy=>Tot.pure hy
  refine Tot.upto 60 (λ i (x:List Aa×Int)=>x.2=(i:Int)/\x.1.length<=60*i/\Inc x.1/\∀ p,p∈x.1↔(p∈l/\Bx p)/\p.Y<i) ?_ ?_ _ ⟨rfl,by simp,.nil,λ p=>?_⟩
  ·rintro y ⟨o,x⟩ hy ⟨h1,h2,h3,h4⟩
   simp only at h1 h2 h3 h4
   subst h1
   unfold CO
   refine Tot.iteT (decide_eq_true (by omega)) (Tot.bind (R:=λ z=>z.length<=60*(y+1)/\Inc z/\∀ p,p∈z↔(p∈l/\Bx p)/\p.Y<(y+1:Nat)) ?_ λ z hz=>Tot.pure ⟨Bm (by omega),hz⟩)
   refine Tot.upto 60 (λ j (x:List Aa×Int)=>x.2=(j:Int)/\x.1.length<=60*y+j/\Inc x.1/\∀ p,p∈x.1↔(p∈l/\Bx p)/\ltG p ⟨j,y⟩) ?_ ?_ _ ⟨rfl,h2,h3,λ p=>?_⟩
   ·rintro j ⟨o,x⟩ hj ⟨h1,h2,h3,h4⟩
    simp only at h1 h2 h3 h4
    subst h1
    unfold CN CM
    have hq:Bx (⟨j,y⟩:Aa):=by unfold Bx;simp only;omega
    have hG:=hG _ hq
    simp only [Int.toNat_natCast] at hG
    have hst:∀ p:Aa,ltG p ⟨(j+1:Nat),y⟩↔ltG p ⟨j,y⟩\/p=⟨j,y⟩:=λ p=>by
     cases p;unfold ltG;simp only [Aa.mk.injEq];omega
    refine Tot.iteT (decide_eq_true (by omega)) (Tot.bindC (C8 (decide_eq_true (by omega))) (Tot.bindC (C8 (decide_eq_true (by omega))) (Tot.bindC (Wz st hj hy) (Tot.ite (λ hb=>?_) λ hb=>?_))))
    ·refine Tot.bindC (Gc (by simp;omega)) (Tot.pure ⟨Bm (by omega),by simp;omega,?_,λ p=>?_⟩)
     ·refine List.pairwise_append.2 ⟨h3,List.pairwise_singleton _ _,λ a ha b hb=>?_⟩
      rw [List.mem_singleton] at hb
      rw [hb];exact ((h4 a).1 ha).2
     ·rw [List.mem_append,List.mem_singleton,h4,hst]
      constructor
      ·rintro (⟨h,h'⟩|rfl)
       ·exact ⟨h,.inl h'⟩
       ·exact ⟨⟨hG.1 hb,hq⟩,.inr rfl⟩
      ·rintro ⟨h,h'|h'⟩
       ·exact .inl ⟨h,h'⟩
       ·exact .inr h'
    ·refine Tot.pure ⟨Bm (by omega),by show o.length<=_;omega,h3,λ p=>?_⟩
     show p∈o↔_
     rw [h4,hst]
     constructor
     ·rintro ⟨h,h'⟩;exact ⟨h,.inl h'⟩
     ·rintro ⟨h,h'|rfl⟩
      ·exact ⟨h,h'⟩
      ·rw [hG.2 h.1] at hb;cases hb
   ·rintro ⟨o,x⟩ ⟨h1,h2,h3,h4⟩
    simp only at h1 h2 h3 h4
    subst h1
    unfold CN
    refine Tot.iteF (decide_eq_false (by omega)) (Tot.pure ⟨by omega,h3,λ p=>?_⟩)
    rw [h4]
    unfold ltG Bx
    constructor
    ·rintro ⟨h,h'⟩;exact ⟨h,by simp only at h';omega⟩
    ·rintro ⟨h,h'⟩;exact ⟨h,by simp only;omega⟩
   ·rw [h4]
    unfold ltG Bx
    constructor
    ·rintro ⟨h,h'⟩;exact ⟨h,by simp only;omega⟩
    ·rintro ⟨h,h'⟩;exact ⟨h,by simp only at h';omega⟩
  ·rintro ⟨o,x⟩ ⟨h1,h2,h3,h4⟩
   simp only at h1 h2 h3 h4
   subst h1
   unfold CO
   refine Tot.iteF (decide_eq_false (by omega)) (Tot.pure ⟨h3,λ p=>?_⟩)
   rw [h4]
   constructor
   ·rintro ⟨h,h'⟩;exact h
   ·intro h;exact ⟨h,by unfold Bx at h;omega⟩
  ·simp only [List.not_mem_nil,false_iff]
   rintro ⟨⟨_,h⟩,h'⟩
   unfold Bx at h
   omega
theorem WA (a b:Aa):((a.X==b.X)&&((a.Y==b.Y)&&true))=decide (a=b):=by
 cases a;cases b
 rw [Bool.eq_iff_iff]
 simp
theorem T9 {a b:List Aa} (ha:a.length<=1000000):Ev (λ n=>C7 n a b) (decide (a=b)):=by
 refine Tot.ev (Tot.ite (λ h=>Tot.pure ?_) λ h=>?_)
 ·symm
  refine decide_eq_false λ e=>?_
  subst e
  simp at h
 ·have hlen:a.length=b.length:=by
   simp only [bne_eq_false_iff_eq] at h
   omega
  refine Tot.bind (R:=λ y=>y=if a=b then .inl () else .inr false) ?_ λ y hy=>?_
  ·refine Tot.upto a.length (λ i (x:Int)=>x=(i:Int)/\∀ j,j<i->a[j]? = b[j]?) ?_ ?_ _ ⟨rfl,λ j hj=>by omega⟩
   ·rintro i _ hi ⟨rfl,hj⟩
    unfold DN
    refine Tot.iteT (decide_eq_true (by omega)) (Tot.bindC (Gb hi) (Tot.bindC (Gb (show i<b.length by omega)) ?_))
    rw [WA]
    refine Tot.ite (λ hb=>Tot.pure ?_) λ hb=>Tot.pure ⟨Bm (by omega),λ j hj'=>?_⟩
    ·show _=_
     rw [if_neg]
     intro e
     subst e
     simp at hb
    ·rcases Nat.lt_succ_iff_lt_or_eq.1 hj' with h|rfl
     ·exact hj j h
     ·simp at hb
      rw [YD hi,YD (show j<b.length by omega),hb]
   ·rintro _ ⟨rfl,hj⟩
    unfold DN
    refine Tot.iteF (decide_eq_false (by omega)) (Tot.pure ?_)
    show _=_
    rw [if_pos]
    refine List.ext_getElem? λ j=>?_
    rcases Yw j a.length with h|h
    ·exact hj j h
    ·rw [List.getElem?_eq_none h,List.getElem?_eq_none (by omega)]
  ·subst hy
   split
   ·rename_i heq
    split at heq
    ·rename_i e;exact Tot.pure (by rw [decide_eq_true e])
    ·cases heq
   ·rename_i heq
    split at heq
    ·cases heq
    ·rename_i e;cases heq;exact Tot.pure (by rw [decide_eq_false e])
end Go.AI
end
