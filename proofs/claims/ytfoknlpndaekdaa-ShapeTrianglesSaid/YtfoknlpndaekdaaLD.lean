/- The theorem: the last one of this text; part 4 of 4 of its proof. It holds with no condition beyond the given statement. -/
import Derived.Test.YtfoknlpndaekdaaLC
import Derived.Shelf.Sort.Plain
import Derived.Shelf.Slices.In.SortNone
import Derived.Shelf.SlSortCmp.NoneTotal
import Derived.Test.YtfoknlpndaekdaaProg
import Derived.Shelf.SlLaysF0
import Derived.KernelRfl
import Derived.ChangeArms
import Derived.WalkKit
import Derived.ProofKit
import Derived.OpenShut
import Derived.Carry
import Derived.WideKeyArgs
import Derived.ChangeSame
import Derived.Test.YtfoknlpndaekdaaRows
section
namespace Go.AI
variable {α ε σ ρ ζ ξ:Type}
open Classical in
noncomputable def dem (S:α->Prop) (k:α->Option ζ):Option ζ:=if h:∃ z,(∃ a,S a)/\∀ a,S a->k a=some z then some h.choose else none
theorem Tl {S:α->Prop} {k:α->Option ζ} {z:ζ} (h:dem S k=some z):∀ a,S a->k a=some z:=by
 unfold dem at h
 split at h
 ·rename_i hx
  cases h
  exact hx.choose_spec.2
 ·cases h
theorem Tm {S:α->Prop} {k:α->Option ζ} {z:ζ} (h0:∃ a,S a) (h:∀ a,S a->k a=some z):dem S k=some z:=by
 have hx:∃ z,(∃ a,S a)/\∀ a,S a->k a=some z:=⟨z,h0,h⟩
 unfold dem
 rw [dif_pos hx]
 obtain ⟨a,ha⟩:=h0
 have h1:=hx.choose_spec.2 a ha
 rw [h a ha] at h1
 exact h1.symm
open Classical in
noncomputable def OQ (S:α->Prop) (k:α->Option (ζ->Prop)):Option (ζ->Prop):=if ∀ a,S a->∃ Z,k a=some Z then some λ z=>∃ a Z,S a/\k a=some Z/\Z z else none
theorem KK {S:α->Prop} {k:α->Option (ζ->Prop)} {Z:ζ->Prop} (h:OQ S k=some Z):∀ a,S a->∃ Z',k a=some Z'/\∀ z,Z' z->Z z:=by
 unfold OQ at h
 split at h
 ·rename_i hx
  cases h
  intro a ha
  obtain ⟨Z',hz⟩:=hx a ha
  exact ⟨Z',hz,λ z h=>⟨a,Z',ha,hz,h⟩⟩
 ·cases h
theorem KL {S:α->Prop} {k:α->Option (ζ->Prop)} (h:∀ a,S a->∃ Z,k a=some Z):OQ S k=some λ z=>∃ a Z,S a/\k a=some Z/\Z z:=if_pos h
def Jr (x:ζ):ζ->Prop:=λ y=>y=x
def Dh (F:ε->σ->Option (σ⊕ρ)):List ε->σ->Option (σ⊕ρ)
 | [],x=>some (.inl x)
 | e::l,x=>match F e x with
  | none=>none
  | some (.inl y)=>Dh F l y
  | some (.inr r)=>some (.inr r)
theorem OR {F:ε->σ->Option (σ⊕ρ)} {e:ε} {l:List ε} {x:σ} {z:σ⊕ρ} (h:Dh F (e::l) x=some z):∃ y,F e x=some y:=by
 unfold Dh at h
 split at h
 ·cases h
 ·rename_i y hy;exact ⟨_,hy⟩
 ·rename_i y hy;exact ⟨_,hy⟩
end Go.AI
end
section
namespace Go.AI
variable {P:Program} {Γ:Cx} {C:Code} {p:List Nat} {Q:Ex->St->Prop} {s s':St} {K:St->Prop} {i nk:Nat}
variable {α β ζ ε σ ρ τ:Type}
theorem bE {X:Option ζ} {G:Prop} (h:∃ z,X=some z) (k:∀ z,X=some z->G):G:=by obtain ⟨z,h⟩:=h;exact k z h
theorem Vw {l l1 l2:List ε} {e:ε} (h:l=l1++e::l2):e∈l:=by subst h;simp
def ndQ (Γ:Cx) (c:Code) (i:Nat) (Q:Ex->St->Prop):Ex->St->Prop:=λ _ s=>∃ o,(Az c)[i]? = some o/\Uw Γ o (λ s'=>D1 Γ false (Az c) ((Az c).drop (i+1)) (Q .normal) s') s
structure ND (Γ:Cx) (c:Code) (i:Nat) (Q:Ex->St->Prop) (s:St):Prop where
 out:ndQ Γ c i Q .normal s
theorem OS {m:Nat} {ops:List Oper}:∀ (l:List Oper) (Q:St->Prop) (s:St),D1 Γ false (ops.take m) l Q s->D1 Γ false ops l Q s:=by
 intro l
 induction l with
 | nil=>intro Q s h;exact h
 | cons o l ih=>intro Q s h;exact F4 (ih Q) (IR h)
theorem rn (m:Nat) (hs:As Γ.nt.nk s s') (hk:RF Γ (DD m (nav p C)) [] 0 (ndQ Γ (nav p C) m (KF C p s' Q)) s') (h:(FO (nav p C)&&!Gp (nav p C))=true:=by kernel_rfl):WP Γ C p Q s:=by
 refine ⟨?_⟩
 have hk:=hk.out
 unfold AC at hk
 simp only [nav,List.drop_zero] at hk
 unfold KF at hk
 generalize nav p C=c at *
 cases c with
 | region id ops d=>
  simp only [FO,Gp,Bool.true_and,Bool.not_eq_true'] at h
  subst h
  refine ⟨s',hs,.inr (.inr ⟨rfl,?_⟩)⟩
  have hk:D1 Γ false (ops.toList.take m) (ops.toList.take m) _ s':=hk
  have hk:=OS _ _ _ hk
  by_cases hm:m<ops.toList.length
  ·refine ⟨m,ops.toList[m],Wh hm,Du (λ s1 h1=>?_) _ _ hk⟩
   obtain ⟨o,ho,h1⟩:=h1
   rw [show Az (.region id ops false)=ops.toList from rfl,Wh hm] at ho
   cases ho
   obtain ⟨q1,q2,S,q3,q4⟩:=h1
   exact ⟨q1,q2,S,q3,λ st' hst=>Du (λ s2 h2=>h2.2) _ _ (q4 st' hst)⟩
  ·exfalso
   obtain ⟨S,_,_,hQS⟩:=DA _ _ _ hk
   obtain ⟨o,ho,_⟩:=hQS
   rw [show Az (.region id ops false)=ops.toList from rfl,List.getElem?_eq_none (by omega)] at ho
   cases ho
 | _=>cases h
theorem nd0 {c:Code} {m:Nat} (hk:ND Γ c m Q s) (hi:Nat.ble (Az (DD m c)).length i=true:=by kernel_rfl):RF Γ (DD m c) [] i (ndQ Γ c m Q) s:=⟨GQ i hi hk.out⟩
structure YOK (P:Program) (Γ:Cx):Prop where
 exn:Γ.exn=FX P
def Qq (Γ:Cx) (c:Code) (o:Oper):Bool:=!Gp c&&o.guard.isNone&&A2 Γ.nt o.dst
theorem L6 (hY:YOK P Γ) {o:Oper} {S:St->Prop} (ho:(Az (nav p C))[i]? = some o) (h0:Qq Γ (nav p C) o=true) (hx:FX P Γ.nt o s S) (hk:∀ s',S s'->RF Γ C p (i+1) Q s'):ND Γ (nav p C) i Q s:=by
 simp only [Qq,Wi,Bool.not_eq_true'] at h0
 obtain ⟨⟨h1,h2⟩,h3⟩:=h0
 refine ⟨o,ho,by simpa using h2,h3,S,by rw [hY.exn];exact hx,λ s' hs=>?_⟩
 have:=(hk s' hs).out
 unfold AC at this
 rw [h1] at this
 exact this
def UN (objs:List (Option Ob)) (k:Nat):Option (Bool×Bool×List (List D×List D)):=match obA objs k with
 | some (.iter ka va _ l)=>some (ka,va,l)
 | _=>none
def itB (Γ:Cx) (c:Code) (i k:Nat) (s:St):Bool:=match (Az c)[i]? with
 | some o=>Qq Γ c o&&(match o.op with
  | .next x b=>!b&&(match Ae s.env x with
   | .ptr k' off=>Nat.beq k' k&&Nat.beq off 0
   | _=>false)
  | _=>false)
 | none=>false
def itD (c:Code) (i:Nat):Option Tmp:=match (Az c)[i]? with
 | some o=>o.dst
 | none=>none
theorem nxt (hY:YOK P Γ) (k:Nat) {κ:Type} {encK:κ->List D} {enc:α->List D} {ka va:Bool} {m:List (κ×α)} (h0:m=[]->RF Γ C p (i+1) Q ⟨putA (itD (nav p C) i) false true (.tup [.d (.bool false)]) s.env,s.objs⟩)
  (h1:∀ e m1 m2,m=m1++e::m2->RF Γ C p (i+1) Q ⟨putA (itD (nav p C) i) false true (.tup [.d (.bool true),.top,.top]) s.env,s.objs.set k (some (.iter ka va (some (encK e.1,enc e.2)) (Bk encK enc (m1++m2))))⟩)
  (hb:itB Γ (nav p C) i k s=true:=by kernel_rfl) (hm:UN s.objs k=some (ka,va,Bk encK enc m):=by kernel_rfl):ND Γ (nav p C) i Q s:=by
 unfold itB at hb
 unfold itD at h0 h1
 unfold UN at hm
 split at hb
 ·rename_i o ho
  rw [ho] at h0 h1
  simp only [Wi] at hb
  obtain ⟨hb1,hb2⟩:=hb
  split at hb2
  ·rename_i x b hop
   simp only [Wi,Bool.not_eq_true'] at hb2
   obtain ⟨rfl,hb2⟩:=hb2
   split at hb2
   ·rename_i k' off hx
    simp only [Wi] at hb2
    have e1:=Wo hb2.1
    have e2:=Wo hb2.2
    subst e1;subst e2
    split at hm
    ·rename_i ka' va' cur l hob
     cases hm
     refine L6 hY ho hb1 (Qo hop hx hob) λ s' hs=>?_
     rcases hs with ⟨hl,rfl⟩|⟨l1,e,l2,hl,rfl⟩
     ·refine h0 ?_
      cases m with
      | nil=>rfl
      | cons _ _=>cases hl
     ·obtain ⟨m1,r,hm1,rfl,hr⟩:=List.map_eq_append_iff.1 (show Bk encK enc m=l1++e::l2 from hl)
      obtain ⟨e',m2,rfl,rfl,rfl⟩:=List.map_eq_cons_iff.1 hr
      have:=h1 e' m1 m2 hm1
      unfold Bk at this
      rw [List.map_append] at this
      exact this
    ·cases hm
   ·cases hb2
  ·cases hb2
 ·cases hb
def nxR (Γ:Cx) (c:Code) (i:Nat) (s:St):Option St:=match (Az c)[i]? with
 | some o=>bif Qj Γ c o then (match o.op with
  | .range t x=>bif (Γ.ty t).ok then (match (Γ.ty t).kind,Ae s.env x with
   | .map _ _ _ _,.mp k=>match obA s.objs k with
    | some (.map ka va ents)=>some ⟨putA o.dst false true (.ptr s.objs.length 0) s.env,s.objs.set k none++[some (.iter ka va none ents)]⟩
    | _=>none
   | _,_=>none) else none
  | .entry x=>match Ae s.env x with
   | .ptr k 0=>match obA s.objs k with
    | some (.iter ka va (some e) _)=>some ⟨putA o.dst false true (.tup [kvV ka e.1,kvV va e.2]) s.env,s.objs⟩
    | _=>none
   | _=>none
  | _=>none) else none
 | none=>none
theorem xr (hX:XOK P Γ) (hk:RF Γ C p (i+1) Q ((nxR Γ (nav p C) i s).getD s)) (h:(nxR Γ (nav p C) i s).isSome=true:=by kernel_rfl):RF Γ C p i Q s:=by
 have h:=A5 (d:=s) h
 generalize (nxR Γ (nav p C) i s).getD s=s' at h hk
 unfold nxR at h
 split at h
 ·rename_i o ho
  obtain ⟨h0,h⟩:=Am h
  split at h
  ·rename_i t x hop
   obtain ⟨h1,h⟩:=Am h
   split at h
   ·rename_i ks ka' va' vz k hkd hx
    split at h
    ·rename_i ka va ents hob
     cases h
     exact Fm hX ho h0 (ON hX.ty hop h1 hkd hx hob) hk
    ·cases h
   ·cases h
  ·rename_i x hop
   split at h
   ·rename_i k hx
    split at h
    ·rename_i ka va e l hob
     cases h
     exact Fm hX ho h0 (OO hop hx hob) hk
    ·cases h
   ·cases h
  ·cases h
 ·cases h
theorem cT (hk:WP Γ C (p++[0]) Q s) (h:KJ (nav p C)=true:=by kernel_rfl) (hc:Ae s.env (GP (nav p C))=.d (.bool true):=by kernel_rfl):WP Γ C p Q s:=⟨KE true (IQ h) hc (λ _=>hk.out) (λ e=>by cases e)⟩
theorem cF (hk:WP Γ C (p++[1]) Q s) (h:KJ (nav p C)=true:=by kernel_rfl) (hc:Ae s.env (GP (nav p C))=.d (.bool false):=by kernel_rfl):WP Γ C p Q s:=⟨KE false (IQ h) hc (λ e=>by cases e) (λ _=>hk.out)⟩
def Sa (nk:Nat) (st:List ε->σ->St) (E0:σ->Ex->St->Prop) (E:ρ->Ex->St->Prop) (F:ε->σ->Option (σ⊕ρ)) (l:List ε) (x:σ):Ex->St->Prop
 | .normal,s=>∃ l1 e l2 y,l=l1++e::l2/\F e x=some (.inl y)/\As nk s (st (l1++l2) y)
 | ex,s=>(l=[]/\E0 x ex s)\/∃ l1 e l2 r,l=l1++e::l2/\F e x=some (.inr r)/\E r ex s
theorem mg {st:List ε->σ->St} {E0:σ->Ex->St->Prop} {E:ρ->Ex->St->Prop} {F:ε->σ->Option (σ⊕ρ)} {l l1 l2:List ε} {e:ε} {x y:σ} (hl:l=l1++e::l2) (hF:F e x=some (.inl y)) (h:As nk s (st (l1++l2) y)):PQ (Sa nk st E0 E F l x) .normal s:=⟨⟨l1,e,l2,y,hl,hF,h⟩⟩
theorem mE {st:List ε->σ->St} {E0:σ->Ex->St->Prop} {E:ρ->Ex->St->Prop} {F:ε->σ->Option (σ⊕ρ)} {l:List ε} {x:σ} {k nk':Nat} {st':τ->St} {y:τ} (hl:l=[]) (hE:E0 x=xX nk' k st' y) (h:As nk' s (st' y)):PQ (Sa nk st E0 E F l x) (.exit k) s:=⟨.inl ⟨hl,by rw [hE];exact ⟨rfl,h⟩⟩⟩
theorem Qr {F:ε->σ->Option (σ⊕ρ)} {l:List ε} {e:ε} {x y:σ} {done:List ε} (h:∀ rest,Dh F (done++rest) x=Dh F rest y) {y':σ} (hF:F e y=some (.inl y')):∀ rest,Dh F ((done++[e])++rest) x=Dh F rest y':=λ rest=>by
 rw [List.append_assoc,List.singleton_append,h]
 simp only [Dh,hF]
theorem lM {F:ε->σ->Option (σ⊕ρ)} {st:List ε->σ->St} {E0:σ->Ex->St->Prop} {E:ρ->Ex->St->Prop} {l:List ε} {x:σ} {nk':Nat} (hb:∀ l x,(∀ e,e∈l->∃ z,F e x=some z)->WP Γ C (p++[0]) (Sa nk' st E0 E F l x) (st l x)) (hs:As nk' s (st l x))
  (hr:∀ ord,ord.Perm l->∃ r,Dh F ord x=some r) (hE0:∀ ord y,ord.Perm l->Dh F ord x=some (.inl y)->∀ e s,E0 y e s->PQ Q e s) (hE:∀ ord r,ord.Perm l->Dh F ord x=some (.inr r)->∀ e s,E r e s->PQ Q e s)
  (hn:Γ.nt.nk=nk':=by rfl) (h:IP (nav p C)=true:=by kernel_rfl):WP Γ C p Q s:=by
 subst hn
 refine ⟨?_⟩
 rw [LZ h]
 refine ⟨λ m s=>∃ done l' y,s=st l' y/\(done++l').Perm l/\(∀ rest,Dh F (done++rest) x=Dh F rest y)/\m=l'.length,l.length,⟨_,hs,[],l,x,rfl,List.Perm.refl _,λ _=>rfl,rfl⟩,?_⟩
 rintro m _ ⟨done,l',y,rfl,hp,hd,rfl⟩
 have hdef:∀ e,e∈l'->∃ z,F e y=some z:=λ e he=>by
  obtain ⟨l1,l2,rfl⟩:=List.append_of_mem he
  obtain ⟨r,hr⟩:=hr (done++e::(l1++l2)) ((List.Perm.append_left done List.perm_middle.symm).trans hp)
  rw [hd] at hr
  exact OR hr
 refine IG ?_ (hb l' y hdef).out
 intro e s' hq
 cases e with
 | normal=>
  obtain ⟨l1,e,l2,y',rfl,hF,hsh⟩:=hq
  refine ⟨(l1++l2).length,_,by simp,hsh,done++[e],l1++l2,y',rfl,?_,Qr (l:=l) hd hF,rfl⟩
  rw [List.append_assoc,List.singleton_append]
  exact (List.Perm.append_left done List.perm_middle.symm).trans hp
 | exit k=>
  rcases hq with ⟨rfl,hq⟩|⟨l1,e,l2,r,rfl,hF,hq⟩
  ·rw [List.append_nil] at hp
   have hm:Dh F done x=some (.inl y):=by have:=hd [];rw [List.append_nil] at this;rw [this];rfl
   exact (hE0 done y hp hm _ _ hq).out
  ·have hm:Dh F (done++e::(l1++l2)) x=some (.inr r):=by rw [hd];simp only [Dh,hF]
   exact (hE _ r ((List.Perm.append_left done List.perm_middle.symm).trans hp) hm _ _ hq).out
 | ret=>
  rcases hq with ⟨rfl,hq⟩|⟨l1,e,l2,r,rfl,hF,hq⟩
  ·rw [List.append_nil] at hp
   have hm:Dh F done x=some (.inl y):=by have:=hd [];rw [List.append_nil] at this;rw [this];rfl
   exact (hE0 done y hp hm _ _ hq).out
  ·have hm:Dh F (done++e::(l1++l2)) x=some (.inr r):=by rw [hd];simp only [Dh,hF]
   exact (hE _ r ((List.Perm.append_left done List.perm_middle.symm).trans hp) hm _ _ hq).out
theorem bI {x:Option α} {f:α->Option β} {r:β} (h:x.bind f=some r):∃ a,x=some a:=by
 cases x with
 | none=>cases h
 | some a=>exact ⟨a,rfl⟩
theorem bK {x:Option α} {f:α->Option β} {r:β} {a:α} (h:x.bind f=some r) (hx:x=some a):f a=some r:=by subst hx;exact h
theorem xQ {nk' k:Nat} {st':τ->St} {y:τ} {e:Ex} {G:Prop} (h:xX nk' k st' y e s) (hk:e=.exit k->As nk' s (st' y)->G):G:=hk h.1 h.2
def Gu (s:St) (k:Nat):Option St:=match obA s.objs k with
 | some (.iter ka va _ l)=>some ⟨s.env,s.objs.set k (some (.iter ka va none l))⟩
 | _=>none
theorem UO (k:Nat) (h:(Gu s k).isSome=true:=by kernel_rfl):As nk s ((Gu s k).getD s):=by
 have h:=A5 (d:=s) h
 generalize (Gu s k).getD s=s' at h
 unfold Gu at h
 split at h
 ·rename_i ka va cur l hob
  cases h
  refine As.sem λ _ _ _ _ _ _ _ _ hI=>?_
  obtain ⟨F,ρ,hS,hrest⟩:=hI
  refine ⟨F,ρ,hS.reob hob (λ L hr=>?_) (λ sz es he=>by cases he),hrest⟩
  obtain ⟨h1,bm,es,clock,since,seen,c0,q1,q2,q3,q4,q4',q5,q6,q7,_⟩:=hr
  exact ⟨h1,bm,es,clock,since,seen,c0,q1,q2,q3,q4,q4',q5,q6,q7,λ p hp=>by cases hp⟩
 ·cases h
def L7 (Z:ζ->Prop) (r1:ζ->AV) (O1:ζ->List (Option Ob)):AV->List (Option Ob)->Prop:=λ r O=>∃ y,Z y/\r=r1 y/\O=O1 y
theorem pS {ty:Nat->Ty} {rs:List ResultVar} {Z:ζ->Prop} {r1:ζ->AV} {O1:ζ->List (Option Ob)} {y:ζ} (hy:Z y) (h:RL nk ty rs (r1 y) (O1 y) s):PQ (LS nk ty rs (L7 Z r1 O1)) .ret s:=by
 obtain ⟨s',h1,h2⟩:=h.out
 exact ⟨⟨s',h1,_,_,⟨y,hy,rfl,rfl⟩,h2⟩⟩
theorem pS' {ty:Nat->Ty} {rs:List ResultVar} {Z:ζ->Prop} {r1:ζ->AV} {O1:ζ->List (Option Ob)} {y:ζ} (hy:Z y) (h:RL nk ty rs (r1 y) (O1 y) s):PQ (LS nk ty rs (L7 Z r1 O1)) .normal s:=by
 obtain ⟨s',h1,h2⟩:=h.out
 exact ⟨⟨s',h1,_,_,⟨y,hy,rfl,rfl⟩,h2⟩⟩
def nxN (Γ:Cx) (c:Code) (i:Nat) (ord:List Nat) (nb:Nat) (r:AV) (O1:List (Option Ob)) (s:St):Option St:=
 match (Az c)[i]? with
 | some o=>bif Qq Γ c o&&Nat.ble nb ord.length&&Nat.ble nb O1.length&&ord.all (λ k=>Nat.blt k s.objs.length) then
   some ⟨putA o.dst false true (E7 (BQ ord s.objs.length nb) r) s.env,Be s.objs ord nb O1⟩ else none
 | none=>none
theorem nc (hY:YOK P Γ) (ord:List Nat) {f:FuncId} {ys:List AV} {O0 raw0:List (Option Ob)} {nb:Nat} {Z:ζ->Prop} {r1:ζ->AV} {O1:ζ->List (Option Ob)} (hr:BH P f ys O0 nb (L7 Z r1 O1)) (hp0:raw0=O0)
  (hk:∀ y,Z y->RF Γ C p (i+1) Q ((nxN Γ (nav p C) i ord nb (r1 y) (O1 y) s).getD s)) (hg:CG (nav p C) i s=[]:=by kernel_rfl)
  (hc:Jq (nav p C) i s=some ((some f,((Jq (nav p C) i s).getD ((none,[]),[])).1.2),ord):=by kernel_rfl) (hxs:((Jq (nav p C) i s).getD ((none,[]),[])).1.2.map (C6 ord)=ys:=by kernel_rfl) (hO:BP s.objs ord=raw0:=by kernel_rfl)
  (hn:∀ y,(nxN Γ (nav p C) i ord nb (r1 y) (O1 y) s).isSome=true:=by intro y;kernel_rfl) (hb:Nat.ble nb ord.length=true:=by kernel_rfl) (hb2:ord.all (λ k=>Nat.blt k s.objs.length)=true:=by kernel_rfl) (h0:((Az (nav p C))[i]?.map (Qq Γ (nav p C)))=some true:=by kernel_rfl):ND Γ (nav p C) i Q s:=by
 generalize ((Jq (nav p C) i s).getD ((none,[]),[])).1.2=zs at hc hxs
 subst hp0
 unfold Jq at hc
 split at hc
 ·rename_i o ho
  rw [ho] at h0
  simp only [Option.map_some,Wq] at h0
  simp only [Wq,Prod.mk.injEq] at hc
  obtain ⟨hc,hord⟩:=hc
  rw [hc] at hord
  simp only at hord
  subst hord
  subst hxs
  subst hO
  have hgob:CB true (o.op.operands.toList.map (Ae s.env)):=by
   refine Eh (g:=true) ?_
   unfold CG at hg
   rw [ho] at hg
   simp only at hg
   rw [hg]
   exact BM
  have hall:∀ y,Nat.ble nb (O1 y).length=true:=λ y=>by
   have:=hn y
   unfold nxN at this
   rw [ho] at this
   simp only at this
   cases hb3:Nat.ble nb (O1 y).length with
   | true=>rfl
   | false=>rw [hb3] at this;simp at this
  refine L6 hY ho h0 (OP hgob hc hr (Wv hb) (λ r O hR=>?_) λ k hk=>?_) λ s' hs=>?_
  ·obtain ⟨y,_,_,rfl⟩:=hR
   exact Wv (hall y)
  ·exact Wv (V5.1 hb2 k hk)
  ·obtain ⟨r,O,⟨y,hy,rfl,rfl⟩,rfl⟩:=hs
   have h:=hk y hy
   have e:nxN Γ (nav p C) i (Ag s.objs zs) nb (r1 y) (O1 y) s=some ⟨putA o.dst false true (E7 (BQ (Ag s.objs zs) s.objs.length nb) (r1 y)) s.env,Be s.objs (Ag s.objs zs) nb (O1 y)⟩:=by
    unfold nxN
    rw [ho]
    simp only [h0,hb,hall y,hb2,Bool.and_self,cond_true]
   rw [e] at h
   exact h
 ·cases hc
theorem rfN (hΓ:Γ.lentS=BH P) (js:List Code) (ts ord:List Nat) {f:FuncId} {ys:List AV} {O0 raw0:List (Option Ob)} {nb:Nat} {Z:ζ->Prop} {r1:ζ->AV} {O1:ζ->List (Option Ob)} (j:ζ->Nat) (hr:BH P f ys O0 nb (L7 Z r1 O1)) (hp0:raw0=O0)
  (hk:∀ y,Z y->JQ Q js (j y) ⟨s.env,(Be ((rgV Γ (nav p C) js ts s).getD (0,[],[],[])).2.2.1 ord nb (O1 y)).set s.objs.length none⟩)
  (hc:rgV Γ (nav p C) js ts s=some (f,((rgV Γ (nav p C) js ts s).getD (0,[],[],[])).2.1,((rgV Γ (nav p C) js ts s).getD (0,[],[],[])).2.2.1,ord):=by kernel_rfl)
  (hxs:((rgV Γ (nav p C) js ts s).getD (0,[],[],[])).2.1.map (C6 ord)=ys:=by kernel_rfl) (hO:BP ((rgV Γ (nav p C) js ts s).getD (0,[],[],[])).2.2.1 ord=raw0:=by kernel_rfl)
  (hb:∀ y,rgB Γ ord nb ((rgV Γ (nav p C) js ts s).getD (0,[],[],[])).2.2.1 (O1 y)=true:=by intro y;kernel_rfl) (hb0:rgB Γ ord nb ((rgV Γ (nav p C) js ts s).getD (0,[],[],[])).2.2.1 (List.replicate nb none)=true:=by kernel_rfl) (hj:∀ y,lpJ (Be ((rgV Γ (nav p C) js ts s).getD (0,[],[],[])).2.2.1 ord nb (O1 y)) s.objs.length=some (js,j y):=by intro y;kernel_rfl):WP Γ C p Q s:=by
 subst hp0
 generalize ((rgV Γ (nav p C) js ts s).getD (0,[],[],[])).2.1=xs at *
 generalize ((rgV Γ (nav p C) js ts s).getD (0,[],[],[])).2.2.1=O at *
 refine ⟨?_⟩
 unfold rgV at hc
 split at hc
 ·rename_i g ps asg body he
  split at hc
  ·rename_i f' caps hg
   simp only [Wq,Prod.mk.injEq] at hc
   obtain ⟨rfl,rfl,rfl,rfl⟩:=hc
   unfold rgB at hb hb0
   simp only [Wi,Bool.not_eq_true'] at hb hb0
   obtain ⟨⟨⟨b1,b2⟩,_⟩,b4⟩:=hb0
   rw [he]
   refine ⟨s,.refl s,.inr ?_⟩
   unfold H4
   rw [hg]
   refine ⟨js,ts,nb,L7 Z r1 O1,b1,?_,Wv b2,λ k hk=>?_,λ r O hR=>?_⟩
   ·rw [hxs,hO,hΓ];exact hr
   ·have:=Wv (V5.1 b4 k hk)
    omega
   ·obtain ⟨y,hy,rfl,rfl⟩:=hR
    exact ⟨Wv (hb y).1.2,j y,hj y,(hk y hy).out⟩
  ·cases hc
 ·cases hc
theorem flS {P:Program} {fn:Func} {f:FuncId} {args:List AV} {O0:List (Option Ob)} {nb:Nat} {R:AV->List (Option Ob)->Prop} (hfol:P.follows .mixedOrders=true) (hΓ:CC P Γ) (hf:P.funcs[f]? = some fn) (h:WP Γ (AN fn) [] (LS nb Γ.ty fn.results.toList R) s)
  (hb:fn.body=some (AN fn):=by kernel_rfl) (hnm:(fn.name == "runtime.NumGoroutine")=false:=by kernel_rfl) (hnt:Γ.nt=⟨fn.ntmps,[],nb,Γ.nt.qf⟩:=by kernel_rfl) (hlen:Nat.ble args.length fn.ntmps=true:=by kernel_rfl) (hs:(⟨(List.range args.length).zip args,O0⟩:St)=s:=by kernel_rfl) (hrd:Γ.rd=false:=by kernel_rfl):BH P f args O0 nb R:=
 IE hfol hΓ hrd hf hb hnm hnt (Wv hlen) (λ _ _ h=>h) (by rw [hs];exact h.out)
end Go.AI
end
section
namespace Go.AI
variable {P:Program} {Γ:Cx} {C:Code} {p:List Nat} {Q:Ex->St->Prop} {s s':St} {i nk:Nat}
variable {α β ζ:Type}
theorem Tn {e1:α->AV} (k off m:Nat) (t:Ty) {xs:List α} {n:Int} {x:α} (h:idx xs n=some x) (hk:obA s.objs k=some (.box (Gs s k)):=by kernel_rfl) (hc:((Gs s k).drop off).take m=xs.map e1:=by kernel_rfl) (ht:(!t.agg&&Nat.beq t.size 1)=true:=by kernel_rfl) :
  GS s (BW t s.objs (.ptr k (off+n.toNat*1))) (e1 x) [] [] none:=by
 generalize Gs s k=cells at hk hc
 obtain ⟨h1,_,h2⟩:=Eg h
 simp only [Wi,Bool.not_eq_true'] at ht
 have hs:=Wo ht.2
 have hg:cells[off+n.toNat*1]? = some (e1 x):=by
  have hm:n.toNat<((cells.drop off).take m).length:=by rw [hc,Wf];exact (List.getElem?_eq_some_iff.1 h2).1
  have:((cells.drop off).take m)[n.toNat]? = some (e1 x):=by rw [hc,Wl,h2];rfl
  rw [Wy (by simp at hm;omega),Wd] at this
  rw [Nat.mul_one];exact this
 have hl:=(List.getElem?_eq_some_iff.1 hg).1
 have:BW t s.objs (.ptr k (off+n.toNat*1))=AO (e1 x) (off+n.toNat*1+t.size<=cells.length):=by
  simp only [BW,hk,Bj,ht.1,cond_false,hg]
 rw [this]
 exact .of rfl (by omega)
theorem xcv (hX:XOK P Γ) (ord:List Nat) {f:FuncId} {ys:List AV} {O0 O1:List (Option Ob)} {nb:Nat} {r:AV} (hr:A7 P f ys O0 nb r O1) (hk:RF Γ C p (i+1) Q ((nxC Γ (nav p C) i ord nb r O1 s).getD s))
  (hc:Jo (nav p C) i s=some (((Jo (nav p C) i s).getD ((none,[]),[])).1,ord):=by kernel_rfl) (hm:Tg P ((Jo (nav p C) i s).getD ((none,[]),[])).1.1 f=Nat.beq f f:=by kernel_rfl)
  (hxs:((Jo (nav p C) i s).getD ((none,[]),[])).1.2.map (C6 ord)=ys:=by kernel_rfl) (hO:BP s.objs ord=O0:=by kernel_rfl) (hn:(nxC Γ (nav p C) i ord nb r O1 s).isSome=true:=by kernel_rfl):RF Γ C p i Q s:=xc hX ord hr hk hc (hm.trans (Nat.beq_refl f)) hxs hO hn
theorem Vx (e:α->List D) (k:Nat) (t:Ty) {xs zs:List α} {n:Int} {y:α} (hz:put xs n y=some zs) (hk:RF Γ C p (i+1) Q ((Hu Γ (nav p C) i .top [] [] (some (k,.arr (e y).length (zs.map e))) s).getD s))
  (h1:obA s.objs k=some (.arr (e y).length (xs.map e)):=by kernel_rfl) (h2:xDs s.objs (Ah (stV (nav p C) i s))=some (stR (nav p C) i s,[],[]):=by kernel_rfl) (h3:(AU (stV (nav p C) i s)&&(Ah (stV (nav p C) i s)).all C5)=true:=by kernel_rfl) (h4:∀ x,CW (e x) 0 (stR (nav p C) i s)=e y:=by intro x;kernel_rfl) (h5:(Nat.beq (stR (nav p C) i s).length t.size&&Nat.ble (0+t.size) (e y).length)=true:=by kernel_rfl)
  (hx:HC Γ (nav p C) i s=Dx t s.objs (.eptr k (e y).length (0+n.toNat) 0) (stV (nav p C) i s):=by kernel_rfl) (hn:(Hu Γ (nav p C) i .top [] [] (some (k,.arr (e y).length (zs.map e))) s).isSome=true:=by kernel_rfl):RF Γ C p i Q s:=by
 have hix:∃ x,idx xs n=some x:=by
  unfold put at hz
  split at hz
  ·rename_i hc
   refine ⟨xs[n.toNat],?_⟩
   unfold idx
   rw [if_pos hc.1,Wh (by omega)]
  ·cases hz
 obtain ⟨x,hix⟩:=hix
 exact sp (S8 h1 hix hz h2 leZ (by rw [h3];rfl) (h4 x) h5) hk hx hn
theorem Sb (t k sz:Nat) {es:List (List D)} (h:lkA s.env t=.eptr k sz 0 0) (ho:obA s.objs k=some (.arr sz es)):As nk s ⟨(t,.dptr es.flatten 0)::s.env,s.objs.set k none⟩:=
 As.sem λ _ _ _ _ _ a w _ hI=>by
  obtain ⟨F,ρ,hS,hSl,hn,hd⟩:=hI
  have hS1:=hS.freeze [k] (λ j hj=>by rw [List.mem_singleton.1 hj];exact ⟨_,ho⟩)
  have hFle:=Cq hS [k]
  refine ⟨_,ρ,hS1,λ q=>?_,hn,hd.1.mono hFle,hd.2⟩
  show Ad _ ρ (lkA ((t,AV.dptr es.flatten 0)::s.env) q) _
  rw [AG]
  by_cases e:t=q
  ·subst e
   rw [if_pos rfl]
   have:=hSl t
   rw [h] at this
   generalize a.tmps.getD t undef=u at this
   cases this with
   | eptr _ _ _ _ L hL=>
    obtain ⟨⟨g1,g2,cs,t0,fr,g3,g4,g5,g6⟩,gN,gF⟩:=hS.obj k L _ hL ho
    have hFb:Dz F ρ w.heap [k] L.b=some (.cells cs t0 fr):=by rw [EB (List.mem_singleton_self k) hL];exact g3
    have hget:∀ (j:Nat) (x:D),es.flatten[j]? = some x->∃ v,cs[L.base+j]? = some v/\AJ F x v:=by
     clear h ho g2 hFb
     intro j x hx
     have key:∀ (es:List (List D)) (base:Nat),(∀ e∈es,e.length=sz)->(∀ (i:Nat) (e:List D),es[i]? = some e->∀ (j:Nat) (x:D),e[j]? = some x->∃ v,cs[base+i*sz+j]? = some v/\AJ F x v)->∀ (j:Nat) (x:D),es.flatten[j]? = some x->∃ v,cs[base+j]? = some v/\AJ F x v:=by
      intro es
      induction es with
      | nil=>intro base _ _ j x hx;simp at hx
      | cons e es ih=>
       intro base hl hg j x hx
       have hle:=hl e List.mem_cons_self
       rw [List.flatten_cons] at hx
       by_cases hj:j<e.length
       ·rw [Wp hj] at hx
        have:=hg 0 e rfl j x hx
        simpa using this
       ·rw [Ww (by omega)] at hx
        obtain ⟨v,hv,hr⟩:=ih (base+sz) (λ e' he'=>hl e' (List.mem_cons_of_mem _ he')) (λ i e' he' j x hx=>by
         have:=hg (i+1) e' he' j x hx
         rw [Wt,Nat.one_mul] at this
         obtain ⟨v,hv,hr⟩:=this
         exact ⟨v,by rw [← hv];congr 1;omega,hr⟩) (j-e.length) x hx
        exact ⟨v,by rw [← hv];congr 1;omega,hr⟩
     exact key es L.base g1 g6 j x hx
    have:=Ad.dptr (F:=Dz F ρ w.heap [k]) (ρ:=ρ) es.flatten 0 L.b L.base cs t0 fr (λ j=>(cs[L.base+j]?).getD undef) hFb (λ j x hx=>by
     obtain ⟨v,hv,_⟩:=hget j x hx;rw [hv];rfl) (λ j x hx=>by
     obtain ⟨v,hv,hr⟩:=hget j x hx
     rw [hv];exact hr.mono hFle)
    simpa using this
  ·rw [if_neg e];exact (hSl q).mono hFle (RLe.refl _)
theorem IS {enc:α->List D} {sz:Nat} (hl:∀ x,(enc x).length=sz):∀ xs:List α,Cs sz xs.length (xs.map enc).flatten=xs.map enc
 | []=>rfl
 | x::xs=>by
  rw [List.length_cons,Wg,List.flatten_cons]
  simp only [Cs]
  rw [List.take_append_of_le_length (by rw [hl];exact V9 _),List.take_of_length_le (by rw [hl];exact V9 _),List.drop_append_of_le_length (by rw [hl];exact V9 _),List.drop_of_length_le (by rw [hl];exact V9 _),List.nil_append,IS hl xs]
theorem To {enc:α->List D} (sz n:Nat) {xs:List α} {u:Unit} (h:Bv (decide (n=xs.length))=some u) (hl:∀ x,(enc x).length=sz:=by intro _;rfl):GS s (AO (.d (.sl (Cs sz n (((xs.map enc).flatten).drop 0)))) (0+n*sz<=((xs.map enc).flatten).length)) (.d (.sl (xs.map enc))) [] [] none:=by
 have hn:n=xs.length:=of_decide_eq_true (HQ h)
 subst hn
 refine .of (ob:=0+xs.length*sz<=((xs.map enc).flatten).length) ?_ ?_
 ·rw [List.drop_zero,IS hl];rfl
 ·have:((xs.map enc).flatten).length=xs.length*sz:=by
   clear h
   induction xs with
   | nil=>simp
   | cons x xs ih=>simp only [Wg,List.flatten_cons,List.length_append,List.length_cons,hl,ih,Wt];omega
  omega
end Go.AI
end
section
namespace Go.AI
open Go.Sort Go.Shelf Go.Proofs
variable {P:Program} {ρs:Ren}
theorem Sim.more {N:Nat->Prop} {H0 F0 F:Nat->Option Obj} {ρ:Nat->Option Loc} {O:List (Option Ob)} {h:Array Obj} (hS:Sim N H0 F0 F ρ O h) (os:Array Obj):Sim N H0 F0 F ρ O (h++os):=by
 have hl:∀ b,b<h.size->(h++os)[b]? = h[b]? := λ b hb=>Array.getElem?_append_left hb
 have hg:∀ b o,h[b]? = some o->(h++os)[b]? = some o:=λ b o hb=>by rw [hl b (Af hb)];exact hb
 obtain ⟨σ,hσ⟩:=hS.inn
 have hM:∀ k c M,σ k c=some M->(h++os)[M.b]? = h[M.b]? := λ k c M hM=>hl _ (hσ.new k c M hM).2.1
 refine { hS with size:=λ b hb=>hS.size b (by simp at hb;omega),old:=λ b hb=>?_,frz:=λ b o hb=>hg b o (hS.frz b o hb),loc:=λ k L hk=>?_,obj:=λ k L ob hk ho=>?_,inn:=⟨σ,λ k c M hM=>?_,hσ.obj,hσ.sep,λ k L sz es hk ho i e j isz xs hi hj cs t fr v hb hv=>?_⟩ }
 ·have:b<h.size:=by
   apply Classical.byContradiction;intro hn
   exact hb (hS.size b (by omega))
  rw [hl b this];exact hS.old b hb
 ·have:=hS.loc k L hk;simp;omega
 ·obtain ⟨g1,g2,g3⟩:=hS.obj k L ob hk ho
  exact ⟨g1.mono (FLe.refl _) (RLe.refl _) (hl _ (hS.loc k L hk)),g2,g3⟩
 ·obtain ⟨g1,g2,g3⟩:=hσ.new k c M hM
  exact ⟨g1,by simp;omega,g3⟩
 ·rw [hl _ (hS.loc k L hk)] at hb
  exact (hσ.rep k L sz es hk ho i e j isz xs hi hj cs t fr v hb hv).mono (FLe.refl _) λ L' hL'=>hM _ _ _ hL'
end Go.AI
end
section
namespace Go.AI
def Nc {β:Type} (lt:β->β->Bool) (x:β):List β->List β
 | []=>[x]
 | y::l=>if lt y x=true then y::Nc lt x l else x::y::l
def EL {β:Type} (lt:β->β->Bool):List β->List β
 | []=>[]
 | x::l=>Nc lt x (EL lt l)
def L8 {β:Type} (lt:β->β->Bool) (xs:List β):Option (List β):=if xs.length<4611686018427387904 then some (EL lt xs) else none
section
variable {β:Type} {lt:β->β->Bool}
theorem GU (x:β):∀ l:List β,(Nc lt x l).Perm (x::l)
 | []=>.refl _
 | y::l=>by
  unfold Nc
  split
  ·exact ((GU x l).cons y).trans (.swap x y l)
  ·exact .refl _
theorem B6:∀ l:List β,(EL lt l).Perm l
 | []=>.refl _
 | x::l=>(GU x _).trans ((B6 l).cons x)
theorem Hx (hn:∀ x y z,lt x y=false->lt y z=false->lt x z=false) (ha:∀ x y,lt x y=true->lt y x=false) {x:β}:∀ {l:List β},l.Pairwise (λ a b=>lt b a=false)->(Nc lt x l).Pairwise (λ a b=>lt b a=false)
 | [],_=>by simp [Nc]
 | y::l,h=>by
  unfold Nc
  rw [List.pairwise_cons] at h
  split
  ·rename_i hyx
   refine List.pairwise_cons.2 ⟨λ z hz=>?_,Hx hn ha h.2⟩
   rcases List.mem_cons.1 ((GU x l).mem_iff.1 hz) with rfl|hz
   ·exact ha _ _ hyx
   ·exact h.1 z hz
  ·rename_i hyx
   have hyx:lt y x=false:=by simpa using hyx
   refine List.pairwise_cons.2 ⟨λ z hz=>?_,List.pairwise_cons.2 h⟩
   rcases List.mem_cons.1 hz with rfl|hz
   ·exact hyx
   ·exact hn _ _ _ (h.1 z hz) hyx
theorem Ci (hn:∀ x y z,lt x y=false->lt y z=false->lt x z=false) (ha:∀ x y,lt x y=true->lt y x=false):∀ l:List β,(EL lt l).Pairwise (λ a b=>lt b a=false)
 | []=>.nil
 | _::l=>Hx hn ha (Ci hn ha l)
theorem KM (hi:∀ x,lt x x=false) (hn:∀ x y z,lt x y=false->lt y z=false->lt x z=false) (ht:∀ x y z,lt x y=true->lt y z=true->lt x z=true) (hT:∀ x y,lt x y=false->lt y x=false->x=y) (l:List β):EL lt l=l.mergeSort λ x y=>!lt y x:=by
 have ha:∀ x y,lt x y=true->lt y x=false:=λ x y h=>by
  rw [Bool.eq_false_iff];intro h'
  have:=ht x y x h h';rw [hi] at this;cases this
 refine List.Perm.eq_of_pairwise (le:=λ a b=>lt b a=false) (λ a b _ _ h1 h2=>hT _ _ h2 h1) (Ci hn ha l) ?_ ((B6 l).trans (List.mergeSort_perm _ _).symm)
 have:=List.pairwise_mergeSort (le:=λ x y:β=>!lt y x) (λ a b c h1 h2=>by simp at *;exact hn _ _ _ h2 h1) (λ a b=>by
  cases h:lt b a with
  | false=>simp
  | true=>simp [ha _ _ h]) l
 exact this.imp λ h=>by simpa using h
end
end Go.AI
end
section
namespace Go.AI
open Go.Sort Go.Shelf Go.Proofs
variable {P:Program} {ρs:Ren} {β:Type} [Inhabited β]
theorem AJ.is_val {F:Nat->Option Obj} {x:D} {v:Value} (h:AJ F x v) (hp:x.isPlain=true):v=x.val:=by
 cases h<;>first|rfl|cases hp
theorem Js {x:D} (hp:x.isPlain=true):x.val.oneCell'=true:=AJ.oneCell (AJ.val (λ _=>none) hp)
theorem Qs {g:Nat} {enc:β->List D} (hpl:∀ x,∀ d∈enc x,d.isPlain=true) {cf:β->β->Int} (hcmp:∀ x y,AF P g [.agg ((enc x).map .d),.agg ((enc y).map .d)] (.d (.int .i64 (cf x y)))) (k blk off size:Nat) (w:World):CmpLays P g #[] (λ x=>(enc x).map D.val) k cf blk off size w:=by
 intro m os dk _ x y
 generalize sortWorldK (λ x=>(enc x).map D.val) k w blk off m dk os=W
 have ag:∀ z:β,Ad (λ _=>none) noR (.agg ((enc z).map .d)) (.agg ((enc z).map D.val).toArray):=λ z=>by
  refine .agg _ _ (by simp) λ i a v h1 h2=>?_
  simp only [Wl,Wk] at h1
  obtain ⟨d,hd,rfl⟩:=h1
  simp only [List.getElem?_toArray,Wl,hd,Option.map_some,Wq] at h2
  subst h2
  exact .d _ _ (AJ.val _ (hpl z d (Wj hd)))
 refine ((hcmp x y).2 (λ _=>none) W _ ⟨rfl,λ i a v h1 h2=>?_⟩ (λ b o h=>by cases h)).mono λ e w' he=>?_
 ·match i,h1,h2 with
  | 0,h1,h2=>cases h1;cases h2;exact ag x
  | 1,h1,h2=>cases h1;cases h2;exact ag y
 ·obtain ⟨v,F',ρ,rfl,hS,hv,hmu⟩:=he
  refine ⟨?_,w'.drawn-W.drawn,w'.heap.extract W.heap.size w'.heap.size,?_⟩
  ·have hv:Ad F' ρ (.d (.int .i64 (cf x y))) v:=hv
   rw [hv.int]
  ·obtain ⟨h1,h2,h3,h4,h5⟩:=hmu
   have hh:w'.heap=W.heap++w'.heap.extract W.heap.size w'.heap.size:=by
    apply Array.ext_getElem?
    intro b
    rw [Array.getElem?_append]
    split
    ·rename_i hb
     exact hS.old b (by omega)
    ·rename_i hb
     rw [Array.getElem?_extract]
     split
     ·congr 1;omega
     ·rw [Array.getElem?_eq_none (by omega)]
   show w'={ W with drawn:=W.drawn+(w'.drawn-W.drawn),heap:=W.heap++w'.heap.extract W.heap.size w'.heap.size }
   rw [← hh,Nat.add_sub_cancel' h5]
   cases w';cases W
   simp only at h1 h2 h4
   subst h1;subst h2;subst h4;rfl
theorem Nd (L:SlLaysF0.n6 P ρs) (k:Nat) (hk1:1<=k) (aE:∀ w,(isAgg (ρs.t 24)).run P w=.ok true w) (zE:∀ w,(Go.sizeOf (ρs.t 24)).run P w=.ok k w) {enc:β->List D} (hk:∀ x,(enc x).length=k) (hpl:∀ x,∀ d∈enc x,d.isPlain=true) {cf:β->β->Int} (hO:SWO (ltOf cf)) (hT:∀ x y,ltOf cf x y=false->ltOf cf y x=false->x=y) {g:Nat} (eg:∀ args w,(callFunc g args).run P w=.ok (.enter g args) w)
  (hcmp:∀ x y,AF P g [.agg ((enc x).map .d),.agg ((enc y).map .d)] (.d (.int .i64 (cf x y)))) (hf:∃ fn c,P.funcs[ρs.f 6]? = some fn/\fn.body=some c/\(fn.name == "runtime.NumGoroutine")=false) {xs zs:List β} (h:L8 (ltOf cf) xs=some zs) :
  A7 P (ρs.f 6) [.osl 0 k 0 xs.length,.clo g []] [some (.arr k (xs.map enc))] 1 (.tup []) [some (.arr k (zs.map enc))]:=by
 have hz:xs.length<4611686018427387904/\zs=xs.mergeSort λ x y=>!(ltOf cf) y x:=by
  unfold L8 at h
  split at h
  ·rename_i h1;exact ⟨h1,by rw [← KM hO.irrefl hO.ntrans hO.trans hT];exact (Option.some.inj h).symm⟩
  ·cases h
 obtain ⟨hlt,hzs⟩:=hz
 refine ⟨hf,λ N F ρ w vs hS hcr=>?_⟩
 obtain ⟨v,u,rfl⟩:∃ v u,vs=#[v,u]:=by
  have h1:vs.size=2:=by simpa using hcr.1.symm
  exact ⟨vs[0],vs[1],by apply Array.ext;simp [h1];intro i h1' h2;simp at h2;match i,h2 with|0,_=>rfl|1,_=>rfl⟩
 have hv:=hcr.2 0 _ v rfl rfl
 have hu:=hcr.2 1 _ u rfl rfl
 have hu:u=.func (.func g) #[] #[]:=by
  cases hu with
  | clo _ _ vs hl _=>
   have:vs=#[]:=Array.eq_empty_of_size_eq_zero hl.symm
   rw [this]
 subst hu
 have hlen:zs.length=xs.length:=by rw [hzs];exact List.length_mergeSort _
 have htup:∀ F' ρ',Ad F' ρ' (.tup []) (.tuple #[]):=λ F' ρ'=>.tup [] #[] rfl λ i a v h=>by simp at h
 generalize hn:xs.length=n at hv
 cases hv with
 | osl0 _ _ _ a=>
  have hx:xs=[]:=List.length_eq_zero_iff.1 hn
  have hz0:zs=[]:=List.length_eq_zero_iff.1 (by omega)
  refine (AnyF.slices_SortFunc_none L a 0 _ w).mono λ e w' he=>?_
  obtain ⟨rfl,rfl⟩:=he
  subst hx;subst hz0
  exact ⟨_,F,ρ,rfl,hS,λ j _ L h=>h,htup _ _,Mu.refl _⟩
 | osl _ _ _ _ cap Lo hL hc hs hz=>
  obtain ⟨⟨g1,g2,cs,t,fr,g3,g4,g5,g6⟩,gN,gF⟩:=hS.obj 0 Lo _ hL rfl
  simp only [Wf] at g2
  have hdm:∀ j,j<xs.length*k->j / k<xs.length/\j % k<k/\j / k*k+j % k=j:=λ j hj=>⟨(Nat.div_lt_iff_lt_mul (by omega)).2 hj,Nat.mod_lt _ (by omega),by rw [Nat.mul_comm];exact Nat.div_add_mod j k⟩
  have hcell:∀ j,j<xs.length*k->cs[Lo.base+j]? = some ((flatK (λ x=>(enc x).map D.val) k xs.toArray)[j]!):=λ j hj=>by
   obtain ⟨d1,d2,d3⟩:=hdm j hj
   have hx:xs.toArray[j / k]! = xs[j / k]:=by rw [getElem!_pos _ (j / k) (by simpa using d1)];simp
   have hd2:j % k<(enc xs[j / k]).length:=by rw [hk];exact d2
   obtain ⟨v,hv,hd⟩:=g6 (j / k) (enc xs[j / k]) (by rw [Wl,Wh d1];rfl) (j % k) _ (Wh hd2)
   have:=hd.is_val (hpl _ _ (V7 hd2))
   subst this
   rw [get_flatK _ _ _ j (by simpa using hj),hx]
   rw [show Lo.base+j=Lo.base+j / k*k+j % k by omega,hv,getElem!_pos _ (j % k) (by simpa using hd2)]
   simp
  have hH:HoldsK (λ x=>(enc x).map D.val) k w Lo.b (Lo.base+0*k) xs.toArray:=λ j hj=>by
   have hj:j<xs.length*k:=by simpa using hj
   have:=hcell j hj
   refine ⟨by simp only [World.cell?,g3,Option.isSome_none,Ws,if_false,Nat.zero_mul,Nat.add_zero];exact this,H5 g3 (g5 _ ?_)⟩
   simp;omega
  have hcon:=AnyQ.slices_SortFunc_total L k aE zE (λ x=>(enc x).map D.val) (λ x=>by simp [hk]) (λ x v hv=>by
   simp only [Wc] at hv
   obtain ⟨d,hd,rfl⟩:=hv
   exact Js (hpl x d hd)) cf hO g #[] Lo.b (Lo.base+0*k) cap xs.toArray w eg (Qs hpl hcmp k _ _ _ w) hH (Af g3) (by simpa using hlt) hT
  rw [show xs.toArray.size=n by simpa using hn] at hcon
  refine hcon.mono λ e w' he=>?_
  obtain ⟨rfl,m,os,rfl⟩:=he
  rw [show xs.toArray.toList=xs from rfl,← hzs]
  have hheap:(sortWorldK (λ x=>(enc x).map D.val) k w Lo.b (Lo.base+0*k) m zs.toArray os).heap=w.heap.setIfInBounds Lo.b (.cells (putCells id Lo.base (flatK (λ x=>(enc x).map D.val) k zs.toArray) cs) t fr)++os:=by
   simp only [sortWorldK,putRowK,grow,putRow,mapBlock,Sort.ahead,Nat.zero_mul,Nat.add_zero]
   congr 1
   apply Array.ext_getElem?
   intro i
   rw [Array.getElem?_modify,Array.getElem?_setIfInBounds]
   split
   ·rename_i e;subst e
    rw [if_pos (Af g3),g3];rfl
   ·rfl
  have hS1:=hS.rewrite (k':=0) (L':=Lo) (x:=.cells (putCells id Lo.base (flatK (λ x=>(enc x).map D.val) k zs.toArray) cs) t fr) (O':=[some (.arr k (zs.map enc))]) hL rfl (by rw [A0 hL];exact RLe.refl _) rfl (λ j ob' hj hob'=>by
    have:=Aq hob';simp at this;omega) (by simp) (by simp) (λ ob' hob'=>by
    cases hob'
    refine ⟨λ e he=>?_,by simp;rw [hlen];exact g2,_,t,fr,by rw [Array.getElem?_setIfInBounds_self_of_lt (Af g3)],by simp [putCells,g4],g5,λ i e hi j x hx=>?_⟩
    ·simp only [Wc] at he;obtain ⟨y,_,rfl⟩:=he;exact hk y
    ·simp only [Wl,Wk] at hi
     obtain ⟨y,hy,rfl⟩:=hi
     have hj:j<k:=by have:=Ab hx;rw [hk] at this;exact this
     have hil:=Ab hy
     have hlt2:i*k+j<zs.length*k:=by
      have:(i+1)*k<=zs.length*k:=V4 k (by omega)
      rw [Wt] at this;omega
     have hcs:Lo.base+i*k+j<cs.size:=by
      have:=hcell (i*k+j) (by rw [← hlen];exact hlt2)
      have:=Af this;omega
     refine ⟨x.val,?_,AJ.val _ (hpl y x (Wj hx))⟩
     have e1:(flatK (λ x=>(enc x).map D.val) k zs.toArray)[i*k+j]! = x.val:=by
      rw [get_flatK _ _ _ _ (by simpa using hlt2)]
      have h1:(i*k+j) / k=i:=by rw [Nat.mul_comm,Nat.mul_add_div (by omega),Nat.div_eq_of_lt hj];omega
      have h2:(i*k+j) % k=j:=by rw [Nat.mul_comm,Nat.mul_add_mod];exact Nat.mod_eq_of_lt hj
      rw [h1,h2]
      have e0:zs.toArray[i]! = y:=by
       rw [getElem!_pos _ i (by simpa using hil)]
       simpa [Wh hil] using hy
      rw [e0]
      have hjl:j<((enc y).map D.val).length:=by simp [hk];exact hj
      rw [getElem!_pos _ j hjl,List.getElem_map]
      have:=Wh (l:=enc y) (by rw [hk];exact hj)
      rw [this] at hx;cases hx;rfl
     simp only [putCells,Array.getElem?_mapIdx,Wm hcs,Option.map_some]
     rw [if_pos ⟨by omega,by simp;omega⟩,show Lo.base+i*k+j-Lo.base=i*k+j by omega,e1];rfl) (λ ob' hob'=>by cases hob';rfl)
  rw [A0 hL] at hS1
  refine ⟨_,F,ρ,rfl,by rw [hheap];exact hS1.more os,λ j _ L h=>h,htup _ _,rfl,rfl,by rw [hheap];simp,rfl,Nat.le_add_right _ _⟩
end Go.AI
end
section
namespace Go.AI
variable {β:Type}
def ltC (c:β->β->Option Int) (x y:β):Bool:=decide ((c x y).getD 0<0)
structure NM (c:β->β->Option Int):Prop where
 tot:∀ x y,(c x y).isSome=true
 irrefl:∀ x,ltC c x x=false
 trans:∀ x y z,ltC c x y=true->ltC c y z=true->ltC c x z=true
 ntrans:∀ x y z,ltC c x y=false->ltC c y z=false->ltC c x z=false
 one:∀ x y,ltC c x y=false->ltC c y x=false->x=y
open Classical in
noncomputable def J1 (c:β->β->Option Int) (xs:List β):Option (List β):=if NM c then L8 (ltC c) xs else none
theorem Nf {c:β->β->Option Int} {xs zs:List β} (h:J1 c xs=some zs):NM c/\L8 (ltC c) xs=some zs:=by
 unfold J1 at h
 split at h
 ·rename_i hc;exact ⟨hc,h⟩
 ·cases h
theorem Qt {c:β->β->Option Int} (hc:NM c) (xs:List β) (h:xs.length<4611686018427387904):J1 c xs=some (EL (ltC c) xs):=by
 unfold J1 L8
 rw [if_pos hc,if_pos h]
end Go.AI
end
section
namespace Go.AI
open Go.Sort Go.Shelf Go.Proofs
theorem KN {P:Program} {g:Nat} {fn:Func} (hf:P.funcs[g]? = some fn) (hb:fn.body=some (AN fn):=by kernel_rfl) (hnm:(fn.name == "runtime.NumGoroutine")=false:=by kernel_rfl) (args:Array Value) (w:World):(callFunc g args).run P w=.ok (.enter g args) w:=by
 simp only [callFunc,V2,run_program,V1,hf,hnm,hb,Ws,if_false,Option.isNone_some,V3]
theorem Ng {P:Program} {ρs:Ren} {β:Type} [Inhabited β] (L:SlLaysF0.n6 P ρs) {k:Nat} (hk1:1<=k) (aE:∀ w,(isAgg (ρs.t 24)).run P w=.ok true w) (zE:∀ w,(Go.sizeOf (ρs.t 24)).run P w=.ok k w) {enc:β->List D} (hk:∀ x,(enc x).length=k) (hpl:∀ x,∀ d∈enc x,d.isPlain=true) {c:β->β->Option Int} {g:Nat} (eg:∀ args w,(callFunc g args).run P w=.ok (.enter g args) w)
  (hcmp:∀ {x y:β} {z:Int},c x y=some z->AF P g [.agg ((enc x).map .d),.agg ((enc y).map .d)] (.d (.int .i64 z))) (hf:∃ fn c,P.funcs[ρs.f 6]? = some fn/\fn.body=some c/\(fn.name == "runtime.NumGoroutine")=false) {xs zs:List β} (h:J1 c xs=some zs) :
  A7 P (ρs.f 6) [.osl 0 k 0 xs.length,.clo g []] [some (.arr k (xs.map enc))] 1 (.tup []) [some (.arr k (zs.map enc))]:=by
 obtain ⟨hc,h⟩:=Nf h
 refine Nd L k hk1 aE zE hk hpl (cf:=λ x y=>(c x y).getD 0) ⟨hc.irrefl,hc.trans,hc.ntrans⟩ hc.one eg (λ x y=>hcmp ?_) hf h
 have:=hc.tot x y
 rw [Option.isSome_iff_exists] at this
 obtain ⟨n,hn⟩:=this
 rw [hn];rfl
end Go.AI
end
section
namespace Go.Proofs
open Go.Shelf
def Try.laysSortF_ren:Go.Shelf.Ren:=⟨λ|6=>53|15=>61|14=>60|28=>74|29=>75|20=>66|21=>67|22=>68|23=>69|24=>70|25=>71|26=>72|27=>73|46=>77|47=>78|48=>79|49=>80|50=>81|57=>82|n=>n,λ|22=>27|24=>32|25=>71|3=>3|39=>84|0=>0|53=>97|55=>99|4=>4|46=>90|45=>89|50=>94|5=>5|9=>9|66=>100|70=>104|76=>106|77=>107|n=>n,λ|n=>n⟩
theorem Try.laysSortF:Go.Proofs.SlLaysF0.n6 Try.prog Try.laysSortF_ren:={
 mixed:=by kernel_rfl
 f6:=⟨ "slices.SortFunc[[]sixdot/api.Point,sixdot/api.Point]",by decide,Try.func53.trans (congrArg some (by kernel_rfl))⟩
 f14:=⟨ "slices.pdqsortCmpFunc[sixdot/api.Point]",by decide,Try.func60.trans (congrArg some (by kernel_rfl))⟩
 f15:=Try.func61.trans (congrArg some (by kernel_rfl))
 f20:=⟨ "slices.insertionSortCmpFunc[sixdot/api.Point]",by decide,Try.func66.trans (congrArg some (by kernel_rfl))⟩
 f21:=⟨ "slices.heapSortCmpFunc[sixdot/api.Point]",by decide,Try.func67.trans (congrArg some (by kernel_rfl))⟩
 f22:=⟨ "slices.breakPatternsCmpFunc[sixdot/api.Point]",by decide,Try.func68.trans (congrArg some (by kernel_rfl))⟩
 f23:=⟨ "slices.choosePivotCmpFunc[sixdot/api.Point]",by decide,Try.func69.trans (congrArg some (by kernel_rfl))⟩
 f24:=⟨ "slices.reverseRangeCmpFunc[sixdot/api.Point]",by decide,Try.func70.trans (congrArg some (by kernel_rfl))⟩
 f25:=⟨ "slices.partialInsertionSortCmpFunc[sixdot/api.Point]",by decide,Try.func71.trans (congrArg some (by kernel_rfl))⟩
 f26:=⟨ "slices.partitionEqualCmpFunc[sixdot/api.Point]",by decide,Try.func72.trans (congrArg some (by kernel_rfl))⟩
 f27:=⟨ "slices.partitionCmpFunc[sixdot/api.Point]",by decide,Try.func73.trans (congrArg some (by kernel_rfl))⟩
 f28:=Try.func74.trans (congrArg some (by kernel_rfl))
 f29:=Try.func75.trans (congrArg some (by kernel_rfl))
 f46:=⟨ "slices.siftDownCmpFunc[sixdot/api.Point]",by decide,Try.func77.trans (congrArg some (by kernel_rfl))⟩
 f47:=Try.func78.trans (congrArg some (by kernel_rfl))
 f48:=Try.func79.trans (congrArg some (by kernel_rfl))
 f49:=⟨ "slices.medianAdjacentCmpFunc[sixdot/api.Point]",by decide,Try.func80.trans (congrArg some (by kernel_rfl))⟩
 f50:=⟨ "slices.medianCmpFunc[sixdot/api.Point]",by decide,Try.func81.trans (congrArg some (by kernel_rfl))⟩
 f57:=⟨ "slices.order2CmpFunc[sixdot/api.Point]",by decide,Try.func82.trans (congrArg some (by kernel_rfl))⟩
 t0:=Try.underlying0
 a0:=Try.isAgg0
 z0:=Try.sizeOf0
 v0:=Try.zeroValue0
 t3:=Try.underlying3
 a3:=Try.isAgg3
 z3:=Try.sizeOf3
 v3:=Try.zeroValue3
 t4:=Try.underlying4
 a4:=Try.isAgg4
 z4:=Try.sizeOf4
 v4:=Try.zeroValue4
 t5:=Try.underlying5
 a5:=Try.isAgg5
 z5:=Try.sizeOf5
 v5:=Try.zeroValue5
 t9:=Try.underlying9
 a9:=Try.isAgg9
 z9:=Try.sizeOf9
 v9:=Try.zeroValue9
 t22:=Try.underlying27
 a22:=Try.isAgg27
 z22:=Try.sizeOf27
 v22:=Try.zeroValue27
 t25:=Try.underlying71
 a25:=Try.isAgg71
 z25:=Try.sizeOf71
 v25:=Try.zeroValue71
 t39:=Try.underlying84
 a39:=Try.isAgg84
 z39:=Try.sizeOf84
 v39:=Try.zeroValue84
 t45:=Try.underlying89
 a45:=Try.isAgg89
 z45:=Try.sizeOf89
 v45:=Try.zeroValue89
 t46:=Try.underlying90
 a46:=Try.isAgg90
 z46:=Try.sizeOf90
 v46:=Try.zeroValue90
 t50:=Try.underlying94
 a50:=Try.isAgg94
 z50:=Try.sizeOf94
 v50:=Try.zeroValue94
 t53:=Try.underlying97
 a53:=Try.isAgg97
 z53:=Try.sizeOf97
 v53:=Try.zeroValue97
 t55:=Try.underlying99
 a55:=Try.isAgg99
 z55:=Try.sizeOf99
 v55:=Try.zeroValue99
 t66:=Try.underlying100
 a66:=Try.isAgg100
 z66:=Try.sizeOf100
 v66:=Try.zeroValue100
 t70:=Try.underlying104
 a70:=Try.isAgg104
 z70:=Try.sizeOf104
 v70:=Try.zeroValue104
 t76:=Try.underlying106
 a76:=Try.isAgg106
 z76:=Try.sizeOf106
 v76:=Try.zeroValue106
 t77:=Try.underlying107
 a77:=Try.isAgg107
 z77:=Try.sizeOf107
 v77:=Try.zeroValue107 }
end Go.Proofs
end
section
namespace Go.AI
variable {P:Program} {F:Nat->Option Obj} {ρ:Nat->Option Loc} {w:World}
def At (F:Nat->Option Obj) (ρ:Nat->Option Loc) (xs:Array Value) (o:Nat) (l:List AV):Prop:=∀ (j:Nat) a,l[j]? = some a->∃ v,xs[o+j]? = some v/\Ad F ρ a v
theorem At.take {xs:Array Value} {o:Nat} {l:List AV} (h:At F ρ xs o l) (n:Nat):At F ρ xs o (l.take n):=λ j a ha=>by
 rw [List.getElem?_take] at ha
 split at ha
 ·exact h j a ha
 ·cases ha
theorem At.drop {xs:Array Value} {o:Nat} {l:List AV} (h:At F ρ xs o l) (n:Nat):At F ρ xs (o+n) (l.drop n):=λ j a ha=>by
 rw [Wd] at ha
 rw [We];exact h _ a ha
end Go.AI
end
section
namespace Go.AI
open Go.Proofs
set_option maxRecDepth 100000
theorem OU:Inf Try.prog 3 1 8 (.int .i64 0):=AL (by kernel_rfl)
theorem Sc:Inf Try.prog 4 1 1 (.bool false):=AL (by kernel_rfl)
theorem Sd:Inf Try.prog 5 1 1 (.int .u8 0):=AL (by kernel_rfl)
theorem Vy:Inf Try.prog 9 1 16 (.string ⟨#[]⟩):=AL (by kernel_rfl)
theorem SD:Inf Try.prog 22 1 24 (.slice none 0 0):=AL (by kernel_rfl)
theorem UP:Inf Try.prog 24 3 32 (.agg #[.int .u8 0,.int .u8 0,.slice none 0 0]):=AL (by kernel_rfl)
theorem Qu:Inf Try.prog 25 2 2 (.agg #[.int .u8 0,.int .u8 0]):=AL (by kernel_rfl)
theorem SE:Inf Try.prog 27 1 24 (.slice none 0 0):=AL (by kernel_rfl)
theorem UQ:Inf Try.prog 29 3 40 (.agg #[.int .i64 0,.int .i64 0,.slice none 0 0]):=AL (by kernel_rfl)
theorem Qv:Inf Try.prog 32 2 16 (.agg #[.int .i64 0,.int .i64 0]):=AL (by kernel_rfl)
theorem SF:Inf Try.prog 40 1 1 (.int .i8 0):=AL (by kernel_rfl)
theorem UR:Inf Try.prog 41 2 2 (.agg #[.int .i8 0,.int .i8 0]):=AL (by kernel_rfl)
theorem US:Inf Try.prog 43 6 6 (.agg #[.int .u8 0,.int .u8 0,.int .u8 0,.int .u8 0,.int .u8 0,.int .u8 0]):=AL (by kernel_rfl)
theorem UT:Inf Try.prog 44 6 48 (.agg #[.int .i64 0,.int .i64 0,.int .i64 0,.int .i64 0,.int .i64 0,.int .i64 0]):=AL (by kernel_rfl)
theorem UU:Inf Try.prog 53 1 24 (.slice none 0 0):=AL (by kernel_rfl)
theorem UV:Inf Try.prog 57 1 8 (.map none):=AL (by kernel_rfl)
theorem SG:Inf Try.prog 59 1 8 (.nilFunc):=AL (by kernel_rfl)
theorem UW:Inf Try.prog 67 1 8 (.nilFunc):=AL (by kernel_rfl)
theorem UX:Inf Try.prog 71 1 8 (.nilFunc):=AL (by kernel_rfl)
theorem UY:Inf Try.prog 73 4 32 (.agg #[.nilFunc,.nilFunc,.nilFunc,.nilFunc]):=AL (by kernel_rfl)
theorem SH:Inf Try.prog 74 60 60 (.agg (Array.replicate 60 (.bool false))):=AL (by kernel_rfl)
theorem UZ:Inf Try.prog 75 3600 3600 (.agg (Array.replicate 3600 (.bool false))):=AL (by kernel_rfl)
theorem U0:Inf Try.prog 79 1 24 (.slice none 0 0):=AL (by kernel_rfl)
theorem U1:Inf Try.prog 84 1 8 (.int .u64 0):=AL (by kernel_rfl)
theorem U2:Inf Try.prog 89 1 8 (.int .i64 0):=AL (by kernel_rfl)
theorem U3:Inf Try.prog 97 1 4 (.int .u32 0):=AL (by kernel_rfl)
theorem U4:Inf Try.prog 99 1 8 (.int .u64 0):=AL (by kernel_rfl)
theorem Tp:Inf Try.prog 100 1 8 (.int .u64 0):=AL (by kernel_rfl)
theorem Tq:Inf Try.prog 104 1 8 (.pointer none):=AL (by kernel_rfl)
def ty:Nat->Ty
 | 3=>⟨true,[],1,false,[.int .i64 0],.int .i64⟩
 | 4=>⟨true,[],1,false,[.bool false],.bool⟩
 | 5=>⟨true,[],1,false,[.int .u8 0],.int .u8⟩
 | 9=>⟨true,[],1,false,[.str []],.string⟩
 | 22=>⟨true,[],1,false,[.nil],.slice 2 2 [.int .u8 0,.int .u8 0]⟩
 | 24=>⟨true,[],3,true,[.int .u8 0,.int .u8 0,.nil],.struct [(0,1),(1,1),(2,1)]⟩
 | 25=>⟨true,[],2,true,[.int .u8 0,.int .u8 0],.array 2 1⟩
 | 27=>⟨true,[],1,false,[.nil],.slice 2 16 [.int .i64 0,.int .i64 0]⟩
 | 29=>⟨true,[],3,true,[.int .i64 0,.int .i64 0,.nil],.struct [(0,1),(1,1),(2,1)]⟩
 | 32=>⟨true,[.int .i64,.int .i64],2,true,[.int .i64 0,.int .i64 0],.struct [(0,1),(1,1)]⟩
 | 40=>⟨true,[],1,false,[.int .i8 0],.int .i8⟩
 | 41=>⟨true,[],2,true,[.int .i8 0,.int .i8 0],.array 2 1⟩
 | 43=>⟨true,[],6,true,[.int .u8 0,.int .u8 0,.int .u8 0,.int .u8 0,.int .u8 0,.int .u8 0],.array 3 2⟩
 | 44=>⟨true,[],6,true,[.int .i64 0,.int .i64 0,.int .i64 0,.int .i64 0,.int .i64 0,.int .i64 0],.array 3 2⟩
 | 53=>⟨true,[],1,false,[.nil],.slice 1 1 [.bool false]⟩
 | 57=>⟨true,[],1,false,[.nilm],.map [.int .i64,.int .i64] true false [.bool false]⟩
 | 59=>⟨true,[],1,false,[.nilf],.other⟩
 | 67=>⟨true,[],1,false,[.nilf],.other⟩
 | 71=>⟨true,[],1,false,[.nilf],.other⟩
 | 73=>⟨true,[],4,true,[.nilf,.nilf,.nilf,.nilf],.array 4 1⟩
 | 74=>⟨true,[],60,true,(List.replicate 60 (.bool false)),.array 60 1⟩
 | 75=>⟨true,[],3600,true,(List.replicate 3600 (.bool false)),.array 60 60⟩
 | 79=>⟨true,[],1,false,[.nil],.slice 1 8 [.int .i64 0]⟩
 | 84=>⟨true,[],1,false,[.int .u64 0],.int .u64⟩
 | 89=>⟨true,[],1,false,[.int .i64 0],.int .i64⟩
 | 97=>⟨true,[],1,false,[.int .u32 0],.int .u32⟩
 | 99=>⟨true,[],1,false,[.int .u64 0],.int .u64⟩
 | 100=>⟨true,[],1,false,[.int .u64 0],.int .u64⟩
 | 104=>⟨true,[],1,false,[.nilp],.other⟩
 | _=>⟨false,[],0,false,[],.other⟩
theorem tf3:Au Try.prog 3 (ty 3):=tfM OU Try.underlying3 rfl
theorem tf4:Au Try.prog 4 (ty 4):=tfM Sc Try.underlying4 rfl
theorem tf5:Au Try.prog 5 (ty 5):=tfM Sd Try.underlying5 rfl
theorem tf9:Au Try.prog 9 (ty 9):=tfM Vy Try.underlying9 rfl
theorem Vz:Au Try.prog 22 (ty 22):=tfM SD Try.underlying22 (slK Qu)
theorem VA:Au Try.prog 24 (ty 24):=tfM UP Try.underlying24 (stF (Fj (LT Sd Try.underlying5) (Fj (LT Sd Try.underlying5) (Fj (LT SD Try.underlying22) PO))))
theorem VB:Au Try.prog 25 (ty 25):=tfM Qu Try.underlying25 (arK Sd)
theorem VC:Au Try.prog 27 (ty 27):=tfM SE Try.underlying27 (slK Qv)
theorem VD:Au Try.prog 29 (ty 29):=tfM UQ Try.underlying29 (stF (Fj (LT OU Try.underlying3) (Fj (LT OU Try.underlying3) (Fj (LT SE Try.underlying27) PO))))
theorem VE:Au Try.prog 32 (ty 32):=tfM Qv Try.underlying32 (stF (Fj (LT OU Try.underlying3) (Fj (LT OU Try.underlying3) PO))) (λ _=>RM Try.underlying32 (by kernel_rfl) (by kernel_rfl) rfl λ j f k h1 h2=>match j,h1,h2 with|0,h1,h2=>(by cases h1;cases h2;exact ⟨by decide,rfl,⟨_,Try.underlying3⟩⟩)|1,h1,h2=>(by cases h1;cases h2;exact ⟨by decide,rfl,⟨_,Try.underlying3⟩⟩)|n+2,h1,_=>by simp at h1)
theorem VF:Au Try.prog 40 (ty 40):=tfM SF Try.underlying40 rfl
theorem VG:Au Try.prog 41 (ty 41):=tfM UR Try.underlying41 (arK SF)
theorem VH:Au Try.prog 43 (ty 43):=tfM US Try.underlying43 (arK Qu)
theorem VI:Au Try.prog 44 (ty 44):=tfM UT Try.underlying44 (arK Qv)
theorem VJ:Au Try.prog 53 (ty 53):=tfM UU Try.underlying53 (slK Sc)
theorem VK:Au Try.prog 57 (ty 57):=tfM UV Try.underlying57 (by obtain ⟨j,h1,h2,h3,h4⟩:=Sc;exact ⟨_,_,j,_,rfl,(Jn Try.underlying32 (by kernel_rfl) rfl λ j f k h1 h2=>match j,h1,h2 with|0,h1,h2=>(by cases h1;cases h2;exact ⟨by decide,rfl,⟨_,Try.underlying3⟩⟩)|1,h1,h2=>(by cases h1;cases h2;exact ⟨by decide,rfl,⟨_,Try.underlying3⟩⟩)|n+2,h1,_=>by simp at h1),h1,h4,rfl,(λ h=>by cases h),(λ _=>⟨_,rfl,rfl⟩)⟩)
theorem VL:Au Try.prog 59 (ty 59):=tfM SG Try.underlying59 trivial
theorem VM:Au Try.prog 67 (ty 67):=tfM UW Try.underlying67 trivial
theorem VN:Au Try.prog 71 (ty 71):=tfM UX Try.underlying71 trivial
theorem VO:Au Try.prog 73 (ty 73):=tfM UY Try.underlying73 (arK SG)
theorem VP:Au Try.prog 74 (ty 74):=tfM SH Try.underlying74 (arK Sc)
theorem VQ:Au Try.prog 75 (ty 75):=tfM UZ Try.underlying75 (arK SH)
theorem VR:Au Try.prog 79 (ty 79):=tfM U0 Try.underlying79 (slK OU)
theorem VS:Au Try.prog 84 (ty 84):=tfM U1 Try.underlying84 rfl
theorem VT:Au Try.prog 89 (ty 89):=tfM U2 Try.underlying89 rfl
theorem VU:Au Try.prog 97 (ty 97):=tfM U3 Try.underlying97 rfl
theorem VV:Au Try.prog 99 (ty 99):=tfM U4 Try.underlying99 rfl
theorem U5:Au Try.prog 100 (ty 100):=tfM Tp Try.underlying100 rfl
theorem U6:Au Try.prog 104 (ty 104):=tfM Tq Try.underlying104 trivial
theorem tyOK:Ey Try.prog ty:=by
 intro t h
 unfold ty at h
 split at h
 ·exact tf3
 ·exact tf4
 ·exact tf5
 ·exact tf9
 ·exact Vz
 ·exact VA
 ·exact VB
 ·exact VC
 ·exact VD
 ·exact VE
 ·exact VF
 ·exact VG
 ·exact VH
 ·exact VI
 ·exact VJ
 ·exact VK
 ·exact VL
 ·exact VM
 ·exact VN
 ·exact VO
 ·exact VP
 ·exact VQ
 ·exact VR
 ·exact VS
 ·exact VT
 ·exact VU
 ·exact VV
 ·exact U5
 ·exact U6
 ·cases h
theorem follows:Try.prog.follows .mixedOrders=true:=by kernel_rfl
def qfT:List (Nat×Nat):=[]
theorem VW:∀ f k,(f,k)∈qfT->∀ vs:Array Value,vs.size=k->QD Try.prog (H2 f vs):=λ _ _ h=>by cases h
def cxk (n nk:Nat):Cx:=⟨ty,⟨n,[],nk,qfT⟩,AF Try.prog,A7 Try.prog,Gg Try.prog,FX Try.prog,BH Try.prog,false⟩
def cxr (n nk:Nat):Cx:=⟨ty,⟨n,[],nk,[]⟩,AF Try.prog,A7 Try.prog,Gg Try.prog,FX Try.prog,BH Try.prog,true⟩
def cx (n:Nat):Cx:=cxk n 0
theorem Qx (n nk:Nat):CC Try.prog (cxk n nk):=⟨tyOK,λ _ _ _ h=>h,λ _ _ _ _ _ _ h=>h,λ _ _ _ _ _ h=>h,λ _ _ _ _ h=>h,λ _ _ _ _ _ h=>h,VW,λ h=>by cases h⟩
theorem U7 (n nk:Nat):CC Try.prog (cxr n nk):=⟨tyOK,λ _ _ _ h=>h,λ _ _ _ _ _ _ h=>h,λ _ _ _ _ _ h=>h,λ _ _ _ _ h=>h,λ _ _ _ _ _ h=>h,λ _ _ h=>(by cases h),λ _=>rfl⟩
end Go.AI
end
section
namespace Go.AI
structure Aa where
 X:Int
 Y:Int
 deriving DecidableEq,Inhabited
structure Ak where
 Kind:Int
 Texture:Int
 P:(List Aa)
 deriving DecidableEq,Inhabited
structure FK (α:Type) where
 a0:α
 a1:α
 deriving DecidableEq,Inhabited
structure V0 where
 Kind:Int
 Texture:Int
 L:(List (FK Int))
 deriving DecidableEq,Inhabited
structure OW (α:Type) where
 a0:α
 a1:α
 a2:α
 deriving DecidableEq,Inhabited
def AD (_:Nat) (p0_:Int) (p1_:Int):Option Aa:=
 some ({ X:=p0_,Y:=p1_ }:Aa)
def Bc (n:Nat) :Option (List Aa):=
 (AD n 0 0).bind λ r1=>
 (AD n 2 0).bind λ r2=>
 (AD n 2 2).bind λ r3=>
 (AD n 0 2).bind λ r4=>
 some [r1,r2,r3,r4]
def Do (_:Nat) (p0_:Ak) (x_1:Int):Option (Int⊕(Unit⊕Bool)):=
 if decide (x_1<((p0_.P.length:Nat):Int))=true then
  (idx p0_.P x_1).bind λ x1=>
  if ((((decide (x1.X<0))||(decide (x1.X>=60)))||(decide (x1.Y<0)))||(decide (x1.Y>=60)))=true then
   some (.inr (.inr false))
  else
   some (.inl (Bt .i64 x_1 1))
 else
  some (.inr (.inl ()))
def BU (n:Nat) (p0_:Ak):Option Bool:=
 if ((decide (((p0_.P.length:Nat):Int)<1))||(decide (((p0_.P.length:Nat):Int)>12)))=true then
  some false
 else
  (whl (λ (x:Int)=>Do n p0_ x) n 0).bind λ y1=>
  match y1 with
  | Sum.inl _=>
   if (p0_.Kind==1)=true then
    some ((((p0_.P.length:Nat):Int)==1)&&(p0_.Texture==0))
   else
    if (p0_.Kind==2)=true then
     some ((decide (((p0_.P.length:Nat):Int)>=2))&&(p0_.Texture==0))
    else
     if (p0_.Kind==3)=true then
      some (((decide (((p0_.P.length:Nat):Int)>=3))&&(decide (p0_.Texture>=0)))&&(decide (p0_.Texture<=3)))
     else
      some false
  | Sum.inr y3=>
   some y3
def DP (_:Nat) (p0_:(List Aa)) (x_2:Int):Option (Int⊕(Unit⊕Bool)):=
 if decide (x_2<((p0_.length:Nat):Int))=true then
  (idx p0_ x_2).bind λ x2=>
  if ((((decide (x2.X<(-1000)))||(decide (x2.X>1000)))||(decide (x2.Y<(-1000))))||(decide (x2.Y>1000)))=true then
   some (.inr (.inr false))
  else
   some (.inl (Bt .i64 x_2 1))
 else
  some (.inr (.inl ()))
def IT (n:Nat) (p0_:(List Aa)):Option Bool:=
 (whl (λ (x:Int)=>DP n p0_ x) n 0).bind λ y4=>
 match y4 with
 | Sum.inl _=>
  some true
 | Sum.inr y6=>
  some y6
def Gv (_:Nat) (p0_:Int):Option Int:=
 if decide (p0_<0)=true then
  some (OG .i64 p0_)
 else
  some p0_
def FE (n:Nat) (p0_:Aa) (p1_:Aa):Option Int:=
 (Gv n (Bd .i64 p0_.X p1_.X)).bind λ r5=>
 (Gv n (Bd .i64 p0_.Y p1_.Y)).bind λ r6=>
 some (if r6>r5 then r6 else r5)
def CH (_:Nat) (quotient_1:Int):Option Int:=
 some quotient_1
def Dd (n:Nat) (p0_:Int) (p1_:Int) (p2_:Int) (p3_:Int):Option Int:=
 (Bv (!((Bu .i64 2 p3_)==0))).bind λ _=>
 (Bv (!((Bu .i64 2 p3_)==0))).bind λ _=>
 if decide (CL (Bt .i64 (Bu .i64 2 (Bt .i64 (Bu .i64 p0_ p3_) (Bu .i64 p2_ (Bd .i64 p1_ p0_)))) p3_) (Bu .i64 2 p3_)<0)=true then
  CH n (Bd .i64 (PP .i64 (Bt .i64 (Bu .i64 2 (Bt .i64 (Bu .i64 p0_ p3_) (Bu .i64 p2_ (Bd .i64 p1_ p0_)))) p3_) (Bu .i64 2 p3_)) 1)
 else
  CH n (PP .i64 (Bt .i64 (Bu .i64 2 (Bt .i64 (Bu .i64 p0_ p3_) (Bu .i64 p2_ (Bd .i64 p1_ p0_)))) p3_) (Bu .i64 2 p3_))
def DQ (n:Nat) (p0_:Aa) (p1_:Aa) (r8:Int) (l_1:(List Aa)) (x_3:Int):Option (((List Aa)×Int)⊕(List Aa)):=
 if decide (x_3<Bt .i64 r8 1)=true then
  (Dd n p0_.X p1_.X x_3 r8).bind λ r9=>
  (Dd n p0_.Y p1_.Y x_3 r8).bind λ r10=>
  (app 16 l_1 [({ X:=r9,Y:=r10 }:Aa)]).bind λ l2=>
  some (.inl (l2,(Bt .i64 x_3 1)))
 else
  some (.inr l_1)
def IU (n:Nat) (p0_:Aa) (p1_:Aa):Option (List Aa):=
 (IT n [p0_,p1_]).bind λ r7=>
 if (!r7)=true then
  some []
 else
  (FE n p0_ p1_).bind λ r8=>
  if (r8==0)=true then
   some [p0_]
  else
   (mkc 16 0 (Bt .i64 r8 1) (⟨0,0⟩:Aa)).bind λ l1=>
   (whl (λ (x:((List Aa)×Int))=>DQ n p0_ p1_ r8 x.1 x.2) n (l1,0)).bind λ y7=>
   some y7
def EM (_:Nat) (r11:(List Aa)) (dots_1:(List (Aa×Bool))) (x_5:Int):Option (((List (Aa×Bool))×Int)⊕(List (Aa×Bool))):=
 if decide (x_5<((r11.length:Nat):Int))=true then
  (idx r11 x_5).bind λ x3=>
  some (.inl ((E8 x3 true dots_1),(Bt .i64 x_5 1)))
 else
  some (.inr dots_1)
def HS (n:Nat) (p1_:Aa) (p2_:Aa) (o0_:(List (Aa×Bool))):Option (List (Aa×Bool)):=
 (IU n p1_ p2_).bind λ r11=>
 (whl (λ (x:((List (Aa×Bool))×Int))=>EM n r11 x.1 x.2) n (o0_,0)).bind λ y8=>
 some y8
def CI (_:Nat) (p0_:Int):Option Bool:=
 some (p0_ != p0_)
def BJ (n:Nat) (p0_:Int) (p1_:Int):Option Int:=
 (CI n p0_).bind λ r12=>
 (CI n p1_).bind λ r13=>
 if r12=true then
  if r13=true then
   some 0
  else
   some (-1)
 else
  if r13=true then
   some 1
  else
   if decide (p0_<p1_)=true then
    some (-1)
   else
    if decide (p0_>p1_)=true then
     some 1
    else
     some 0
def B7 (_:Nat) (p0_:(List Int)) (x_7:Int):Option (Int⊕(Unit⊕Int)):=
 if decide (x_7<((p0_.length:Nat):Int))=true then
  (idx p0_ x_7).bind λ x4=>
  if (x4 != 0)=true then
   some (.inr (.inr x4))
  else
   some (.inl (Bt .i64 x_7 1))
 else
  some (.inr (.inl ()))
def DR (n:Nat) (p0_:(List Int)):Option Int:=
 (whl (λ (x:Int)=>B7 n p0_ x) n 0).bind λ y9=>
 match y9 with
 | Sum.inl _=>
  some 0
 | Sum.inr y11=>
  some y11
def BE (n:Nat) (p0_:Aa) (p1_:Aa):Option Int:=
 (BJ n p0_.Y p1_.Y).bind λ r14=>
 (BJ n p0_.X p1_.X).bind λ r15=>
 (DR n [r14,r15]).bind λ r16=>
 some r16
def Dp (n:Nat) (p0_:(List Aa)) (dots_2:(List (Aa×Bool))) (i_1:Int):Option (((List (Aa×Bool))×Int)⊕(List (Aa×Bool))):=
 if decide (i_1<((p0_.length:Nat):Int))=true then
  (idx p0_ (Bd .i64 i_1 1)).bind λ x5=>
  (idx p0_ i_1).bind λ x6=>
  (HS n x5 x6 dots_2).bind λ r17=>
  some (.inl (r17,(Bt .i64 i_1 1)))
 else
  some (.inr dots_2)
def FF (n:Nat) (p0_:(List Aa)):Option (List (Aa×Bool)):=
 (whl (λ (x:((List (Aa×Bool))×Int))=>Dp n p0_ x.1 x.2) n ([],1)).bind λ y12=>
 some y12
def FP (_:Nat) (_:Aa):Option Bool:=
 some false
def Cj (_:Nat) (p0_:Aa):Option Bool:=
 some ((CL (Bt .i64 p0_.X p0_.Y) 2)==0)
def Ck (_:Nat) (p0_:Aa):Option Bool:=
 some ((CL p0_.Y 2)==0)
def FQ (_:Nat) (_:Aa):Option Bool:=
 some true
def KO (_:Nat) (p0_:Aa) (p1_:Aa) (p2_:Aa):Option Bool:=
 if (((p2_.X==p0_.X)&&((p2_.Y==p0_.Y)&&true))||((p2_.X==p1_.X)&&((p2_.Y==p1_.Y)&&true)))=true then
  some true
 else
  if ((Bu .i64 (Bd .i64 p1_.X p0_.X) (Bd .i64 p2_.Y p0_.Y)) != (Bu .i64 (Bd .i64 p1_.Y p0_.Y) (Bd .i64 p2_.X p0_.X)))=true then
   some false
  else
   some ((((decide ((if p1_.X<p0_.X then p1_.X else p0_.X)<=p2_.X))&&(decide (p2_.X<=(if p1_.X>p0_.X then p1_.X else p0_.X))))&&(decide ((if p1_.Y<p0_.Y then p1_.Y else p0_.Y)<=p2_.Y)))&&(decide (p2_.Y<=(if p1_.Y>p0_.Y then p1_.Y else p0_.Y))))
def EN (_:Nat) (p0_:Aa) (p1_:Aa) (p2_:Aa):Option Bool:=
 if ((decide (p0_.Y<=p2_.Y))==(decide (p1_.Y<=p2_.Y)))=true then
  some false
 else
  if decide (p1_.Y>p0_.Y)=true then
   some (decide (Bu .i64 (Bd .i64 p2_.Y p0_.Y) (Bd .i64 p1_.X p0_.X)>Bu .i64 (Bd .i64 p2_.X p0_.X) (Bd .i64 p1_.Y p0_.Y)))
  else
   some (decide (Bu .i64 (Bd .i64 p2_.Y p0_.Y) (Bd .i64 p1_.X p0_.X)<Bu .i64 (Bd .i64 p2_.X p0_.X) (Bd .i64 p1_.Y p0_.Y)))
def CZ (_:Nat) (x_9:Int) (odd_3:Bool):Option ((Bool×Int)⊕(Bool⊕Bool)):=
 some (.inl (odd_3,(Bt .i64 x_9 1)))
def C0 (n:Nat) (p0_:(List Aa)) (p1_:Aa) (odd_1:Bool) (x_9:Int):Option ((Bool×Int)⊕(Bool⊕Bool)):=
 if decide (x_9<((p0_.length:Nat):Int))=true then
  (idx p0_ x_9).bind λ x7=>
  (Bv (!(((p0_.length:Nat):Int)==0))).bind λ _=>
  (idx p0_ (CL (Bt .i64 x_9 1) ((p0_.length:Nat):Int))).bind λ x8=>
  (KO n x7 x8 p1_).bind λ r18=>
  if r18=true then
   some (.inr (.inr true))
  else
   (EN n x7 x8 p1_).bind λ r19=>
   if r19=true then
    CZ n x_9 (!odd_1)
   else
    CZ n x_9 odd_1
 else
  some (.inr (.inl odd_1))
def Br (n:Nat) (p0_:(List Aa)) (p1_:Aa):Option Bool:=
 (whl (λ (x:(Bool×Int))=>C0 n p0_ p1_ x.1 x.2) n (false,0)).bind λ y13=>
 match y13 with
 | Sum.inl y14=>
  some y14
 | Sum.inr y15=>
  some y15
def Di (_:Nat) (_:(List (Aa×Bool))):Option Unit:=
 some ()
def EO (_:Nat) (p1_:Aa) (o2_:(List Aa)):Option (List Aa):=
 (app 16 o2_ [p1_]).bind λ l3=>
 some l3
def AH (n:Nat) (e1:(Aa×Bool)) (x_12:(List Aa)):Option ((List Aa)⊕Empty):=
 (EO n e1.1 x_12).bind λ r20=>
 some (.inl r20)
noncomputable def B0 (n:Nat) (o3_:(List (Aa×Bool))) (o4_:(List Aa)):Option ((List Aa)->Prop):=
 OQ (λ (ord:(List (Aa×Bool)))=>List.Perm ord o3_) λ (ord:(List (Aa×Bool)))=>
 (Dh (λ (e:(Aa×Bool)) (x:(List Aa))=>AH n e x) ord o4_).bind λ y16=>
 match y16 with
 | Sum.inl y17=>
  some (Jr y17)
 | Sum.inr r=>
  nomatch r
noncomputable def EP (n:Nat) (o1_:(List (Aa×Bool))):Option ((List Aa)->Prop):=
 (B0 n o1_ ([]:List Aa)).bind λ S1=>
 OQ S1 λ (r21:(List Aa))=>
 some (Jr r21)
noncomputable def DS (n:Nat) (o1_:(List (Aa×Bool))):Option ((List Aa)->Prop):=
 (EP n o1_).bind λ S2=>
 OQ S2 λ (r22:(List Aa))=>
 some (Jr r22)
noncomputable def IV (n:Nat) (o0_:(List Aa)):Option (List Aa):=
 J1 (λ (x:Aa) (y:Aa)=>BE n x y) o0_
noncomputable def Dq (n:Nat) (o1_:(List (Aa×Bool))):Option (List Aa):=
 (DS n o1_).bind λ S3=>
 dem S3 λ (r23:(List Aa))=>
 (IV n r23).bind λ r24=>
 (Bv (decide (List.length r23=List.length r24))).bind λ _=>
 some r24
noncomputable def Cy (n:Nat) (o0_:(List (Aa×Bool))):Option (List Aa):=
 (Di n o0_).bind λ _=>
 (Dq n o0_).bind λ r26=>
 some r26
def D3 (_:Nat) (dots_4:(List (Aa×Bool))):Option (List (Aa×Bool)):=
 some dots_4
def EQ (n:Nat) (p0_:(List Aa)):Option (List (Aa×Bool)):=
 (FF n p0_).bind λ r27=>
 if decide (((p0_.length:Nat):Int)>0)=true then
  (idx p0_ (Bd .i64 ((p0_.length:Nat):Int) 1)).bind λ x9=>
  (idx p0_ 0).bind λ x10=>
  (HS n x9 x10 r27).bind λ r28=>
  D3 n r28
 else
  D3 n r27
def DT (_:Nat) (p0_:Int):Option Nat:=
 (idx ([46,47,48,49]:List Nat) p0_).bind λ x11=>
 some x11
def Cl (_:Nat) (p0_:Ak) (_:(List (Aa×Bool))) (low_1:Aa) (high_1:Aa) (x_20:Int):Option ((Aa×Aa×Int)⊕(Aa×Aa)):=
 if decide (x_20<((p0_.P.length:Nat):Int))=true then
  (idx p0_.P x_20).bind λ x15=>
  some (.inl (({ X:=(if x15.X<low_1.X then x15.X else low_1.X),Y:=(if x15.Y<low_1.Y then x15.Y else low_1.Y) }:Aa),({ X:=(if x15.X>high_1.X then x15.X else high_1.X),Y:=(if x15.Y>high_1.Y then x15.Y else high_1.Y) }:Aa),(Bt .i64 x_20 1)))
 else
  some (.inr (low_1,high_1))
def C1 (_:Nat) (x_21:Int) (dots_9:(List (Aa×Bool))):Option (((List (Aa×Bool))×Int)⊕(List (Aa×Bool))):=
 some (.inl (dots_9,(Bt .i64 x_21 1)))
def Gw (n:Nat) (x:Nat) (p0_:Aa):Option Bool:=
 if Nat.beq x 46=true then
  FP n p0_
 else
  if Nat.beq x 47=true then
   Cj n p0_
  else
   if Nat.beq x 48=true then
    Ck n p0_
   else
    if Nat.beq x 49=true then
     FQ n p0_
    else
     none
def C2 (n:Nat) (p0_:Ak) (y18:(Aa×Aa)) (r33:Nat) (y_1:Int) (dots_7:(List (Aa×Bool))) (x_21:Int):Option (((List (Aa×Bool))×Int)⊕(List (Aa×Bool))):=
 if decide (x_21<=y18.2.X)=true then
  (Gw n r33 ({ X:=x_21,Y:=y_1 }:Aa)).bind λ r34=>
  (if r34=true then Br n p0_.P ({ X:=x_21,Y:=y_1 }:Aa) else some default).bind λ r35=>
  if (r34&&r35)=true then
   C1 n x_21 (E8 ({ X:=x_21,Y:=y_1 }:Aa) true dots_7)
  else
   C1 n x_21 dots_7
 else
  some (.inr dots_7)
def C3 (n:Nat) (p0_:Ak) (y18:(Aa×Aa)) (r33:Nat) (dots_5:(List (Aa×Bool))) (y_1:Int):Option (((List (Aa×Bool))×Int)⊕(List (Aa×Bool))):=
 if decide (y_1<=y18.2.Y)=true then
  (whl (λ (x:((List (Aa×Bool))×Int))=>C2 n p0_ y18 r33 y_1 x.1 x.2) n (dots_5,y18.1.X)).bind λ y19=>
  some (.inl (y19,(Bt .i64 y_1 1)))
 else
  some (.inr dots_5)
noncomputable def Bh (n:Nat) (p0_:Ak):Option (List Aa):=
 (BU n p0_).bind λ r29=>
 if (!r29)=true then
  some []
 else
  if (p0_.Kind==1)=true then
   (idx p0_.P 0).bind λ x12=>
   some [x12]
  else
   if (p0_.Kind==2)=true then
    (FF n p0_.P).bind λ r30=>
    (Cy n r30).bind λ r31=>
    some r31
   else
    (EQ n p0_.P).bind λ r32=>
    (idx p0_.P 0).bind λ x13=>
    (idx p0_.P 0).bind λ x14=>
    (whl (λ (x:(Aa×Aa×Int))=>Cl n p0_ r32 x.1 x.2.1 x.2.2) n (x13,x14,0)).bind λ y18=>
    (DT n p0_.Texture).bind λ r33=>
    (whl (λ (x:((List (Aa×Bool))×Int))=>C3 n p0_ y18 r33 x.1 x.2) n (r32,y18.1.Y)).bind λ y20=>
    (Cy n y20).bind λ r36=>
    some r36
def Dr (_:Nat) (p0_:(List Aa)) (p1_:(List Aa)) (i_2:Int):Option (Int⊕(Unit⊕Bool)):=
 if decide (i_2<((p0_.length:Nat):Int))=true then
  (idx p0_ i_2).bind λ x16=>
  (idx p1_ i_2).bind λ x17=>
  if (!((x16.X==x17.X)&&((x16.Y==x17.Y)&&true)))=true then
   some (.inr (.inr false))
  else
   some (.inl (Bt .i64 i_2 1))
 else
  some (.inr (.inl ()))
def Ej (n:Nat) (p0_:(List Aa)) (p1_:(List Aa)):Option Bool:=
 if (((p0_.length:Nat):Int) != ((p1_.length:Nat):Int))=true then
  some false
 else
  (whl (λ (x:Int)=>Dr n p0_ p1_ x) n 0).bind λ y21=>
  match y21 with
  | Sum.inl _=>
   some true
  | Sum.inr y23=>
   some y23
noncomputable def DU (n:Nat) (p0_:(List Aa)):Option (List Aa):=
 (EQ n p0_).bind λ r37=>
 (Cy n r37).bind λ r38=>
 some r38
noncomputable def Fn (n:Nat) :Option Bool:=
 (AD n 3 4).bind λ r39=>
 (AD n 0 0).bind λ r40=>
 (AD n 2 0).bind λ r41=>
 (Bc n).bind λ r42=>
 (Bc n).bind λ r43=>
 (Bh n ({ Kind:=1,Texture:=0,P:=[r39] }:Ak)).bind λ r44=>
 (Ej n r44 [r39]).bind λ r45=>
 (if r45=true then Bh n ({ Kind:=2,Texture:=0,P:=[r40,r41] }:Ak) else some default).bind λ r46=>
 (if r45=true then AD n 0 0 else some default).bind λ r47=>
 (if r45=true then AD n 1 0 else some default).bind λ r48=>
 (if r45=true then AD n 2 0 else some default).bind λ r49=>
 (if r45=true then Ej n r46 [r47,r48,r49] else some default).bind λ r50=>
 (if (r45&&r50)=true then Bh n ({ Kind:=3,Texture:=0,P:=r42 }:Ak) else some default).bind λ r51=>
 (if ((r45&&r50)&&(((r51.length:Nat):Int)==8))=true then Bh n ({ Kind:=3,Texture:=3,P:=r43 }:Ak) else some default).bind λ r52=>
 (BU n ({ Kind:=1,Texture:=0,P:=[r39] }:Ak)).bind λ r53=>
 (if r53=true then BU n ({ Kind:=3,Texture:=3,P:=r43 }:Ak) else some default).bind λ r54=>
 (if (r53&&r54)=true then BU n ({ Kind:=0,Texture:=0,P:=[] }:Ak) else some default).bind λ r55=>
 (if ((r53&&r54)&&(!r55))=true then Bc n else some default).bind λ r56=>
 (if ((r53&&r54)&&(!r55))=true then BU n ({ Kind:=1,Texture:=0,P:=r56 }:Ak) else some default).bind λ r57=>
 (if (((r53&&r54)&&(!r55))&&(!r57))=true then Bc n else some default).bind λ r58=>
 (if (((r53&&r54)&&(!r55))&&(!r57))=true then BU n ({ Kind:=3,Texture:=4,P:=r58 }:Ak) else some default).bind λ r59=>
 (if ((((r53&&r54)&&(!r55))&&(!r57))&&(!r59))=true then AD n 60 0 else some default).bind λ r60=>
 (if ((((r53&&r54)&&(!r55))&&(!r57))&&(!r59))=true then BU n ({ Kind:=1,Texture:=0,P:=[r60] }:Ak) else some default).bind λ r61=>
 (if ((((r45&&r50)&&(((r51.length:Nat):Int)==8))&&(((r52.length:Nat):Int)==9))&&(((((r53&&r54)&&(!r55))&&(!r57))&&(!r59))&&(!r61)))=true then Bc n else some default).bind λ r62=>
 (if ((((r45&&r50)&&(((r51.length:Nat):Int)==8))&&(((r52.length:Nat):Int)==9))&&(((((r53&&r54)&&(!r55))&&(!r57))&&(!r59))&&(!r61)))=true then AD n 1 1 else some default).bind λ r63=>
 (if ((((r45&&r50)&&(((r51.length:Nat):Int)==8))&&(((r52.length:Nat):Int)==9))&&(((((r53&&r54)&&(!r55))&&(!r57))&&(!r59))&&(!r61)))=true then Br n r62 r63 else some default).bind λ r64=>
 (if (((((r45&&r50)&&(((r51.length:Nat):Int)==8))&&(((r52.length:Nat):Int)==9))&&(((((r53&&r54)&&(!r55))&&(!r57))&&(!r59))&&(!r61)))&&r64)=true then Bc n else some default).bind λ r65=>
 (if (((((r45&&r50)&&(((r51.length:Nat):Int)==8))&&(((r52.length:Nat):Int)==9))&&(((((r53&&r54)&&(!r55))&&(!r57))&&(!r59))&&(!r61)))&&r64)=true then AD n 2 1 else some default).bind λ r66=>
 (if (((((r45&&r50)&&(((r51.length:Nat):Int)==8))&&(((r52.length:Nat):Int)==9))&&(((((r53&&r54)&&(!r55))&&(!r57))&&(!r59))&&(!r61)))&&r64)=true then Br n r65 r66 else some default).bind λ r67=>
 (if ((((((r45&&r50)&&(((r51.length:Nat):Int)==8))&&(((r52.length:Nat):Int)==9))&&(((((r53&&r54)&&(!r55))&&(!r57))&&(!r59))&&(!r61)))&&r64)&&r67)=true then Bc n else some default).bind λ r68=>
 (if ((((((r45&&r50)&&(((r51.length:Nat):Int)==8))&&(((r52.length:Nat):Int)==9))&&(((((r53&&r54)&&(!r55))&&(!r57))&&(!r59))&&(!r61)))&&r64)&&r67)=true then AD n 0 2 else some default).bind λ r69=>
 (if ((((((r45&&r50)&&(((r51.length:Nat):Int)==8))&&(((r52.length:Nat):Int)==9))&&(((((r53&&r54)&&(!r55))&&(!r57))&&(!r59))&&(!r61)))&&r64)&&r67)=true then Br n r68 r69 else some default).bind λ r70=>
 (if (((((((r45&&r50)&&(((r51.length:Nat):Int)==8))&&(((r52.length:Nat):Int)==9))&&(((((r53&&r54)&&(!r55))&&(!r57))&&(!r59))&&(!r61)))&&r64)&&r67)&&r70)=true then Bc n else some default).bind λ r71=>
 (if (((((((r45&&r50)&&(((r51.length:Nat):Int)==8))&&(((r52.length:Nat):Int)==9))&&(((((r53&&r54)&&(!r55))&&(!r57))&&(!r59))&&(!r61)))&&r64)&&r67)&&r70)=true then AD n 3 1 else some default).bind λ r72=>
 (if (((((((r45&&r50)&&(((r51.length:Nat):Int)==8))&&(((r52.length:Nat):Int)==9))&&(((((r53&&r54)&&(!r55))&&(!r57))&&(!r59))&&(!r61)))&&r64)&&r67)&&r70)=true then Br n r71 r72 else some default).bind λ r73=>
 (if ((((((((r45&&r50)&&(((r51.length:Nat):Int)==8))&&(((r52.length:Nat):Int)==9))&&(((((r53&&r54)&&(!r55))&&(!r57))&&(!r59))&&(!r61)))&&r64)&&r67)&&r70)&&(!r73))=true then Bc n else some default).bind λ r74=>
 (if ((((((((r45&&r50)&&(((r51.length:Nat):Int)==8))&&(((r52.length:Nat):Int)==9))&&(((((r53&&r54)&&(!r55))&&(!r57))&&(!r59))&&(!r61)))&&r64)&&r67)&&r70)&&(!r73))=true then AD n (-1) 0 else some default).bind λ r75=>
 (if ((((((((r45&&r50)&&(((r51.length:Nat):Int)==8))&&(((r52.length:Nat):Int)==9))&&(((((r53&&r54)&&(!r55))&&(!r57))&&(!r59))&&(!r61)))&&r64)&&r67)&&r70)&&(!r73))=true then Br n r74 r75 else some default).bind λ r76=>
 (if (((((((((r45&&r50)&&(((r51.length:Nat):Int)==8))&&(((r52.length:Nat):Int)==9))&&(((((r53&&r54)&&(!r55))&&(!r57))&&(!r59))&&(!r61)))&&r64)&&r67)&&r70)&&(!r73))&&(!r76))=true then AD n 0 0 else some default).bind λ r77=>
 (if (((((((((r45&&r50)&&(((r51.length:Nat):Int)==8))&&(((r52.length:Nat):Int)==9))&&(((((r53&&r54)&&(!r55))&&(!r57))&&(!r59))&&(!r61)))&&r64)&&r67)&&r70)&&(!r73))&&(!r76))=true then Br n [] r77 else some default).bind λ r78=>
 (if ((((((((((r45&&r50)&&(((r51.length:Nat):Int)==8))&&(((r52.length:Nat):Int)==9))&&(((((r53&&r54)&&(!r55))&&(!r57))&&(!r59))&&(!r61)))&&r64)&&r67)&&r70)&&(!r73))&&(!r76))&&(!r78))=true then Bc n else some default).bind λ r79=>
 (if ((((((((((r45&&r50)&&(((r51.length:Nat):Int)==8))&&(((r52.length:Nat):Int)==9))&&(((((r53&&r54)&&(!r55))&&(!r57))&&(!r59))&&(!r61)))&&r64)&&r67)&&r70)&&(!r73))&&(!r76))&&(!r78))=true then DU n r79 else some default).bind λ r80=>
 some (((((((((((r45&&r50)&&(((r51.length:Nat):Int)==8))&&(((r52.length:Nat):Int)==9))&&(((((r53&&r54)&&(!r55))&&(!r57))&&(!r59))&&(!r61)))&&r64)&&r67)&&r70)&&(!r73))&&(!r76))&&(!r78))&&(((r80.length:Nat):Int)==8))
def Ek (_:Nat) (p0_:Aa) (p1_:Aa) (p2_:Aa):Option Int:=
 some (if (if 1<Bd .i64 (Bu .i64 (Bd .i64 p1_.X p0_.X) (Bd .i64 p2_.Y p0_.Y)) (Bu .i64 (Bd .i64 p1_.Y p0_.Y) (Bd .i64 p2_.X p0_.X)) then 1 else Bd .i64 (Bu .i64 (Bd .i64 p1_.X p0_.X) (Bd .i64 p2_.Y p0_.Y)) (Bu .i64 (Bd .i64 p1_.Y p0_.Y) (Bd .i64 p2_.X p0_.X)))>(-1) then (if 1<Bd .i64 (Bu .i64 (Bd .i64 p1_.X p0_.X) (Bd .i64 p2_.Y p0_.Y)) (Bu .i64 (Bd .i64 p1_.Y p0_.Y) (Bd .i64 p2_.X p0_.X)) then 1 else Bd .i64 (Bu .i64 (Bd .i64 p1_.X p0_.X) (Bd .i64 p2_.Y p0_.Y)) (Bu .i64 (Bd .i64 p1_.Y p0_.Y) (Bd .i64 p2_.X p0_.X))) else (-1))
def Bl (n:Nat) (p0_:(OW (FK Int))) (_:(FK Int)) (_:Bool) (c_1:(List Aa)) (i_8:Int):Option (((List Aa)×Int)⊕(List Aa)):=
 if decide (i_8<3)=true then
  (Bv (decide ((0:Int)<=i_8/\i_8<((3:Nat):Int)))).bind λ _=>
  (idx ([p0_.a0,p0_.a1,p0_.a2]:List (FK Int)) i_8).bind λ x25=>
  (Bv (decide ((0:Int)<=i_8/\i_8<((3:Nat):Int)))).bind λ _=>
  (idx ([p0_.a0,p0_.a1,p0_.a2]:List (FK Int)) i_8).bind λ x26=>
  (AD n (IntKind.i64.wrap (CL x25.a0 64)) (IntKind.i64.wrap (CL x26.a1 64))).bind λ r120=>
  (Bv (decide ((0:Int)<=i_8/\i_8<((3:Nat):Int)))).bind λ _=>
  (put c_1 i_8 r120).bind λ l16=>
  some (.inl (l16,(Bt .i64 i_8 1)))
 else
  some (.inr c_1)
def Bm (n:Nat) (_:Bool) (y39:(List Aa)) (r121:Aa) (r122:Int) (inside_1:Bool) (i_9:Int):Option ((Bool×Int)⊕Bool):=
 if decide (i_9<3)=true then
  (if inside_1=true then Bv (decide ((0:Int)<=i_9/\i_9<((3:Nat):Int))) else some default).bind λ _=>
  (if inside_1=true then idx y39 i_9 else some default).bind λ x30=>
  (if inside_1=true then Bv (decide ((0:Int)<=CL (Bt .i64 i_9 1) 3/\CL (Bt .i64 i_9 1) 3<((3:Nat):Int))) else some default).bind λ _=>
  (if inside_1=true then idx y39 (CL (Bt .i64 i_9 1) 3) else some default).bind λ x31=>
  (if inside_1=true then Ek n x30 x31 r121 else some default).bind λ r123=>
  some (.inl ((inside_1&&(r123 != (OG .i64 r122))),(Bt .i64 i_9 1)))
 else
  some (.inr inside_1)
noncomputable def Cf (n:Nat) (p0_:(OW (FK Int))) (p1_:(FK Int)):Option Bool:=
 (Fn n).bind λ r119=>
 (whl (λ (x:((List Aa)×Int))=>Bl n p0_ p1_ r119 x.1 x.2) n (([({ X:=0,Y:=0 }:Aa),({ X:=0,Y:=0 }:Aa),({ X:=0,Y:=0 }:Aa)]:List Aa),0)).bind λ y39=>
 (AD n (IntKind.i64.wrap (CL p1_.a0 64)) (IntKind.i64.wrap (CL p1_.a1 64))).bind λ r121=>
 (Bv (decide ((0:Int)<=0/\0<((3:Nat):Int)))).bind λ _=>
 (idx y39 0).bind λ x27=>
 (Bv (decide ((0:Int)<=1/\1<((3:Nat):Int)))).bind λ _=>
 (idx y39 1).bind λ x28=>
 (Bv (decide ((0:Int)<=2/\2<((3:Nat):Int)))).bind λ _=>
 (idx y39 2).bind λ x29=>
 (Ek n x27 x28 x29).bind λ r122=>
 if (r122==0)=true then
  some r119
 else
  (whl (λ (x:(Bool×Int))=>Bm n r119 y39 r121 r122 x.1 x.2) n (true,0)).bind λ y40=>
  (if r119=true then Bv (decide (3=List.length y39)) else some default).bind λ _=>
  (if r119=true then Br n y39 r121 else some default).bind λ r124=>
  some (r119&&(r124==y40))
end Go.AI
end
section
namespace Go.AI
open Go.Proofs
set_option maxRecDepth 10000
theorem xok (n kl:Nat):XOK Try.prog (cxk n kl):=⟨tyOK,rfl⟩
noncomputable def A9:G9:=lpd (AN Try.f59) [1,0,1,0] 13 [7] []
theorem fO (k:Nat) (s:St) {fn:Func} {f:FuncId} {args:List AV} {r:AV} (hf:Try.prog.funcs[f]? = some fn) (h:WP (cxk k 0) (AN fn) [] (LR (cxk k 0).ty fn.results.toList r) s) (hb:fn.body=some (AN fn):=by kernel_rfl) (hnm:(fn.name == "runtime.NumGoroutine")=false:=by kernel_rfl) (hnt:(cxk k 0).nt.n=fn.ntmps:=by kernel_rfl) (hlen:Nat.ble args.length fn.ntmps=true:=by kernel_rfl) (hs:(⟨(List.range args.length).zip args,[]⟩:St)=s:=by kernel_rfl):AF Try.prog f args r:=fo follows (Qx k 0) hf h hb hnm hnt hlen hs
theorem fL (k nb:Nat) (s:St) {fn:Func} {f:FuncId} {args:List AV} {O0 O1:List (Option Ob)} {r:AV} (hf:Try.prog.funcs[f]? = some fn) (h:WP (cxk k nb) (AN fn) [] (JV nb (cxk k nb).ty fn.results.toList r O1) s) (hb:fn.body=some (AN fn):=by kernel_rfl) (hnm:(fn.name == "runtime.NumGoroutine")=false:=by kernel_rfl) (hnt:(cxk k nb).nt=⟨fn.ntmps,[],nb,qfT⟩:=by kernel_rfl) (hlen:Nat.ble args.length fn.ntmps=true:=by kernel_rfl) (hs:(⟨(List.range args.length).zip args,O0⟩:St)=s:=by kernel_rfl):A7 Try.prog f args O0 nb r O1:=fl follows (Qx k nb) hf h hb hnm hnt hlen hs
theorem fS (k nb:Nat) (s:St) {fn:Func} {f:FuncId} {args:List AV} {O0:List (Option Ob)} {R:AV->List (Option Ob)->Prop} (hf:Try.prog.funcs[f]? = some fn) (h:WP (cxk k nb) (AN fn) [] (LS nb (cxk k nb).ty fn.results.toList R) s) (hb:fn.body=some (AN fn):=by kernel_rfl) (hnm:(fn.name == "runtime.NumGoroutine")=false:=by kernel_rfl) (hnt:(cxk k nb).nt=⟨fn.ntmps,[],nb,qfT⟩:=by kernel_rfl) (hlen:Nat.ble args.length fn.ntmps=true:=by kernel_rfl) (hs:(⟨(List.range args.length).zip args,O0⟩:St)=s:=by kernel_rfl):BH Try.prog f args O0 nb R:=flS follows (Qx k nb) hf h hb hnm hnt hlen hs
theorem yok (n kl:Nat):YOK Try.prog (cxk n kl):=⟨rfl⟩
variable {n:Nat}
def Ac (x:Aa):List D:=[.int .i64 x.X,.int .i64 x.Y]
@[reducible] def J2 {α:Type} (e:α->List D) (x:FK α):List D:=e x.a0++e x.a1
@[reducible] def U9 {α:Type} (e:α->List D) (x:OW α):List D:=e x.a0++e x.a1++e x.a2
def Cm (x:Ak):List AV:=[.d (.int .i64 x.Kind),.d (.int .i64 x.Texture),.d (.sl (x.P.map Ac))]
theorem SI:∀ a b:Aa,Ax [.int .i64,.int .i64] ((Ac a).map .d) ((Ac b).map .d)=some (decide (a=b)):=by
  intro a b
  cases a;cases b
  simp [Ax,Ac,Bool.decide_and]
  all_goals (first|rfl|(rw [Bool.eq_iff_iff];simp))
section
variable (p0_:Int) (p1_:Int)
def Tr:St:=⟨(0,.d (.int .i64 p0_))::(1,.d (.int .i64 p1_))::[],[]⟩
variable {p0_ p1_}
theorem Av {z} (H:AD n p0_ p1_=some z):AF Try.prog 12 [.d (.int .i64 p0_),.d (.int .i64 p1_)] (.agg [.d (.int .i64 z.X),.d (.int .i64 z.Y)]):=by
 exact fO 8 (Tr p0_ p1_) Try.func12 (sr (ck 1 (en (sr (ck 4 (en (re (by cases H;exact pr rd))))))))
end
def Ts:St:=⟨[],[]⟩
theorem AR {z} (H:Bc n=some z):AF Try.prog 27 [] (.own 2 (z.map Ac)):=by
 exact fO 6 Ts Try.func27 (sr (ck 1 (en (sr (bx H λ r1 h1 H=>ca false (Av h1) (bx H λ r2 h2 H=>ca false (Av h2) (bx H λ r3 h3 H=>ca false (Av h3) (bx H λ r4 h4 H=>ca false (Av h4) (ck 2 (en (re (by cases H;exact pr (rO (v:=.osl 0 2 0 (List.length [r1,r2,r3,r4])) [0] (ao vo))))))))))))))
section
variable (p0_:Ak) (x_1:Int)
def Tt:St:=⟨(0,.agg [.d (.int .i64 p0_.Kind),.d (.int .i64 p0_.Texture),.d (.sl (p0_.P.map Ac))])::[],[]⟩
def Tu:St:=⟨(1,.ptr 0 0)::(3,.d (.int .i64 ((p0_.P.length:Nat):Int)))::(16,.d (.sl (p0_.P.map Ac)))::(17,.d (.int .i64 ((p0_.P.length:Nat):Int)))::(18,.d (.int .i64 x_1))::[],[some (.box (Cm p0_))]⟩
def Tv:St:=⟨(1,.ptr 0 0)::(3,.d (.int .i64 ((p0_.P.length:Nat):Int)))::[],[some (.box (Cm p0_))]⟩
def IW:(Unit⊕Bool)->Ex->St->Prop:=xS (xX 0 0 (λ (y:Unit)=>Tv p0_)) (xR ty Try.f13 (λ (y:Bool)=>.d (.bool y)))
def Fp:Int->St:=(λ (x:Int)=>Tu p0_ x)
variable {p0_ x_1}
theorem EZ (x:Int) (z:(Int⊕(Unit⊕Bool))) (H:Do n p0_ x=some z):WP (cxk 75 0) (AN Try.f13) [1,1,1,0,1,0,0] (Bb 0 (Fp p0_) (IW p0_) z) (Fp p0_ x):=by
 revert H
 generalize x=x_1
 intro H
 refine sr (ck 1 (en (sq (cn H (λ H=>?_) (λ H=>?_)))))
 ·refine sk (qz (sq (bk 1 (sr (bx H λ x1 h5 H=>sp (BI Ac h5) (ck 3 (en (sr (ck 5 (gc 2 (!(decide (x1.X<0))) (pO (ck 2 (gc 2 (!((decide (x1.X<0))||(decide (x1.X>=60)))) (pO (ck 2 (gc 2 (!(((decide (x1.X<0))||(decide (x1.X>=60)))||(decide (x1.Y<0)))) (pO (en (cn H (λ H=>?_) (λ H=>?_))))))))))))))))))))
  ·exact sr (ck 1 (en (re (qR (qr (by cases H;exact ro rfl rd))))))
  ·exact sk (qN (qz (rz (ck 2 (ae (by cases H;exact og (sg [1,3,16,17,18])))))))
 ·exact ex 0 (qx (by cases H;exact xo rfl (sg [1,3])))
theorem BN {z} (H:BU n p0_=some z):AF Try.prog 13 [.agg (Cm p0_)] (.d (.bool z)):=by
 refine fO 75 (Tt p0_) Try.func13 (sr (ck 2 (en (sr (ck 2 (sp (B5 Ac p0_.P) (ck 1 (en (sq (sr (ck 4 (gc 1 (!(decide (((p0_.P.length:Nat):Int)<1))) (pO (en (cn H (λ H=>?_) (λ H=>?_))))))))))))))))
 ·exact sr (ck 1 (en (re (qr (by cases H;exact pr rd)))))
 ·refine sk (qz (sq (sr (ck 2 (sp (B5 Ac p0_.P) (ck 1 (en (bk 0 (bx H λ y1 h6 H=>?_)))))))))
  rcases y1 with y2|y3
  ·refine lX EZ h6 (sg [1,3,16,17,18]) rfl λ s hE1=>qH (qs (hE1) (sq (sr (ck 2 (en (bk 2 (sr (ck 2 (en (cn H (λ H=>?_) (λ H=>?_)))))))))))
   ·exact sr (ck 4 (gc 2 (((p0_.P.length:Nat):Int)==1) (pA (ck 1 (en (re (qR (qr (by cases H;exact pr rd)))))))))
   ·refine sr (ck 2 (en (cn H (λ H=>?_) (λ H=>?_))))
    ·exact sr (ck 4 (gc 2 (decide (((p0_.P.length:Nat):Int)>=2)) (pA (ck 1 (en (re (qR (qr (by cases H;exact pr rd)))))))))
    ·refine sr (ck 2 (en (cn H (λ H=>?_) (λ H=>?_))))
     ·exact sr (ck 4 (gc 2 (decide (((p0_.P.length:Nat):Int)>=3)) (pA (ck 2 (gc 2 ((decide (((p0_.P.length:Nat):Int)>=3))&&(decide (p0_.Texture>=0))) (pA (ck 1 (en (re (qR (qr (by cases H;exact pr rd))))))))))))
     ·exact sk (qN (qz (sr (ck 1 (en (re (by cases H;exact pr rd)))))))
  ·exact lR EZ h6 (sg [1,3,16,17,18]) rfl λ s hE2=>qR (qr (by cases H;exact pr hE2))
end
section
variable (p0_:(List Aa)) (x_2:Int)
def Tw:St:=⟨(0,.d (.sl (p0_.map Ac)))::[],[]⟩
def Tx:St:=⟨(5,.d (.sl (p0_.map Ac)))::(6,.d (.int .i64 ((p0_.length:Nat):Int)))::(7,.d (.int .i64 x_2))::[],[]⟩
def Tz:St:=⟨[],[]⟩
def Jt:(Unit⊕Bool)->Ex->St->Prop:=xS (xX 0 0 (λ (y:Unit)=>Tz)) (xR ty Try.f62 (λ (y:Bool)=>.d (.bool y)))
def FR:Int->St:=(λ (x:Int)=>Tx p0_ x)
variable {p0_ x_2}
theorem Fq (x:Int) (z:(Int⊕(Unit⊕Bool))) (H:DP n p0_ x=some z):WP (cxk 30 0) (AN Try.f62) [1,0,1,0,0] (Bb 0 (FR p0_) (Jt) z) (FR p0_ x):=by
 revert H
 generalize x=x_2
 intro H
 refine sr (ck 1 (en (sq (cn H (λ H=>?_) (λ H=>?_)))))
 ·refine sk (qz (sq (bk 1 (sr (bx H λ x2 h7 H=>sp (BI Ac h7) (ck 3 (en (sr (ck 5 (gc 2 (!(decide (x2.X<(-1000)))) (pO (ck 2 (gc 2 (!((decide (x2.X<(-1000)))||(decide (x2.X>1000)))) (pO (ck 2 (gc 2 (!(((decide (x2.X<(-1000)))||(decide (x2.X>1000)))||(decide (x2.Y<(-1000))))) (pO (en (cn H (λ H=>?_) (λ H=>?_))))))))))))))))))))
  ·exact sr (ck 1 (en (re (qR (qr (by cases H;exact ro rfl rd))))))
  ·exact sk (qN (qz (rz (ck 2 (ae (by cases H;exact og (sg [5,6,7])))))))
 ·exact ex 0 (qx (by cases H;exact xo rfl (sg [])))
theorem L9 {z} (H:IT n p0_=some z):AF Try.prog 62 [.d (.sl (p0_.map Ac))] (.d (.bool z)):=by
 refine fO 30 (Tw p0_) Try.func62 (sr (ck 1 (en (sq (sr (ck 1 (sp (B5 Ac p0_) (ck 1 (en (bk 0 (bx H λ y4 h8 H=>?_)))))))))))
 rcases y4 with y5|y6
 ·exact lX Fq h8 (sg [5,6,7]) rfl λ s hE3=>qH (qs (hE3) (sr (ck 1 (en (re (by cases H;exact pr rd))))))
 ·exact lR Fq h8 (sg [5,6,7]) rfl λ s hE4=>qR (qr (by cases H;exact pr hE4))
end
section
variable (p0_:Int)
def TA:St:=⟨(0,.d (.int .i64 p0_))::[],[]⟩
variable {p0_}
theorem IX {z} (H:Gv n p0_=some z):AF Try.prog 76 [.d (.int .i64 p0_)] (.d (.int .i64 z)):=by
 refine fO 8 (TA p0_) Try.func76 (sr (ck 1 (en (sq (sr (ck 2 (en (cn H (λ H=>?_) (λ H=>?_)))))))))
 ·exact sr (ck 3 (en (re (qr (by cases H;exact pr rd)))))
 ·exact sk (qz (sr (ck 2 (en (re (by cases H;exact pr rd))))))
end
section
variable (p0_:Aa) (p1_:Aa)
def TB:St:=⟨(0,.agg [.d (.int .i64 p0_.X),.d (.int .i64 p0_.Y)])::(1,.agg [.d (.int .i64 p1_.X),.d (.int .i64 p1_.Y)])::[],[]⟩
variable {p0_ p1_}
theorem KP {z} (H:FE n p0_ p1_=some z):AF Try.prog 63 [.agg [.d (.int .i64 p0_.X),.d (.int .i64 p0_.Y)],.agg [.d (.int .i64 p1_.X),.d (.int .i64 p1_.Y)]] (.d (.int .i64 z)):=by
 exact fO 18 (TB p0_ p1_) Try.func63 (sr (ck 3 (en (sr (ck 5 (bx H λ r5 h9 H=>ca false (IX h9) (ck 5 (bx H λ r6 h10 H=>ca false (IX h10) (ck 2 (en (re (by cases H;exact pr rd))))))))))))
end
section
variable (p0_:Int) (p1_:Int) (p2_:Int) (p3_:Int) (quotient_1:Int)
def TC:St:=⟨(0,.d (.int .i64 p0_))::(1,.d (.int .i64 p1_))::(2,.d (.int .i64 p2_))::(3,.d (.int .i64 p3_))::[],[]⟩
def TD:St:=⟨(10,.d (.int .i64 quotient_1))::[],[]⟩
variable {p0_ p1_ p2_ p3_ quotient_1}
theorem Fr {z} (H:Dd n p0_ p1_ p2_ p3_=some z):AF Try.prog 64 [.d (.int .i64 p0_),.d (.int .i64 p1_),.d (.int .i64 p2_),.d (.int .i64 p3_)] (.d (.int .i64 z)):=by
 refine fO 35 (TC p0_ p1_ p2_ p3_) Try.func64 (sr (ck 1 (en (sr (ck 13 (en (sr (ck 3 (bx H λ gd1 h11 H=>so (IN h11) (ck 1 (en (sj (λ (x:Int)=>TD x) (λ (x:Int)=>CH n x) z ?_ (λ hFGr_between_J1=>?_)))))))))))))
 ·intro quotient_1 H
  exact sr (ck 2 (en (re (by cases H;exact pr rd))))
 refine sr (ck 3 (bx H λ gd2 h12 H=>so (IN h12) (ck 1 (en (cn H (λ H=>?_) (λ H=>?_))))))
 ·exact rz (ck 3 (ae (qs (sg [10]) (hFGr_between_J1 (Bd .i64 (PP .i64 (Bt .i64 (Bu .i64 2 (Bt .i64 (Bu .i64 p0_ p3_) (Bu .i64 p2_ (Bd .i64 p1_ p0_)))) p3_) (Bu .i64 2 p3_)) 1) H))))
 ·exact sk (qs (sg [10]) (hFGr_between_J1 (PP .i64 (Bt .i64 (Bu .i64 2 (Bt .i64 (Bu .i64 p0_ p3_) (Bu .i64 p2_ (Bd .i64 p1_ p0_)))) p3_) (Bu .i64 2 p3_)) H))
end
section
variable (p0_:Aa) (p1_:Aa) (r8:Int) (l_1:(List Aa)) (x_3:Int) (l_2:(List Aa))
def TE:St:=⟨(0,.agg [.d (.int .i64 p0_.X),.d (.int .i64 p0_.Y)])::(1,.agg [.d (.int .i64 p1_.X),.d (.int .i64 p1_.Y)])::[],[]⟩
def TF:St:=⟨(2,.ptr 0 0)::(3,.ptr 1 0)::(5,.d (.int .i64 r8))::(6,.osl 2 2 0 (l_1.length))::(24,.d (.int .i64 (Bt .i64 r8 1)))::(25,.d (.int .i64 x_3))::[],[some (.box [.d (.int .i64 p0_.X),.d (.int .i64 p0_.Y)]),some (.box [.d (.int .i64 p1_.X),.d (.int .i64 p1_.Y)]),some (.arr 2 (l_1.map Ac))]⟩
def TG:St:=⟨(6,.osl 0 2 0 (l_2.length))::[],[some (.arr 2 (l_2.map Ac))]⟩
def Ju:(List Aa)->Ex->St->Prop:=xX 0 0 (λ (y:(List Aa))=>TG y)
def FS:((List Aa)×Int)->St:=(λ (x:((List Aa)×Int))=>TF p0_ p1_ r8 x.1 x.2)
variable {p0_ p1_ r8 l_1 x_3 l_2}
theorem IY (x:((List Aa)×Int)) (z:(((List Aa)×Int)⊕(List Aa))) (H:DQ n p0_ p1_ r8 x.1 x.2=some z):WP (cxk 48 0) (AN Try.f56) [1,1,1,1,1,0,1,0,0] (Bb 0 (FS p0_ p1_ r8) (Ju) z) (FS p0_ p1_ r8 x):=by
 obtain ⟨l_1,x_3⟩:=x
 refine sr (ck 1 (en (sq (cn H (λ H=>?_) (λ H=>?_)))))
 ·exact sk (qz (sq (bk 1 (sr (ck 2 (en (rz (ck 7 (bx H λ r9 h16 H=>ca false (Fr h16) (ck 6 (bx H λ r10 h17 H=>ca false (Fr h17) (ck 2 (bx H λ l2 h18 H=>sp (NJ Ac 2 2 h18) (ck 1 (ae (qN (qz (rz (ck 2 (ae (by cases H;exact og (sg [2,3,5,6,24,25]))))))))))))))))))))))
 ·exact ex 0 (qx (by cases H;exact xo rfl (sg [6])))
theorem Ma {z} (H:IU n p0_ p1_=some z):AF Try.prog 56 [.agg [.d (.int .i64 p0_.X),.d (.int .i64 p0_.Y)],.agg [.d (.int .i64 p1_.X),.d (.int .i64 p1_.Y)]] (.own 2 (z.map Ac)):=by
 refine fO 48 (TE p0_ p1_) Try.func56 (sr (ck 3 (en (sq (sr (ck 3 (bx H λ r7 h13 H=>cb (ks:=[2]) (obl:=[(0+List.length [p0_,p1_],List.length (List.map Ac [p0_,p1_]))]) false (leK leM (leZ)) (Cb Hw rfl) (L9 h13) (Or.inr trivial) rfl (ck 1 (en (cn H (λ H=>?_) (λ H=>?_)))))))))))
 ·exact sr (ck 1 (en (re (qr (by cases H;exact pr (rO (v:=.d (.nil)) [] (ad vz)))))))
 ·refine sk (qz (sr (ck 2 (bx H λ r8 h14 H=>ca false (KP h14) (ck 1 (en (sq (sr (ck 2 (en (cn H (λ H=>?_) (λ H=>?_))))))))))))
  ·exact sr (ck 3 (en (re (qr (by cases H;exact pr (rO (v:=.osl 3 2 0 (List.length [p0_])) [3] (ao vo)))))))
  ·exact sk (qz (sr (ck 2 (bx H λ l1 h15 H=>sp (Te Ac 2 h15) (ck 1 (en (sq (sr (ck 3 (en (bk 0 (bx H λ y7 h19 H=>lX IY h19 (sg [2,3,5,6,24,25]) rfl λ s hE5=>qH (qs (hE5) (sr (ck 2 (en (re (by cases H;exact pr (rO (v:=.osl 0 2 0 (z.length)) [0] (ao vo))))))))))))))))))))
end
section
variable (p1_:Aa) (p2_:Aa) (o0_:(List (Aa×Bool))) (x_4:(List (Aa×Bool))) (r11:(List Aa)) (dots_1:(List (Aa×Bool))) (x_5:Int) (x_6:(List (Aa×Bool)))
def Qy:St:=⟨(0,.mp 0)::(1,.agg [.d (.int .i64 p1_.X),.d (.int .i64 p1_.Y)])::(2,.agg [.d (.int .i64 p2_.X),.d (.int .i64 p2_.Y)])::[],[some (.map true false (Bk Ac eB o0_))]⟩
def Qz:St:=⟨[],[some (.map true false (Bk Ac eB x_4))]⟩
def QA:St:=⟨(0,.mp 0)::(10,.d (.sl (r11.map Ac)))::(11,.d (.int .i64 ((r11.length:Nat):Int)))::(12,.d (.int .i64 x_5))::[],[some (.map true false (Bk Ac eB dots_1))]⟩
def QB:St:=⟨[],[some (.map true false (Bk Ac eB x_6))]⟩
def KQ:(List (Aa×Bool))->Ex->St->Prop:=xX 1 0 (λ (y:(List (Aa×Bool)))=>QB y)
def Gx:((List (Aa×Bool))×Int)->St:=(λ (x:((List (Aa×Bool))×Int))=>QA r11 x.1 x.2)
variable {p1_ p2_ o0_ x_4 r11 dots_1 x_5 x_6}
theorem Jv (x:((List (Aa×Bool))×Int)) (z:(((List (Aa×Bool))×Int)⊕(List (Aa×Bool)))) (H:EM n r11 x.1 x.2=some z):WP (cxk 19 1) (AN Try.f45) [1,1,0,0] (Bb 1 (Gx r11) (KQ) z) (Gx r11 x):=by
 obtain ⟨dots_1,x_5⟩:=x
 refine sr (ck 1 (en (sq (cn H (λ H=>?_) (λ H=>?_)))))
 ·exact sk (qz (sq (bk 1 (sr (bx H λ x3 h21 H=>sp (BI Ac h21) (ck 3 (en (rz (ck 2 (sp (NK (enc:=eB) (encK:=Ac) (k:=0) (e1:=λ x=>.bool x) (m:=dots_1) (l:=[.d (.int .i64 x3.X),.d (.int .i64 x3.Y)]) (key:=x3) (y:=true) (v:=.d (.bool true)) (vz:=[.bool false]) SI) (ae (qN (qz (rz (ck 2 (ae (by cases H;exact og (sg [0,10,11,12]))))))))))))))))))
 ·exact ex 0 (qx (by cases H;exact xo rfl (sg [])))
theorem IZ {z} (H:HS n p1_ p2_ o0_=some z):A7 Try.prog 45 [.mp 0,.agg [.d (.int .i64 p1_.X),.d (.int .i64 p1_.Y)],.agg [.d (.int .i64 p2_.X),.d (.int .i64 p2_.Y)]] [some (.map true false (Bk Ac eB o0_))] 1 (.tup []) [some (.map true false (Bk Ac eB z))]:=by
 exact fL 19 1 (Qy p1_ p2_ o0_) Try.func45 (sr (ck 2 (en (sr (ck 2 (bx H λ r11 h20 H=>ca false (Ma h20) (sp (B5 Ac r11) (ck 1 (en (bk 0 (bx H λ y8 h22 H=>lX Jv h22 (sg [0,10,11,12]) rfl λ s hE6=>qH (by cases H;exact pL' (rl (s':=Qz z) (tr (hE6) (sg [])))))))))))))))
end
section
variable (p0_:Int)
def TH:St:=⟨(0,.d (.int .i64 p0_))::[],[]⟩
variable {p0_}
theorem DV {z} (H:CI n p0_=some z):AF Try.prog 55 [.d (.int .i64 p0_)] (.d (.bool z)):=by
 exact fO 6 (TH p0_) Try.func55 (sr (ck 1 (en (sr (ck 4 (en (re (by cases H;exact pr rd))))))))
end
section
variable (p0_:Int) (p1_:Int)
def TI:St:=⟨(0,.d (.int .i64 p0_))::(1,.d (.int .i64 p1_))::[],[]⟩
variable {p0_ p1_}
theorem Dm {z} (H:BJ n p0_ p1_=some z):AF Try.prog 44 [.d (.int .i64 p0_),.d (.int .i64 p1_)] (.d (.int .i64 z)):=by
 refine fO 20 (TI p0_ p1_) Try.func44 (sr (ck 1 (en (sr (ck 1 (bx H λ r12 h23 H=>ca false (DV h23) (ck 1 (en (sr (ck 1 (bx H λ r13 h24 H=>ca false (DV h24) (ck 1 (en (sq (sr (ck 1 (en (cn H (λ H=>?_) (λ H=>?_)))))))))))))))))))
 ·refine sq (sr (ck 1 (en (cn H (λ H=>?_) (λ H=>?_)))))
  ·exact sr (ck 1 (en (re (qr (qr (by cases H;exact pr rd))))))
  ·exact sk (qz (sr (ck 1 (en (re (qr (by cases H;exact pr rd)))))))
 ·refine sk (qz (sq (sr (ck 1 (en (cn H (λ H=>?_) (λ H=>?_)))))))
  ·exact sr (ck 1 (en (re (qr (by cases H;exact pr rd)))))
  ·refine sk (qz (sq (sr (ck 3 (en (cn H (λ H=>?_) (λ H=>?_)))))))
   ·exact sr (ck 1 (en (re (qr (by cases H;exact pr rd)))))
   ·refine sk (qz (sq (sr (ck 3 (en (cn H (λ H=>?_) (λ H=>?_)))))))
    ·exact sr (ck 1 (en (re (qr (by cases H;exact pr rd)))))
    ·exact sk (qz (sr (ck 1 (en (re (by cases H;exact pr rd))))))
end
section
variable (p0_:(List Int)) (x_7:Int)
def TJ:St:=⟨(0,.d (.sl (p0_.map OK)))::[],[]⟩
def TL:St:=⟨(3,.d (.int .i64 0))::(6,.d (.sl (p0_.map OK)))::(7,.d (.int .i64 ((p0_.length:Nat):Int)))::(8,.d (.int .i64 x_7))::[],[]⟩
def TM:St:=⟨(3,.d (.int .i64 0))::[],[]⟩
def GV:(Unit⊕Int)->Ex->St->Prop:=xS (xX 0 0 (λ (y:Unit)=>TM)) (xR ty Try.f43 (λ (y:Int)=>.d (.int .i64 y)))
def El:Int->St:=(λ (x:Int)=>TL p0_ x)
variable {p0_ x_7}
theorem DW (x:Int) (z:(Int⊕(Unit⊕Int))) (H:B7 n p0_ x=some z):WP (cxk 18 0) (AN Try.f43) [1,1,0,1,0,0] (Bb 0 (El p0_) (GV) z) (El p0_ x):=by
 revert H
 generalize x=x_7
 intro H
 refine sr (ck 1 (en (sq (cn H (λ H=>?_) (λ H=>?_)))))
 ·refine sk (qz (sq (bk 1 (sr (bx H λ x4 h25 H=>sp (BI OK h25) (ck 2 (en (sr (ck 3 (en (cn H (λ H=>?_) (λ H=>?_))))))))))))
  ·exact sr (ck 2 (en (re (qR (qr (by cases H;exact ro rfl rd))))))
  ·exact sk (qN (qz (rz (ck 2 (ae (by cases H;exact og (sg [3,6,7,8])))))))
 ·exact ex 0 (qx (by cases H;exact xo rfl (sg [3])))
theorem I0 {z} (H:DR n p0_=some z):AF Try.prog 43 [.d (.sl (p0_.map OK))] (.d (.int .i64 z)):=by
 refine fO 18 (TJ p0_) Try.func43 (sr (ck 1 (en (sr (ck 1 (en (sq (sr (ck 1 (sp (B5 OK p0_) (ck 1 (en (bk 0 (bx H λ y9 h26 H=>?_))))))))))))))
 rcases y9 with y10|y11
 ·exact lX DW h26 (sg [3,6,7,8]) rfl λ s hE7=>qH (qs (hE7) (sr (ck 2 (en (re (by cases H;exact pr rd))))))
 ·exact lR DW h26 (sg [3,6,7,8]) rfl λ s hE8=>qR (qr (by cases H;exact pr hE8))
end
section
variable (p0_:Aa) (p1_:Aa)
def TN:St:=⟨(0,.agg [.d (.int .i64 p0_.X),.d (.int .i64 p0_.Y)])::(1,.agg [.d (.int .i64 p1_.X),.d (.int .i64 p1_.Y)])::[],[]⟩
variable {p0_ p1_}
theorem HD {z} (H:BE n p0_ p1_=some z):AF Try.prog 42 [.agg [.d (.int .i64 p0_.X),.d (.int .i64 p0_.Y)],.agg [.d (.int .i64 p1_.X),.d (.int .i64 p1_.Y)]] (.d (.int .i64 z)):=by
 exact fO 17 (TN p0_ p1_) Try.func42 (sr (ck 3 (en (sr (ck 4 (bx H λ r14 h27 H=>ca false (Dm h27) (ck 4 (bx H λ r15 h28 H=>ca false (Dm h28) (ck 1 (bx H λ r16 h29 H=>cb (ks:=[2]) (obl:=[(0+List.length [r14,r15],List.length (List.map OK [r14,r15]))]) true (leK leM (leZ)) (Cb Hw rfl) (I0 h29) (Or.inr trivial) rfl (ck 1 (en (re (by cases H;exact pr rd))))))))))))))
end
section
variable (p0_:(List Aa)) (x_8:(List (Aa×Bool))) (dots_2:(List (Aa×Bool))) (i_1:Int) (dots_3:(List (Aa×Bool)))
def QC:St:=⟨(0,.d (.sl (p0_.map Ac)))::[],[]⟩
def QE:St:=⟨(2,.mp 0)::[],[some (.map true false (Bk Ac eB x_8))]⟩
def QF:St:=⟨(0,.d (.sl (p0_.map Ac)))::(3,.mp 0)::(4,.d (.int .i64 i_1))::[],[some (.map true false (Bk Ac eB dots_2))]⟩
def QG:St:=⟨(3,.mp 0)::[],[some (.map true false (Bk Ac eB dots_3))]⟩
def I1:(List (Aa×Bool))->Ex->St->Prop:=xX 0 0 (λ (y:(List (Aa×Bool)))=>QG y)
def Fs:((List (Aa×Bool))×Int)->St:=(λ (x:((List (Aa×Bool))×Int))=>QF p0_ x.1 x.2)
variable {p0_ x_8 dots_2 i_1 dots_3}
theorem HE (x:((List (Aa×Bool))×Int)) (z:(((List (Aa×Bool))×Int)⊕(List (Aa×Bool)))) (H:Dp n p0_ x.1 x.2=some z):WP (cxk 24 0) (AN Try.f30) [1,1,0,1,0,0] (Bb 0 (Fs p0_) (I1) z) (Fs p0_ x):=by
 obtain ⟨dots_2,i_1⟩:=x
 refine sq (sr (ck 2 (sp (B5 Ac p0_) (ck 1 (en (cn H (λ H=>?_) (λ H=>?_)))))))
 ·exact sk (qz (sq (bk 1 (rx 11 10 (.refl _) (ck 4 (bx H λ x5 h30 H=>sp (BI Ac h30) (ck 3 (bx H λ x6 h31 H=>sp (BI Ac h31) (ck 1 (mx (bx H λ r17 h32 H=>lt [0] (IZ h32) (nz (qN (qz (rz (ck 3 (ae (by cases H;exact og (sg [0,3,4])))))))))))))))))))
 ·exact ex 0 (qx (by cases H;exact xo rfl (sg [3])))
theorem Gy {z} (H:FF n p0_=some z):A7 Try.prog 30 [.d (.sl (p0_.map Ac))] [] 0 (.mp 0) [some (.map true false (Bk Ac eB z))]:=by
 exact fL 24 0 (QC p0_) Try.func30 (sr (ck 1 (en (sr (ck 2 (en (sq (sr (ck 1 (en (bk 0 (bx H λ y12 h33 H=>lX HE h33 (sg [0,3,4]) rfl λ s hE9=>qH (qs (hE9) (sr (ck 2 (en (re (by cases H;exact pL (rl (s':=QE z) (sg [2]))))))))))))))))))))
end
section
variable (p0_:Aa)
def TO:St:=⟨(0,.agg [.d (.int .i64 p0_.X),.d (.int .i64 p0_.Y)])::[],[]⟩
variable {p0_}
theorem GW {z} (H:FP n p0_=some z):AF Try.prog 46 [.agg [.d (.int .i64 p0_.X),.d (.int .i64 p0_.Y)]] (.d (.bool z)):=by
 exact fO 3 (TO p0_) Try.func46 (sr (ck 2 (en (sr (ck 1 (en (re (by cases H;exact pr rd))))))))
end
section
variable (p0_:Aa)
def TP:St:=⟨(0,.agg [.d (.int .i64 p0_.X),.d (.int .i64 p0_.Y)])::[],[]⟩
variable {p0_}
theorem GX {z} (H:Cj n p0_=some z):AF Try.prog 47 [.agg [.d (.int .i64 p0_.X),.d (.int .i64 p0_.Y)]] (.d (.bool z)):=by
 exact fO 10 (TP p0_) Try.func47 (sr (ck 2 (en (sr (ck 8 (en (re (by cases H;exact pr rd))))))))
end
section
variable (p0_:Aa)
def TQ:St:=⟨(0,.agg [.d (.int .i64 p0_.X),.d (.int .i64 p0_.Y)])::[],[]⟩
variable {p0_}
theorem GY {z} (H:Ck n p0_=some z):AF Try.prog 48 [.agg [.d (.int .i64 p0_.X),.d (.int .i64 p0_.Y)]] (.d (.bool z)):=by
 exact fO 7 (TQ p0_) Try.func48 (sr (ck 2 (en (sr (ck 5 (en (re (by cases H;exact pr rd))))))))
end
section
variable (p0_:Aa)
def TR:St:=⟨(0,.agg [.d (.int .i64 p0_.X),.d (.int .i64 p0_.Y)])::[],[]⟩
variable {p0_}
theorem GZ {z} (H:FQ n p0_=some z):AF Try.prog 49 [.agg [.d (.int .i64 p0_.X),.d (.int .i64 p0_.Y)]] (.d (.bool z)):=by
 exact fO 3 (TR p0_) Try.func49 (sr (ck 2 (en (sr (ck 1 (en (re (by cases H;exact pr rd))))))))
end
section
variable (p0_:Aa) (p1_:Aa) (p2_:Aa)
def TT:St:=⟨(0,.agg [.d (.int .i64 p0_.X),.d (.int .i64 p0_.Y)])::(1,.agg [.d (.int .i64 p1_.X),.d (.int .i64 p1_.Y)])::(2,.agg [.d (.int .i64 p2_.X),.d (.int .i64 p2_.Y)])::[],[]⟩
variable {p0_ p1_ p2_}
theorem OX {z} (H:KO n p0_ p1_ p2_=some z):AF Try.prog 35 [.agg [.d (.int .i64 p0_.X),.d (.int .i64 p0_.Y)],.agg [.d (.int .i64 p1_.X),.d (.int .i64 p1_.Y)],.agg [.d (.int .i64 p2_.X),.d (.int .i64 p2_.Y)]] (.d (.bool z)):=by
 refine fO 76 (TT p0_ p1_ p2_) Try.func35 (sr (ck 4 (en (sq (sr (ck 6 (gc 1 (!((p2_.X==p0_.X)&&((p2_.Y==p0_.Y)&&true))) (pO (en (cn H (λ H=>?_) (λ H=>?_)))))))))))
 ·exact sr (ck 1 (en (re (qr (by cases H;exact pr rd)))))
 ·refine sk (qz (sq (sr (ck 23 (en (cn H (λ H=>?_) (λ H=>?_)))))))
  ·exact sr (ck 1 (en (re (qr (by cases H;exact pr rd)))))
  ·exact sk (qz (sr (ck 10 (gc 1 (decide ((if p1_.X<p0_.X then p1_.X else p0_.X)<=p2_.X)) (ck 1 (gc 1 (decide ((if p1_.X<p0_.X then p1_.X else p0_.X)<=p2_.X)) (ck 1 (gc 3 (decide ((if p1_.X<p0_.X then p1_.X else p0_.X)<=p2_.X)) (pA (ck 2 (gc 1 ((decide ((if p1_.X<p0_.X then p1_.X else p0_.X)<=p2_.X))&&(decide (p2_.X<=(if p1_.X>p0_.X then p1_.X else p0_.X)))) (ck 1 (gc 2 ((decide ((if p1_.X<p0_.X then p1_.X else p0_.X)<=p2_.X))&&(decide (p2_.X<=(if p1_.X>p0_.X then p1_.X else p0_.X)))) (ck 1 (gc 2 ((decide ((if p1_.X<p0_.X then p1_.X else p0_.X)<=p2_.X))&&(decide (p2_.X<=(if p1_.X>p0_.X then p1_.X else p0_.X)))) (pA (ck 2 (gc 1 (((decide ((if p1_.X<p0_.X then p1_.X else p0_.X)<=p2_.X))&&(decide (p2_.X<=(if p1_.X>p0_.X then p1_.X else p0_.X))))&&(decide ((if p1_.Y<p0_.Y then p1_.Y else p0_.Y)<=p2_.Y))) (ck 1 (gc 1 (((decide ((if p1_.X<p0_.X then p1_.X else p0_.X)<=p2_.X))&&(decide (p2_.X<=(if p1_.X>p0_.X then p1_.X else p0_.X))))&&(decide ((if p1_.Y<p0_.Y then p1_.Y else p0_.Y)<=p2_.Y))) (ck 1 (gc 3 (((decide ((if p1_.X<p0_.X then p1_.X else p0_.X)<=p2_.X))&&(decide (p2_.X<=(if p1_.X>p0_.X then p1_.X else p0_.X))))&&(decide ((if p1_.Y<p0_.Y then p1_.Y else p0_.Y)<=p2_.Y))) (pA (ck 1 (en (re (by cases H;exact pr rd)))))))))))))))))))))))))))
end
section
variable (p0_:Aa) (p1_:Aa) (p2_:Aa)
def TU:St:=⟨(0,.agg [.d (.int .i64 p0_.X),.d (.int .i64 p0_.Y)])::(1,.agg [.d (.int .i64 p1_.X),.d (.int .i64 p1_.Y)])::(2,.agg [.d (.int .i64 p2_.X),.d (.int .i64 p2_.Y)])::[],[]⟩
variable {p0_ p1_ p2_}
theorem Jw {z} (H:EN n p0_ p1_ p2_=some z):AF Try.prog 36 [.agg [.d (.int .i64 p0_.X),.d (.int .i64 p0_.Y)],.agg [.d (.int .i64 p1_.X),.d (.int .i64 p1_.Y)],.agg [.d (.int .i64 p2_.X),.d (.int .i64 p2_.Y)]] (.d (.bool z)):=by
 refine fO 53 (TU p0_ p1_ p2_) Try.func36 (sr (ck 4 (en (sq (sr (ck 11 (en (cn H (λ H=>?_) (λ H=>?_)))))))))
 ·exact sr (ck 1 (en (re (qr (by cases H;exact pr rd)))))
 ·refine sk (qz (sr (ck 24 (en (sq (sr (ck 5 (en (cn H (λ H=>?_) (λ H=>?_))))))))))
  ·exact sr (ck 4 (en (re (qr (by cases H;exact pr rd)))))
  ·exact sk (qz (sr (ck 4 (en (re (by cases H;exact pr rd))))))
end
section
variable (p0_:(List Aa)) (p1_:Aa) (odd_1:Bool) (x_9:Int) (odd_2:Bool) (odd_3:Bool)
def TV:St:=⟨(0,.d (.sl (p0_.map Ac)))::(1,.agg [.d (.int .i64 p1_.X),.d (.int .i64 p1_.Y)])::[],[]⟩
def TW:St:=⟨(0,.d (.sl (p0_.map Ac)))::(3,.ptr 0 0)::(5,.d (.bool odd_1))::(9,.d (.sl (p0_.map Ac)))::(10,.d (.int .i64 ((p0_.length:Nat):Int)))::(11,.d (.int .i64 x_9))::[],[some (.box [.d (.int .i64 p1_.X),.d (.int .i64 p1_.Y)])]⟩
def TX:St:=⟨(5,.d (.bool odd_2))::[],[]⟩
def TY:St:=⟨(0,.d (.sl (p0_.map Ac)))::(3,.ptr 0 0)::(5,.d (.bool odd_3))::(9,.d (.sl (p0_.map Ac)))::(10,.d (.int .i64 ((p0_.length:Nat):Int)))::(11,.d (.int .i64 x_9))::[],[some (.box [.d (.int .i64 p1_.X),.d (.int .i64 p1_.Y)])]⟩
def HF:(Bool⊕Bool)->Ex->St->Prop:=xS (xX 0 0 (λ (y:Bool)=>TX y)) (xR ty Try.f19 (λ (y:Bool)=>.d (.bool y)))
def E1:(Bool×Int)->St:=(λ (x:(Bool×Int))=>TW p0_ p1_ x.1 x.2)
variable {p0_ p1_ odd_1 x_9 odd_2 odd_3}
theorem Em (x:(Bool×Int)) (z:((Bool×Int)⊕(Bool⊕Bool))) (H:C0 n p0_ p1_ x.1 x.2=some z):WP (cxk 36 0) (AN Try.f19) [1,1,0,1,0,0] (Bb 0 (E1 p0_ p1_) (HF) z) (E1 p0_ p1_ x):=by
 obtain ⟨odd_1,x_9⟩:=x
 refine sr (ck 1 (en (sq (cn H (λ H=>?_) (λ H=>?_)))))
 ·refine sk (qz (sj (λ (x:Bool)=>TY p0_ p1_ x_9 x) (λ (x:Bool)=>CZ n x_9 x) z ?_ (λ hFSh_Inside_J1=>?_)))
  ·intro odd_3 H
   exact rz (ck 2 (ae (by cases H;exact og (sg [0,3,5,9,10,11]))))
  refine bk 1 (sr (ck 1 (bx H λ x7 h34 H=>sp (BI Ac h34) (ck 4 (en (sr (ck 4 (sp (B5 Ac p0_) (bx H λ gd3 h35 H=>so (IN h35) (bx H λ x8 h36 H=>sp (BI Ac h36) (ck 3 (en (sq (sr (ck 3 (bx H λ r18 h37 H=>ca false (OX h37) (en (cn H (λ H=>?_) (λ H=>?_)))))))))))))))))))
  ·exact sr (ck 1 (en (re (qr (qR (qr (by cases H;exact ro rfl rd)))))))
  ·refine sk (qz (sr (ck 3 (bx H λ r19 h38 H=>ca false (Jw h38) (en (cn H (λ H=>?_) (λ H=>?_)))))))
   ·exact rz (ck 3 (ae (qN (qs (sg [0,3,5,9,10,11]) (hFSh_Inside_J1 (!odd_1) H)))))
   ·exact sk (qN (qs (sg [0,3,5,9,10,11]) (hFSh_Inside_J1 odd_1 H)))
 ·exact ex 0 (qx (by cases H;exact xo rfl (sg [5])))
theorem Bn {z} (H:Br n p0_ p1_=some z):AF Try.prog 19 [.d (.sl (p0_.map Ac)),.agg [.d (.int .i64 p1_.X),.d (.int .i64 p1_.Y)]] (.d (.bool z)):=by
 refine fO 36 (TV p0_ p1_) Try.func19 (sr (ck 2 (en (sr (ck 1 (en (sq (sr (ck 1 (sp (B5 Ac p0_) (ck 1 (en (bk 0 (bx H λ y13 h39 H=>?_))))))))))))))
 rcases y13 with y14|y15
 ·exact lX Em h39 (sg [0,3,5,9,10,11]) rfl λ s hE10=>qH (qs (hE10) (sr (ck 2 (en (re (by cases H;exact pr rd))))))
 ·exact lR Em h39 (sg [0,3,5,9,10,11]) rfl λ s hE11=>qR (qr (by cases H;exact pr hE11))
end
section
variable (o0_:(List (Aa×Bool)))
def QH:St:=⟨(0,.mp 0)::[],[some (.map true false (Bk Ac eB o0_))]⟩
def QI:St:=⟨(2,.clo 54 [.ptr 1 0])::[],[some (.map true false (Bk Ac eB o0_)),some (.box [.mp 0])]⟩
variable {o0_}
theorem F6 {z} (H:Di n o0_=some z):A7 Try.prog 41 [.mp 0] [some (.map true false (Bk Ac eB o0_))] 1 (.clo 54 [.ptr 1 0]) [some (.map true false (Bk Ac eB o0_)),some (.box [.mp 0])]:=by
 exact fL 4 1 (QH o0_) Try.func41 (sr (ck 2 (en (sr (xm (xok _ _) (ck 1 (en (re (by cases H;exact pL (rl (s':=QI o0_) (sg [2])))))))))))
end
noncomputable def QJ (p1_:Aa) (o2_:(List Aa)):St:=⟨(7,.agg [.d (.int .i64 p1_.X),.d (.int .i64 p1_.Y)])::(2,.ptr 1 0)::[],[some (.lp A9 [2] [.ptr 1 0] 0),some (.box [.osl 2 2 0 (o2_.length)]),some (.arr 2 (o2_.map Ac))]⟩
noncomputable def QK (x_10:(List Aa)):St:=⟨[],[some (.lp A9 [2] [.ptr 1 0] 1),some (.box [.osl 3 2 0 (x_10.length)]),none,some (.arr 2 (x_10.map Ac))]⟩
section
variable (p1_:Aa) (o2_:(List Aa))
variable {p1_ o2_}
theorem HG {z} (H:EO n p1_ o2_=some z):L3 Try.prog [.agg [.d (.int .i64 p1_.X),.d (.int .i64 p1_.Y)]] [some (.lp A9 [2] [.ptr 1 0] 0),some (.box [.osl 2 2 0 (o2_.length)]),some (.arr 2 (o2_.map Ac))] 3 0 [some (.lp A9 [2] [.ptr 1 0] 0),some (.box [.osl 3 2 0 (z.length)]),none,some (.arr 2 (z.map Ac))]:=by
 exact fk (C:=AN Try.f59) (p:=[1,0,1,0]) 13 [7] [] (ts:=[2]) (vs:=[.ptr 1 0]) (QJ p1_ o2_) follows (U7 13 3) (rz (ck 2 (ae (aq (js:=[]) (bk 1 (rz (ck 3 (bx H λ l3 h40 H=>sp (NJ Ac 2 2 h40) (ck 1 (ae (qN (by cases H;exact rq (s':=QK z) (sg [])))))))))))))
end
section
variable (o3_:(List (Aa×Bool))) (o4_:(List Aa)) (x_11:(List Aa)) (l4:(List (Aa×Bool))) (x_12:(List Aa)) (x_13:(List Aa))
noncomputable def QL:St:=⟨(0,.yld 0)::(1,.ptr 1 0)::[],[some (.lp A9 [2] [.ptr 2 0] 0),some (.box [.mp 3]),some (.box [.osl 4 2 0 (o4_.length)]),some (.map true false (Bk Ac eB o3_)),some (.arr 2 (o4_.map Ac))]⟩
noncomputable def QM:St:=⟨[],[some (.lp A9 [2] [.ptr 2 0] 0),some (.box [.mp 3]),some (.box [.osl 5 2 0 (x_11.length)]),none,none,some (.arr 2 (x_11.map Ac))]⟩
noncomputable def QN:St:=⟨(0,.yld 0)::(5,.ptr 5 0)::[],[some (.lp A9 [2] [.ptr 2 0] 0),some (.box [.mp 3]),some (.box [.osl 6 2 0 (x_12.length)]),none,none,some (.iter true false none (Bk Ac eB l4)),some (.arr 2 (x_12.map Ac))]⟩
noncomputable def QO:St:=⟨[],[some (.lp A9 [2] [.ptr 2 0] 0),some (.box [.mp 3]),some (.box [.osl 5 2 0 (x_13.length)]),none,none,some (.arr 2 (x_13.map Ac))]⟩
def CJ:Empty->Ex->St->Prop:=(λ (_:Empty) _ _=>False)
variable {o3_ o4_ x_11 l4 x_12 x_13}
end
noncomputable def CA :(List Aa)->Ex->St->Prop:=(λ (x:(List Aa))=>xX 5 0 (λ (y:(List Aa))=>QO y) x)
section
variable (o3_:(List (Aa×Bool))) (o4_:(List Aa))
noncomputable def CK:(List (Aa×Bool))->(List Aa)->St:=(λ (l:(List (Aa×Bool))) (x:(List Aa))=>QN l x)
variable {o3_ o4_}
theorem En (l4:(List (Aa×Bool))) (x:(List Aa)) (hz:∀ e,e∈l4->∃ z,AH n e x=some z):WP (cxk 14 5) (AN Try.f54) [1,0,0] (Sa 5 (CK) (CA) (CJ) (λ (e:(Aa×Bool)) (x:(List Aa))=>AH n e x) l4 x) (CK l4 x):=by
 revert hz
 generalize x=x_12
 intro hz
 refine sq (rn 0 (.refl _) (nd0 (nxt (yok _ _) (encK:=Ac) (enc:=eB) (ka:=true) (va:=false) 5 (λ hl=>?_) (λ e1 l5 l6 hl1=>bE (hz e1 (Vw hl1)) λ z hF=>?_))))
 ·exact ck 1 (en (sq (cF (ex 0 (qx (mE hl rfl (sg [])))))))
 ·have H:=hF
  exact ck 1 (en (sq (cT (sk (qz (bk 1 (sr (xr (xok _ _) (ck 3 (en (sr (ck 2 (bx H λ r20 h41 H=>xy (xok _ _) (g:=true) rfl (BM) [0,2,6] (HG h41) rfl (ck 1 (en (cF (sk (qN (by cases H;exact mg hl1 hF (tr (UO 5 (by kernel_rfl)) (sg [0,5])))))))))))))))))))))
theorem Ft {z} (H:B0 n o3_ o4_=some z):BH Try.prog 54 [.yld 0,.ptr 1 0] [some (.lp A9 [2] [.ptr 2 0] 0),some (.box [.mp 3]),some (.box [.osl 4 2 0 (o4_.length)]),some (.map true false (Bk Ac eB o3_)),some (.arr 2 (o4_.map Ac))] 5 (L7 z (λ (q:(List Aa))=>.tup []) (λ (q:(List Aa))=>[some (.lp A9 [2] [.ptr 2 0] 0),some (.box [.mp 3]),some (.box [.osl 5 2 0 (q.length)]),none,none,some (.arr 2 (q.map Ac))])):=by
 refine fS 14 5 (QL o3_ o4_) Try.func54 (sr (ck 1 (xr (xok _ _) (en (bk 0 ?_)))))
 have hD:=KK H
 refine lM (F:=(λ (e:(Aa×Bool)) (x:(List Aa))=>AH n e x)) (E:=CJ) (E0:=CA) En (tr (RZ (k:=4) (sz:=2) 2 0 (o4_.map Ac) (o4_.length) (by kernel_rfl) Gt leM rfl) (sg [0,5])) (λ ord ho=>(by obtain ⟨_,h,_⟩:=hD ord ho;exact bI h)) (λ ord y17 ho hy e s hE=>xQ hE (λ he hE12=>?_)) (λ ord r ho hy e s hE=>?_)
 ·subst he
  obtain ⟨Z',H,hz1⟩:=hD ord ho
  replace H:=bK H hy
  exact qH (by cases H;exact pS' (hz1 _ rfl) (rl (s':=QM y17) (tr (hE12) (sg []))))
 ·cases r
end
section
variable (o1_:(List (Aa×Bool))) (x_14:(List Aa))
def QP:St:=⟨(0,.d (.nil))::(1,.clo 54 [.ptr 0 0])::[],[some (.box [.mp 1]),some (.map true false (Bk Ac eB o1_))]⟩
def QQ:St:=⟨(4,.osl 2 2 0 (x_14.length))::[],[some (.box [.mp 1]),none,some (.arr 2 (x_14.map Ac))]⟩
variable {o1_ x_14}
theorem Jx {z} (H:EP n o1_=some z):BH Try.prog 59 [.d (.nil),.clo 54 [.ptr 0 0]] [some (.box [.mp 1]),some (.map true false (Bk Ac eB o1_))] 2 (L7 z (λ (q:(List Aa))=>.osl 2 2 0 (q.length)) (λ (q:(List Aa))=>[some (.box [.mp 1]),none,some (.arr 2 (q.map Ac))])):=by
 refine fS 13 2 (QP o1_) Try.func59 (sr (ck 2 (en (sq (sr (ck 1 (en (bk 0 (wsh (RY 2 0 2 (by kernel_rfl)) (bx H λ S1 h42 H=>?_))))))))))
 have hD:=KK H
 refine rfN rfl [] [2] [4,0,2,1,3] (λ (r21:(List Aa))=>0) (Ft h42) rfl (λ r21 hr=>?_)
 obtain ⟨Z',H,hz2⟩:=hD r21 hr
 exact jz (qN (qz (sr (ck 2 (en (re (by cases H;exact pS (hz2 _ rfl) (rl (s':=QQ r21) (sg [4])))))))))
end
section
variable (o1_:(List (Aa×Bool))) (x_15:(List Aa))
def QR:St:=⟨(0,.clo 54 [.ptr 0 0])::[],[some (.box [.mp 1]),some (.map true false (Bk Ac eB o1_))]⟩
def QS:St:=⟨(2,.osl 2 2 0 (x_15.length))::[],[some (.box [.mp 1]),none,some (.arr 2 (x_15.map Ac))]⟩
variable {o1_ x_15}
theorem I2 {z} (H:DS n o1_=some z):BH Try.prog 52 [.clo 54 [.ptr 0 0]] [some (.box [.mp 1]),some (.map true false (Bk Ac eB o1_))] 2 (L7 z (λ (q:(List Aa))=>.osl 2 2 0 (q.length)) (λ (q:(List Aa))=>[some (.box [.mp 1]),none,some (.arr 2 (q.map Ac))])):=by
 refine fS 5 2 (QR o1_) Try.func52 (sr (ck 1 (en (sq (rn 1 (.refl _) (ck 1 (bx H λ S2 h43 H=>?_)))))))
 have hD:=KK H
 refine nd0 (nc (yok _ _) [0,1] (Jx h43) rfl (λ r22 hr=>?_))
 obtain ⟨Z',H,hz3⟩:=hD r22 hr
 exact ck 1 (en (re (by cases H;exact pS (hz3 _ rfl) (rl (s':=QS r22) (sg [2])))))
end
theorem Mb {n:Nat} {o0_:(List Aa)} {z:(List Aa)} (H:IV n o0_=some z):A7 Try.prog 53 [.osl 0 2 0 (o0_.length),.clo 42 []] [some (.arr 2 (o0_.map Ac))] 1 (.tup []) [some (.arr 2 (z.map Ac))]:=Ng Try.laysSortF (by decide) Try.isAgg32 Try.sizeOf32 (enc:=Ac) (λ _=>rfl) (λ x d hd=>by simp only [Ac,List.mem_cons,List.not_mem_nil,or_false] at hd;rcases hd with rfl|rfl<;>rfl) (KN Try.func42) (λ h=>HD h) ⟨_,_,Try.func53,rfl,rfl⟩ H
section
variable (o1_:(List (Aa×Bool))) (x_16:(List Aa))
def QT:St:=⟨(0,.clo 54 [.ptr 0 0])::(1,.clo 42 [])::[],[some (.box [.mp 1]),some (.map true false (Bk Ac eB o1_))]⟩
def QU:St:=⟨(4,.osl 2 2 0 (x_16.length))::[],[some (.box [.mp 1]),none,some (.arr 2 (x_16.map Ac))]⟩
variable {o1_ x_16}
theorem HH {z} (H:Dq n o1_=some z):A7 Try.prog 40 [.clo 54 [.ptr 0 0],.clo 42 []] [some (.box [.mp 1]),some (.map true false (Bk Ac eB o1_))] 2 (.osl 2 2 0 (z.length)) [some (.box [.mp 1]),none,some (.arr 2 (z.map Ac))]:=by
 refine fL 12 2 (QT o1_) Try.func40 (sr (ck 1 (en (sq (rn 1 (.refl _) (ck 1 (bx H λ S3 h44 H=>?_)))))))
 have hD:=Tl H
 refine nd0 (nc (yok _ _) [0,1] (I2 h44) rfl (λ r23 hr=>?_))
 have H:=hD r23 hr
 exact ck 1 (en (sr (ck 2 (bx H λ r24 h45 H=>lt [2] (Mb h45) (bx H λ _ h46 H=>en (sq (rg (tr (tr (sn 7 2 2 (GT h46)) (sn 5 2 2 (GT h46))) (sn 8 2 2 (GT h46))) (ck 2 (en (re (by cases H;exact pL (rl (s':=QU z) (sg [4])))))))))))))
end
section
variable (o0_:(List (Aa×Bool))) (x_17:(List Aa))
def QV:St:=⟨(0,.mp 0)::[],[some (.map true false (Bk Ac eB o0_))]⟩
def QW:St:=⟨(2,.osl 1 2 0 (x_17.length))::[],[none,some (.arr 2 (x_17.map Ac))]⟩
variable {o0_ x_17}
theorem D4 {z} (H:Cy n o0_=some z):A7 Try.prog 29 [.mp 0] [some (.map true false (Bk Ac eB o0_))] 1 (.osl 1 2 0 (z.length)) [none,some (.arr 2 (z.map Ac))]:=by
 exact fL 6 1 (QV o0_) Try.func29 (sr (ck 1 (en (sr (ck 1 (bx H λ r25 h47 H=>lt [0] (F6 h47) (bx H λ r26 h48 H=>lt [1,0] (HH h48) (ck 1 (en (re (by cases H;exact pL (rl (s':=QW z) (sg [2])))))))))))))
end
section
variable (p0_:(List Aa)) (x_18:(List (Aa×Bool))) (dots_4:(List (Aa×Bool)))
def QX:St:=⟨(0,.d (.sl (p0_.map Ac)))::[],[]⟩
def QY:St:=⟨(2,.mp 0)::[],[some (.map true false (Bk Ac eB x_18))]⟩
def QZ:St:=⟨(3,.mp 0)::[],[some (.map true false (Bk Ac eB dots_4))]⟩
variable {p0_ x_18 dots_4}
theorem FT {z} (H:EQ n p0_=some z):A7 Try.prog 31 [.d (.sl (p0_.map Ac))] [] 0 (.mp 0) [some (.map true false (Bk Ac eB z))]:=by
 refine fL 21 0 (QX p0_) Try.func31 (sr (ck 1 (en (sr (ck 1 (bx H λ r27 h49 H=>lt [] (Gy h49) (ck 1 (en (sj (λ (x:(List (Aa×Bool)))=>QZ x) (λ (x:(List (Aa×Bool)))=>D3 n x) z ?_ (λ hFSh_around_J1=>?_))))))))))
 ·intro dots_4 H
  exact sr (ck 2 (en (re (by cases H;exact pL (rl (s':=QY z) (sg [2]))))))
 refine sr (ck 1 (sp (B5 Ac p0_) (ck 1 (en (cn H (λ H=>?_) (λ H=>?_))))))
 ·exact rx 11 10 (.refl _) (ck 3 (sp (B5 Ac p0_) (ck 1 (bx H λ x9 h50 H=>sp (BI Ac h50) (ck 2 (bx H λ x10 h51 H=>sp (BI Ac h51) (ck 1 (mx (bx H λ r28 h52 H=>lt [0] (IZ h52) (nz (qs (sg [3]) (hFSh_around_J1 r28 H))))))))))))
 ·exact sk (qs (sg [3]) (hFSh_around_J1 r27 H))
end
section
variable (p0_:Int) (x_19:Nat)
def Q0:St:=⟨(0,.d (.int .i64 p0_))::[],[]⟩
def Q1:St:=⟨(2,.clo x_19 [])::[],[]⟩
variable {p0_ x_19}
theorem I3 {z} (H:DT n p0_=some z):A7 Try.prog 32 [.d (.int .i64 p0_)] [] 0 (.clo z []) []:=by
 exact fL 8 0 (Q0 p0_) Try.func32 (sr (ck 1 (en (sr (ck 3 (en (sr (ck 1 (bx H λ x11 h53 H=>sp (R6 0 0 4 h53) (sp (Tn (e1:=λ x=>.clo x []) 0 0 4 (ty 59) h53) (ck 1 (en (re (by cases H;exact pL (rl (s':=Q1 z) (sg [2]))))))))))))))))
end
def TZ (p0_:Ak):St:=⟨(0,.agg [.d (.int .i64 p0_.Kind),.d (.int .i64 p0_.Texture),.d (.sl (p0_.P.map Ac))])::[],[]⟩
def T0 (p0_:Ak) (r32:(List (Aa×Bool))) (low_1:Aa) (high_1:Aa) (x_20:Int):St:=⟨(1,.ptr 0 0)::(3,.mp 1)::(4,.ptr 2 0)::(5,.ptr 3 0)::(42,.d (.sl (p0_.P.map Ac)))::(43,.d (.int .i64 ((p0_.P.length:Nat):Int)))::(44,.d (.int .i64 x_20))::[],[some (.box (Cm p0_)),some (.map true false (Bk Ac eB r32)),some (.box [.d (.int .i64 low_1.X),.d (.int .i64 low_1.Y)]),some (.box [.d (.int .i64 high_1.X),.d (.int .i64 high_1.Y)])]⟩
def T1 (p0_:Ak) (r32:(List (Aa×Bool))) (low_2:Aa) (high_2:Aa):St:=⟨(1,.ptr 0 0)::(3,.mp 1)::(4,.ptr 2 0)::(5,.ptr 3 0)::[],[some (.box (Cm p0_)),some (.map true false (Bk Ac eB r32)),some (.box [.d (.int .i64 low_2.X),.d (.int .i64 low_2.Y)]),some (.box [.d (.int .i64 high_2.X),.d (.int .i64 high_2.Y)])]⟩
def HI (p0_:Ak) (r32:(List (Aa×Bool))):(Aa×Aa)->Ex->St->Prop:=xX 0 1 (λ (y:(Aa×Aa))=>T1 p0_ r32 y.1 y.2)
def E2 (p0_:Ak) (r32:(List (Aa×Bool))):(Aa×Aa×Int)->St:=(λ (x:(Aa×Aa×Int))=>T0 p0_ r32 x.1 x.2.1 x.2.2)
theorem G0 {n:Nat} {p0_:Ak} {r32:(List (Aa×Bool))} (x:(Aa×Aa×Int)) (z:((Aa×Aa×Int)⊕(Aa×Aa))) (H:Cl n p0_ r32 x.1 x.2.1 x.2.2=some z):WP (cxk 106 0) (AN Try.f15) [1,1,1,1,1,0,1,0,0] (Bb 0 (E2 p0_ r32) (HI p0_ r32) z) (E2 p0_ r32 x):=by
 obtain ⟨low_1,high_1,x_20⟩:=x
 refine sr (ck 1 (en (sq (cn H (λ H=>?_) (λ H=>?_)))))
 ·exact sk (qz (sq (bk 2 (sr (bx H λ x15 h61 H=>sp (BI Ac h61) (ck 3 (en (sr (ck 12 (en (rz (ck 12 (ae (qN (qz (rz (ck 2 (ae (by cases H;exact og (sg [1,3,4,5,42,43,44]))))))))))))))))))))
 ·exact ex 1 (qx (by cases H;exact xo rfl (sg [1,3,4,5])))
def T3 (p0_:Ak) (y18:(Aa×Aa)) (r33:Nat) (dots_5:(List (Aa×Bool))) (y_1:Int):St:=⟨(1,.ptr 0 0)::(3,.mp 1)::(4,.ptr 2 0)::(5,.ptr 3 0)::(8,.clo r33 [])::(9,.d (.int .i64 y_1))::[],[some (.box (Cm p0_)),some (.map true false (Bk Ac eB dots_5)),some (.box [.d (.int .i64 y18.1.X),.d (.int .i64 y18.1.Y)]),some (.box [.d (.int .i64 y18.2.X),.d (.int .i64 y18.2.Y)])]⟩
def T4 (dots_6:(List (Aa×Bool))):St:=⟨(3,.mp 0)::[],[some (.map true false (Bk Ac eB dots_6))]⟩
def T5 (p0_:Ak) (y18:(Aa×Aa)) (r33:Nat) (y_1:Int) (dots_7:(List (Aa×Bool))) (x_21:Int):St:=⟨(1,.ptr 0 0)::(3,.mp 1)::(4,.ptr 2 0)::(5,.ptr 3 0)::(8,.clo r33 [])::(9,.d (.int .i64 y_1))::(10,.d (.int .i64 x_21))::[],[some (.box (Cm p0_)),some (.map true false (Bk Ac eB dots_7)),some (.box [.d (.int .i64 y18.1.X),.d (.int .i64 y18.1.Y)]),some (.box [.d (.int .i64 y18.2.X),.d (.int .i64 y18.2.Y)])]⟩
def T6 (p0_:Ak) (y18:(Aa×Aa)) (r33:Nat) (y_1:Int) (dots_8:(List (Aa×Bool))):St:=⟨(1,.ptr 0 0)::(3,.mp 1)::(4,.ptr 2 0)::(5,.ptr 3 0)::(8,.clo r33 [])::(9,.d (.int .i64 y_1))::[],[some (.box (Cm p0_)),some (.map true false (Bk Ac eB dots_8)),some (.box [.d (.int .i64 y18.1.X),.d (.int .i64 y18.1.Y)]),some (.box [.d (.int .i64 y18.2.X),.d (.int .i64 y18.2.Y)])]⟩
def T7 (p0_:Ak) (y18:(Aa×Aa)) (r33:Nat) (y_1:Int) (x_21:Int) (dots_9:(List (Aa×Bool))):St:=⟨(1,.ptr 0 0)::(3,.mp 1)::(4,.ptr 2 0)::(5,.ptr 3 0)::(8,.clo r33 [])::(9,.d (.int .i64 y_1))::(10,.d (.int .i64 x_21))::[],[some (.box (Cm p0_)),some (.map true false (Bk Ac eB dots_9)),some (.box [.d (.int .i64 y18.1.X),.d (.int .i64 y18.1.Y)]),some (.box [.d (.int .i64 y18.2.X),.d (.int .i64 y18.2.Y)])]⟩
theorem Nh {n x:Nat} {p0_:Aa} {z:Bool} (H:Gw n x p0_=some z):AF Try.prog x [.agg [.d (.int .i64 p0_.X),.d (.int .i64 p0_.Y)]] (.d (.bool z)):=by
 unfold Gw at H
 split at H
 ·rename_i hx;have hx:=Wo hx;subst hx;exact GW H
 ·split at H
  ·rename_i hx;have hx:=Wo hx;subst hx;exact GX H
  ·split at H
   ·rename_i hx;have hx:=Wo hx;subst hx;exact GY H
   ·split at H
    ·rename_i hx;have hx:=Wo hx;subst hx;exact GZ H
    ·cases H
section
variable (p0_:Ak) (y18:(Aa×Aa)) (r33:Nat) (y_1:Int)
def HJ:(List (Aa×Bool))->Ex->St->Prop:=xX 0 5 (λ (y:(List (Aa×Bool)))=>T6 p0_ y18 r33 y_1 y)
def E3:((List (Aa×Bool))×Int)->St:=(λ (x:((List (Aa×Bool))×Int))=>T5 p0_ y18 r33 y_1 x.1 x.2)
def HK:(List (Aa×Bool))->Ex->St->Prop:=xX 0 3 (λ (y:(List (Aa×Bool)))=>T4 y)
def E4:((List (Aa×Bool))×Int)->St:=(λ (x:((List (Aa×Bool))×Int))=>T3 p0_ y18 r33 x.1 x.2)
variable {p0_ y18 r33 y_1}
theorem G1 (x:((List (Aa×Bool))×Int)) (z:(((List (Aa×Bool))×Int)⊕(List (Aa×Bool)))) (H:C2 n p0_ y18 r33 y_1 x.1 x.2=some z):WP (cxk 106 0) (AN Try.f15) [1,1,1,1,1,1,1,0,1,0,0,1,0,0,1,0,0] (Bb 0 (E3 p0_ y18 r33 y_1) (HJ p0_ y18 r33 y_1) z) (E3 p0_ y18 r33 y_1 x):=by
 obtain ⟨dots_7,x_21⟩:=x
 refine sq (sr (ck 4 (en (cn H (λ H=>?_) (λ H=>?_)))))
 ·refine sk (qz (sj (λ (x:(List (Aa×Bool)))=>T7 p0_ y18 r33 y_1 x_21 x) (λ (x:(List (Aa×Bool)))=>C1 n x_21 x) z ?_ (λ hFSh_Points_J1=>?_)))
  ·intro dots_9 H
   exact rz (ck 3 (ae (by cases H;exact og (sg [1,3,4,5,8,9,10]))))
  refine bk 6 (sr (ck 5 (en (sr (ck 2 (bx H λ r34 h64 H=>xcv (xok _ _) [] ((Nh h64).lent rfl) (ck 2 (gc 1 r34 (ck 1 (bx H λ r35 h65 H=>cG false (leZ) rfl (λ hg=>Bn (BG h65 hg)) (Or.inl rfl) (CF (λ hh=>hh) (CF (λ hh=>hh) (BM))) rfl (pA (en (cn H (λ H=>?_) (λ H=>?_))))))))))))))
  ·exact rz (ck 2 (sp (NK (enc:=eB) (encK:=Ac) (k:=1) (e1:=λ x=>.bool x) (m:=dots_7) (l:=[.d (.int .i64 x_21),.d (.int .i64 y_1)]) (key:=({ X:=x_21,Y:=y_1 }:Aa)) (y:=true) (v:=.d (.bool true)) (vz:=[.bool false]) SI) (ae (qN (qs (sg [1,3,4,5,8,9,10]) (hFSh_Points_J1 (E8 ({ X:=x_21,Y:=y_1 }:Aa) true dots_7) H))))))
  ·exact sk (qN (qs (sg [1,3,4,5,8,9,10]) (hFSh_Points_J1 dots_7 H)))
 ·exact ex 5 (qx (by cases H;exact xo rfl (sg [1,3,4,5,8,9])))
theorem G2 (x:((List (Aa×Bool))×Int)) (z:(((List (Aa×Bool))×Int)⊕(List (Aa×Bool)))) (H:C3 n p0_ y18 r33 x.1 x.2=some z):WP (cxk 106 0) (AN Try.f15) [1,1,1,1,1,1,1,0,1,0,0] (Bb 0 (E4 p0_ y18 r33) (HK) z) (E4 p0_ y18 r33 x):=by
 obtain ⟨dots_5,y_1⟩:=x
 refine sq (sr (ck 4 (en (cn H (λ H=>?_) (λ H=>?_)))))
 ·exact sk (qz (sq (bk 4 (sr (ck 3 (en (bk 5 (bx H λ y19 h66 H=>lX G1 h66 (sg [1,3,4,5,8,9,10]) rfl λ s hE14=>qH (qN (qs (hE14) (rz (ck 3 (ae (by cases H;exact og (sg [1,3,4,5,8,9])))))))))))))))
 ·exact ex 3 (qx (by cases H;exact xo rfl (sg [3])))
theorem C4 {z} (H:Bh n p0_=some z):AF Try.prog 15 [.agg (Cm p0_)] (.own 2 (z.map Ac)):=by
 refine fO 106 (TZ p0_) Try.func15 (sr (ck 2 (en (sq (sr (ck 1 (bx H λ r29 h54 H=>ca false (BN h54) (ck 1 (en (cn H (λ H=>?_) (λ H=>?_)))))))))))
 ·exact sr (ck 1 (en (re (qr (by cases H;exact pr (rO (v:=.d (.nil)) [] (ad vz)))))))
 ·refine sk (qz (sq (sr (ck 2 (en (bk 0 (sr (ck 2 (en (cn H (λ H=>?_) (λ H=>?_)))))))))))
  ·exact sr (ck 2 (bx H λ x12 h55 H=>sp (BI Ac h55) (ck 3 (en (re (qR (qr (by cases H;exact pr (rO (v:=.osl 1 2 0 (List.length [x12])) [1] (ao vo))))))))))
  ·refine sr (ck 2 (en (cn H (λ H=>?_) (λ H=>?_))))
   ·exact sr (ck 2 (bx H λ r30 h56 H=>lt [] (Gy h56) (bx H λ r31 h57 H=>lt [1] (D4 h57) (ck 1 (en (re (qR (qr (by cases H;exact pr (rO (v:=.osl 2 2 0 (z.length)) [2] (ao vo)))))))))))
   ·exact sk (qN (qz (sr (ck 2 (bx H λ r32 h58 H=>lt [] (FT h58) (ck 1 (en (sr (ck 2 (bx H λ x13 h59 H=>sp (BI Ac h59) (ck 3 (bx H λ x14 h60 H=>sp (BI Ac h60) (ck 5 (en (sq (sr (ck 2 (sp (B5 Ac p0_.P) (ck 1 (en (bk 1 (bx H λ y18 h62 H=>lX G0 h62 (sg [1,3,4,5,42,43,44]) rfl λ s hE13=>qH (qs (hE13) (sr (ck 2 (bx H λ r33 h63 H=>lt [] (I3 h63) (ck 1 (en (sq (sr (ck 3 (en (bk 3 (bx H λ y20 h67 H=>lX G2 h67 (sg [1,3,4,5,8,9]) rfl λ s hE15=>qH (qs (hE15) (sr (ck 1 (bx H λ r36 h68 H=>lt [0] (D4 h68) (ck 1 (en (re (by cases H;exact pr (rO (v:=.osl 1 2 0 (z.length)) [1] (ao vo))))))))))))))))))))))))))))))))))))))))))))
end
section
variable (p0_:(List Aa)) (p1_:(List Aa)) (i_2:Int)
def T8:St:=⟨(0,.d (.sl (p0_.map Ac)))::(1,.d (.sl (p1_.map Ac)))::[],[]⟩
def T9:St:=⟨(0,.d (.sl (p0_.map Ac)))::(1,.d (.sl (p1_.map Ac)))::(5,.d (.int .i64 i_2))::[],[]⟩
def Ua:St:=⟨[],[]⟩
def I4:(Unit⊕Bool)->Ex->St->Prop:=xS (xX 0 0 (λ (y:Unit)=>Ua)) (xR ty Try.f14 (λ (y:Bool)=>.d (.bool y)))
def Fu:Int->St:=(λ (x:Int)=>T9 p0_ p1_ x)
variable {p0_ p1_ i_2}
theorem E5 (x:Int) (z:(Int⊕(Unit⊕Bool))) (H:Dr n p0_ p1_ x=some z):WP (cxk 26 0) (AN Try.f14) [1,1,0,1,0,0] (Bb 0 (Fu p0_ p1_) (I4) z) (Fu p0_ p1_ x):=by
 revert H
 generalize x=i_2
 intro H
 refine sq (sr (ck 2 (sp (B5 Ac p0_) (ck 1 (en (cn H (λ H=>?_) (λ H=>?_)))))))
 ·refine sk (qz (sq (bk 1 (sr (ck 2 (bx H λ x16 h69 H=>sp (BI Ac h69) (ck 3 (bx H λ x17 h70 H=>sp (BI Ac h70) (ck 2 (en (cn H (λ H=>?_) (λ H=>?_))))))))))))
  ·exact sr (ck 1 (en (re (qR (qr (by cases H;exact ro rfl rd))))))
  ·exact sk (qN (qz (rz (ck 3 (ae (by cases H;exact og (sg [0,1,5])))))))
 ·exact ex 0 (qx (by cases H;exact xo rfl (sg [])))
theorem Gz {z} (H:Ej n p0_ p1_=some z):AF Try.prog 14 [.d (.sl (p0_.map Ac)),.d (.sl (p1_.map Ac))] (.d (.bool z)):=by
 refine fO 26 (T8 p0_ p1_) Try.func14 (sr (ck 1 (en (sq (sr (ck 1 (sp (B5 Ac p0_) (ck 1 (sp (B5 Ac p1_) (ck 1 (en (cn H (λ H=>?_) (λ H=>?_)))))))))))))
 ·exact sr (ck 1 (en (re (qr (by cases H;exact pr rd)))))
 ·refine sk (qz (sq (sr (ck 1 (en (bk 0 (bx H λ y21 h71 H=>?_)))))))
  rcases y21 with y22|y23
  ·exact lX E5 h71 (sg [0,1,5]) rfl λ s hE16=>qH (qs (hE16) (sr (ck 1 (en (re (by cases H;exact pr rd))))))
  ·exact lR E5 h71 (sg [0,1,5]) rfl λ s hE17=>qR (qr (by cases H;exact pr hE17))
end
section
variable (p0_:(List Aa))
def Ub:St:=⟨(0,.d (.sl (p0_.map Ac)))::[],[]⟩
variable {p0_}
theorem I5 {z} (H:DU n p0_=some z):AF Try.prog 17 [.d (.sl (p0_.map Ac))] (.own 2 (z.map Ac)):=by
 exact fO 6 (Ub p0_) Try.func17 (sr (ck 1 (en (sr (ck 1 (bx H λ r37 h72 H=>lt [] (FT h72) (bx H λ r38 h73 H=>lt [0] (D4 h73) (ck 1 (en (re (by cases H;exact pr (rO (v:=.osl 1 2 0 (z.length)) [1] (ao vo)))))))))))))
end
def Uc:St:=⟨[],[]⟩
theorem I6 {z} (H:Fn n=some z):AF Try.prog 10 [] (.d (.bool z)):=by
 exact fO 116 Uc Try.func10 (sr (ck 1 (en (sr (bx H λ r39 h74 H=>ca false (Av h74) (ck 4 (en (sr (bx H λ r40 h75 H=>ca false (Av h75) (bx H λ r41 h76 H=>ca false (Av h76) (ck 4 (en (sr (bx H λ r42 h77 H=>ca false (AR h77) (ck 3 (en (sr (bx H λ r43 h78 H=>ca false (AR h78) (ck 3 (en (sr (ck 1 (bx H λ r44 h79 H=>cb (ks:=[0]) (obl:=[(0+List.length [r39],List.length (List.map Ac [r39]))]) false (leK leM (leZ)) (Cb (R0 (Cb rfl (Cb rfl (Cb Hw rfl)))) rfl) (C4 h79) (Or.inr (UK λ _=>rfl)) rfl (ck 2 (bx H λ r45 h80 H=>cb (ks:=[0]) (obl:=[(0+List.length [r39],List.length (List.map Ac [r39]))]) false (leK leM (leZ)) (Cb rfl (Cb Hw rfl)) (Gz h80) (Or.inr trivial) rfl (ck 2 (bx H λ r46 h81 H=>cG (ks:=[2]) (obl:=[(0+List.length [r40,r41],List.length (List.map Ac [r40,r41]))]) false (leK leM (leZ)) (Cb (R0 (Cb rfl (Cb rfl (Cb Hw rfl)))) rfl) (λ hg=>C4 (BG h81 hg)) (Or.inr (UK λ _=>rfl)) (CF (λ hh=>hh) (BM)) rfl (bx H λ r47 h82 H=>cG false (leZ) rfl (λ hg=>Av (BG h82 hg)) (Or.inl rfl) (BM) rfl (bx H λ r48 h83 H=>cG false (leZ) rfl (λ hg=>Av (BG h83 hg)) (Or.inl rfl) (BM) rfl (bx H λ r49 h84 H=>cG false (leZ) rfl (λ hg=>Av (BG h84 hg)) (Or.inl rfl) (BM) rfl (gc 1 r45 (bx H λ r50 h85 H=>cG (ks:=[6]) (obl:=[(0+List.length [r47,r48,r49],List.length (List.map Ac [r47,r48,r49]))]) false (leK leM (leZ)) (Cb rfl (Cb Hw rfl)) (λ hg=>Gz (BG h85 hg)) (Or.inr trivial) (CF (λ hh=>hh) (CF (λ hh=>hh) (BM))) rfl (pA (ck 2 (bx H λ r51 h86 H=>cG false (leZ) rfl (λ hg=>C4 (BG h86 hg)) (Or.inl rfl) (CF (λ hh=>hh) (BM)) rfl (sE (g:=(r45&&r50)) (λ hg=>B5 Ac r51) (gc 1 (r45&&r50) (pA (ck 2 (bx H λ r52 h87 H=>cG false (leZ) rfl (λ hg=>C4 (BG h87 hg)) (Or.inl rfl) (CF (λ hh=>hh) (BM)) rfl (sE (g:=((r45&&r50)&&(((r51.length:Nat):Int)==8))) (λ hg=>B5 Ac r52) (gc 1 ((r45&&r50)&&(((r51.length:Nat):Int)==8)) (pA (ck 1 (en (sr (ck 1 (bx H λ r53 h88 H=>cb (ks:=[0]) (obl:=[(0+List.length [r39],List.length (List.map Ac [r39]))]) false (leK leM (leZ)) (Cb (R0 (Cb rfl (Cb rfl (Cb Hw rfl)))) rfl) (BN h88) (Or.inr trivial) rfl (ck 2 (bx H λ r54 h89 H=>cG false (leZ) rfl (λ hg=>BN (BG h89 hg)) (Or.inl rfl) (CF (λ hh=>hh) (BM)) rfl (pA (ck 2 (bx H λ r55 h90 H=>cG false (leZ) rfl (λ hg=>BN (BG h90 hg)) (Or.inl rfl) (CF (λ hh=>hh) (BM)) rfl (gc 1 (r53&&r54) (pA (ck 1 (bx H λ r56 h91 H=>cG false (leZ) rfl (λ hg=>AR (BG h91 hg)) (Or.inl rfl) (BM) rfl (gc 1 ((r53&&r54)&&(!r55)) (bx H λ r57 h92 H=>cG false (leZ) rfl (λ hg=>BN (BG h92 hg)) (Or.inl rfl) (CF (λ hh=>hh) (BM)) rfl (gc 1 ((r53&&r54)&&(!r55)) (pA (ck 1 (bx H λ r58 h93 H=>cG false (leZ) rfl (λ hg=>AR (BG h93 hg)) (Or.inl rfl) (BM) rfl (gc 1 (((r53&&r54)&&(!r55))&&(!r57)) (bx H λ r59 h94 H=>cG false (leZ) rfl (λ hg=>BN (BG h94 hg)) (Or.inl rfl) (CF (λ hh=>hh) (BM)) rfl (gc 1 (((r53&&r54)&&(!r55))&&(!r57)) (pA (ck 1 (bx H λ r60 h95 H=>cG false (leZ) rfl (λ hg=>Av (BG h95 hg)) (Or.inl rfl) (BM) rfl (gc 2 ((((r53&&r54)&&(!r55))&&(!r57))&&(!r59)) (bx H λ r61 h96 H=>cG (ks:=[7]) (obl:=[(0+List.length [r60],List.length (List.map Ac [r60]))]) false (leK leM (leZ)) (Cb (R0 (Cb rfl (Cb rfl (Cb Hw rfl)))) rfl) (λ hg=>BN (BG h96 hg)) (Or.inr trivial) (CF (λ hh=>hh) (BM)) rfl (gc 1 ((((r53&&r54)&&(!r55))&&(!r57))&&(!r59)) (pA (ck 1 (en (sr (ck 3 (pA (ck 1 (bx H λ r62 h97 H=>cG false (leZ) rfl (λ hg=>AR (BG h97 hg)) (Or.inl rfl) (BM) rfl (bx H λ r63 h98 H=>cG false (leZ) rfl (λ hg=>Av (BG h98 hg)) (Or.inl rfl) (BM) rfl (bx H λ r64 h99 H=>cG false (leZ) rfl (λ hg=>Bn (BG h99 hg)) (Or.inl rfl) (CF (λ hh=>hh) (CF (λ hh=>hh) (BM))) rfl (pA (ck 1 (bx H λ r65 h100 H=>cG false (leZ) rfl (λ hg=>AR (BG h100 hg)) (Or.inl rfl) (BM) rfl (bx H λ r66 h101 H=>cG false (leZ) rfl (λ hg=>Av (BG h101 hg)) (Or.inl rfl) (BM) rfl (bx H λ r67 h102 H=>cG false (leZ) rfl (λ hg=>Bn (BG h102 hg)) (Or.inl rfl) (CF (λ hh=>hh) (CF (λ hh=>hh) (BM))) rfl (pA (ck 1 (bx H λ r68 h103 H=>cG false (leZ) rfl (λ hg=>AR (BG h103 hg)) (Or.inl rfl) (BM) rfl (bx H λ r69 h104 H=>cG false (leZ) rfl (λ hg=>Av (BG h104 hg)) (Or.inl rfl) (BM) rfl (bx H λ r70 h105 H=>cG false (leZ) rfl (λ hg=>Bn (BG h105 hg)) (Or.inl rfl) (CF (λ hh=>hh) (CF (λ hh=>hh) (BM))) rfl (pA (ck 1 (bx H λ r71 h106 H=>cG false (leZ) rfl (λ hg=>AR (BG h106 hg)) (Or.inl rfl) (BM) rfl (bx H λ r72 h107 H=>cG false (leZ) rfl (λ hg=>Av (BG h107 hg)) (Or.inl rfl) (BM) rfl (bx H λ r73 h108 H=>cG false (leZ) rfl (λ hg=>Bn (BG h108 hg)) (Or.inl rfl) (CF (λ hh=>hh) (CF (λ hh=>hh) (BM))) rfl (gc 1 (((((((r45&&r50)&&(((r51.length:Nat):Int)==8))&&(((r52.length:Nat):Int)==9))&&(((((r53&&r54)&&(!r55))&&(!r57))&&(!r59))&&(!r61)))&&r64)&&r67)&&r70) (pA (ck 1 (bx H λ r74 h109 H=>cG false (leZ) rfl (λ hg=>AR (BG h109 hg)) (Or.inl rfl) (BM) rfl (bx H λ r75 h110 H=>cG false (leZ) rfl (λ hg=>Av (BG h110 hg)) (Or.inl rfl) (BM) rfl (bx H λ r76 h111 H=>cG false (leZ) rfl (λ hg=>Bn (BG h111 hg)) (Or.inl rfl) (CF (λ hh=>hh) (CF (λ hh=>hh) (BM))) rfl (gc 1 ((((((((r45&&r50)&&(((r51.length:Nat):Int)==8))&&(((r52.length:Nat):Int)==9))&&(((((r53&&r54)&&(!r55))&&(!r57))&&(!r59))&&(!r61)))&&r64)&&r67)&&r70)&&(!r73)) (pA (ck 1 (bx H λ r77 h112 H=>cG false (leZ) rfl (λ hg=>Av (BG h112 hg)) (Or.inl rfl) (BM) rfl (bx H λ r78 h113 H=>cG false (leZ) rfl (λ hg=>Bn (BG h113 hg)) (Or.inl rfl) (CF (λ hh=>hh) (BM)) rfl (gc 1 (((((((((r45&&r50)&&(((r51.length:Nat):Int)==8))&&(((r52.length:Nat):Int)==9))&&(((((r53&&r54)&&(!r55))&&(!r57))&&(!r59))&&(!r61)))&&r64)&&r67)&&r70)&&(!r73))&&(!r76)) (pA (ck 1 (bx H λ r79 h114 H=>cG false (leZ) rfl (λ hg=>AR (BG h114 hg)) (Or.inl rfl) (BM) rfl (bx H λ r80 h115 H=>cG false (leZ) rfl (λ hg=>I5 (BG h115 hg)) (Or.inl rfl) (CF (λ hh=>hh) (BM)) rfl (sE (g:=((((((((((r45&&r50)&&(((r51.length:Nat):Int)==8))&&(((r52.length:Nat):Int)==9))&&(((((r53&&r54)&&(!r55))&&(!r57))&&(!r59))&&(!r61)))&&r64)&&r67)&&r70)&&(!r73))&&(!r76))&&(!r78))) (λ hg=>B5 Ac r80) (gc 1 ((((((((((r45&&r50)&&(((r51.length:Nat):Int)==8))&&(((r52.length:Nat):Int)==9))&&(((((r53&&r54)&&(!r55))&&(!r57))&&(!r59))&&(!r61)))&&r64)&&r67)&&r70)&&(!r73))&&(!r76))&&(!r78)) (pA (ck 1 (en (re (by cases H;exact pr rd))))))))))))))))))))))))))))))))))))))))))))))))))))))))))))))))))))))))))))))))))))))))))))))))))))))))))))))))))))))))
section
variable (p0_:Aa) (p1_:Aa) (p2_:Aa)
def Ud:St:=⟨(0,.agg [.d (.int .i64 p0_.X),.d (.int .i64 p0_.Y)])::(1,.agg [.d (.int .i64 p1_.X),.d (.int .i64 p1_.Y)])::(2,.agg [.d (.int .i64 p2_.X),.d (.int .i64 p2_.Y)])::[],[]⟩
variable {p0_ p1_ p2_}
theorem GA {z} (H:Ek n p0_ p1_ p2_=some z):AF Try.prog 22 [.agg [.d (.int .i64 p0_.X),.d (.int .i64 p0_.Y)],.agg [.d (.int .i64 p1_.X),.d (.int .i64 p1_.Y)],.agg [.d (.int .i64 p2_.X),.d (.int .i64 p2_.Y)]] (.d (.int .i64 z)):=by
 exact fO 34 (Ud p0_ p1_ p2_) Try.func22 (sr (ck 4 (en (sr (ck 24 (en (sr (ck 4 (en (re (by cases H;exact pr rd)))))))))))
end
section
variable (p0_:(OW (FK Int))) (p1_:(FK Int)) (r119:Bool) (c_1:(List Aa)) (i_8:Int) (c_2:(List Aa)) (y39:(List Aa)) (r121:Aa) (r122:Int) (inside_1:Bool) (i_9:Int) (inside_2:Bool)
def Va:St:=⟨(0,.agg [.d (.int .u8 p0_.a0.a0),.d (.int .u8 p0_.a0.a1),.d (.int .u8 p0_.a1.a0),.d (.int .u8 p0_.a1.a1),.d (.int .u8 p0_.a2.a0),.d (.int .u8 p0_.a2.a1)])::(1,.agg [.d (.int .u8 p1_.a0),.d (.int .u8 p1_.a1)])::[],[]⟩
def Vb:St:=⟨(2,.eptr 0 2 0 0)::(3,.ptr 1 0)::(5,.d (.bool r119))::(6,.eptr 2 2 0 0)::(7,.d (.int .i64 i_8))::[],[some (.arr 2 (List.map (J2 eU8) ([p0_.a0,p0_.a1,p0_.a2]:List (FK Int)))),some (.box [.d (.int .u8 p1_.a0),.d (.int .u8 p1_.a1)]),some (.arr 2 (c_1.map Ac))]⟩
def Vc:St:=⟨(3,.ptr 0 0)::(5,.d (.bool r119))::(6,.eptr 1 2 0 0)::[],[some (.box [.d (.int .u8 p1_.a0),.d (.int .u8 p1_.a1)]),some (.arr 2 (c_2.map Ac))]⟩
def D5:(List Aa)->Ex->St->Prop:=xX 0 0 (λ (y:(List Aa))=>Vc p1_ r119 y)
def Cn:((List Aa)×Int)->St:=(λ (x:((List Aa)×Int))=>Vb p0_ p1_ r119 x.1 x.2)
def Vd:St:=⟨(5,.d (.bool r119))::(6,.eptr 0 2 0 0)::(8,.ptr 1 0)::(9,.d (.int .i64 r122))::(10,.d (.bool inside_1))::(11,.d (.int .i64 i_9))::[],[some (.arr 2 (y39.map Ac)),some (.box [.d (.int .i64 r121.X),.d (.int .i64 r121.Y)])]⟩
def Ve:St:=⟨(5,.d (.bool r119))::(6,.eptr 0 2 0 0)::(8,.ptr 1 0)::(10,.d (.bool inside_2))::[],[some (.arr 2 (y39.map Ac)),some (.box [.d (.int .i64 r121.X),.d (.int .i64 r121.Y)])]⟩
def D6:Bool->Ex->St->Prop:=xX 0 2 (λ (y:Bool)=>Ve r119 y39 r121 y)
def Co:(Bool×Int)->St:=(λ (x:(Bool×Int))=>Vd r119 y39 r121 r122 x.1 x.2)
variable {p0_ p1_ r119 c_1 i_8 c_2 y39 r121 r122 inside_1 i_9 inside_2}
theorem DE (x:((List Aa)×Int)) (z:(((List Aa)×Int)⊕(List Aa))) (H:Bl n p0_ p1_ r119 x.1 x.2=some z):WP (cxk 80 0) (AN Try.f5) [1,1,1,0,1,0,0] (Bb 0 (Cn p0_ p1_ r119) (D5 p1_ r119) z) (Cn p0_ p1_ r119 x):=by
 obtain ⟨c_1,i_8⟩:=x
 refine sq (sr (ck 2 (en (cn H (λ H=>?_) (λ H=>?_)))))
 ·exact sk (qz (sq (bk 1 (rz (ck 2 (bx H λ gd12 h190 H=>sp (DO 0 2 0 3 (j:=0) h190) (ck 1 (bx H λ x25 h191 H=>sp (F5 (J2 eU8) 0 0 (ty 5) h191) (ck 3 (bx H λ gd13 h192 H=>sp (DO 0 2 0 3 (j:=0) h192) (ck 1 (bx H λ x26 h193 H=>sp (F5 (J2 eU8) 0 1 (ty 5) h193) (ck 2 (bx H λ r120 h194 H=>ca false (Av h194) (bx H λ gd14 h195 H=>sp (DO 2 2 0 3 (j:=0) h195) (bx H λ l16 h196 H=>Vx Ac 2 (ty 32) h196 (ae (qN (qz (rz (ck 3 (ae (by cases H;exact og (sg [2,3,5,6,7]))))))))))))))))))))))))
 ·exact ex 0 (qx (by cases H;exact xo rfl (sg [3,5,6])))
theorem DF (x:(Bool×Int)) (z:((Bool×Int)⊕Bool)) (H:Bm n r119 y39 r121 r122 x.1 x.2=some z):WP (cxk 80 0) (AN Try.f5) [1,1,1,1,1,1,1,1,0,1,0,0] (Bb 0 (Co r119 y39 r121 r122) (D6 r119 y39 r121) z) (Co r119 y39 r121 r122 x):=by
 obtain ⟨inside_1,i_9⟩:=x
 refine sq (sr (ck 2 (en (cn H (λ H=>?_) (λ H=>?_)))))
 ·exact sk (qz (sq (bk 3 (rz (ck 3 (bx H λ gd18 h206 H=>sE (λ hg=>DO 0 2 0 3 (j:=0) (BG h206 hg)) (bx H λ x30 h207 H=>sE (λ hg=>F5 Ac 0 0 (ty 32) (BG h207 hg)) (ck 1 (gc 2 inside_1 (bx H λ gd19 h208 H=>sE (λ hg=>DO 0 2 0 3 (j:=0) (BG h208 hg)) (bx H λ x31 h209 H=>sE (λ hg=>F5 Ac 0 0 (ty 32) (BG h209 hg)) (ck 1 (bx H λ r123 h210 H=>cG false (leZ) rfl (λ hg=>GA (BG h210 hg)) (Or.inl rfl) (CF (λ hh=>hh) (CF (λ hh=>hh) (CF (λ hh=>hh) (BM)))) rfl (ck 1 (gc 2 inside_1 (pA (ck 1 (ae (qN (qz (rz (ck 3 (ae (by cases H;exact og (sg [5,6,8,9,10,11])))))))))))))))))))))))))
 ·exact ex 2 (qx (by cases H;exact xo rfl (sg [5,6,8,10])))
theorem ES {z} (H:Cf n p0_ p1_=some z):AF Try.prog 5 [.agg [.d (.int .u8 p0_.a0.a0),.d (.int .u8 p0_.a0.a1),.d (.int .u8 p0_.a1.a0),.d (.int .u8 p0_.a1.a1),.d (.int .u8 p0_.a2.a0),.d (.int .u8 p0_.a2.a1)],.agg [.d (.int .u8 p1_.a0),.d (.int .u8 p1_.a1)]] (.d (.bool z)):=by
 refine fO 80 (Va p0_ p1_) Try.func5 (sr (ck 3 (en (sq (rg (tr (NH (J2 eU8) ([p0_.a0,p0_.a1,p0_.a2]:List (FK Int)) 0 2 (λ _=>rfl) (by kernel_rfl)) (Sz 2 0 2 (by kernel_rfl))) (bx H λ r119 h189 H=>ca true (I6 h189) (ck 1 (en (sr (ck 3 (en (sq (sq (rg (tr (NH Ac ([({ X:=0,Y:=0 }:Aa),({ X:=0,Y:=0 }:Aa),({ X:=0,Y:=0 }:Aa)]:List Aa) 2 2 (λ _=>rfl) (by kernel_rfl)) (Sz 6 2 2 (by kernel_rfl))) (ck 1 (en (bk 0 (bx H λ y39 h197 H=>lX DE h197 (sg [2,3,5,6,7]) rfl λ s hE31=>qH (qs (hE31) (sr (ck 8 (bx H λ r121 h198 H=>ca false (Av h198) (ck 2 (en (sr (bx H λ gd15 h199 H=>sp (DO 1 2 0 3 (j:=0) h199) (bx H λ x27 h200 H=>sp (F5 Ac 1 0 (ty 32) h200) (bx H λ gd16 h201 H=>sp (DO 1 2 0 3 (j:=0) h201) (bx H λ x28 h202 H=>sp (F5 Ac 1 0 (ty 32) h202) (bx H λ gd17 h203 H=>sp (DO 1 2 0 3 (j:=0) h203) (bx H λ x29 h204 H=>sp (F5 Ac 1 0 (ty 32) h204) (bx H λ r122 h205 H=>ca false (GA h205) (ck 1 (en (sq (sr (ck 2 (en (cn H (λ H=>?_) (λ H=>?_))))))))))))))))))))))))))))))))))))))))
 ·exact sr (ck 2 (en (re (qr (by cases H;exact pr rd)))))
 ·exact sk (qz (sr (ck 1 (en (sq (sr (ck 1 (en (bk 2 (bx H λ y40 h211 H=>lX DF h211 (sg [5,6,8,9,10,11]) rfl λ s hE32=>qH (qs (hE32) (sq (rg (Sb (es:=List.map Ac y39) 6 0 2 (by kernel_rfl) (by kernel_rfl)) (ck 2 (bx H λ gd20 h212 H=>sE (λ hg=>To (enc:=Ac) 2 3 (BG h212 hg)) (ck 1 (bx H λ r124 h213 H=>cG false (leZ) rfl (λ hg=>Bn (BG h213 hg)) (Or.inl rfl) (CF (λ hh=>hh) (CF (λ hh=>hh) (BM))) rfl (ck 1 (gc 1 r119 (pA (ck 1 (en (re (by cases H;exact pr rd))))))))))))))))))))))))
end
end Go.AI
end
section
namespace Go.AI
def CRd (F:Nat->Option Obj) (l:List D) (cs:List Value):Prop:=l.length=cs.length/\∀ (i:Nat) (y:D) (v:Value),l[i]? = some y->cs[i]? = some v->AJ F y v
def J3 {α:Type} (P:Program) (t:TypeId) (enc:α->List D) (ok:α->Prop):Prop:=
 ∀ (H:Type) (e:TypeId×Value->H) (w:World) (base:Nat) (spare:Nat->Bool) (held:Bool) (fuel:Nat) (cs:List Value) (x:DataW H×List MemPlace),DataW.trod e P w base spare held fuel t cs=some x->∃ a:α,ok a/\CRd (λ b=>w.heap[b]?) (enc a) cs
theorem Se {F:Nat->Option Obj} {y:D} {v:Value} (h:AJ F y v):CRd F [y] [v]:=by
 refine ⟨rfl,λ i a b ha hb=>?_⟩
 cases i with
 | zero=>simp at ha hb;subst ha;subst hb;exact h
 | succ i=>simp at ha
theorem OY {P:Program} {t:TypeId} {k:IntKind} (ht:P.underlying t=some (.int k)):J3 P t (λ n=>[.int k n]) (λ n=>(Lit.int k n).wf=true):=by
 intro H e w base spare held fuel cs x h
 obtain ⟨n,rfl,_,hw⟩:=DataW.trod_int ht h
 exact ⟨n,hw,Se (.int k n)⟩
theorem Q2 {α β:Type} {f:α->Option β}:∀ {l:List α} {r:List β},l.mapM f=some r->r.length=l.length/\∀ (i:Nat) (a:α),l[i]? = some a->r[i]? = f a:=by
 intro l
 induction l with
 | nil=>intro r h;simp at h;subst h;exact ⟨rfl,λ i a h=>by simp at h⟩
 | cons a l ih=>
  intro r h
  rw [List.mapM_cons] at h
  simp only [Option.bind_eq_bind,Option.bind_eq_some_iff,Option.pure_def,Wq] at h
  obtain ⟨b,hb,r',hr',rfl⟩:=h
  obtain ⟨h1,h2⟩:=ih hr'
  refine ⟨by simp [h1],λ i x hx=>?_⟩
  cases i with
  | zero=>simp at hx;subst hx;simp [hb]
  | succ i=>simpa using h2 i x (by simpa using hx)
theorem Fv {F:Nat->Option Obj} {l m:List D} {cs:List Value} {o n:Nat} (h:CRd F l ((cs.drop o).take n)) (hn:Nat.beq l.length n=true) (h':CRd F m (cs.drop (o+n))):CRd F (l++m) (cs.drop o):=by
 have hn:=Wo hn
 have e:cs.drop o=(cs.drop o).take n++cs.drop (o+n):=by rw [← List.drop_drop,List.take_append_drop]
 rw [e]
 refine ⟨by simp only [List.length_append,h.1,h'.1],λ i y v hy hv=>?_⟩
 rcases Wa i l.length with hlt|hge
 ·rw [Wp hlt] at hy
  rw [Wp (by rw [← h.1];exact hlt)] at hv
  exact h.2 i y v hy hv
 ·rw [Ww hge] at hy
  rw [Ww (by rw [← h.1];exact hge),← h.1] at hv
  exact h'.2 _ y v hy hv
theorem NN {F:Nat->Option Obj} {cs:List Value} {o:Nat} (h:cs.length<=o):CRd F [] (cs.drop o):=by
 rw [List.drop_eq_nil_of_le h];exact ⟨rfl,λ i y v hy=>by simp at hy⟩
theorem I7 {H:Type} {enc:TypeId×Value->H} {P:Program} {w:World} {base:Nat} {spare:Nat->Bool} {held:Bool} {fuel:Nat} {t e:TypeId} {n:Nat} {cs:List Value} {x:DataW H×List MemPlace} (ht:P.underlying t=some (.array n e)) (h:DataW.trod enc P w base spare held fuel t cs=some x) :
  ∃ m,cs.length=P.cellsOf t/\∀ i,i<n->∃ y,DataW.trod enc P w base spare held m e ((cs.drop (i*P.cellsOf e)).take (P.cellsOf e))=some y:=by
 cases fuel with
 | zero=>simp [DataW.trod] at h
 | succ m=>
  unfold DataW.trod at h
  rw [ht] at h
  split at h<;>simp_all
  obtain ⟨xs,hp,_⟩:=h.2
  refine ⟨m,λ i hi=>?_⟩
  obtain ⟨g1,g2⟩:=Q2 hp
  have:=g2 i i (by simp [hi])
  have hlt:i<xs.length:=by rw [g1];simpa using hi
  rw [Wh hlt] at this
  exact ⟨_,_,this.symm⟩
end Go.AI
end
section
namespace Go.AI
open Go.ChangeShapes Go.WideShapes Go.ChangeAt Go.RowKit
variable {P:Program} {H:Type} {en:TypeId×Value->H} {W W':World} {base:Nat} {spare:Nat->Bool} {held:Bool} {t e:TypeId} {v:Value} {d:DataW H} {ps:List MemPlace} {α:Type} {enc:α->List D} {ok:α->Prop}
theorem GB {P:Program} {w:World} {r:Go.Reach} {base:Nat} {t e:TypeId} {n:Nat} {v:Value} (ht:P.underlying t=some (.array n e)) (h:Value.okWide P w r base t v):∃ cs,v=.agg cs/\cs.size=P.cellsOf t:=by
 simp only [Value.okWide,ht] at h
 obtain ⟨cs,h1,h2,_⟩:=h
 exact ⟨cs,h1,h2⟩
theorem NO {cs:Array Value} (hv:v=.agg cs) (hd:DataW.Trod en P W base spare held t v d ps) (hr:J3 P t enc ok):∃ a,ok a/\Ad (λ b=>W.heap[b]?) noR (.agg ((enc a).map .d)) v:=by
 subst hv
 obtain ⟨fuel,hf⟩:=hd
 obtain ⟨a,h1,h2,h3⟩:=hr H en W base spare held fuel _ _ hf
 refine ⟨a,h1,.agg _ _ (by simpa [Value.cells] using h2) λ i x u hx hu=>?_⟩
 simp only [Wl,Wk] at hx
 obtain ⟨y,hy,rfl⟩:=hx
 exact .d _ _ (h3 i y u hy (by simpa [Value.cells] using hu))
theorem Ue {F:Nat->Option Obj} {ρ:Nat->Option Loc}:CR F ρ [] []:=⟨rfl,λ i a v h=>by simp at h⟩
theorem NP {F:Nat->Option Obj} {ρ:Nat->Option Loc} {a:AV} {v:Value} {l:List AV} {vs:List Value} (h:Ad F ρ a v) (h':CR F ρ l vs):CR F ρ (a::l) (v::vs):=by
 refine ⟨by simp [h'.1],λ i x u hx hu=>?_⟩
 cases i with
 | zero=>simp at hx hu;subst hx;subst hu;exact h
 | succ i=>exact h'.2 i x u (by simpa using hx) (by simpa using hu)
theorem Q3 {w:World} {fuel:Nat} {cs:List Value} {m:Nat} (hg:∀ i,i<m->∃ y,DataW.trod en P w base spare held fuel e ((cs.drop (i*P.cellsOf e)).take (P.cellsOf e))=some y) (i:Nat) (hi:Nat.ble (i+1) m=true) (o n:Nat) (hn:P.cellsOf e=n) (ho:i*n=o) (hr:J3 P e enc ok) :
  ∃ a,ok a/\CRd (λ b=>w.heap[b]?) (enc a) ((cs.drop o).take n):=by
 obtain ⟨y,hy⟩:=hg i (Wv hi)
 rw [hn,ho] at hy
 exact hr H en w base spare held fuel _ _ hy
theorem Q4 {f:FuncId} {args:List AV} {vs:Array Value} (hc:AF P f args (.d (.bool true))) (hcr:CR (λ b=>W.heap[b]?) noR args vs.toList):Calls P f vs W λ e W'=>e=.returned (.bool true)/\(∀ before:List MemPlace,W.keptBut W' (·∈before))/\∀ b,b<W.heap.size->W'.heap[b]? = W.heap[b]? := by
 refine (hc.2 (λ b=>W.heap[b]?) W vs hcr λ b o h=>h).mono λ e W' h=>?_
 obtain ⟨v,F',ρ,rfl,hS,hr,hmu⟩:=h
 have hv:v=.bool true:=by
  have:(AY true 0 (.d (.bool true))).1=.d (.bool true):=rfl
  rw [this] at hr
  exact hr.bool
 subst hv
 have hold:∀ b,b<W.heap.size->W'.heap[b]? = W.heap[b]? := λ b hb=>hS.old b (by omega)
 refine ⟨rfl,λ before=>World.keptBut_mono (λ p hp=>hp.elim) (?_:W.keptBut W' λ _=>False),hold⟩
 refine ⟨hmu.os,hmu.out,λ i hi=>?_⟩
 rw [hold i hi]
 cases hh:W.heap[i]? with
 | none=>rfl
 | some o=>cases o<;>first|exact ⟨rfl,rfl,rfl,λ _ _=>rfl⟩|exact .inr ⟨rfl,rfl⟩|rfl
theorem OZ {f:Func} {s:ChangeSpec} {apart fresh handsOn again:Bool} {args:Array Value} {ds gs:List (DataW H)} {before pa pv:List MemPlace}
  (hW:DataW.Whole en P f.params.toList s.vars apart W args.toList ds gs before)
  (hres:∀ (b:Nat) (sp:Nat->Bool) (hd:Bool),DataW.TrodAll en P W' b sp hd f.resultTypes.toList (v.resultList f.resultTypes.size) (s.fn H (ds++gs)).results [])
  (hargs:∀ sp:Nat->Bool,(∀ p∈before,sp p.block=true)->DataW.TrodAll en P W' 0 sp true f.params.toList args.toList (s.fn H (ds++gs)).args pa)
  (hvars:∀ sp:Nat->Bool,(∀ p∈before,sp p.block=true)->DataW.TrodVars en P W' sp s.vars (s.fn H (ds++gs)).vars pv)
  (hps:before=pa++pv) (hk:W.keptBut W' (·∈before)) (hold:∀ b,b<W.heap.size->W'.heap[b]? = W.heap[b]?)
  (hok:∀ (j:Nat) (t:TypeId) (r:Value),f.resultTypes[j]? = some t->(v.resultList f.resultTypes.size)[j]? = some r->Value.okWide P W' .any 0 t r) :
  s.post en P f apart fresh handsOn again W args v W':=by
 have hin:∀ p∈before,(λ b=>decide (b<W.heap.size)) p.block=true:=λ p hp=>by simpa using hW.lt p hp
 have hlt:=hW.lt
 refine ⟨ds,gs,before,[],pa,pv,hW,hres _ _ _,hargs _ hin,hvars _ hin,World.keptBut_mono (λ p hp=>⟨hp,?_⟩) hk,λ _=>?_⟩
 ·rw [hps,List.mem_append] at hp
  exact Or.inr hp
 ·obtain ⟨_,_,_,_,_,hz,hn⟩:=hW
  refine ⟨hok,_,_,([]++pa)++pv,⟨[]++pa,pv,trodAll_append (hargs _ (λ _ _=>rfl)) (hres _ _ _),hvars _ (λ _ _=>rfl),rfl,?_,?_⟩,?_⟩
  ·intro b off hp
   have hp:MemPlace.cell b off∈before:=by rw [hps];simpa using hp
   have:=hz b off hp
   simp only [World.frozen?,hold b (hlt _ hp)] at this ⊢
   exact this
  ·intro ha
   have:=hn ha
   rw [hps] at this
   simpa using this
  ·intro p hp _
   rw [hps]
   simpa using hp
theorem SJ (hl:laidOutB P=true) (hr:P.readableRec t=true) (hrow:t<P.types.size) (h:DataW.Trod en P W 0 (λ _=>true) true t v d ps) (hb:∀ p∈ps,p.block<W.heap.size) {sp:Nat->Bool} (hs:∀ p∈ps,sp p.block=true) (hold:∀ b,b<W.heap.size->W'.heap[b]? = W.heap[b]?):DataW.Trod en P W' 0 sp true t v d ps:=by
 refine WideElems.Trod_stays hl hr hrow h (λ p hp=>?_) hs
 have:=hb p hp
 cases p with
 | cell b o=>exact World.cell?_of_block (w:=W) (hold b this)
 | map b=>exact hold b this
end Go.AI
end
section
namespace Go.AI
open Go.Proofs Go.ChangeShapes Go.WideShapes Go.ChangeAt Go.RowKit
def okI (k:IntKind) (n:Int):Prop:=(Lit.int k n).wf=true
theorem rd5:J3 Try.prog 5 eU8 (okI .u8):=OY Try.underlying5
theorem Sf:J3 Try.prog 25 (J2 eU8) (λ x=>okI .u8 x.a0/\okI .u8 x.a1):=by
 intro H e w base spare held fuel cs x h
 obtain ⟨m,hcl,hg⟩:=I7 Try.underlying25 h
 have hcl:cs.length=2:=hcl.trans (by kernel_rfl)
 obtain ⟨a0,k0,c0⟩:=Q3 hg 0 rfl 0 1 (by kernel_rfl) rfl rd5
 obtain ⟨a1,k1,c1⟩:=Q3 hg 1 rfl 1 1 (by kernel_rfl) rfl rd5
 refine ⟨⟨a0,a1⟩,⟨k0,k1⟩,?_⟩
 have:=Fv c0 rfl (Fv c1 rfl (NN (Nat.le_of_eq hcl)))
 exact this
theorem VX:J3 Try.prog 43 (U9 (J2 eU8)) (λ x=>(okI .u8 x.a0.a0/\okI .u8 x.a0.a1)/\(okI .u8 x.a1.a0/\okI .u8 x.a1.a1)/\(okI .u8 x.a2.a0/\okI .u8 x.a2.a1)):=by
 intro H e w base spare held fuel cs x h
 obtain ⟨m,hcl,hg⟩:=I7 Try.underlying43 h
 have hcl:cs.length=6:=hcl.trans (by kernel_rfl)
 obtain ⟨a0,k0,c0⟩:=Q3 hg 0 rfl 0 2 (by kernel_rfl) rfl Sf
 obtain ⟨a1,k1,c1⟩:=Q3 hg 1 rfl 2 2 (by kernel_rfl) rfl Sf
 obtain ⟨a2,k2,c2⟩:=Q3 hg 2 rfl 4 2 (by kernel_rfl) rfl Sf
 refine ⟨⟨a0,a1,a2⟩,⟨k0,k1,k2⟩,?_⟩
 have:=Fv c0 rfl (Fv c1 rfl (Fv c2 rfl (NN (Nat.le_of_eq hcl))))
 exact this
end Go.AI
end
section
namespace Go.AI
def Le {α:Type} (a b:Option α):Prop:=∀ z,a=some z->b=some z
theorem Le.refl {α:Type} (a:Option α):Le a a:=λ _ h=>h
theorem Le.bind {α β:Type} {a a':Option α} {f f':α->Option β} (h:Le a a') (hf:∀ x,Le (f x) (f' x)):Le (a.bind f) (a'.bind f'):=by
 intro z hz
 obtain ⟨x,h1,h2⟩:=bind_some hz
 rw [h x h1]
 exact hf x z h2
theorem Le.ite {α:Type} {c:Prop} [Decidable c] {a a' b b':Option α} (h:Le a a') (h':Le b b'):Le (if c then a else b) (if c then a' else b'):=by
 split
 ·exact h
 ·exact h'
theorem Le.whl {σ ρ:Type} {body body':σ->Option (σ⊕ρ)} (hb:∀ x,Le (body x) (body' x)):∀ {n m:Nat},n<=m->∀ x,Le (whl body n x) (whl body' m x):=by
 intro n
 induction n with
 | zero=>intro m _ x z hz;cases hz
 | succ n ih=>
  intro m hm x z hz
  cases m with
  | zero=>omega
  | succ m=>
   simp only [Go.AI.whl] at hz ⊢
   cases hx:body x with
   | none=>rw [hx] at hz;cases hz
   | some y=>
    rw [hb x y hx]
    rw [hx] at hz
    cases y with
    | inl y=>exact ih (by omega) y z hz
    | inr r=>exact hz
def Ev {α:Type} (f:Nat->Option α) (z:α):Prop:=∃ n,∀ m,n<=m->f m=some z
theorem Ev.const {α:Type} {z:α}:Ev (λ _=>some z) z:=⟨0,λ _ _=>rfl⟩
theorem Ev.of {α:Type} {f:Nat->Option α} {z:α} (hm:∀ n m,n<=m->Le (f n) (f m)) {n:Nat} (h:f n=some z):Ev f z:=⟨n,λ m hnm=>hm n m hnm z h⟩
theorem Ev.all {α:Type} {f:Nat->Option α} {z:α} (h:∀ n,f n=some z):Ev f z:=⟨0,λ m _=>h m⟩
theorem Ev.bind {α β:Type} {f:Nat->Option α} {g:Nat->α->Option β} {x:α} {z:β} (h:Ev f x) (hg:Ev (λ n=>g n x) z):Ev (λ n=>(f n).bind (g n)) z:=by
 obtain ⟨n,hn⟩:=h
 obtain ⟨m,hm⟩:=hg
 refine ⟨max n m,λ k hk=>?_⟩
 show (f k).bind (g k)=_
 rw [hn k (by omega)]
 exact hm k (by omega)
theorem Ev.out {α:Type} {f:Nat->Option α} {z:α} (h:Ev f z):∃ n,f n=some z:=by
 obtain ⟨n,hn⟩:=h
 exact ⟨n,hn n (V9 n)⟩
theorem Ev.congr {α:Type} {f g:Nat->Option α} {z:α} (h:Ev f z) (e:∀ n,g n=f n):Ev g z:=by
 obtain ⟨n,hn⟩:=h
 exact ⟨n,λ m hm=>by rw [e m];exact hn m hm⟩
theorem Ev.whl {σ ρ:Type} {body:Nat->σ->Option (σ⊕ρ)} {r:ρ} (I:Nat->σ->Prop) (h:∀ k x,I k x->(∃ y j,j<k/\I j y/\Ev (λ n=>body n x) (.inl y))\/Ev (λ n=>body n x) (.inr r)):∀ (k:Nat) (x:σ),I k x->Ev (λ n=>Go.AI.whl (body n) n x) r:=by
 have key:∀ (k:Nat) (x:σ),I k x->∃ N c,∀ n fuel,N<=n->c<=fuel->Go.AI.whl (body n) fuel x=some r:=by
  intro k
  induction k using Nat.strongRecOn with
  | _ k ih=>
   intro x hx
   rcases h k x hx with ⟨y,j,hj,hy,N1,h1⟩|⟨N1,h1⟩
   ·obtain ⟨N2,c,h2⟩:=ih j hj y hy
    refine ⟨max N1 N2,c+1,λ n fuel hn hf=>?_⟩
    cases fuel with
    | zero=>omega
    | succ fuel=>
     have e:=h1 n (by omega)
     simp only at e
     simp only [Go.AI.whl,e]
     exact h2 n fuel (by omega) (by omega)
   ·refine ⟨N1,1,λ n fuel hn hf=>?_⟩
    cases fuel with
    | zero=>omega
    | succ fuel=>
     have e:=h1 n hn
     simp only at e
     simp only [Go.AI.whl,e]
 intro k x hx
 obtain ⟨N,c,hh⟩:=key k x hx
 exact ⟨max N c,λ m hm=>hh m m (by omega) (by omega)⟩
end Go.AI
end
section
namespace Go.AI
def Tot {α:Type} (f:Nat->Option α) (P:α->Prop):Prop:=∃ z,P z/\Ev f z
def Rd2 {σ ρ:Type} (I:σ->Prop) (P:ρ->Prop):σ⊕ρ->Prop
 | .inl y=>I y
 | .inr r=>P r
variable {α β σ ρ:Type} {P R:α->Prop}
theorem Tot.ev {f:Nat->Option α} {z:α} (h:Tot f (λ x=>x=z)):Ev f z:=by obtain ⟨_,rfl,h⟩:=h;exact h
theorem Ev.tot {f:Nat->Option α} {z:α} (h:Ev f z) (hp:P z):Tot f P:=⟨z,hp,h⟩
theorem Tot.pure {z:α} (h:P z):Tot (λ _=>some z) P:=⟨z,h,Ev.const⟩
theorem Tot.all {f:Nat->Option α} {z:α} (h:∀ n,f n=some z) (hp:P z):Tot f P:=⟨z,hp,Ev.all h⟩
theorem Tot.mono {f:Nat->Option α} (h:Tot f R) (hp:∀ x,R x->P x):Tot f P:=by obtain ⟨z,hz,h⟩:=h;exact ⟨z,hp z hz,h⟩
theorem Tot.bind {f:Nat->Option β} {g:Nat->β->Option α} {R:β->Prop} (h:Tot f R) (k:∀ x,R x->Tot (λ n=>g n x) P):Tot (λ n=>(f n).bind (g n)) P:=by
 obtain ⟨x,hx,h⟩:=h
 obtain ⟨z,hz,h'⟩:=k x hx
 exact ⟨z,hz,Ev.bind h h'⟩
theorem Tot.bindE {f:Nat->Option β} {g:Nat->β->Option α} {x:β} (h:Ev f x) (k:Tot (λ n=>g n x) P):Tot (λ n=>(f n).bind (g n)) P:=by
 obtain ⟨z,hz,h'⟩:=k
 exact ⟨z,hz,Ev.bind h h'⟩
theorem Tot.bindC {x:Option β} {y:β} {g:Nat->β->Option α} (h:x=some y) (k:Tot (λ n=>g n y) P):Tot (λ n=>x.bind (g n)) P:=by subst h;exact k
theorem Tot.bindA {f:Nat->Option β} {y:β} {g:Nat->β->Option α} (h:∀ n,f n=some y) (k:Tot (λ n=>g n y) P):Tot (λ n=>(f n).bind (g n)) P:=Tot.bindE (Ev.all h) k
theorem Tot.ite {c:Bool} {a b:Nat->Option α} (h1:c=true->Tot a P) (h2:c=false->Tot b P):Tot (λ n=>if c=true then a n else b n) P:=by
 cases c with
 | true=>exact h1 rfl
 | false=>exact h2 rfl
theorem Tot.iteT {c:Bool} {a b:Nat->Option α} (h:c=true) (k:Tot a P):Tot (λ n=>if c=true then a n else b n) P:=by subst h;exact k
theorem Tot.iteF {c:Bool} {a b:Nat->Option α} (h:c=false) (k:Tot b P):Tot (λ n=>if c=true then a n else b n) P:=by subst h;exact k
theorem Tot.guard {c:Bool} {f:Nat->Option β} {d:β} {g:Nat->β->Option α} {R:β->Prop} (h:c=true->Tot f R) (k:∀ x,(c=true->R x)->Tot (λ n=>g n x) P):Tot (λ n=>(if c=true then f n else some d).bind (g n)) P:=by
 cases c with
 | true=>exact Tot.bind (h rfl) λ x hx=>k x λ _=>hx
 | false=>exact k d λ h=>by cases h
theorem Tot.congr {f g:Nat->Option α} (h:Tot f P) (e:∀ n,g n=f n):Tot g P:=by obtain ⟨z,hz,h⟩:=h;exact ⟨z,hz,h.congr e⟩
theorem Tot.whl {body:Nat->σ->Option (σ⊕ρ)} {P:ρ->Prop} (I:Nat->σ->Prop) (h:∀ k x,I k x->Tot (λ n=>body n x) (Rd2 (λ y=>∃ j,j<k/\I j y) P)):∀ (k:Nat) (x:σ),I k x->Tot (λ n=>Go.AI.whl (body n) n x) P:=by
 have key:∀ (k:Nat) (x:σ),I k x->∃ r,P r/\∃ N c,∀ n fuel,N<=n->c<=fuel->Go.AI.whl (body n) fuel x=some r:=by
  intro k
  induction k using Nat.strongRecOn with
  | _ k ih=>
   intro x hx
   obtain ⟨z,hz,N1,h1⟩:=h k x hx
   cases z with
   | inl y=>
    obtain ⟨j,hj,hy⟩:=hz
    obtain ⟨r,hr,N2,c,h2⟩:=ih j hj y hy
    refine ⟨r,hr,max N1 N2,c+1,λ n fuel hn hf=>?_⟩
    cases fuel with
    | zero=>omega
    | succ fuel=>
     have e:=h1 n (by omega)
     simp only at e
     simp only [Go.AI.whl,e]
     exact h2 n fuel (by omega) (by omega)
   | inr r=>
    refine ⟨r,hz,N1,1,λ n fuel hn hf=>?_⟩
    cases fuel with
    | zero=>omega
    | succ fuel=>
     have e:=h1 n hn
     simp only at e
     simp only [Go.AI.whl,e]
 intro k x hx
 obtain ⟨r,hr,N,c,hh⟩:=key k x hx
 exact ⟨r,hr,max N c,λ m hm=>hh m m (by omega) (by omega)⟩
theorem Tot.upto {body:Nat->σ->Option (σ⊕ρ)} {P:ρ->Prop} (N:Nat) (I:Nat->σ->Prop)
  (step:∀ i x,i<N->I i x->Tot (λ n=>body n x) (Rd2 (I (i+1)) P))
  (last:∀ x,I N x->Tot (λ n=>body n x) (Rd2 (λ _=>False) P)) (x:σ) (h0:I 0 x):Tot (λ n=>Go.AI.whl (body n) n x) P:=by
 refine Tot.whl (body:=body) (λ k x=>∃ i,i<=N/\k=N-i/\I i x) ?_ N x ⟨0,by omega,by omega,h0⟩
 rintro k x ⟨i,hi,rfl,hx⟩
 rcases Wa i N with hlt|hge
 ·refine (step i x hlt hx).mono λ z hz=>?_
  cases z with
  | inl y=>exact ⟨N-(i+1),by omega,i+1,by omega,rfl,hz⟩
  | inr r=>exact hz
 ·have:i=N:=by omega
  subst this
  refine (last x hx).mono λ z hz=>?_
  cases z with
  | inl y=>exact hz.elim
  | inr r=>exact hz
theorem Uf {l:List α} {i:Nat} {x:α} (h:l[i]? = some x):idx l (i:Int)=some x:=by
 unfold idx
 rw [if_pos (by omega)]
 simpa using h
theorem F7 {l:List α} {i:Nat} (h:i<l.length):idx l (i:Int)=some l[i]:=Uf (Wh h)
theorem Q5 {eb:Nat} {xs ys:List α} (h:(xs.length+ys.length)*eb<=70368744177664):app eb xs ys=some (xs++ys):=by
 unfold app;rw [if_pos h]
theorem Ug {l:List α} {i:Nat} {y:α} (h:i<l.length):put l (i:Int) y=some (l.set i y):=by
 unfold put;rw [if_pos (by omega),Int.toNat_natCast]
end Go.AI
end
section
namespace Go.AI
theorem Sg (a:Int):IntKind.i64.wrap a=if decide (a % 18446744073709551616>=9223372036854775808)=true then a % 18446744073709551616-18446744073709551616 else a % 18446744073709551616:=rfl
theorem w64 {a:Int} (h:-9223372036854775808<=a) (h':a<9223372036854775808):IntKind.i64.wrap a=a:=by
 rw [Sg]
 simp only [decide_eq_true_eq]
 split<;>omega
theorem I8 {a b:Int} (h:-9223372036854775808<=a+b) (h':a+b<9223372036854775808):Bt .i64 a b=a+b:=w64 h h'
theorem Fw {a b:Int} (h:-9223372036854775808<=a-b) (h':a-b<9223372036854775808):Bd .i64 a b=a-b:=w64 h h'
theorem Hy {a b:Int} (h:-9223372036854775808<=a*b) (h':a*b<9223372036854775808):Bu .i64 a b=a*b:=w64 h h'
theorem Cg {i:Nat} (h:i<9223372036854775807):Bt .i64 (i:Int) 1=((i+1:Nat):Int):=by rw [I8]<;>omega
theorem Dv {a m:Int} (h:0<=a) (hm:0<m):CL a m=a % m/\0<=CL a m/\CL a m<m:=by
 have e:CL a m=a % m:=by unfold CL;rw [Int.tmod_eq_emod_of_nonneg h]
 rw [e];exact ⟨rfl,Int.emod_nonneg _ (by omega),Int.emod_lt_of_pos _ hm⟩
variable {α β σ ρ:Type}
theorem Vf [Inhabited α] {l:List α} {i:Int} (h:0<=i) (h':i<l.length):idx l i=some (l.getD i.toNat default):=by
 unfold idx
 rw [if_pos h,List.getD_eq_getElem?_getD,Wh (by omega)];rfl
theorem Dj [Inhabited α] {l:List α} {i:Nat} (h:i<l.length):idx l (i:Int)=some (l.getD i default):=by
 rw [Vf (by omega) (by omega),Int.toNat_natCast]
theorem Q6:Bv true=some ():=rfl
theorem Dw {b:Bool} (h:b=true):Bv b=some ():=by subst h;rfl
theorem Ni {body:σ->Option (σ⊕ρ)} {r:ρ} (st:Nat->σ) (k:Nat) (step:∀ i,i<k->body (st i)=some (.inl (st (i+1)))) (last:body (st k)=some (.inr r)):∀ n,k<n->whl body n (st 0)=some r:=by
 have key:∀ (j n i:Nat),i+j=k->j<n->whl body n (st i)=some r:=by
  intro j
  induction j with
  | zero=>
   intro n i hi hn
   cases n with
   | zero=>omega
   | succ n=>
    have:i=k:=by omega
    subst this;simp only [whl,last]
  | succ j ih=>
   intro n i hi hn
   cases n with
   | zero=>omega
   | succ n=>simp only [whl,step i (by omega)];exact ih n (i+1) (by omega) (by omega)
 intro n hn
 exact key k n 0 (by omega) hn
theorem Ev.to {body:Nat->σ->Option (σ⊕ρ)} {r:ρ} (st:Nat->σ) (k:Nat) (h:∃ N,∀ n,N<=n->(∀ i,i<k->body n (st i)=some (.inl (st (i+1))))/\body n (st k)=some (.inr r)):Ev (λ n=>Go.AI.whl (body n) n (st 0)) r:=by
 obtain ⟨N,h⟩:=h
 exact ⟨max N (k+1),λ n hn=>Ni st k (h n (by omega)).1 (h n (by omega)).2 n (by omega)⟩
def DY (N:Nat) (stop:Nat->Option ρ) (d:ρ):ρ:=((List.range N).findSome? stop).getD d
theorem O2 {N:Nat} {stop:Nat->Option ρ} {d:ρ} (h:∀ i,i<N->stop i=none):DY N stop d=d:=by
 unfold DY
 rw [List.findSome?_eq_none_iff.2 λ i hi=>h i (List.mem_range.1 hi)];rfl
theorem O3 {N:Nat} {stop:Nat->Option ρ} {d r:ρ} (k:Nat) (hk:k<N) (hr:stop k=some r) (h:∀ i,i<k->stop i=none):DY N stop d=r:=by
 unfold DY
 have:(List.range N).findSome? stop=some r:=by
  have e:List.range N=List.range k++(List.range (N-k)).map (k+·):=by rw [← List.range_add];congr 1;omega
  rw [e,List.findSome?_append,List.findSome?_eq_none_iff.2 λ i hi=>h i (List.mem_range.1 hi)]
  have:N-k=(N-k-1)+1:=by omega
  rw [this,List.range_succ_eq_map]
  simp [hr]
 rw [this];rfl
theorem Jy (N:Nat) (stop:Nat->Option ρ) (d:ρ):((∀ i,i<N->stop i=none)/\DY N stop d=d)\/∃ k r,k<N/\stop k=some r/\(∀ i,i<k->stop i=none)/\DY N stop d=r:=by
 by_cases h:∀ i,i<N->stop i=none
 ·exact .inl ⟨h,O2 h⟩
 ·right
  have hex:∃ k,k<N/\stop k≠none:=by
   apply Classical.byContradiction
   intro hh
   exact h λ i hi=>Classical.byContradiction λ hn=>hh ⟨i,hi,hn⟩
  have key:∀ m,(∃ k,k<m/\k<N/\stop k≠none)->∃ k,k<N/\stop k≠none/\∀ i,i<k->stop i=none:=by
   intro m
   induction m with
   | zero=>rintro ⟨k,hk,_⟩;omega
   | succ m ih=>
    rintro ⟨k,hk,h1,h2⟩
    by_cases hm:∃ k,k<m/\k<N/\stop k≠none
    ·exact ih hm
    ·refine ⟨k,h1,h2,λ i hi=>Classical.byContradiction λ hn=>hm ⟨i,by omega,by omega,hn⟩⟩
  obtain ⟨k0,h1,h2⟩:=hex
  obtain ⟨k,h3,h4,h5⟩:=key (k0+1) ⟨k0,by omega,h1,h2⟩
  obtain ⟨r,hr⟩:=Option.ne_none_iff_exists'.1 h4
  exact ⟨k,r,h3,hr,h5,O3 k h3 hr h5⟩
theorem O4 {body:Int->Option (Int⊕ρ)} {N:Nat} (stop:Nat->Option ρ) {d:ρ} (h1:∀ i,i<N->body (i:Int)=some (match stop i with|some r=>.inr r|none=>.inl ((i+1:Nat):Int))) (h2:body (N:Int)=some (.inr d)):∀ n,N<n->whl body n 0=some (DY N stop d):=by
 intro n hn
 rcases Jy N stop d with ⟨h,e⟩|⟨k,r,hk,hr,h,e⟩
 ·rw [e]
  exact Ni (λ i=>(i:Int)) N (λ i hi=>by rw [h1 i hi,h i hi]) h2 n hn
 ·rw [e]
  exact Ni (λ i=>(i:Int)) k (λ i hi=>by rw [h1 i (by omega),h i hi]) (by rw [h1 k hk,hr]) n (by omega)
theorem Ev.first {body:Nat->Int->Option (Int⊕ρ)} {N:Nat} (stop:Nat->Option ρ) {d:ρ} (h:∃ M,∀ n,M<=n->(∀ i,i<N->body n (i:Int)=some (match stop i with|some r=>.inr r|none=>.inl ((i+1:Nat):Int)))/\body n (N:Int)=some (.inr d)):Ev (λ n=>Go.AI.whl (body n) n 0) (DY N stop d):=by
 obtain ⟨M,h⟩:=h
 exact ⟨max M (N+1),λ n hn=>O4 stop (h n (by omega)).1 (h n (by omega)).2 n (by omega)⟩
theorem Tot.gE {P:α->Prop} {c:Bool} {f:Nat->Option β} {d x:β} {g:Nat->β->Option α} (hc:c=true) (h:Ev f x) (k:Tot (λ n=>g n x) P):Tot (λ n=>(if c=true then f n else some d).bind (g n)) P:=by
 subst hc;exact Tot.bindE h k
theorem Tot.gF {P:α->Prop} {c:Bool} {f:Nat->Option β} {d:β} {g:Nat->β->Option α} (hc:c=false) (k:Tot (λ n=>g n d) P):Tot (λ n=>(if c=true then f n else some d).bind (g n)) P:=by
 subst hc;exact k
theorem Ev.many {f:Nat->Nat->Option α} {z:Nat->α} (N:Nat) (h:∀ i,i<N->Ev (λ n=>f n i) (z i)):∃ M,∀ n,M<=n->∀ i,i<N->f n i=some (z i):=by
 induction N with
 | zero=>exact ⟨0,λ n _ i hi=>by omega⟩
 | succ N ih=>
  obtain ⟨M1,h1⟩:=ih λ i hi=>h i (by omega)
  obtain ⟨M2,h2⟩:=h N (by omega)
  exact ⟨max M1 M2,λ n hn i hi=>by
   by_cases e:i=N
   ·subst e;exact h2 n (by omega)
   ·exact h1 n (by omega) i (by omega)⟩
end Go.AI
end
section
namespace Go.AI
def Nr (p:Aa):Prop:=(-1000<=p.X/\p.X<=1000)/\-1000<=p.Y/\p.Y<=1000
theorem Sh {a b:Int} (A B:Int) (h1:-A<=a) (h2:a<=A) (h3:-B<=b) (h4:b<=B):-(A*B)<=a*b/\a*b<=A*B:=by
 have hA:a.natAbs<=A.toNat:=by omega
 have hB:b.natAbs<=B.toNat:=by omega
 have h:=Nat.mul_le_mul hA hB
 rw [← Int.natAbs_mul] at h
 have e:((A.toNat*B.toNat:Nat):Int)=A*B:=by
  rw [Int.natCast_mul,Int.toNat_of_nonneg (by omega),Int.toNat_of_nonneg (by omega)]
 omega
theorem O5 (P:List Aa) {i:Nat} (h:i<P.length):P.getD i default∈P:=by
 rw [List.getD_eq_getElem?_getD,Wh h]
 exact V7 _
def Fx (a b:Aa):Nat:=max (a.X-b.X).natAbs (a.Y-b.Y).natAbs
def btw (a b:Int) (k n:Nat):Int:=(2*(a*n+k*(b-a))+n) / (2*n)
def ptL (a b:Aa) (k:Nat):Aa:=⟨btw a.X b.X k (Fx a b),btw a.Y b.Y k (Fx a b)⟩
def DZ (a b:Aa):List Aa:=if Fx a b=0 then [a] else (List.range (Fx a b+1)).map (ptL a b)
theorem KR {a b:Aa} (ha:Nr a) (hb:Nr b):Fx a b<=2000:=by
 unfold Fx;unfold Nr at ha hb;omega
theorem O6 {a d:Int} (hd:0<d):(if decide (CL a d<0)=true then a.tdiv d-1 else a.tdiv d)=a / d:=by
 unfold CL
 have h1:=Int.mul_tdiv_add_tmod a d
 have h2:=Int.mul_ediv_add_emod a d
 have h3:=Int.emod_nonneg a (show d≠0 by omega)
 have h4:=Int.emod_lt_of_pos a hd
 rcases Int.lt_or_le a 0 with ha|ha
 ·have h5:a.tmod d<=0:=by
   have:=Int.tmod_nonneg d (a:=-a) (by omega)
   rw [Int.neg_tmod] at this
   omega
  have h6:-d<a.tmod d:=by
   have:=Int.lt_tmod_of_pos a hd
   omega
  split
  ·rename_i h
   have h:=of_decide_eq_true h
   refine Eq.symm (Int.ediv_eq_iff_of_pos hd |>.2 ?_)
   have:d*(a.tdiv d-1)=d*a.tdiv d-d:=by rw [Int.mul_sub,Int.mul_one]
   constructor
   ·rw [Int.mul_comm];omega
   ·rw [Int.mul_comm];omega
  ·rename_i h
   have h:¬a.tmod d<0:=λ hh=>h (decide_eq_true hh)
   refine Eq.symm (Int.ediv_eq_iff_of_pos hd |>.2 ?_)
   constructor
   ·rw [Int.mul_comm];omega
   ·rw [Int.mul_comm];omega
 ·have h5:=Int.tmod_nonneg d ha
  rw [if_neg (by simpa using h5)]
  exact Int.tdiv_eq_ediv_of_nonneg ha
theorem Uh {a b:Int} {k n:Nat} (ha:-1000<=a) (ha':a<=1000) (hb:-1000<=b) (hb':b<=1000) (hk:k<=2000) (hn:n<=2000) :
  (Bu .i64 a n=a*n/\Bd .i64 b a=b-a/\Bu .i64 k (b-a)=k*(b-a)/\Bt .i64 (a*n) (k*(b-a))=a*n+k*(b-a) /\
  Bu .i64 2 (a*n+k*(b-a))=2*(a*n+k*(b-a))/\Bt .i64 (2*(a*n+k*(b-a))) n=2*(a*n+k*(b-a))+n/\Bu .i64 2 n=2*n) /\
  -20000000<=2*(a*n+k*(b-a))+n/\2*(a*n+k*(b-a))+n<=20000000:=by
 have h1:=Sh (a:=a) (b:=n) 1000 2000 ha ha' (by omega) (by omega)
 have h2:=Sh (a:=k) (b:=b-a) 2000 2000 (by omega) (by omega) (by omega) (by omega)
 exact ⟨⟨Hy (by omega) (by omega),Fw (by omega) (by omega),Hy (by omega) (by omega),I8 (by omega) (by omega),Hy (by omega) (by omega),I8 (by omega) (by omega),Hy (by omega) (by omega)⟩,by omega,by omega⟩
theorem Ui {a d:Int} (h:-20000000<=a) (h':a<=20000000):-20000000<=a.tdiv d/\a.tdiv d<=20000000:=by
 have:=Int.natAbs_tdiv_le_natAbs a d
 omega
theorem I9 (m:Nat) {a b:Int} {k n:Nat} (ha:-1000<=a) (ha':a<=1000) (hb:-1000<=b) (hb':b<=1000) (hk:k<=2000) (hn:n<=2000) (h0:0<n) :
  Dd m a b k n=some (btw a b k n):=by
 obtain ⟨⟨e1,e2,e3,e4,e5,e6,e7⟩,l1,l2⟩:=Uh ha ha' hb hb' hk hn
 unfold Dd CH btw
 rw [e1,e2,e3,e4,e5,e6,e7]
 have hz:(!(2*(n:Int)==0))=true:=by simp;omega
 rw [hz]
 have q:=Ui (d:=2*n) l1 l2
 have e8:PP .i64 (2*(a*n+k*(b-a))+n) (2*n)=(2*(a*n+k*(b-a))+n).tdiv (2*n):=w64 (by omega) (by omega)
 rw [e8,Fw (by omega) (by omega)]
 have:=O6 (a:=2*(a*n+k*(b-a))+n) (d:=2*n) (by omega)
 rw [← this]
 simp only [Q6,Option.bind_some]
 split<;>rfl
theorem Q7 (m:Nat) {a b:Aa} (ha:Nr a) (hb:Nr b):FE m a b=some ((Fx a b:Nat):Int):=by
 unfold Nr at ha hb
 have ab:∀ x:Int,-2000<=x->x<=2000->Gv m x=some ((x.natAbs:Nat):Int):=by
  intro x h h'
  unfold Gv OG
  rw [w64 (a:=0-x) (by omega) (by omega)]
  split<;>rename_i hx<;>simp at hx<;>congr 1<;>omega
 unfold FE Fx
 rw [Fw (a:=a.X) (by omega) (by omega),Fw (a:=a.Y) (by omega) (by omega),ab _ (by omega) (by omega),ab _ (by omega) (by omega)]
 simp only [Option.bind_some]
 congr 1
 split<;>omega
theorem Si {l:List Aa} (hl:l.length<=1000) (h:∀ p∈l,Nr p):Ev (λ n=>IT n l) true:=by
 refine Tot.ev (Tot.bind (R:=λ y=>y=.inl ()) (Tot.upto l.length (λ i (x:Int)=>x=(i:Int)) ?_ ?_ 0 rfl) λ y hy=>by subst hy;exact Tot.pure rfl)
 ·rintro i _ hi rfl
  unfold DP
  refine Tot.iteT (decide_eq_true (by omega)) (Tot.bindC (Dj hi) (Tot.iteF ?_ (Tot.pure ?_)))
  ·have:=h _ (O5 l hi)
   unfold Nr at this
   simp only [Bool.or_eq_false_iff,decide_eq_false_iff_not]
   omega
  ·exact Cg (by omega)
 ·rintro _ rfl
  unfold DP
  exact Tot.iteF (decide_eq_false (by omega)) (Tot.pure rfl)
theorem Ja {α:Type} (f:Nat->α) (i:Nat):(List.range (i+1)).map f=(List.range i).map f++[f i]:=by
 rw [List.range_succ,List.map_append];rfl
theorem Sj {a b:Aa} (ha:Nr a) (hb:Nr b):Ev (λ n=>IU n a b) (DZ a b):=by
 have hf:=KR ha hb
 have ha':=ha
 have hb':=hb
 unfold Nr at ha' hb'
 refine Tot.ev (Tot.bindE (Si (l:=[a,b]) (by simp) (by simp [ha,hb])) (Tot.iteF rfl (Tot.bindA (λ n=>Q7 n ha hb) ?_)))
 unfold DZ
 by_cases h0:Fx a b=0
 ·rw [if_pos h0,h0]
  exact Tot.iteT rfl (Tot.pure rfl)
 ·rw [if_neg h0]
  refine Tot.iteF (by simpa using h0) ?_
  refine Tot.bindC (y:=[]) ?_ ?_
  ·unfold mkc
   rw [I8 (by omega) (by omega),if_pos (by omega)];rfl
  ·refine Tot.bind (R:=λ y=>y=(List.range (Fx a b+1)).map (ptL a b)) (Tot.upto (Fx a b+1) (λ i (x:List Aa×Int)=>x.2=(i:Int)/\x.1=(List.range i).map (ptL a b)) ?_ ?_ _ ⟨rfl,rfl⟩) λ y hy=>Tot.pure hy
   ·rintro i ⟨l,k⟩ hi ⟨hk,hl⟩
    simp only at hk hl
    subst hk hl
    unfold DQ
    have e:Bt .i64 ((Fx a b:Nat):Int) 1=((Fx a b+1:Nat):Int):=Cg (by omega)
    refine Tot.iteT (decide_eq_true (by omega)) (Tot.bindA (λ n=>I9 n (by omega) (by omega) (by omega) (by omega) (by omega) hf (by omega)) (Tot.bindA (λ n=>I9 n (by omega) (by omega) (by omega) (by omega) (by omega) hf (by omega)) (Tot.bindC (Q5 ?_) (Tot.pure ⟨Cg (by omega),?_⟩))))
    ·simp;omega
    ·rw [Ja];rfl
   ·rintro ⟨l,k⟩ ⟨hk,hl⟩
    simp only at hk hl
    subst hk hl
    unfold DQ
    have e:Bt .i64 ((Fx a b:Nat):Int) 1=((Fx a b+1:Nat):Int):=Cg (by omega)
    exact Tot.iteF (decide_eq_false (by omega)) (Tot.pure rfl)
theorem Mc (a b:Aa):(DZ a b).length=Fx a b+1:=by
 unfold DZ
 split
 ·rename_i h;rw [h];rfl
 ·simp
def In (m n:Aa) (p:Aa):Prop:=(m.X<=p.X/\p.X<=n.X)/\m.Y<=p.Y/\p.Y<=n.Y
def mvG (t p:Aa):Aa:=⟨p.X+t.X,p.Y+t.Y⟩
end Go.AI
end
section
namespace Go.AI
def crS (a b q:Aa):Int:=(q.Y-a.Y)*(b.X-a.X)-(q.X-a.X)*(b.Y-a.Y)
def OnP (a b q:Aa):Prop:=crS a b q=0/\(min a.X b.X<=q.X/\q.X<=max a.X b.X)/\min a.Y b.Y<=q.Y/\q.Y<=max a.Y b.Y
instance (a b q:Aa):Decidable (OnP a b q):=by unfold OnP;infer_instance
def psS (a b q:Aa):Bool:=(decide (a.Y<=q.Y) != decide (b.Y<=q.Y))&&(bif decide (a.Y<b.Y) then decide (0<crS a b q) else decide (crS a b q<0))
def sd (P:List Aa) (i:Nat):Aa×Aa:=(P.getD i default,P.getD ((i+1) % P.length) default)
def onB (P:List Aa) (q:Aa) (i:Nat):Bool:=decide (OnP (sd P i).1 (sd P i).2 q)
def psB (P:List Aa) (q:Aa) (i:Nat):Bool:=psS (sd P i).1 (sd P i).2 q
def Jz (P:List Aa) (q:Aa) (i:Nat):Nat:=(List.range i).countP (psB P q)
def D7 (P:List Aa) (q:Aa):Bool:=(List.range P.length).any (onB P q)||decide (Jz P q P.length % 2=1)
theorem ET (a b q:Aa):crS b a q=-crS a b q:=by
 unfold crS
 have e1:q.Y-b.Y=(q.Y-a.Y)-(b.Y-a.Y):=by omega
 have e2:q.X-b.X=(q.X-a.X)-(b.X-a.X):=by omega
 have e3:a.X-b.X=-(b.X-a.X):=by omega
 have e4:a.Y-b.Y=-(b.Y-a.Y):=by omega
 rw [e1,e2,e3,e4]
 generalize q.Y-a.Y=u
 generalize q.X-a.X=v
 generalize b.X-a.X=s
 generalize b.Y-a.Y=r
 rw [Int.mul_neg,Int.mul_neg,Int.sub_mul,Int.sub_mul,Int.mul_comm r s]
 omega
theorem SK (x y:Bool):(x != y)=(y != x):=by cases x<;>cases y<;>rfl
theorem FG {a b q:Aa} (h:OnP a b q):OnP b a q:=by
 obtain ⟨h1,h2,h3⟩:=h
 refine ⟨by rw [ET,h1];rfl,?_,?_⟩<;>omega
theorem KT (a b q:Aa):psS b a q=psS a b q:=by
 unfold psS
 rw [ET]
 rcases Int.lt_trichotomy a.Y b.Y with h|h|h
 ·rw [decide_eq_true h,decide_eq_false (p:=b.Y<a.Y) (by omega),SK]
  have:decide (-crS a b q<0)=decide (0<crS a b q):=decide_eq_decide.2 (by omega)
  rw [cond_true,cond_false,this]
 ·rw [h];simp
 ·rw [decide_eq_true h,decide_eq_false (p:=a.Y<b.Y) (by omega),SK]
  have:decide (0 < -crS a b q)=decide (crS a b q<0):=decide_eq_decide.2 (by omega)
  rw [cond_true,cond_false,this]
theorem Vg {a b q:Aa} (ha:Nr a) (hb:Nr b) (hq:Nr q) :
  (-4000000<=(q.Y-a.Y)*(b.X-a.X)/\(q.Y-a.Y)*(b.X-a.X)<=4000000)/\-4000000<=(q.X-a.X)*(b.Y-a.Y)/\(q.X-a.X)*(b.Y-a.Y)<=4000000:=by
 unfold Nr at ha hb hq
 have h1:=Sh (a:=q.Y-a.Y) (b:=b.X-a.X) 2000 2000 (by omega) (by omega) (by omega) (by omega)
 have h2:=Sh (a:=q.X-a.X) (b:=b.Y-a.Y) 2000 2000 (by omega) (by omega) (by omega) (by omega)
 omega
theorem Q8 {a b q:Aa} (ha:Nr a) (hb:Nr b) (hq:Nr q) :
  (Bd .i64 b.X a.X=b.X-a.X/\Bd .i64 b.Y a.Y=b.Y-a.Y/\Bd .i64 q.X a.X=q.X-a.X/\Bd .i64 q.Y a.Y=q.Y-a.Y) /\
  Bu .i64 (q.Y-a.Y) (b.X-a.X)=(q.Y-a.Y)*(b.X-a.X)/\Bu .i64 (q.X-a.X) (b.Y-a.Y)=(q.X-a.X)*(b.Y-a.Y) /\
  Bu .i64 (b.X-a.X) (q.Y-a.Y)=(q.Y-a.Y)*(b.X-a.X)/\Bu .i64 (b.Y-a.Y) (q.X-a.X)=(q.X-a.X)*(b.Y-a.Y) /\
  Bd .i64 ((q.Y-a.Y)*(b.X-a.X)) ((q.X-a.X)*(b.Y-a.Y))=crS a b q:=by
 obtain ⟨h1,h2⟩:=Vg ha hb hq
 have e1:=Int.mul_comm (q.Y-a.Y) (b.X-a.X)
 have e2:=Int.mul_comm (q.X-a.X) (b.Y-a.Y)
 unfold Nr at ha hb hq
 exact ⟨⟨Fw (by omega) (by omega),Fw (by omega) (by omega),Fw (by omega) (by omega),Fw (by omega) (by omega)⟩,Hy (by omega) (by omega),Hy (by omega) (by omega),(Hy (by omega) (by omega)).trans e1.symm,(Hy (by omega) (by omega)).trans e2.symm,Fw (by omega) (by omega)⟩
theorem Vh (n:Nat) {a b q:Aa} (ha:Nr a) (hb:Nr b) (hq:Nr q):KO n a b q=some (decide (OnP a b q)):=by
 obtain ⟨⟨e1,e2,e3,e4⟩,e5,e6,e7,e8,e9⟩:=Q8 ha hb hq
 unfold KO
 rw [e1,e2,e3,e4,e7,e8]
 have hA:(q.Y-a.Y)*(b.X-a.X)=(q.X-a.X)*(b.Y-a.Y)↔crS a b q=0:=by unfold crS;omega
 split
 ·rename_i h
  simp only [Bool.and_true,Wx,Wi,beq_iff_eq] at h
  congr 1
  symm
  rw [decide_eq_true_eq]
  unfold OnP
  rw [← hA]
  rcases h with ⟨h1,h2⟩|⟨h1,h2⟩
  ·rw [h1,h2]
   refine ⟨by simp,by omega,by omega⟩
  ·rw [h1,h2]
   refine ⟨Int.mul_comm _ _,by omega,by omega⟩
 ·split
  ·rename_i h
   congr 1
   symm
   rw [decide_eq_false_iff_not]
   simp only [bne_iff_ne,ne_eq] at h
   exact λ hh=>h (hA.2 hh.1)
  ·rename_i h
   congr 1
   have h:(q.Y-a.Y)*(b.X-a.X)=(q.X-a.X)*(b.Y-a.Y):=by simpa using h
   rw [Bool.eq_iff_iff,decide_eq_true_eq]
   simp only [Wi,decide_eq_true_eq]
   unfold OnP
   have hB:(if b.X<a.X then b.X else a.X)=min a.X b.X:=by split<;>omega
   have hC:(if b.X>a.X then b.X else a.X)=max a.X b.X:=by split<;>omega
   have hD:(if b.Y<a.Y then b.Y else a.Y)=min a.Y b.Y:=by split<;>omega
   have hE:(if b.Y>a.Y then b.Y else a.Y)=max a.Y b.Y:=by split<;>omega
   rw [hB,hC,hD,hE]
   constructor
   ·rintro ⟨⟨⟨h1,h2⟩,h3⟩,h4⟩;exact ⟨hA.1 h,⟨h1,h2⟩,h3,h4⟩
   ·rintro ⟨_,⟨h1,h2⟩,h3,h4⟩;exact ⟨⟨⟨h1,h2⟩,h3⟩,h4⟩
theorem O7 (n:Nat) {a b q:Aa} (ha:Nr a) (hb:Nr b) (hq:Nr q):EN n a b q=some (psS a b q):=by
 obtain ⟨⟨e1,e2,e3,e4⟩,e5,e6,e7,e8,e9⟩:=Q8 ha hb hq
 unfold EN psS
 rw [e1,e2,e3,e4,e5,e6]
 have h1:decide ((q.Y-a.Y)*(b.X-a.X)>(q.X-a.X)*(b.Y-a.Y))=decide (0<crS a b q):=decide_eq_decide.2 (by unfold crS;omega)
 have h2:decide ((q.Y-a.Y)*(b.X-a.X)<(q.X-a.X)*(b.Y-a.Y))=decide (crS a b q<0):=decide_eq_decide.2 (by unfold crS;omega)
 rw [h1,h2]
 have h3:decide (b.Y>a.Y)=decide (a.Y<b.Y):=rfl
 rw [h3,bne]
 cases (decide (a.Y<=q.Y)==decide (b.Y<=q.Y))<;>cases decide (a.Y<b.Y)<;>rfl
theorem VY {N:Nat} (h:N≠0):(!(((N:Nat):Int)==0))=true:=by
 rw [Bool.not_eq_true'];exact beq_eq_false_iff_ne.2 (by omega)
theorem Uj {i N:Nat} (hi:i<N) (hN:N<=1000):CL (Bt .i64 (i:Int) 1) ((N:Nat):Int)=(((i+1) % N:Nat):Int):=by
 rw [Cg (by omega),(Dv (by omega) (by omega)).1]
 omega
theorem Md {P:List Aa} (h:∀ p∈P,Nr p) {i:Nat} (hi:i<P.length):Nr (sd P i).1/\Nr (sd P i).2:=
 ⟨h _ (O5 P hi),h _ (O5 P (Nat.mod_lt _ (by omega)))⟩
theorem Fy (P:List Aa) (q:Aa) (i:Nat):Jz P q (i+1)=Jz P q i+(if psB P q i=true then 1 else 0):=by
 unfold Jz
 rw [List.range_succ,List.countP_append,List.countP_singleton]
theorem Q9 {n:Nat}:(!decide (n % 2=1))=decide ((n+1) % 2=1):=by
 rw [Bool.eq_iff_iff];simp;omega
theorem G3 {P:List Aa} {q:Aa} (hl:P.length<=1000) (h:∀ p∈P,Nr p) (hq:Nr q):Ev (λ n=>Br n P q) (D7 P q):=by
 refine Tot.ev (Tot.bind (R:=λ y=>y=if (List.range P.length).any (onB P q)=true then .inr true else .inl (decide (Jz P q P.length % 2=1)))
  (Tot.upto P.length (λ i (x:Bool×Int)=>x.2=(i:Int)/\x.1=decide (Jz P q i % 2=1)/\∀ j,j<i->onB P q j=false) ?_ ?_ _ ⟨rfl,rfl,λ j hj=>by omega⟩) λ y hy=>?_)
 ·rintro i ⟨o,x⟩ hi ⟨h1,h2,h3⟩
  simp only at h1 h2
  subst h1 h2
  unfold C0
  obtain ⟨n1,n2⟩:=Md h hi
  have e:idx P (CL (Bt .i64 (i:Int) 1) ((P.length:Nat):Int))=some (sd P i).2:=by
   rw [Uj hi hl];exact Dj (Nat.mod_lt _ (by omega))
  refine Tot.iteT (decide_eq_true (by omega)) (Tot.bindC (Dj hi) (Tot.bindC (Dw (VY (by omega))) (Tot.bindC e (Tot.bindA (λ n=>Vh n n1 n2 hq) (Tot.ite (λ ho=>Tot.pure ?_) λ ho=>Tot.bindA (λ n=>O7 n n1 n2 hq) ?_)))))
  ·show _=_
   rw [if_pos]
   exact List.any_eq_true.2 ⟨i,List.mem_range.2 hi,ho⟩
  ·have hj:∀ j,j<i+1->onB P q j=false:=λ j hj=>by
    rcases Nat.lt_succ_iff_lt_or_eq.1 hj with hj|rfl
    ·exact h3 j hj
    ·exact ho
   unfold CZ
   refine Tot.ite (λ hp=>Tot.pure ⟨Cg (by omega),?_,hj⟩) λ hp=>Tot.pure ⟨Cg (by omega),?_,hj⟩
   ·have hp:psB P q i=true:=hp
    rw [Fy,if_pos hp];exact Q9
   ·have hp:psB P q i=false:=hp
    rw [Fy,hp];rfl
 ·rintro ⟨o,x⟩ ⟨h1,h2,h3⟩
  simp only at h1 h2
  subst h1 h2
  unfold C0
  refine Tot.iteF (decide_eq_false (by omega)) (Tot.pure ?_)
  show _=_
  rw [if_neg]
  intro hh
  obtain ⟨j,hj,hh⟩:=List.any_eq_true.1 hh
  rw [h3 j (List.mem_range.1 hj)] at hh
  cases hh
 ·subst hy
  unfold D7
  cases (List.range P.length).any (onB P q) with
  | true=>exact Tot.pure rfl
  | false=>exact Tot.pure rfl
theorem Vi (x y z:Bool) (c:Nat) (h:c % 2=if (x != y)=true then 1 else 0):(c+if (y != z)=true then 1 else 0) % 2=if (x != z)=true then 1 else 0:=by
 cases x<;>cases y<;>cases z<;>simp at h ⊢<;>omega
theorem Vj (x y:Bool) (c:Nat) (h:c % 2=if (x != y)=true then 1 else 0):(c+if (y != x)=true then 1 else 0) % 2=0:=by
 cases x<;>cases y<;>simp at h ⊢<;>omega
theorem SL (f:Nat->Bool):∀ m:Nat,((List.range m).countP λ i=>f i != f (i+1)) % 2=if (f 0 != f m)=true then 1 else 0
 | 0=>by simp
 | m+1=>by
  rw [List.range_succ,List.countP_append,List.countP_singleton]
  exact Vi _ _ _ _ (SL f m)
theorem O8 (f:Nat->Bool) (N:Nat):((List.range N).countP λ i=>f i != f ((i+1) % N)) % 2=0:=by
 cases N with
 | zero=>simp
 | succ m=>
  rw [List.range_succ,List.countP_append,List.countP_singleton]
  have e:(List.range m).countP (λ i=>f i != f ((i+1) % (m+1)))=(List.range m).countP (λ i=>f i != f (i+1)):=by
   refine List.countP_congr λ i hi=>?_
   rw [Nat.mod_eq_of_lt (by have:=List.mem_range.1 hi;omega)]
  rw [e,Nat.mod_self]
  exact Vj _ _ _ (SL f m)
theorem Ra {a b q:Aa} (ha:a.X<q.X) (hb:b.X<q.X):psS a b q=false:=by
 cases h:psS a b q with
 | false=>rfl
 | true=>
  exfalso
  unfold psS at h
  rw [Wi] at h
  obtain ⟨h1,h2⟩:=h
  have hm:∀ {u v w z:Int},0<=u->u<=w->0<w->v<z->0<z->u*v<z*w:=by
   intro u v w z h1 h2 h3 h4 h5
   rcases Int.lt_or_le 0 u with hu|hu
   ·have e1:u*v<u*z:=Int.mul_lt_mul_of_pos_left h4 hu
    have e2:u*z<=w*z:=Int.mul_le_mul_of_nonneg_right h2 (by omega)
    rw [Int.mul_comm z w];omega
   ·have:u=0:=by omega
    rw [this,Int.zero_mul];exact Int.mul_pos h5 h3
  rcases Int.lt_or_le a.Y b.Y with hy|hy
  ·rw [decide_eq_true hy,cond_true,decide_eq_true_eq] at h2
   unfold crS at h2
   have hq1:a.Y<=q.Y:=by
    refine Int.le_of_not_gt λ hh=>?_
    rw [decide_eq_false (by omega),decide_eq_false (by omega)] at h1;cases h1
   have hq2:q.Y<b.Y:=by
    refine Int.lt_of_not_ge λ hh=>?_
    rw [decide_eq_true hq1,decide_eq_true (by omega)] at h1;cases h1
   have:=hm (u:=q.Y-a.Y) (v:=b.X-a.X) (w:=b.Y-a.Y) (z:=q.X-a.X) (by omega) (by omega) (by omega) (by omega) (by omega)
   omega
  ·rw [decide_eq_false (by omega),cond_false,decide_eq_true_eq] at h2
   have hs:=ET a b q
   have hq1:b.Y<=q.Y:=by
    refine Int.le_of_not_gt λ hh=>?_
    rw [decide_eq_false (by omega),decide_eq_false (by omega)] at h1;cases h1
   have hq2:q.Y<a.Y:=by
    refine Int.lt_of_not_ge λ hh=>?_
    rw [decide_eq_true (by omega),decide_eq_true (by omega)] at h1;cases h1
   have:=hm (u:=q.Y-b.Y) (v:=a.X-b.X) (w:=a.Y-b.Y) (z:=q.X-b.X) (by omega) (by omega) (by omega) (by omega) (by omega)
   unfold crS at hs h2
   omega
theorem Sk {a b q:Aa} (ha:q.X<a.X) (hb:q.X<b.X):psS a b q=(decide (a.Y<=q.Y) != decide (b.Y<=q.Y)):=by
 unfold psS
 cases h1:(decide (a.Y<=q.Y) != decide (b.Y<=q.Y)) with
 | false=>rfl
 | true=>
  rw [Bool.true_and]
  have hm:∀ {u v w z:Int},0<=u->u<w->-z<v->0<z->0<u*v+z*w:=by
   intro u v w z h1 h2 h3 h4
   have e1:u*(-z)<=u*v:=Int.mul_le_mul_of_nonneg_left (by omega) h1
   have e2:u*z<w*z:=Int.mul_lt_mul_of_pos_right h2 h4
   rw [Int.mul_neg] at e1
   rw [Int.mul_comm z w];omega
  rcases Int.lt_or_le a.Y b.Y with hy|hy
  ·rw [decide_eq_true hy,cond_true,decide_eq_true_eq]
   have hq1:a.Y<=q.Y:=by
    refine Int.le_of_not_gt λ hh=>?_
    rw [decide_eq_false (by omega),decide_eq_false (by omega)] at h1;cases h1
   have hq2:q.Y<b.Y:=by
    refine Int.lt_of_not_ge λ hh=>?_
    rw [decide_eq_true hq1,decide_eq_true (by omega)] at h1;cases h1
   have:=hm (u:=q.Y-a.Y) (v:=b.X-a.X) (w:=b.Y-a.Y) (z:=a.X-q.X) (by omega) (by omega) (by omega) (by omega)
   unfold crS
   have e:q.X-a.X=-(a.X-q.X):=by omega
   rw [e,Int.neg_mul]
   omega
  ·rw [decide_eq_false (by omega),cond_false,decide_eq_true_eq]
   have hs:=ET a b q
   have hq1:b.Y<=q.Y:=by
    refine Int.le_of_not_gt λ hh=>?_
    rw [decide_eq_false (by omega),decide_eq_false (by omega)] at h1;cases h1
   have hq2:q.Y<a.Y:=by
    refine Int.lt_of_not_ge λ hh=>?_
    rw [decide_eq_true (by omega),decide_eq_true (by omega)] at h1;cases h1
   have:=hm (u:=q.Y-b.Y) (v:=a.X-b.X) (w:=a.Y-b.Y) (z:=b.X-q.X) (by omega) (by omega) (by omega) (by omega)
   have e:crS b a q=(q.Y-b.Y)*(a.X-b.X)+(b.X-q.X)*(a.Y-b.Y):=by
    unfold crS
    have e:q.X-b.X=-(b.X-q.X):=by omega
    rw [e,Int.neg_mul]
    omega
   omega
theorem Rb {P:List Aa} {q m n:Aa} (h:∀ p∈P,In m n p) (hq:D7 P q=true):In m n q:=by
 unfold D7 at hq
 rw [Wx,List.any_eq_true,decide_eq_true_eq] at hq
 have hs:∀ i,i<P.length->In m n (sd P i).1/\In m n (sd P i).2:=λ i hi=>⟨h _ (O5 P hi),h _ (O5 P (Nat.mod_lt _ (by omega)))⟩
 rcases hq with ⟨i,hi,hq⟩|hq
 ·have hi:=List.mem_range.1 hi
  obtain ⟨h1,h2⟩:=hs i hi
  have hq:=(of_decide_eq_true hq).2
  unfold In at *
  omega
 ·have hex:∃ i,i<P.length/\psB P q i=true:=by
   refine Classical.byContradiction λ hh=>?_
   have:Jz P q P.length=0:=List.countP_eq_zero.2 λ i hi hp=>hh ⟨i,List.mem_range.1 hi,hp⟩
   omega
  obtain ⟨i,hi,hp⟩:=hex
  obtain ⟨h1,h2⟩:=hs i hi
  have hY:m.Y<=q.Y/\q.Y<=n.Y:=by
   unfold psB psS at hp
   rw [Wi] at hp
   have hp:=hp.1
   unfold In at h1 h2
   constructor
   ·refine Int.le_of_not_gt λ hh=>?_
    rw [decide_eq_false (by omega),decide_eq_false (by omega)] at hp;cases hp
   ·refine Int.le_of_not_gt λ hh=>?_
    rw [decide_eq_true (by omega),decide_eq_true (by omega)] at hp;cases hp
  have hX:m.X<=q.X:=by
   refine Int.le_of_not_gt λ hh=>?_
   have e:Jz P q P.length=(List.range P.length).countP λ i=>(λ j=>decide ((P.getD j default).Y<=q.Y)) i != (λ j=>decide ((P.getD j default).Y<=q.Y)) ((i+1) % P.length):=by
    refine List.countP_congr λ i hi=>?_
    obtain ⟨h1,h2⟩:=hs i (List.mem_range.1 hi)
    unfold In at h1 h2
    unfold psB
    rw [Sk (by omega) (by omega)]
    exact Iff.rfl
   rw [e,O8] at hq
   cases hq
  have hX':q.X<=n.X:=by
   refine Int.le_of_not_gt λ hh=>?_
   unfold In at h1 h2
   unfold psB at hp
   rw [Ra (by omega) (by omega)] at hp
   cases hp
  exact ⟨⟨hX,hX'⟩,hY⟩
end Go.AI
end
section
namespace Go.AI
def ltG (p q:Aa):Prop:=p.Y<q.Y\/(p.Y=q.Y/\p.X<q.X)
instance (p q:Aa):Decidable (ltG p q):=by unfold ltG;infer_instance
def ltB (p q:Aa):Bool:=decide (ltG p q)
theorem EU (p:Aa):¬ltG p p:=by unfold ltG;omega
theorem G4 {p q r:Aa} (h:ltG p q) (h':ltG q r):ltG p r:=by unfold ltG at *;omega
theorem KU {p q:Aa} (h:¬ltG p q) (h':¬ltG q p):p=q:=by
 unfold ltG at *
 cases p;cases q;simp only [Aa.mk.injEq] at *;omega
def Inc (l:List Aa):Prop:=l.Pairwise ltG
theorem Inc.nodup {l:List Aa} (h:Inc l):l.Nodup:=h.imp λ {a b} h e=>by subst e;exact EU _ h
theorem Inc.uniq {l m:List Aa} (h:Inc l) (h':Inc m) (e:∀ p,p∈l↔p∈m):l=m:=
 ((List.perm_ext_iff_of_nodup h.nodup h'.nodup).2 e).eq_of_pairwise (le:=ltG) (λ _ _ _ _ h1 h2=>absurd (G4 h1 h2) (EU _)) h h'
def O9 (a b:Int):Int:=if a<b then -1 else if b<a then 1 else 0
theorem Jb (n:Nat) (a b:Int):BJ n a b=some (O9 a b):=by
 unfold BJ CI O9
 simp only [bne_self_eq_false,Option.bind_some,Ws,if_false,decide_eq_true_eq]
 split
 ·rfl
 ·split<;>rfl
theorem Vk (k:Nat) (a b:Int):DR (k+4) [a,b]=some (if a=0 then b else a):=by
 have s0:B7 (k+4) [a,b] 0=if (a != 0)=true then some (.inr (.inr a)) else some (.inl 1):=rfl
 have s1:B7 (k+4) [a,b] 1=if (b != 0)=true then some (.inr (.inr b)) else some (.inl 2):=rfl
 have s2:B7 (k+4) [a,b] 2=some (.inr (.inl ())):=rfl
 unfold DR
 by_cases ha:a=0
 ·rw [if_neg (by simpa using ha)] at s0
  by_cases hb:b=0
  ·rw [if_neg (by simpa using hb)] at s1
   simp only [Go.AI.whl,s0,s1,s2]
   rw [ha,hb];rfl
  ·rw [if_pos (by simpa using hb)] at s1
   simp only [Go.AI.whl,s0,s1]
   rw [ha];rfl
 ·rw [if_pos (by simpa using ha)] at s0
  simp only [Go.AI.whl,s0]
  rw [if_neg ha];rfl
theorem Rc (k:Nat) (p q:Aa):BE (k+4) p q=some (if O9 p.Y q.Y=0 then O9 p.X q.X else O9 p.Y q.Y):=by
 unfold BE
 rw [Jb,Jb,Option.bind_some,Option.bind_some,Vk];rfl
theorem Fz (k:Nat):ltC (λ x y=>BE (k+4) x y)=ltB:=by
 funext p q
 have e:BE (k+4) p q=some _:=Rc k p q
 unfold ltC ltB
 simp only [e,V6]
 refine decide_eq_decide.2 ?_
 unfold O9 ltG
 split<;>split<;>(try split)<;>(try split)<;>omega
theorem Re (k:Nat):NM (λ x y=>BE (k+4) x y):={
 tot x y:=by show (BE (k+4) x y).isSome=true;rw [Rc];rfl
 irrefl x:=by rw [Fz];exact decide_eq_false (EU x)
 trans x y z:=by rw [Fz];exact λ h h'=>decide_eq_true (G4 (of_decide_eq_true h) (of_decide_eq_true h'))
 ntrans x y z:=by
  rw [Fz]
  intro h h'
  refine decide_eq_false ?_
  have h:=of_decide_eq_false h
  have h':=of_decide_eq_false h'
  unfold ltG at *;omega
 one x y:=by rw [Fz];exact λ h h'=>KU (of_decide_eq_false h) (of_decide_eq_false h') }
def srt (m:List (Aa×Bool)):List Aa:=EL ltB (m.map Prod.fst)
theorem Rf (x y z:Aa) (h:ltB x y=false) (h':ltB y z=false):ltB x z=false:=(Fz 0)▸(Re 0).ntrans x y z ((Fz 0).symm▸h) ((Fz 0).symm▸h')
theorem Rg (x y:Aa) (h:ltB x y=true):ltB y x=false:=decide_eq_false λ h'=>EU _ (G4 (of_decide_eq_true h) h')
theorem Nj {l m:List Aa} (h:l.Perm m):EL ltB l=EL ltB m:=
 List.Perm.eq_of_pairwise (le:=λ a b=>ltB b a=false) (λ _ _ _ _ h1 h2=>KU (of_decide_eq_false h2) (of_decide_eq_false h1)) (Ci Rf Rg l) (Ci Rf Rg m) ((B6 l).trans (h.trans (B6 m).symm))
theorem KW {m:List (Aa×Bool)} (h:(m.map Prod.fst).Nodup):Inc (srt m):=by
 have h1:(srt m).Nodup:=(B6 (lt:=ltB) (m.map Prod.fst)).nodup_iff.2 h
 have h2:=Ci Rf Rg (m.map Prod.fst)
 refine (List.Pairwise.and h2 h1).imp λ {a b} hh=>?_
 have h3:=of_decide_eq_false hh.1
 rcases Classical.em (ltG a b) with h|h
 ·exact h
 ·exact absurd (KU h h3) hh.2
theorem KX {m:List (Aa×Bool)} {p:Aa}:p∈srt m↔p∈m.map Prod.fst:=(B6 (m.map Prod.fst)).mem_iff
theorem HT (m:List (Aa×Bool)):(srt m).length=m.length:=by
 unfold srt
 rw [(B6 (lt:=ltB) (m.map Prod.fst)).length_eq,Wf]
theorem J4 (n:Nat):∀ (ord:List (Aa×Bool)) (x:List Aa),(x.length+ord.length)*16<=70368744177664 ->
  Dh (λ (e:(Aa×Bool)) (x:(List Aa))=>AH n e x) ord x=some (.inl (x++ord.map Prod.fst))
 | [],x,_=>by simp [Dh]
 | e::ord,x,h=>by
  rw [List.length_cons] at h
  have e1:AH n e x=some (.inl (x++[e.1])):=by
   unfold AH EO
   rw [Q5 (by simp;omega)];rfl
  unfold Dh
  rw [e1]
  show Dh _ ord (x++[e.1])=_
  rw [J4 n ord _ (by simp;omega)]
  simp
theorem Pa (k:Nat) {m:List (Aa×Bool)} (hl:m.length<=1000000):Cy (k+4) m=some (srt m):=by
 have h1:∃ S,B0 (k+4) m ([]:List Aa)=some S/\(∀ z,S z->z.Perm (m.map Prod.fst))/\S (m.map Prod.fst):=by
  unfold B0
  have hk:∀ a:List (Aa×Bool),a.Perm m->(Dh (λ (e:(Aa×Bool)) (x:(List Aa))=>AH (k+4) e x) a ([]:List Aa))=some (.inl (a.map Prod.fst)):=λ a ha=>by
   have:=ha.length_eq
   rw [J4 _ _ _ (by simp;omega)];rfl
  refine ⟨_,KL λ a ha=>⟨Jr (a.map Prod.fst),by rw [hk a ha];rfl⟩,?_,?_⟩
  ·rintro z ⟨a,Z,ha,hZ,hz⟩
   rw [hk a ha] at hZ
   obtain rfl:Jr (a.map Prod.fst)=Z:=by simpa using hZ
   rw [show z=a.map Prod.fst from hz]
   exact ha.map _
  ·exact ⟨m,Jr (m.map Prod.fst),.refl _,by rw [hk m (.refl _)];rfl,rfl⟩
 obtain ⟨S1,e1,p1,q1⟩:=h1
 have h2:∃ S,EP (k+4) m=some S/\(∀ z,S z->z.Perm (m.map Prod.fst))/\S (m.map Prod.fst):=by
  unfold EP
  rw [e1]
  refine ⟨_,KL (S:=S1) λ a _=>⟨Jr a,rfl⟩,?_,?_⟩
  ·rintro z ⟨a,Z,ha,hZ,hz⟩
   obtain rfl:Jr a=Z:=by simpa using hZ
   rw [show z=a from hz]
   exact p1 a ha
  ·exact ⟨m.map Prod.fst,_,q1,rfl,rfl⟩
 obtain ⟨S2,e2,p2,q2⟩:=h2
 have h3:∃ S,DS (k+4) m=some S/\(∀ z,S z->z.Perm (m.map Prod.fst))/\S (m.map Prod.fst):=by
  unfold DS
  rw [e2]
  refine ⟨_,KL (S:=S2) λ a _=>⟨Jr a,rfl⟩,?_,?_⟩
  ·rintro z ⟨a,Z,ha,hZ,hz⟩
   obtain rfl:Jr a=Z:=by simpa using hZ
   rw [show z=a from hz]
   exact p2 a ha
  ·exact ⟨m.map Prod.fst,_,q2,rfl,rfl⟩
 obtain ⟨S3,e3,p3,q3⟩:=h3
 have h4:Dq (k+4) m=some (srt m):=by
  unfold Dq
  rw [e3]
  refine Tm (S:=S3) ⟨_,q3⟩ λ r hr=>?_
  have hp:=p3 r hr
  have hlen:=hp.length_eq
  rw [Wf] at hlen
  unfold IV
  rw [Qt (Re k) r (by omega),Fz,Nj hp]
  have:decide (r.length=(srt m).length)=true:=decide_eq_true (by rw [HT];exact hlen)
  show (Bv (decide (r.length=(srt m).length))).bind _=_
  rw [this];rfl
 unfold Cy Di
 rw [Option.bind_some,h4];rfl
theorem G5 {m:List (Aa×Bool)} (hl:m.length<=1000000):Ev (λ n=>Cy n m) (srt m):=
 ⟨4,λ n hn=>by obtain ⟨k,rfl⟩:∃ k,n=k+4:=⟨n-4,by omega⟩;exact Pa k hl⟩
structure KS (m:List (Aa×Bool)) (N:Nat) (S:Aa->Prop):Prop where
 nd:(m.map Prod.fst).Nodup
 len:m.length<=N
 mem:∀ p,p∈m.map Prod.fst↔S p
theorem Jc (k:Aa):∀ (m:List (Aa×Bool)) (p:Aa),p∈(E8 k true m).map Prod.fst↔p∈m.map Prod.fst\/p=k
 | [],p=>by simp [E8]
 | e::m,p=>by
  unfold E8
  split
  ·rename_i h
   simp only [Wg,List.mem_cons]
   rw [← h]
   constructor
   ·rintro (h|h)
    ·exact .inr h
    ·exact .inl (.inr h)
   ·rintro ((h|h)|h)
    ·exact .inl h
    ·exact .inr h
    ·exact .inl h
  ·simp only [Wg,List.mem_cons]
   rw [Jc k m p,or_assoc]
theorem NQ (k:Aa):∀ (m:List (Aa×Bool)),(m.map Prod.fst).Nodup->((E8 k true m).map Prod.fst).Nodup
 | [],_=>by simp [E8]
 | e::m,h=>by
  rw [Wg,List.nodup_cons] at h
  unfold E8
  split
  ·rename_i h1
   rw [Wg,List.nodup_cons,h1];exact h
  ·rename_i h1
   rw [Wg,List.nodup_cons]
   refine ⟨λ hh=>?_,NQ k m h.2⟩
   rcases (Jc k m _).1 hh with hh|hh
   ·exact h.1 hh
   ·exact h1 hh.symm
theorem Me (k:Aa):∀ (m:List (Aa×Bool)),(E8 k true m).length<=m.length+1
 | []=>by simp [E8]
 | e::m=>by
  unfold E8
  split
  ·simp
  ·have:=Me k m
   rw [List.length_cons,List.length_cons];omega
theorem KS.nil {S:Aa->Prop} (h:∀ p,¬S p):KS [] 0 S:=⟨by simp,by simp,λ p=>by simp [h p]⟩
theorem KS.put {m:List (Aa×Bool)} {N:Nat} {S T:Aa->Prop} (h:KS m N S) (k:Aa) (hT:∀ p,T p↔S p\/p=k):KS (E8 k true m) (N+1) T:=
 ⟨NQ k m h.nd,by have:=Me k m;have:=h.len;omega,λ p=>by rw [Jc,h.mem,hT]⟩
theorem KS.to {m:List (Aa×Bool)} {N M:Nat} {S T:Aa->Prop} (h:KS m N S) (hM:N<=M) (hT:∀ p,T p↔S p):KS m M T:=
 ⟨h.nd,by have:=h.len;omega,λ p=>by rw [h.mem,hT]⟩
theorem Rh {a b:Aa} (ha:Nr a) (hb:Nr b) {m:List (Aa×Bool)} {N:Nat} {S:Aa->Prop} (hm:KS m N S) :
  Tot (λ n=>HS n a b m) (λ z=>KS z (N+(DZ a b).length) (λ p=>S p\/p∈DZ a b)):=by
 have hlen:(DZ a b).length<=2001:=by rw [Mc];have:=KR ha hb;omega
 refine Tot.bindE (Sj ha hb) (Tot.bind (R:=λ z=>KS z (N+(DZ a b).length) (λ p=>S p\/p∈DZ a b)) ?_ λ y hy=>Tot.pure hy)
 generalize DZ a b=L at *
 refine Tot.upto L.length (λ i (x:List (Aa×Bool)×Int)=>x.2=(i:Int)/\KS x.1 (N+i) (λ p=>S p\/p∈L.take i)) ?_ ?_ _ ⟨rfl,hm.to (by omega) (by simp)⟩
 ·rintro i ⟨m1,x⟩ hi ⟨h1,h2⟩
  simp only at h1 h2
  subst h1
  unfold EM
  refine Tot.iteT (decide_eq_true (by omega)) (Tot.bindC (F7 hi) (Tot.pure ⟨Cg (by omega),h2.put _ λ p=>?_⟩))
  rw [List.take_succ_eq_append_getElem hi,List.mem_append,List.mem_singleton,or_assoc]
 ·rintro ⟨m1,x⟩ ⟨h1,h2⟩
  simp only at h1 h2
  subst h1
  unfold EM
  exact Tot.iteF (decide_eq_false (by omega)) (Tot.pure (h2.to (by omega) (by simp)))
def lnS (P:List Aa) (i:Nat) (p:Aa):Prop:=∃ j,j<i/\p∈DZ (sd P j).1 (sd P j).2
theorem Mf {P:List Aa} {i:Nat} {p:Aa}:lnS P (i+1) p↔lnS P i p\/p∈DZ (sd P i).1 (sd P i).2:=by
 constructor
 ·rintro ⟨j,hj,h⟩
  rcases Nat.lt_succ_iff_lt_or_eq.1 hj with hj|rfl
  ·exact .inl ⟨j,hj,h⟩
  ·exact .inr h
 ·rintro (⟨j,hj,h⟩|h)
  ·exact ⟨j,by omega,h⟩
  ·exact ⟨i,by omega,h⟩
def lnN (P:List Aa):Nat->Nat
 | 0=>0
 | i+1=>lnN P i+(DZ (sd P i).1 (sd P i).2).length
theorem KY {P:List Aa} (h:∀ p∈P,Nr p):∀ {i:Nat},i<=P.length->lnN P i<=2001*i
 | 0,_=>by simp [lnN]
 | i+1,hi=>by
  have h1:=KY h (i:=i) (by omega)
  obtain ⟨h2,h3⟩:=Md h (show i<P.length by omega)
  have:=KR h2 h3
  unfold lnN
  rw [Mc];omega
theorem Mg {P:List Aa} (hl:P.length<=400) (h:∀ p∈P,Nr p):Tot (λ n=>FF n P) (λ z=>KS z (lnN P (P.length-1)) (lnS P (P.length-1))):=by
 refine Tot.bind (R:=λ z=>KS z (lnN P (P.length-1)) (lnS P (P.length-1))) ?_ λ y hy=>Tot.pure hy
 refine Tot.upto (P.length-1) (λ i (x:List (Aa×Bool)×Int)=>x.2=((i+1:Nat):Int)/\KS x.1 (lnN P i) (lnS P i)) ?_ ?_ _ ⟨rfl,KS.nil λ p ⟨j,hj,_⟩=>by omega⟩
 ·rintro i ⟨m1,x⟩ hi ⟨h1,h2⟩
  simp only at h1 h2
  subst h1
  unfold Dp
  have e:Bd .i64 ((i+1:Nat):Int) 1=((i:Nat):Int):=(Fw (by omega) (by omega)).trans (by omega)
  obtain ⟨n1,n2⟩:=Md h (show i<P.length by omega)
  have e2:(sd P i).2=P.getD (i+1) default:=by
   show P.getD ((i+1) % P.length) default=_
   rw [Nat.mod_eq_of_lt (by omega)]
  refine Tot.iteT (decide_eq_true (by omega)) (Tot.bindC (y:=(sd P i).1) (by rw [e];exact Dj (by omega)) (Tot.bindC (y:=(sd P i).2) (by rw [e2];exact Dj (by omega)) (Tot.bind (Rh n1 n2 h2) λ y hy=>Tot.pure ⟨Cg (by omega),hy.to (V9 _) λ p=>Mf⟩)))
 ·rintro ⟨m1,x⟩ ⟨h1,h2⟩
  simp only at h1 h2
  subst h1
  unfold Dp
  exact Tot.iteF (decide_eq_false (by omega)) (Tot.pure h2)
theorem J5 {P:List Aa} (hl:P.length<=400) (h:∀ p∈P,Nr p):Tot (λ n=>EQ n P) (λ z=>KS z (lnN P P.length) (lnS P P.length)):=by
 refine Tot.bind (Mg hl h) λ m hm=>?_
 cases hP:P with
 | nil=>subst hP;exact Tot.iteF rfl (Tot.pure hm)
 | cons a r=>
  rw [← hP]
  obtain ⟨N,hN⟩:∃ N,P.length=N+1:=⟨P.length-1,by rw [hP];simp⟩
  have e:Bd .i64 ((P.length:Nat):Int) 1=((N:Nat):Int):=(Fw (by omega) (by omega)).trans (by omega)
  obtain ⟨n1,n2⟩:=Md h (show N<P.length by omega)
  have e2:(sd P N).2=P.getD 0 default:=by
   show P.getD ((N+1) % P.length) default=_
   rw [hN,Nat.mod_self]
  have e3:P.length-1=N:=by omega
  rw [e3] at hm
  refine Tot.iteT (decide_eq_true (by omega)) (Tot.bindC (y:=(sd P N).1) (by rw [e];exact Dj (by omega)) (Tot.bindC (y:=(sd P N).2) (by rw [e2];exact Dj (i:=0) (by omega)) (Tot.bind (Rh n1 n2 hm) λ y hy=>Tot.pure ?_)))
  rw [hN]
  exact hy.to (V9 _) λ p=>Mf
end Go.AI
end
section
namespace Go.AI
def Bx (p:Aa):Prop:=(0<=p.X/\p.X<60)/\0<=p.Y/\p.Y<60
theorem Bx.nr {p:Aa} (h:Bx p):Nr p:=by unfold Bx at h;unfold Nr;omega
theorem Uk (a b:Aa):((a.X==b.X)&&((a.Y==b.Y)&&true))=decide (a=b):=by
 cases a;cases b
 rw [Bool.eq_iff_iff]
 simp
theorem Sl {a b:List Aa} (ha:a.length<=1000000):Ev (λ n=>Ej n a b) (decide (a=b)):=by
 refine Tot.ev (Tot.ite (λ h=>Tot.pure ?_) λ h=>?_)
 ·symm
  refine decide_eq_false λ e=>?_
  subst e
  simp at h
 ·have hlen:a.length=b.length:=by
   simp only [bne_eq_false_iff_eq] at h
   omega
  refine Tot.bind (R:=λ y=>y=if a=b then .inl () else .inr false) ?_ λ y hy=>?_
  ·refine Tot.upto a.length (λ i (x:Int)=>x=(i:Int)/\∀ j,j<i->a[j]? = b[j]?) ?_ ?_ _ ⟨rfl,λ j hj=>by omega⟩
   ·rintro i _ hi ⟨rfl,hj⟩
    unfold Dr
    refine Tot.iteT (decide_eq_true (by omega)) (Tot.bindC (F7 hi) (Tot.bindC (F7 (show i<b.length by omega)) ?_))
    rw [Uk]
    refine Tot.ite (λ hb=>Tot.pure ?_) λ hb=>Tot.pure ⟨Cg (by omega),λ j hj'=>?_⟩
    ·show _=_
     rw [if_neg]
     intro e
     subst e
     simp at hb
    ·rcases Nat.lt_succ_iff_lt_or_eq.1 hj' with h|rfl
     ·exact hj j h
     ·simp at hb
      rw [Wh hi,Wh (show j<b.length by omega),hb]
   ·rintro _ ⟨rfl,hj⟩
    unfold Dr
    refine Tot.iteF (decide_eq_false (by omega)) (Tot.pure ?_)
    show _=_
    rw [if_pos]
    refine List.ext_getElem? λ j=>?_
    rcases Wa j a.length with h|h
    ·exact hj j h
    ·rw [List.getElem?_eq_none h,List.getElem?_eq_none (by omega)]
  ·subst hy
   split
   ·rename_i heq
    split at heq
    ·rename_i e;exact Tot.pure (by rw [decide_eq_true e])
    ·cases heq
   ·rename_i heq
    split at heq
    ·cases heq
    ·rename_i e;cases heq;exact Tot.pure (by rw [decide_eq_false e])
end Go.AI
end
section
namespace Go.AI
instance (p:Aa):Decidable (Bx p):=by unfold Bx;infer_instance
def Hz (f:Ak):Bool:=
 if (f.Kind==1)=true then decide (f.P.length=1)&&(f.Texture==0)
 else if (f.Kind==2)=true then decide (f.P.length>=2)&&(f.Texture==0)
 else if (f.Kind==3)=true then (decide (f.P.length>=3)&&decide (f.Texture>=0))&&decide (f.Texture<=3)
 else false
def Jd (f:Ak):Bool:=if (∀ p∈f.P,Bx p)/\f.P.length<=12 then Hz f else false
theorem Vl {f:Ak} (h:(∀ p∈f.P,Bx p)/\f.P.length<=12):Jd f=Hz f:=if_pos h
theorem Vm {f:Ak} (h:¬((∀ p∈f.P,Bx p)/\f.P.length<=12)):Jd f=false:=if_neg h
theorem J6 {f:Ak} (h:f.P.length=0):Hz f=false:=by
 unfold Hz
 rw [h]
 split
 ·rfl
 ·split
  ·rfl
  ·split<;>rfl
theorem Pb {f:Ak}:Tot (λ _=>if (f.Kind==1)=true then
    some ((((f.P.length:Nat):Int)==1)&&(f.Texture==0))
   else
    if (f.Kind==2)=true then
     some ((decide (((f.P.length:Nat):Int)>=2))&&(f.Texture==0))
    else
     if (f.Kind==3)=true then
      some (((decide (((f.P.length:Nat):Int)>=3))&&(decide (f.Texture>=0)))&&(decide (f.Texture<=3)))
     else
      some false) (λ y=>y=Hz f):=by
 have e1:(((f.P.length:Nat):Int)==1)=decide (f.P.length=1):=by rw [Bool.eq_iff_iff];simp;omega
 have e2:decide (((f.P.length:Nat):Int)>=2)=decide (f.P.length>=2):=decide_eq_decide.2 (by omega)
 have e3:decide (((f.P.length:Nat):Int)>=3)=decide (f.P.length>=3):=decide_eq_decide.2 (by omega)
 rw [e1,e2,e3]
 unfold Hz
 cases (f.Kind==1) with
 | true=>exact Tot.pure rfl
 | false=>
  cases (f.Kind==2) with
  | true=>exact Tot.pure rfl
  | false=>
   cases (f.Kind==3) with
   | true=>exact Tot.pure rfl
   | false=>exact Tot.pure rfl
theorem GC (f:Ak):Ev (λ n=>BU n f) (Jd f):=by
 refine Tot.ev (Tot.ite (λ h=>Tot.pure ?_) λ h=>?_)
 ·rw [Wx,decide_eq_true_eq,decide_eq_true_eq] at h
  unfold Jd
  split
  ·rw [J6 (by omega)]
  ·rfl
 ·rw [Bool.or_eq_false_iff,decide_eq_false_iff_not,decide_eq_false_iff_not] at h
  refine Tot.bind (R:=λ y=>y=if (∀ p∈f.P,Bx p) then .inl () else .inr false) ?_ λ y hy=>?_
  ·refine Tot.upto f.P.length (λ i (x:Int)=>x=(i:Int)/\∀ p∈f.P.take i,Bx p) ?_ ?_ _ ⟨rfl,by simp⟩
   ·rintro i _ hi ⟨rfl,hj⟩
    unfold Do
    refine Tot.iteT (decide_eq_true (by omega)) (Tot.bindC (F7 hi) (Tot.ite (λ hb=>Tot.pure ?_) λ hb=>Tot.pure ⟨Cg (by omega),?_⟩))
    ·show _=_
     rw [if_neg]
     intro hh
     have:=hh _ (V7 hi)
     simp only [Wx,decide_eq_true_eq] at hb
     unfold Bx at this
     omega
    ·rw [List.take_succ_eq_append_getElem hi]
     intro p hp
     rw [List.mem_append,List.mem_singleton] at hp
     rcases hp with hp|rfl
     ·exact hj p hp
     ·simp only [Bool.or_eq_false_iff,decide_eq_false_iff_not] at hb
      unfold Bx;omega
   ·rintro _ ⟨rfl,hj⟩
    unfold Do
    refine Tot.iteF (decide_eq_false (by omega)) (Tot.pure ?_)
    show _=_
    rw [List.take_length] at hj
    rw [if_pos hj]
  ·subst hy
   by_cases hh:∀ p∈f.P,Bx p
   ·rw [if_pos hh,Vl ⟨hh,by omega⟩]
    exact Pb
   ·rw [if_neg hh,Vm (λ h=>hh h.1)]
    exact Tot.pure rfl
def G6 (k:Int) (p:Aa):Bool:=((k==3)||((k==2)&&(p.Y % 2==0)))||((k==1)&&((p.X+p.Y) % 2==0))
theorem Ul (n:Nat) {k:Int} (h:0<=k) (h':k<=3):DT n k=some (46+k.toNat):=by
 unfold DT
 rcases (by omega:k=0\/k=1\/k=2\/k=3) with rfl|rfl|rfl|rfl<;>rfl
theorem Sn (n:Nat) {k:Int} (h:0<=k) (h':k<=3) {p:Aa} (hp:Bx p):Gw n (46+k.toNat) p=some (G6 k p):=by
 unfold Bx at hp
 have e1:Cj n p=some ((p.X+p.Y) % 2==0):=by
  unfold Cj
  rw [I8 (by omega) (by omega),(Dv (a:=p.X+p.Y) (by omega) (by omega)).1]
 have e2:Ck n p=some (p.Y % 2==0):=by
  unfold Ck
  rw [(Dv (a:=p.Y) (by omega) (by omega)).1]
 rcases (by omega:k=0\/k=1\/k=2\/k=3) with rfl|rfl|rfl|rfl
 ·rfl
 ·show Cj n p=_
  rw [e1];rfl
 ·show Ck n p=_
  rw [e2];unfold G6;simp
 ·rfl
def arS (P:List Aa) (k:Int) (p:Aa):Prop:=lnS P P.length p\/(G6 k p=true/\D7 P p=true)
theorem Um {f:Ak} {d:List (Aa×Bool)} (h:∀ p∈f.P,Bx p) (hl:f.P.length<=12) (h0:0<f.P.length) :
  Tot (λ n=>whl (λ (x:(Aa×Aa×Int))=>Cl n f d x.1 x.2.1 x.2.2) n (f.P.getD 0 default,f.P.getD 0 default,0)) (λ y=>(Bx y.1/\Bx y.2)/\∀ p∈f.P,In y.1 y.2 p):=by
 have hb:=h _ (O5 f.P h0)
 refine Tot.upto f.P.length (λ i (x:Aa×Aa×Int)=>x.2.2=(i:Int)/\(Bx x.1/\Bx x.2.1)/\∀ p∈f.P.take i,In x.1 x.2.1 p) ?_ ?_ _ ⟨rfl,⟨hb,hb⟩,by simp⟩
 ·rintro i ⟨lo,hi,x⟩ hi' ⟨h1,h2,h3⟩
  simp only at h1 h2 h3
  subst h1
  unfold Cl
  refine Tot.iteT (decide_eq_true (by show (i:Int)<(f.P.length:Int);omega)) (Tot.bindC (F7 hi') (Tot.pure ⟨Cg (by omega),?_,?_⟩))
  ·have:=h _ (V7 hi')
   unfold Bx at h2 this ⊢
   simp only
   omega
  ·rw [List.take_succ_eq_append_getElem hi']
   intro p hp
   rw [List.mem_append,List.mem_singleton] at hp
   rcases hp with hp|rfl
   ·have:=h3 p hp
    unfold In at this ⊢
    simp only
    omega
   ·unfold In;simp only;omega
 ·rintro ⟨lo,hi,x⟩ ⟨h1,h2,h3⟩
  simp only at h1 h2 h3
  subst h1
  unfold Cl
  refine Tot.iteF (decide_eq_false (by show ¬((f.P.length:Int)<(f.P.length:Int));omega)) (Tot.pure ⟨h2,?_⟩)
  rw [List.take_length] at h3
  exact h3
theorem So {f:Ak} (hv:Jd f=true) (hk:f.Kind=1):Ev (λ n=>Bh n f) [f.P.getD 0 default]:=by
 refine Tot.ev (Tot.bindE (GC f) (Tot.iteF (by rw [hv];rfl) (Tot.iteT (by rw [hk];rfl) (Tot.bindC (y:=f.P.getD 0 default) ?_ (Tot.pure rfl)))))
 refine Dj (i:=0) ?_
 unfold Jd at hv
 split at hv
 ·exact Nat.pos_of_ne_zero λ h=>by rw [J6 h] at hv;cases hv
 ·cases hv
theorem Ri {f:Ak} (hv:Jd f=true):(∀ p∈f.P,Bx p)/\f.P.length<=12/\Hz f=true:=by
 unfold Jd at hv
 split at hv
 ·rename_i h;exact ⟨h.1,h.2,hv⟩
 ·cases hv
theorem Sp {f:Ak} (hv:Jd f=true) (hk:f.Kind=2) :
  Tot (λ n=>Bh n f) (λ r=>Inc r/\r.length<=lnN f.P (f.P.length-1)/\∀ p,p∈r↔lnS f.P (f.P.length-1) p):=by
 obtain ⟨hb,hl,_⟩:=Ri hv
 refine Tot.bindE (GC f) (Tot.iteF (by rw [hv];rfl) (Tot.iteF (by rw [hk];rfl) (Tot.iteT (by rw [hk];rfl) (Tot.bind (Mg (by omega) (λ p hp=>(hb p hp).nr)) λ m hm=>?_))))
 have h1:=KY (λ p hp=>(hb p hp).nr) (i:=f.P.length-1) (by omega)
 have h2:=hm.len
 refine Tot.bindE (G5 (by omega)) (Tot.pure ⟨KW hm.nd,by rw [HT];exact h2,λ p=>by rw [KX,hm.mem]⟩)
theorem Nk {P:List Aa} (hl:P.length<=12) (hb:∀ p∈P,Nr p):Tot (λ n=>DU n P) (λ r=>Inc r/\r.length<=lnN P P.length/\∀ p,p∈r↔lnS P P.length p):=by
 refine Tot.bind (J5 (by omega) hb) λ m hm=>?_
 have h1:=KY hb (i:=P.length) (by omega)
 have h2:=hm.len
 exact Tot.bindE (G5 (by omega)) (Tot.pure ⟨KW hm.nd,by rw [HT];exact h2,λ p=>by rw [KX,hm.mem]⟩)
theorem NR {f:Ak} (hv:Jd f=true) (hk:f.Kind=3) :
  Tot (λ n=>Bh n f) (λ r=>Inc r/\r.length<=100000/\∀ p,p∈r↔arS f.P f.Texture p):=by
 obtain ⟨hb,hl,hK⟩:=Ri hv
 have hK:3<=f.P.length/\0<=f.Texture/\f.Texture<=3:=by
  unfold Hz at hK
  rw [hk] at hK
  simp only [show ((3:Int)==1)=false from rfl,show ((3:Int)==2)=false from rfl,show ((3:Int)==3)=true from rfl,Ws,if_false,if_true,Wi,decide_eq_true_eq] at hK
  omega
 obtain ⟨hK,t1,t2⟩:=hK
 refine Tot.bindE (GC f) (Tot.iteF (by rw [hv];rfl) (Tot.iteF (by rw [hk];rfl) (Tot.iteF (by rw [hk];rfl) (Tot.bind (J5 (by omega) (λ p hp=>(hb p hp).nr)) λ m hm=>?_))))
 refine Tot.bindC (Dj (i:=0) (by omega)) (Tot.bindC (Dj (i:=0) (by omega)) (Tot.bind (Um hb hl (by omega)) ?_))
 rintro ⟨lo,hi⟩ ⟨⟨b1,b2⟩,hin⟩
 simp only at b1 b2 hin
 refine Tot.bindA (λ n=>Ul n t1 t2) ?_
 have h1:=KY (λ p hp=>(hb p hp).nr) (i:=f.P.length) (by omega)
 generalize lnN f.P f.P.length=N at hm h1
 have hD:∀ p,In lo hi p->∀ (n:Nat),Gw n (46+f.Texture.toNat) p=some (G6 f.Texture p):=λ p hp n=>Sn n t1 t2 (by unfold In at hp;unfold Bx at *;omega)
 refine Tot.bind (R:=λ z=>KS z (N+60*60) (λ p=>arS f.P f.Texture p)) ?_ λ z hz=>?_
 ·refine (Tot.upto (hi.Y-lo.Y+1).toNat (λ i (x:List (Aa×Bool)×Int)=>x.2=lo.Y+(i:Int)/\KS x.1 (N+60*i) (λ p=>lnS f.P f.P.length p\/((In lo hi p/\p.Y<lo.Y+(i:Int))/\G6 f.Texture p=true/\D7 f.P p=true))) (P:=λ z=>KS z (N+60*60) (λ p=>arS f.P f.Texture p)) ?_ ?_ _ ⟨by show lo.Y=_;omega,hm.to (by omega) λ p=>⟨λ h=>?_,.inl⟩⟩)
  ·rintro i ⟨d,x⟩ hi' ⟨h1,h2⟩
   simp only at h1 h2
   subst h1
   unfold C3
   refine Tot.iteT (decide_eq_true (by show lo.Y+(i:Int)<=hi.Y;omega)) (Tot.bind (R:=λ z=>KS z (N+60*(i+1)) (λ p=>lnS f.P f.P.length p\/((In lo hi p/\p.Y<lo.Y+((i+1:Nat):Int))/\G6 f.Texture p=true/\D7 f.P p=true))) ?_ λ z hz=>Tot.pure ⟨?_,hz⟩)
   ·refine Tot.upto (hi.X-lo.X+1).toNat (λ j (x:List (Aa×Bool)×Int)=>x.2=lo.X+(j:Int)/\KS x.1 (N+60*i+j) (λ p=>lnS f.P f.P.length p\/((In lo hi p/\ltG p ⟨lo.X+(j:Int),lo.Y+(i:Int)⟩)/\G6 f.Texture p=true/\D7 f.P p=true))) ?_ ?_ _ ⟨by show lo.X=_;omega,h2.to (by omega) λ p=>?_⟩
    ·rintro j ⟨d,x⟩ hj ⟨h1,h2⟩
     simp only at h1 h2
     subst h1
     unfold C2 C1
     have hq:In lo hi ⟨lo.X+(j:Int),lo.Y+(i:Int)⟩:=by unfold In;simp only;omega
     have hqb:Bx ⟨lo.X+(j:Int),lo.Y+(i:Int)⟩:=by unfold Bx at b1 b2;unfold In at hq;unfold Bx;simp only at *;omega
     have hst:∀ p:Aa,ltG p ⟨lo.X+((j+1:Nat):Int),lo.Y+(i:Int)⟩↔ltG p ⟨lo.X+(j:Int),lo.Y+(i:Int)⟩\/p=⟨lo.X+(j:Int),lo.Y+(i:Int)⟩:=λ p=>by
      cases p;unfold ltG;simp only [Aa.mk.injEq];omega
     have e64:Bt .i64 (lo.X+(j:Int)) 1=lo.X+((j+1:Nat):Int):=by unfold Bx at b1 b2;rw [I8 (by omega) (by omega)];omega
     refine Tot.iteT (decide_eq_true (by show lo.X+(j:Int)<=hi.X;omega)) (Tot.bindA (hD _ hq) ?_)
     refine Tot.bind (R:=λ b=>b=(G6 f.Texture ⟨lo.X+(j:Int),lo.Y+(i:Int)⟩&&D7 f.P ⟨lo.X+(j:Int),lo.Y+(i:Int)⟩)) ?_ λ b hbb=>?_
     ·cases G6 f.Texture ⟨lo.X+(j:Int),lo.Y+(i:Int)⟩ with
      | true=>exact Tot.iteT rfl ((G3 (by omega) (λ p hp=>(hb p hp).nr) hqb.nr).tot rfl)
      | false=>exact Tot.iteF rfl (Tot.pure rfl)
     ·subst hbb
      rw [show (G6 f.Texture ⟨lo.X+(j:Int),lo.Y+(i:Int)⟩&&(G6 f.Texture ⟨lo.X+(j:Int),lo.Y+(i:Int)⟩&&D7 f.P ⟨lo.X+(j:Int),lo.Y+(i:Int)⟩))=(G6 f.Texture ⟨lo.X+(j:Int),lo.Y+(i:Int)⟩&&D7 f.P ⟨lo.X+(j:Int),lo.Y+(i:Int)⟩) from by cases G6 f.Texture ⟨lo.X+(j:Int),lo.Y+(i:Int)⟩<;>rfl]
      refine Tot.ite (λ hc=>Tot.pure ⟨e64,h2.put _ λ p=>?_⟩) λ hc=>Tot.pure ⟨e64,h2.to (by omega) λ p=>?_⟩
      ·rw [Wi] at hc
       rw [hst]
       constructor
       ·rintro (h|⟨⟨h,h'|h'⟩,h''⟩)
        ·exact .inl (.inl h)
        ·exact .inl (.inr ⟨⟨h,h'⟩,h''⟩)
        ·exact .inr h'
       ·rintro ((h|⟨⟨h,h'⟩,h''⟩)|rfl)
        ·exact .inl h
        ·exact .inr ⟨⟨h,.inl h'⟩,h''⟩
        ·exact .inr ⟨⟨hq,.inr rfl⟩,hc⟩
      ·rw [hst]
       constructor
       ·rintro (h|⟨⟨h,h'|rfl⟩,h''⟩)
        ·exact .inl h
        ·exact .inr ⟨⟨h,h'⟩,h''⟩
        ·rw [h''.1,h''.2] at hc;cases hc
       ·rintro (h|⟨⟨h,h'⟩,h''⟩)
        ·exact .inl h
        ·exact .inr ⟨⟨h,.inl h'⟩,h''⟩
    ·rintro ⟨d,x⟩ ⟨h1,h2⟩
     simp only at h1 h2
     subst h1
     unfold C2
     refine Tot.iteF (decide_eq_false (by show ¬(lo.X+((hi.X-lo.X+1).toNat:Int)<=hi.X);omega)) (Tot.pure (h2.to (by unfold Bx at b1 b2;omega) λ p=>?_))
     have:In lo hi p->(ltG p ⟨lo.X+((hi.X-lo.X+1).toNat:Int),lo.Y+(i:Int)⟩↔p.Y<lo.Y+((i+1:Nat):Int)):=λ h=>by
      unfold In at h;unfold ltG;simp only;omega
     constructor
     ·rintro (h|⟨⟨h,h'⟩,h''⟩)
      ·exact .inl h
      ·exact .inr ⟨⟨h,(this h).2 h'⟩,h''⟩
     ·rintro (h|⟨⟨h,h'⟩,h''⟩)
      ·exact .inl h
      ·exact .inr ⟨⟨h,(this h).1 h'⟩,h''⟩
    ·have:In lo hi p->(ltG p ⟨lo.X+((0:Nat):Int),lo.Y+(i:Int)⟩↔p.Y<lo.Y+(i:Int)):=λ h=>by
      unfold In at h;unfold ltG;simp only;omega
     constructor
     ·rintro (h|⟨⟨h,h'⟩,h''⟩)
      ·exact .inl h
      ·exact .inr ⟨⟨h,(this h).1 h'⟩,h''⟩
     ·rintro (h|⟨⟨h,h'⟩,h''⟩)
      ·exact .inl h
      ·exact .inr ⟨⟨h,(this h).2 h'⟩,h''⟩
   ·show Bt .i64 (lo.Y+(i:Int)) 1=_
    unfold Bx at b1 b2
    rw [I8 (by omega) (by omega)];omega
  ·rintro ⟨d,x⟩ ⟨h1,h2⟩
   simp only at h1 h2
   subst h1
   unfold C3
   refine Tot.iteF (decide_eq_false (by show ¬(lo.Y+((hi.Y-lo.Y+1).toNat:Int)<=hi.Y);omega)) (Tot.pure (h2.to (by unfold Bx at b1 b2;omega) λ p=>?_))
   constructor
   ·rintro (h|⟨h',h''⟩)
    ·exact .inl h
    ·have h:=Rb hin h''
     exact .inr ⟨⟨h,by unfold In at h;omega⟩,h',h''⟩
   ·rintro (h|⟨_,h''⟩)
    ·exact .inl h
    ·exact .inr h''
  ·rcases h with h|⟨⟨h,h'⟩,_⟩
   ·exact h
   ·unfold In at h;omega
 ·have:=hz.len
  exact Tot.bindE (G5 (by omega)) (Tot.pure ⟨KW hz.nd,by rw [HT];omega,λ p=>by rw [KX,hz.mem]⟩)
end Go.AI
end
section
namespace Go.AI
def U8 (n:Int):Prop:=0<=n/\n<256
def Sm (p:Aa):Prop:=(0<=p.X/\p.X<24)/\0<=p.Y/\p.Y<24
theorem Sm.bx {p:Aa} (h:Sm p):Bx p:=by unfold Sm at h;unfold Bx;omega
structure Vn (f:Ak):Prop where
 kind:f.Kind=1\/f.Kind=2\/f.Kind=3
 sm:∀ p∈f.P,Sm p
 len:f.P.length<=6
 spot:f.Kind=1->f.P.length=1/\f.Texture=0
 path:f.Kind=2->2<=f.P.length/\f.Texture=0
 area:f.Kind=3->3<=f.P.length/\0<=f.Texture/\f.Texture<=3
theorem Vn.bx {f:Ak} (h:Vn f):∀ p∈f.P,Bx p:=λ p hp=>(h.sm p hp).bx
theorem Mh {P:List Aa} {i:Nat} {p:Aa}:lnS P i p↔p∈(List.range i).flatMap λ j=>DZ (sd P j).1 (sd P j).2:=by
 rw [List.mem_flatMap]
 constructor
 ·rintro ⟨j,hj,h⟩;exact ⟨j,List.mem_range.2 hj,h⟩
 ·rintro ⟨j,hj,h⟩;exact ⟨j,List.mem_range.1 hj,h⟩
theorem NS {l m:List Aa} (h1:∀ p∈l,p∈m) (h2:∀ p∈m,p∈l) {p:Aa}:p∈l↔p∈m:=⟨h1 p,h2 p⟩
instance (p q r:Aa):Decidable (In p q r):=by unfold In;infer_instance
def sqP:List Aa:=[⟨0,0⟩,⟨2,0⟩,⟨2,2⟩,⟨0,2⟩]
def sq8:List Aa:=[⟨0,0⟩,⟨1,0⟩,⟨2,0⟩,⟨0,1⟩,⟨2,1⟩,⟨0,2⟩,⟨1,2⟩,⟨2,2⟩]
def sq9:List Aa:=[⟨0,0⟩,⟨1,0⟩,⟨2,0⟩,⟨0,1⟩,⟨1,1⟩,⟨2,1⟩,⟨0,2⟩,⟨1,2⟩,⟨2,2⟩]
theorem Mj {p:Aa}:lnS sqP 4 p↔p∈sq8:=by
 rw [Mh]
 exact NS (by decide) (by decide)
theorem Vo:∀ p∈sq8,p∈sq9:=by decide
theorem Vp:∀ p∈sqP,In ⟨0,0⟩ ⟨2,2⟩ p:=by decide
theorem Nl:Ev (λ n=>DU n sqP) sq8:=
 Tot.ev ((Nk (P:=sqP) (by decide) (λ p hp=>Bx.nr (by revert p;decide))).mono λ r hr=>hr.1.uniq (by unfold Inc;decide) λ p=>by rw [hr.2.2];exact Mj)
theorem Rj:Ev (λ n=>Bh n ({ Kind:=3,Texture:=0,P:=sqP }:Ak)) sq8:=
 Tot.ev ((NR (f:={ Kind:=3,Texture:=0,P:=sqP }) (by decide) rfl).mono λ r hr=>hr.1.uniq (by unfold Inc;decide) λ p=>by
  rw [hr.2.2]
  constructor
  ·rintro (h|⟨h,_⟩)
   ·exact Mj.1 h
   ·cases h
  ·exact λ h=>.inl (Mj.2 h))
theorem Rk:Ev (λ n=>Bh n ({ Kind:=3,Texture:=3,P:=sqP }:Ak)) sq9:=
 Tot.ev ((NR (f:={ Kind:=3,Texture:=3,P:=sqP }) (by decide) rfl).mono λ r hr=>hr.1.uniq (by unfold Inc;decide) λ p=>by
  rw [hr.2.2]
  constructor
  ·rintro (h|⟨_,h⟩)
   ·exact Vo p (Mj.1 h)
   ·have:=Rb Vp h
    obtain ⟨X,Y⟩:=p
    unfold In at this
    simp only at this
    rcases (by omega:X=0\/X=1\/X=2) with rfl|rfl|rfl<;>rcases (by omega:Y=0\/Y=1\/Y=2) with rfl|rfl|rfl<;>decide
  ·intro h
   rcases (by revert p;decide:p∈sq8\/D7 sqP p=true) with h|h
   ·exact .inl (Mj.2 h)
   ·exact .inr ⟨rfl,h⟩)
theorem Vq:Ev (λ n=>Bh n ({ Kind:=1,Texture:=0,P:=[⟨3,4⟩] }:Ak)) [⟨3,4⟩]:=So (f:={ Kind:=1,Texture:=0,P:=[⟨3,4⟩] }) (by decide) rfl
theorem Vr:Ev (λ n=>Bh n ({ Kind:=2,Texture:=0,P:=[⟨0,0⟩,⟨2,0⟩] }:Ak)) [⟨0,0⟩,⟨1,0⟩,⟨2,0⟩]:=
 Tot.ev ((Sp (f:={ Kind:=2,Texture:=0,P:=[⟨0,0⟩,⟨2,0⟩] }) (by decide) rfl).mono λ r hr=>hr.1.uniq (by unfold Inc;decide) λ p=>by
  rw [hr.2.2,Mh]
  exact NS (by decide) (by decide))
theorem Rl {a b:List Aa} (ha:a.length<=1000000) (h:a=b):Ev (λ n=>Ej n a b) true:=by
 have:=Sl (b:=b) ha
 rw [decide_eq_true h] at this
 exact this
theorem G7 {f:Ak} {b:Bool} (h:Jd f=b):Ev (λ n=>BU n f) b:=h▸GC f
theorem G8 {P:List Aa} {q:Aa} {b:Bool} (h:D7 P q=b) (h1:P.length<=1000) (h2:∀ p∈P,Nr p) (h3:Nr q):Ev (λ n=>Br n P q) b:=h▸G3 h1 h2 h3
instance (p:Aa):Decidable (Nr p):=by unfold Nr;infer_instance
theorem Pc:Ev (λ n=>Fn n) true:=by
 refine Tot.ev ?_
 refine Tot.bindA (λ n=>rfl) (Tot.bindA (λ n=>rfl) (Tot.bindA (λ n=>rfl) (Tot.bindA (λ n=>rfl) (Tot.bindA (λ n=>rfl) ?_))))
 refine Tot.bindE Vq (Tot.bindE (Rl (by decide) rfl) (Tot.gE rfl Vr (Tot.gE rfl (Ev.all λ n=>rfl) (Tot.gE rfl (Ev.all λ n=>rfl) (Tot.gE rfl (Ev.all λ n=>rfl) (Tot.gE rfl (Rl (by decide) rfl) ?_))))))
 refine Tot.gE rfl Rj (Tot.gE rfl Rk ?_)
 refine Tot.bindE (G7 (b:=true) (by decide)) (Tot.gE rfl (G7 (b:=true) (by decide)) (Tot.gE rfl (G7 (b:=false) (by decide)) (Tot.gE rfl (Ev.all λ n=>rfl) (Tot.gE rfl (G7 (b:=false) (by decide)) (Tot.gE rfl (Ev.all λ n=>rfl) (Tot.gE rfl (G7 (b:=false) (by decide)) (Tot.gE rfl (Ev.all λ n=>rfl) (Tot.gE rfl (G7 (b:=false) (by decide)) ?_))))))))
 refine Tot.gE rfl (Ev.all λ n=>rfl) (Tot.gE rfl (Ev.all λ n=>rfl) (Tot.gE rfl (G8 (b:=true) (by decide) (by decide) (by decide) (by decide)) ?_))
 refine Tot.gE rfl (Ev.all λ n=>rfl) (Tot.gE rfl (Ev.all λ n=>rfl) (Tot.gE rfl (G8 (b:=true) (by decide) (by decide) (by decide) (by decide)) ?_))
 refine Tot.gE rfl (Ev.all λ n=>rfl) (Tot.gE rfl (Ev.all λ n=>rfl) (Tot.gE rfl (G8 (b:=true) (by decide) (by decide) (by decide) (by decide)) ?_))
 refine Tot.gE rfl (Ev.all λ n=>rfl) (Tot.gE rfl (Ev.all λ n=>rfl) (Tot.gE rfl (G8 (b:=false) (by decide) (by decide) (by decide) (by decide)) ?_))
 refine Tot.gE rfl (Ev.all λ n=>rfl) (Tot.gE rfl (Ev.all λ n=>rfl) (Tot.gE rfl (G8 (b:=false) (by decide) (by decide) (by decide) (by decide)) ?_))
 refine Tot.gE rfl (Ev.all λ n=>rfl) (Tot.gE rfl (G8 (b:=false) (by decide) (by decide) (by decide) (by decide)) ?_)
 exact Tot.gE rfl (Ev.all λ n=>rfl) (Tot.gE rfl Nl (Tot.pure rfl))
end Go.AI
end
section
namespace Go.AI
theorem Un {t p q:Aa}:ltG (mvG t p) (mvG t q)↔ltG p q:=by unfold ltG mvG;simp only;omega
theorem Inc.mv {l:List Aa} (h:Inc l) (t:Aa):Inc (l.map (mvG t)):=List.pairwise_map.2 (h.imp λ h=>Un.2 h)
def key (p:Aa):Int:=25*p.Y+p.X
end Go.AI
end
section
namespace Go.AI
theorem DC (a b q:Aa):crS a b q=(a.X-q.X)*(b.Y-q.Y)-(a.Y-q.Y)*(b.X-q.X):=by
 unfold crS
 have e1:b.X-a.X=(b.X-q.X)-(a.X-q.X):=by omega
 have e2:b.Y-a.Y=(b.Y-q.Y)-(a.Y-q.Y):=by omega
 have e3:q.Y-a.Y=-(a.Y-q.Y):=by omega
 have e4:q.X-a.X=-(a.X-q.X):=by omega
 rw [e1,e2,e3,e4]
 generalize a.X-q.X=u
 generalize a.Y-q.Y=v
 generalize b.X-q.X=s
 generalize b.Y-q.Y=r
 rw [Int.mul_sub,Int.mul_sub,Int.neg_mul,Int.neg_mul,Int.neg_mul,Int.neg_mul,Int.mul_comm v u]
 omega
theorem Je (a b c q:Aa):crS a b q+crS b c q+crS c a q=crS a b c:=by
 rw [DC a b q,DC b c q,DC c a q]
 unfold crS
 have e1:c.Y-a.Y=(c.Y-q.Y)-(a.Y-q.Y):=by omega
 have e2:b.X-a.X=(b.X-q.X)-(a.X-q.X):=by omega
 have e3:c.X-a.X=(c.X-q.X)-(a.X-q.X):=by omega
 have e4:b.Y-a.Y=(b.Y-q.Y)-(a.Y-q.Y):=by omega
 rw [e1,e2,e3,e4]
 generalize a.X-q.X=ax
 generalize a.Y-q.Y=ay
 generalize b.X-q.X=bx
 generalize b.Y-q.Y=by'
 generalize c.X-q.X=cx
 generalize c.Y-q.Y=cy
 simp only [Int.mul_sub,Int.mul_comm]
 omega
theorem Jf (a b c q:Aa):crS b c q*(a.Y-q.Y)+crS c a q*(b.Y-q.Y)+crS a b q*(c.Y-q.Y)=0:=by
 rw [DC a b q,DC b c q,DC c a q]
 generalize a.X-q.X=ax
 generalize a.Y-q.Y=ay
 generalize b.X-q.X=bx
 generalize b.Y-q.Y=by'
 generalize c.X-q.X=cx
 generalize c.Y-q.Y=cy
 simp only [Int.mul_sub,Int.mul_comm,Int.mul_left_comm]
 omega
theorem Mk (a b c q:Aa):crS b c q*(a.X-q.X)+crS c a q*(b.X-q.X)+crS a b q*(c.X-q.X)=0:=by
 rw [DC a b q,DC b c q,DC c a q]
 generalize a.X-q.X=ax
 generalize a.Y-q.Y=ay
 generalize b.X-q.X=bx
 generalize b.Y-q.Y=by'
 generalize c.X-q.X=cx
 generalize c.Y-q.Y=cy
 simp only [Int.mul_sub,Int.mul_comm,Int.mul_left_comm]
 omega
theorem Dk {s y:Int} (h:0<y):(0<s/\0<s*y)\/(s=0/\s*y=0)\/(s<0/\s*y<0):=by
 rcases Int.lt_trichotomy s 0 with hs|hs|hs
 ·exact .inr (.inr ⟨hs,Int.mul_neg_of_neg_of_pos hs h⟩)
 ·exact .inr (.inl ⟨hs,by rw [hs,Int.zero_mul]⟩)
 ·exact .inl ⟨hs,Int.mul_pos hs h⟩
theorem E6 {s y:Int} (h:y<=0):(0<s/\s*y<=0/\(s*y=0->y=0))\/(s=0/\s*y=0)\/(s<0/\0<=s*y):=by
 rcases Int.lt_trichotomy s 0 with hs|hs|hs
 ·exact .inr (.inr ⟨hs,Int.mul_nonneg_of_nonpos_of_nonpos (by omega) h⟩)
 ·exact .inr (.inl ⟨hs,by rw [hs,Int.zero_mul]⟩)
 ·refine .inl ⟨hs,Int.mul_nonpos_of_nonneg_of_nonpos (by omega) h,λ e=>?_⟩
  rcases Int.mul_eq_zero.1 e with e|e<;>omega
def pw (y z s:Int):Nat:=if ((decide (y<=0) != decide (z<=0))&&(bif decide (y<z) then decide (0<s) else decide (s<0)))=true then 1 else 0
theorem J7 {y z s:Int} (h:y<=0) (h':0<z):pw y z s=if 0<s then 1 else 0:=by
 unfold pw
 rw [decide_eq_true h,decide_eq_false (p:=z<=0) (by omega),decide_eq_true (p:=y<z) (by omega)]
 simp
theorem J8 {y z s:Int} (h:0<y) (h':z<=0):pw y z s=if s<0 then 1 else 0:=by
 unfold pw
 rw [decide_eq_true h',decide_eq_false (p:=y<=0) (by omega),decide_eq_false (p:=y<z) (by omega)]
 simp
theorem J9 {y z s:Int} (h:y<=0) (h':z<=0):pw y z s=0:=by
 unfold pw
 rw [decide_eq_true h,decide_eq_true h']
 rfl
theorem Ka {y z s:Int} (h:0<y) (h':0<z):pw y z s=0:=by
 unfold pw
 rw [decide_eq_false (p:=y<=0) (by omega),decide_eq_false (p:=z<=0) (by omega)]
 rfl
theorem Rm {s0 s1 s2 a b c:Int} (hD:0<s0+s1+s2) (hy:s1*a+s2*b+s0*c=0) (hne:¬(a=b/\b=c)) :
  ((0<s0/\0<s1/\0<s2)->(pw a b s0+pw b c s1+pw c a s2) % 2=1)/\((s0<0\/s1<0\/s2<0)->(pw a b s0+pw b c s1+pw c a s2) % 2=0):=by
 rcases Int.lt_or_le 0 a with ha|ha<;>rcases Int.lt_or_le 0 b with hb|hb<;>rcases Int.lt_or_le 0 c with hc|hc
 ·rw [Ka ha hb,Ka hb hc,Ka hc ha]
  rcases Dk (s:=s1) ha with ⟨x1,y1⟩|⟨x1,y1⟩|⟨x1,y1⟩<;>rcases Dk (s:=s2) hb with ⟨x2,y2⟩|⟨x2,y2⟩|⟨x2,y2⟩<;>rcases Dk (s:=s0) hc with ⟨x0,y0⟩|⟨x0,y0⟩|⟨x0,y0⟩<;>(constructor<;>intro h<;>first|omega|((repeat' split)<;>omega))
 ·rw [Ka ha hb,J8 hb hc,J7 hc ha]
  rcases Dk (s:=s1) ha with ⟨x1,y1⟩|⟨x1,y1⟩|⟨x1,y1⟩<;>rcases Dk (s:=s2) hb with ⟨x2,y2⟩|⟨x2,y2⟩|⟨x2,y2⟩<;>rcases E6 (s:=s0) hc with ⟨x0,y0⟩|⟨x0,y0⟩|⟨x0,y0⟩<;>(constructor<;>intro h<;>first|omega|((repeat' split)<;>omega))
 ·rw [J8 ha hb,J7 hb hc,Ka hc ha]
  rcases Dk (s:=s1) ha with ⟨x1,y1⟩|⟨x1,y1⟩|⟨x1,y1⟩<;>rcases E6 (s:=s2) hb with ⟨x2,y2⟩|⟨x2,y2⟩|⟨x2,y2⟩<;>rcases Dk (s:=s0) hc with ⟨x0,y0⟩|⟨x0,y0⟩|⟨x0,y0⟩<;>(constructor<;>intro h<;>first|omega|((repeat' split)<;>omega))
 ·rw [J8 ha hb,J9 hb hc,J7 hc ha]
  rcases Dk (s:=s1) ha with ⟨x1,y1⟩|⟨x1,y1⟩|⟨x1,y1⟩<;>rcases E6 (s:=s2) hb with ⟨x2,y2⟩|⟨x2,y2⟩|⟨x2,y2⟩<;>rcases E6 (s:=s0) hc with ⟨x0,y0⟩|⟨x0,y0⟩|⟨x0,y0⟩<;>(constructor<;>intro h<;>first|omega|((repeat' split)<;>omega))
 ·rw [J7 ha hb,Ka hb hc,J8 hc ha]
  rcases E6 (s:=s1) ha with ⟨x1,y1⟩|⟨x1,y1⟩|⟨x1,y1⟩<;>rcases Dk (s:=s2) hb with ⟨x2,y2⟩|⟨x2,y2⟩|⟨x2,y2⟩<;>rcases Dk (s:=s0) hc with ⟨x0,y0⟩|⟨x0,y0⟩|⟨x0,y0⟩<;>(constructor<;>intro h<;>first|omega|((repeat' split)<;>omega))
 ·rw [J7 ha hb,J8 hb hc,J9 hc ha]
  rcases E6 (s:=s1) ha with ⟨x1,y1⟩|⟨x1,y1⟩|⟨x1,y1⟩<;>rcases Dk (s:=s2) hb with ⟨x2,y2⟩|⟨x2,y2⟩|⟨x2,y2⟩<;>rcases E6 (s:=s0) hc with ⟨x0,y0⟩|⟨x0,y0⟩|⟨x0,y0⟩<;>(constructor<;>intro h<;>first|omega|((repeat' split)<;>omega))
 ·rw [J9 ha hb,J7 hb hc,J8 hc ha]
  rcases E6 (s:=s1) ha with ⟨x1,y1⟩|⟨x1,y1⟩|⟨x1,y1⟩<;>rcases E6 (s:=s2) hb with ⟨x2,y2⟩|⟨x2,y2⟩|⟨x2,y2⟩<;>rcases Dk (s:=s0) hc with ⟨x0,y0⟩|⟨x0,y0⟩|⟨x0,y0⟩<;>(constructor<;>intro h<;>first|omega|((repeat' split)<;>omega))
 ·rw [J9 ha hb,J9 hb hc,J9 hc ha]
  rcases E6 (s:=s1) ha with ⟨x1,y1⟩|⟨x1,y1⟩|⟨x1,y1⟩<;>rcases E6 (s:=s2) hb with ⟨x2,y2⟩|⟨x2,y2⟩|⟨x2,y2⟩<;>rcases E6 (s:=s0) hc with ⟨x0,y0⟩|⟨x0,y0⟩|⟨x0,y0⟩<;>(constructor<;>intro h<;>first|omega|((repeat' split)<;>omega))
theorem Nm {a b c q:Aa} (hD:0<crS a b c) (h:OnP a b q):0<=crS b c q/\0<=crS c a q:=by
 obtain ⟨h0,⟨h1,h2⟩,h3,h4⟩:=h
 have e1:=Je a b c q
 have e2:=Mk a b c q
 have e3:=Jf a b c q
 have e4:=DC b c q
 have e5:=DC c a q
 rw [h0,Int.zero_mul] at e2 e3
 rw [h0] at e1
 have key:∀ {s t u v:Int},s<0->0<t->s*u+t*v=0->((u<=0/\0<=v)\/(v<=0/\0<=u))->u=0/\v=0:=by
  intro s t u v hs ht e hh
  have hu:u=0:=by
   rcases Int.lt_trichotomy u 0 with hu|hu|hu
   ·have:=Int.mul_pos_of_neg_of_neg hs hu
    have:=Int.mul_nonneg (show 0<=t by omega) (show 0<=v by omega)
    omega
   ·exact hu
   ·have:=Int.mul_neg_of_neg_of_pos hs hu
    have:=Int.mul_nonpos_of_nonneg_of_nonpos (show 0<=t by omega) (show v<=0 by omega)
    omega
  rw [hu,Int.mul_zero,Int.zero_add] at e
  rcases Int.mul_eq_zero.1 e with e|e
  ·omega
  ·exact ⟨hu,e⟩
 constructor
 ·refine Int.le_of_not_gt λ hh=>?_
  obtain ⟨x1,x2⟩:=key (s:=crS b c q) (t:=crS c a q) (u:=a.X-q.X) (v:=b.X-q.X) (by omega) (by omega) (by omega) (by omega)
  obtain ⟨y1,y2⟩:=key (s:=crS b c q) (t:=crS c a q) (u:=a.Y-q.Y) (v:=b.Y-q.Y) (by omega) (by omega) (by omega) (by omega)
  rw [x2,y2,Int.zero_mul,Int.zero_mul] at e4
  omega
 ·refine Int.le_of_not_gt λ hh=>?_
  obtain ⟨x1,x2⟩:=key (s:=crS c a q) (t:=crS b c q) (u:=b.X-q.X) (v:=a.X-q.X) (by omega) (by omega) (by omega) (by omega)
  obtain ⟨y1,y2⟩:=key (s:=crS c a q) (t:=crS b c q) (u:=b.Y-q.Y) (v:=a.Y-q.Y) (by omega) (by omega) (by omega) (by omega)
  rw [x2,y2,Int.mul_zero,Int.mul_zero] at e5
  omega
theorem Nn {a b c q:Aa} (hD:0<crS a b c) (h0:crS a b q=0) (h1:0<=crS b c q) (h2:0<=crS c a q):OnP a b q:=by
 have e1:=Je a b c q
 have e2:=Mk a b c q
 have e3:=Jf a b c q
 rw [h0,Int.zero_mul] at e2 e3
 rw [h0] at e1
 have key:∀ {s t u v:Int},0<=s->0<=t->0<s+t->s*u+t*v=0->¬(0<u/\0<v)/\¬(u<0/\v<0):=by
  intro s t u v hs ht hst e
  constructor
  ·rintro ⟨hu,hv⟩
   have a1:=Int.mul_nonneg hs (show 0<=u by omega)
   have a2:=Int.mul_nonneg ht (show 0<=v by omega)
   rcases Int.lt_or_le 0 s with h|h
   ·have:=Int.mul_pos h hu;omega
   ·have:=Int.mul_pos (show 0<t by omega) hv;omega
  ·rintro ⟨hu,hv⟩
   have a1:=Int.mul_nonpos_of_nonneg_of_nonpos hs (show u<=0 by omega)
   have a2:=Int.mul_nonpos_of_nonneg_of_nonpos ht (show v<=0 by omega)
   rcases Int.lt_or_le 0 s with h|h
   ·have:=Int.mul_neg_of_pos_of_neg h hu;omega
   ·have:=Int.mul_neg_of_pos_of_neg (show 0<t by omega) hv;omega
 have x:=key h1 h2 (by omega) (by omega:crS b c q*(a.X-q.X)+crS c a q*(b.X-q.X)=0)
 have y:=key h1 h2 (by omega) (by omega:crS b c q*(a.Y-q.Y)+crS c a q*(b.Y-q.Y)=0)
 exact ⟨h0,by omega,by omega⟩
theorem Rn (a b q:Aa):(if psS a b q=true then 1 else 0)=pw (a.Y-q.Y) (b.Y-q.Y) (crS a b q):=by
 unfold psS pw
 have e1:decide (a.Y<=q.Y)=decide (a.Y-q.Y<=0):=decide_eq_decide.2 (by omega)
 have e2:decide (b.Y<=q.Y)=decide (b.Y-q.Y<=0):=decide_eq_decide.2 (by omega)
 have e3:decide (a.Y<b.Y)=decide (a.Y-q.Y<b.Y-q.Y):=decide_eq_decide.2 (by omega)
 rw [e1,e2,e3]
theorem sd3 (a b c:Aa):sd [a,b,c] 0=(a,b)/\sd [a,b,c] 1=(b,c)/\sd [a,b,c] 2=(c,a):=by
 refine ⟨rfl,rfl,?_⟩
 show (c,[a,b,c].getD (3 % 3) default)=_
 rw [Nat.mod_self];rfl
theorem Uo (a b c q:Aa):D7 [a,b,c] q=true↔(OnP a b q\/OnP b c q\/OnP c a q)\/((if psS a b q=true then 1 else 0)+(if psS b c q=true then 1 else 0)+(if psS c a q=true then 1 else 0)) % 2=1:=by
 have e1:(List.range [a,b,c].length).any (onB [a,b,c] q)=true↔(OnP a b q\/OnP b c q\/OnP c a q):=by
  have:(List.range [a,b,c].length).any (onB [a,b,c] q)=(onB [a,b,c] q 0||(onB [a,b,c] q 1||(onB [a,b,c] q 2||false))):=rfl
  rw [this]
  unfold onB
  rw [(sd3 a b c).1,(sd3 a b c).2.1,(sd3 a b c).2.2]
  simp
 have e2:Jz [a,b,c] q [a,b,c].length=((if psS a b q=true then 1 else 0)+(if psS b c q=true then 1 else 0)+(if psS c a q=true then 1 else 0)):=by
  show Jz [a,b,c] q (0+1+1+1)=_
  rw [Fy,Fy,Fy]
  show 0+_+_+_=_
  rw [Wu]
  unfold psB
  rw [(sd3 a b c).1,(sd3 a b c).2.1,(sd3 a b c).2.2]
 unfold D7
 rw [Wx,e1,e2,decide_eq_true_eq]
theorem NT {a b c q:Aa} (hD:0<crS a b c):D7 [a,b,c] q=true↔0<=crS a b q/\0<=crS b c q/\0<=crS c a q:=by
 have e1:=Je a b c q
 have e2:=Je b c a q
 have e3:=Je c a b q
 have hY:=Jf a b c q
 have hne:¬(a.Y-q.Y=b.Y-q.Y/\b.Y-q.Y=c.Y-q.Y):=by
  rintro ⟨h1,h2⟩
  have:crS a b c=0:=by
   unfold crS
   rw [show c.Y-a.Y=0 by omega,show b.Y-a.Y=0 by omega,Int.zero_mul,Int.mul_zero];rfl
  omega
 obtain ⟨k1,k2⟩:=Rm (by omega) hY hne
 rw [Uo,Rn,Rn,Rn]
 constructor
 ·rintro ((h|h|h)|h)
  ·have:=Nm hD h
   have:=h.1
   omega
  ·have:=Nm (a:=b) (b:=c) (c:=a) (by omega) h
   have:=h.1
   omega
  ·have:=Nm (a:=c) (b:=a) (c:=b) (by omega) h
   have:=h.1
   omega
  ·refine Classical.byContradiction λ hh=>?_
   have:=k2 (by omega)
   omega
 ·rintro ⟨h0,h1,h2⟩
  by_cases z0:crS a b q=0
  ·exact .inl (.inl (Nn hD z0 h1 h2))
  ·by_cases z1:crS b c q=0
   ·exact .inl (.inr (.inl (Nn (a:=b) (b:=c) (c:=a) (by omega) z1 h2 h0)))
   ·by_cases z2:crS c a q=0
    ·exact .inl (.inr (.inr (Nn (a:=c) (b:=a) (c:=b) (by omega) z2 h0 h1)))
    ·exact .inr (k1 (by omega))
theorem Sq (a b c:Aa):crS a c b=-crS a b c:=by
 unfold crS
 rw [Int.mul_comm (b.Y-a.Y),Int.mul_comm (b.X-a.X)]
 omega
theorem Sr {a b c q:Aa} (hD:crS a b c<0):D7 [a,b,c] q=true↔crS a b q<=0/\crS b c q<=0/\crS c a q<=0:=by
 have h:=NT (a:=a) (b:=c) (c:=b) (q:=q) (by rw [Sq];omega)
 rw [ET c a q,ET b c q,ET a b q] at h
 have e:D7 [a,b,c] q=true↔D7 [a,c,b] q=true:=by
  rw [Uo,Uo,KT c a q,KT b c q,KT a b q]
  constructor
  ·rintro ((h|h|h)|h)
   ·exact .inl (.inr (.inr (FG h)))
   ·exact .inl (.inr (.inl (FG h)))
   ·exact .inl (.inl (FG h))
   ·exact .inr (by omega)
  ·rintro ((h|h|h)|h)
   ·exact .inl (.inr (.inr (FG h)))
   ·exact .inl (.inr (.inl (FG h)))
   ·exact .inl (.inl (FG h))
   ·exact .inr (by omega)
 rw [e,h]
 constructor
 ·rintro ⟨h1,h2,h3⟩;omega
 ·rintro ⟨h1,h2,h3⟩;omega
def sgS (v:Int):Int:=if 0<v then 1 else if v<0 then -1 else 0
theorem NU (n:Nat) {a b q:Aa} (ha:Nr a) (hb:Nr b) (hq:Nr q):Ek n a b q=some (sgS (crS a b q)):=by
 obtain ⟨⟨e1,e2,e3,e4⟩,e5,e6,e7,e8,e9⟩:=Q8 ha hb hq
 unfold Ek sgS
 rw [e1,e2,e3,e4,e7,e8,e9]
 congr 1
 split<;>split<;>split<;>(try split)<;>omega
theorem Ss {a b c q:Aa} (h:crS a b c≠0):D7 [a,b,c] q=(decide (sgS (crS a b q)≠-sgS (crS a b c))&&decide (sgS (crS b c q)≠-sgS (crS a b c))&&decide (sgS (crS c a q)≠-sgS (crS a b c))):=by
 rw [Bool.eq_iff_iff]
 simp only [Wi,decide_eq_true_eq]
 rcases Int.lt_or_le 0 (crS a b c) with hD|hD
 ·have e:sgS (crS a b c)=1:=if_pos hD
  have k:∀ v:Int,sgS v≠-1↔0<=v:=λ v=>by unfold sgS;split<;>(try split)<;>omega
  rw [NT hD,e,k,k,k,and_assoc]
 ·have hD:crS a b c<0:=by omega
  have e:sgS (crS a b c)=-1:=by unfold sgS;rw [if_neg (by omega),if_pos hD]
  have k:∀ v:Int,sgS v≠-(-1)↔v<=0:=λ v=>by unfold sgS;split<;>(try split)<;>omega
  rw [Sr hD,e,k,k,k,and_assoc]
def Mi (p:Aa):Prop:=(0<=p.X/\p.X<64)/\0<=p.Y/\p.Y<64
theorem Mi.nr {p:Aa} (h:Mi p):Nr p:=by unfold Mi at h;unfold Nr;omega
theorem Vs {x y:Int} (h0:U8 x) (h1:U8 y):Mi ({ X:=IntKind.i64.wrap (CL x 64),Y:=IntKind.i64.wrap (CL y 64) }:Aa):=by
 unfold U8 at h0 h1
 obtain ⟨_,a1,a2⟩:=Dv (a:=x) (m:=64) (by omega) (by omega)
 obtain ⟨_,b1,b2⟩:=Dv (a:=y) (m:=64) (by omega) (by omega)
 rw [w64 (by omega) (by omega),w64 (by omega) (by omega)]
 exact ⟨⟨a1,a2⟩,b1,b2⟩
theorem Up (v:Int):-1<=sgS v/\sgS v<=1:=by unfold sgS;split<;>(try split)<;>omega
theorem Uq {p:OW (FK Int)} {w:FK Int} (hp:∀ a∈[p.a0,p.a1,p.a2],U8 a.a0/\U8 a.a1) (h0:U8 w.a0) (h1:U8 w.a1):Tot (λ n=>Cf n p w) (λ y=>y=true):=by
 refine Tot.bindE Pc (Tot.bind (R:=λ l=>l.length=3/\∀ q∈l,Mi q) ?_ λ l hl=>Tot.bindA (λ n=>rfl) ?_)
 ·refine Tot.upto 3 (λ i (x:List Aa×Int)=>x.2=(i:Int)/\x.1.length=3/\∀ q∈x.1,Mi q) ?_ ?_ _ ⟨rfl,rfl,by unfold Mi;decide⟩
  ·rintro i ⟨l,x⟩ hi ⟨e1,e2,e3⟩
   simp only at e1 e2 e3
   subst e1
   unfold Bl
   have hlt:i<[p.a0,p.a1,p.a2].length:=hi
   have hm:=hp _ (V7 hlt)
   refine Tot.iteT (decide_eq_true (by omega)) (Tot.bindC (Dw (decide_eq_true (by omega))) (Tot.bindC (F7 hlt) (Tot.bindC (Dw (decide_eq_true (by omega))) (Tot.bindC (F7 hlt) (Tot.bindA (λ n=>rfl) (Tot.bindC (Dw (decide_eq_true (by omega))) (Tot.bindC (Ug (by show i<l.length;omega)) (Tot.pure ⟨Cg (by omega),by simpa using e2,λ q hq=>?_⟩))))))))
   rcases List.mem_or_eq_of_mem_set hq with hq|rfl
   ·exact e3 q hq
   ·exact Vs hm.1 hm.2
  ·rintro ⟨l,x⟩ ⟨e1,e2,e3⟩
   simp only at e1 e2 e3
   subst e1
   unfold Bl
   exact Tot.iteF (decide_eq_false (by omega)) (Tot.pure ⟨e2,e3⟩)
 ·obtain ⟨hl,hm⟩:=hl
  obtain ⟨a,b,c,rfl⟩:∃ a b c,l=[a,b,c]:=by
   match l,hl with
   | [a,b,c],_=>exact ⟨a,b,c,rfl⟩
  have na:=(hm a (by simp)).nr
  have nb:=(hm b (by simp)).nr
  have nc:=(hm c (by simp)).nr
  have nq:=(Vs h0 h1).nr
  generalize ({ X:=IntKind.i64.wrap (CL w.a0 64),Y:=IntKind.i64.wrap (CL w.a1 64) }:Aa)=q at *
  refine Tot.bindC rfl (Tot.bindC (y:=a) rfl (Tot.bindC rfl (Tot.bindC (y:=b) rfl (Tot.bindC rfl (Tot.bindC (y:=c) rfl (Tot.bindA (λ n=>NU n na nb nc) (Tot.ite (λ _=>Tot.pure rfl) λ hz=>?_)))))))
  have hD:crS a b c≠0:=λ e=>by rw [e] at hz;cases hz
  have hw:=Up (crS a b c)
  generalize hway:sgS (crS a b c)=way at *
  have eneg:OG .i64 way=-way:=by unfold OG;rw [w64 (by omega) (by omega)];omega
  refine Tot.bind (R:=λ y=>y=D7 [a,b,c] q) ?_ λ y hy=>?_
  ·have nrs:∀ p∈[a,b,c],Nr p:=λ p hp=>(hm p hp).nr
   refine Tot.upto 3 (λ i (x:Bool×Int)=>x.2=(i:Int)/\x.1=decide (∀ j,j<i->sgS (crS (sd [a,b,c] j).1 (sd [a,b,c] j).2 q)≠-way)) ?_ ?_ _ ⟨rfl,by symm;exact decide_eq_true (λ j hj=>by omega)⟩
   ·rintro i ⟨o,x⟩ hi ⟨e1,e2⟩
    simp only at e1 e2
    subst e1
    unfold Bm
    have hlt:i<[a,b,c].length:=hi
    obtain ⟨n1,n2⟩:=Md nrs hlt
    have em:CL (Bt .i64 (i:Int) 1) 3=(((i+1) % 3:Nat):Int):=by rw [Cg (by omega),(Dv (by omega) (by omega)).1];omega
    have e3:decide (∀ j,j<i+1->sgS (crS (sd [a,b,c] j).1 (sd [a,b,c] j).2 q)≠-way)=(o&&decide (sgS (crS (sd [a,b,c] i).1 (sd [a,b,c] i).2 q)≠-way)):=by
     rw [e2,Bool.eq_iff_iff,Wi,decide_eq_true_eq,decide_eq_true_eq,decide_eq_true_eq]
     constructor
     ·intro h;exact ⟨λ j hj=>h j (by omega),h i (by omega)⟩
     ·rintro ⟨h,h'⟩ j hj
      rcases Nat.lt_succ_iff_lt_or_eq.1 hj with hj|rfl
      ·exact h j hj
      ·exact h'
    refine Tot.iteT (decide_eq_true (by omega)) ?_
    cases o with
    | false=>
     refine Tot.gF rfl (Tot.gF rfl (Tot.gF rfl (Tot.gF rfl (Tot.gF rfl (Tot.pure ⟨Cg (by omega),?_⟩)))))
     show false=_
     rw [e3];rfl
    | true=>
     refine Tot.gE rfl (Ev.all λ n=>Dw (decide_eq_true (by omega))) (Tot.gE rfl (Ev.all λ n=>Dj hlt) (Tot.gE rfl (Ev.all λ n=>Dw (decide_eq_true (by show 0<=CL (Bt .i64 (i:Int) 1) 3/\CL (Bt .i64 (i:Int) 1) 3<_;rw [em];omega))) (Tot.gE (x:=(sd [a,b,c] i).2) rfl (Ev.all λ n=>?_) (Tot.gE rfl (Ev.all λ n=>NU n n1 n2 nq) (Tot.pure ⟨Cg (by omega),?_⟩)))))
     ·show idx [a,b,c] (CL (Bt .i64 (i:Int) 1) 3)=_
      rw [em]
      exact Dj (Nat.mod_lt _ (by decide))
     ·show (true&&(sgS _ != OG .i64 way))=_
      rw [e3,eneg,Bool.true_and,Bool.true_and,Bool.eq_iff_iff,bne_iff_ne,decide_eq_true_eq]
      exact Iff.rfl
   ·rintro ⟨o,x⟩ ⟨e1,e2⟩
    simp only at e1 e2
    subst e1 e2
    unfold Bm
    refine Tot.iteF (decide_eq_false (by omega)) (Tot.pure ?_)
    show decide _=_
    rw [Ss hD,hway,Bool.eq_iff_iff,decide_eq_true_eq,Wi,Wi,decide_eq_true_eq,decide_eq_true_eq,decide_eq_true_eq]
    constructor
    ·intro h;exact ⟨⟨h 0 (by decide),h 1 (by decide)⟩,by have:=h 2 (by decide);rw [(sd3 a b c).2.2] at this;exact this⟩
    ·rintro ⟨⟨h,h'⟩,h''⟩ j hj
     rcases (by omega:j=0\/j=1\/j=2) with rfl|rfl|rfl
     ·exact h
     ·exact h'
     ·rw [(sd3 a b c).2.2];exact h''
  ·subst hy
   refine Tot.gE rfl (Ev.all λ n=>rfl) (Tot.gE rfl (G3 (by simp) (λ p hp=>(hm p hp).nr) nq) (Tot.pure ?_))
   rw [beq_self_eq_true];rfl
end Go.AI
end
section
namespace Go.AI
def cnT (d:List Bool):Nat:=d.countP λ b=>b
structure Ps (r:List Aa) (d0:List Bool) (dn:Nat->Nat->Prop) (d:List Bool) (c:Int):Prop where
 len:d.length=r.length
 cnt:c=(cnT d:Nat)
 ge:cnT d0<=cnT d
 eq:cnT d=cnT d0->d=d0/\∀ i k,i<r.length->k<r.length->dn i k->d0.getD i false=true->Fx (r.getD i default) (r.getD k default)<=1->d0.getD k false=true
theorem Ps.to {r:List Aa} {d0:List Bool} {A B:Nat->Nat->Prop} {d:List Bool} {c:Int} (h:Ps r d0 A d c) (hAB:∀ i k,i<r.length->k<r.length->B i k->A i k):Ps r d0 B d c:=
 ⟨h.len,h.cnt,h.ge,λ e=>⟨(h.eq e).1,λ i k hi hk hb=>(h.eq e).2 i k hi hk (hAB i k hi hk hb)⟩⟩
end Go.AI
end
section
namespace Go.AI
theorem FA {n:Int} (h:okI .u8 n):U8 n:=by
 unfold okI Lit.wf at h
 have:IntKind.u8.min=0/\IntKind.u8.max=255:=by decide
 unfold U8
 simp only [Wi,decide_eq_true_eq] at h
 omega
theorem Tot.out {f:Nat->Option Bool} (h:Tot f (λ y=>y=true)):∃ n,f n=some true:=by
 obtain ⟨z,rfl,N,h⟩:=h
 exact ⟨N,h N (V9 _)⟩
theorem Su:∀ (p:OW (FK Int)) (w:FK Int),((okI .u8 p.a0.a0/\okI .u8 p.a0.a1)/\(okI .u8 p.a1.a0/\okI .u8 p.a1.a1)/\(okI .u8 p.a2.a0/\okI .u8 p.a2.a1))->(okI .u8 w.a0/\okI .u8 w.a1)->∃ n,Cf n p w=some true:=λ p w h hw=>
 (Uq (λ a ha=>by
  simp only [List.mem_cons,List.not_mem_nil,or_false] at ha
  rcases ha with rfl|rfl|rfl
  ·exact ⟨FA h.1.1,FA h.1.2⟩
  ·exact ⟨FA h.2.1.1,FA h.2.1.2⟩
  ·exact ⟨FA h.2.2.1,FA h.2.2.2⟩) (FA hw.1) (FA hw.2)).out
end Go.AI
end
section
namespace Go.Proofs.Ytfoknlpndaekdaa
open Go.AI Go.ChangeShapes Go.WideShapes Go.ChangeAt Go.RowKit
theorem own:ownKnob Try.prog.godebug=none:=by kernel_rfl
set_option maxRecDepth 100000 in
theorem Ur (os:Os) (started:os.Started) (H:Type) (enc:TypeId×Value->H) :
  ReturnsInHanded {} Try.checked os 5 .any (Rows.shapeTrianglesSpec.pre6 enc Try.prog Try.f5 Rows.shapeTrianglesRow.domain false) (Rows.shapeTrianglesSpec.post enc Try.prog Try.f5 false true false false):=by
 refine returnsInHanded_of_change (C:=Try.checked) own started (by kernel_rfl) Try.func5
  (ChangeSpec.witness6 (enc:=enc) (C:=Try.checked) false ⟨#[],#[.agg #[.int .u8 0,.int .u8 0,.int .u8 0,.int .u8 0,.int .u8 0,.int .u8 0],.agg #[.int .u8 0,.int .u8 0]],[]⟩ 8 (by kernel_rfl) (by kernel_rfl) (by kernel_rfl) (by kernel_rfl)) ?_
 intro W base args ds gs before hval0 hW hcnd _
 have hval:∀ (j:Nat) t v,Try.f5.params[j]? = some t->args[j]? = some v->Value.okWide Try.prog W .any base t v:=hval0
 have hW':=hW
 obtain ⟨p,q,hA0,hV,rfl,hfz,hnd⟩:=hW
 have hA:DataW.TrodAll enc Try.prog W 0 (λ _=>true) true Try.f5.params.toList args.toList ds p:=hA0
 have hlt:=hA.lt
 rw [Try.params5] at hA hval
 obtain ⟨v0,vs0,d0,ds0,p0,q0,hargs,rfl,rfl,h0,r0⟩:=trodAll_cons hA
 obtain ⟨v1,vs1,d1,ds1,p1,q1,rfl,rfl,rfl,h1,r1⟩:=trodAll_cons r0
 obtain ⟨rfl,rfl,rfl⟩:=trodAll_nil r1
 obtain rfl:args=#[v0,v1]:=by cases args;simp_all
 obtain ⟨rfl,rfl⟩:=trodVars_none hV
 obtain ⟨cs0,hc0,_⟩:=GB Try.underlying43 (hval 0 43 v0 rfl rfl)
 obtain ⟨a0,k0,rep0⟩:=NO hc0 h0 VX
 obtain ⟨cs1,hc1,_⟩:=GB Try.underlying25 (hval 1 25 v1 rfl rfl)
 obtain ⟨a1,k1,rep1⟩:=NO hc1 h1 Sf
 clear hA0 hval0
 simp only [List.append_nil] at hW' hlt
 obtain ⟨n,hn⟩:=Su a0 a1 k0 k1
 refine (Q4 (ES hn) (NP rep0 (NP rep1 Ue))).mono λ e W' ⟨he,hg,hold⟩=>?_
 subst he
 exact ⟨_,rfl,OZ (pv:=[]) hW' (λ _ _ _=>(trodAll_cons_mk (shut_bool Try.underlying4 _) trodAll_mk0)) (λ sp hsp=>trodAll_cons_mk (SJ (by kernel_rfl) (by kernel_rfl) (of_decide_eq_true (by kernel_rfl)) h0 (λ p hp=>hlt p (by simp [hp])) (λ p hp=>hsp p (by simp [hp])) hold) (trodAll_cons_mk (SJ (by kernel_rfl) (by kernel_rfl) (of_decide_eq_true (by kernel_rfl)) h1 (λ p hp=>hlt p (by simp [hp])) (λ p hp=>hsp p (by simp [hp])) hold) trodAll_mk0)) (λ _ _=>rfl) (by simp) (hg _) hold (ok_one (by kernel_rfl) rfl (okWide_bool_mk Try.underlying4 _))⟩
theorem VZ:Rows.shapeTrianglesRow.holds Try.pinned (OpenSpec.ofChange Rows.shapeTrianglesSpec):=
 OpenClaim.holds_of_wide 5 Try.f5 rfl rfl rfl rfl rfl rfl rfl ⟨rfl,rfl,rfl,rfl,rfl⟩ rfl rfl rfl rfl rfl (by kernel_rfl) Try.func5 (by kernel_rfl)
  (of_decide_eq_true (by kernel_rfl)) (by unfold Func.isWrapper;first|(rw [if_pos (by decide +kernel)];kernel_rfl)|(rw [if_neg (by decide +kernel)];exact ⟨rfl,rfl⟩))
  (λ os started H enc _=>Ur os started H enc)
theorem shapeTriangles_holds:Rows.ShapeTrianglesSaid:=VZ
end Go.Proofs.Ytfoknlpndaekdaa
end
