/- The theorem: the last one of this text; part 4 of 4 of its proof. It holds with no condition beyond the given statement. -/
import Derived.Test.YtfoknlpndaekdaaLC
import Derived.Shelf.Sort.Plain
import Derived.Shelf.Slices.In.SortNone
import Derived.Shelf.SlSortCmp.NoneTotal
import Derived.Test.YtfoknlpndaekdaaProg
import Derived.Shelf.SlLaysF0
import Derived.KernelRfl
import Derived.ChangeArms
import Derived.WalkKit
import Derived.ProofKit
import Derived.OpenShut
import Derived.Carry
import Derived.WideKeyArgs
import Derived.ChangeSame
import Derived.Test.YtfoknlpndaekdaaRows
section
namespace Go.AI
variable {P:Program} {Γ:Cx} {C:Code} {p:List Nat} {Q:Ex->St->Prop} {s s':St} {K:St->Prop} {i nk:Nat}
variable {α β ζ ε σ ρ τ:Type}
theorem bE {X:Option ζ} {G:Prop} (h:∃ z,X=some z) (k:∀ z,X=some z->G):G:=by obtain ⟨z,h⟩:=h;exact k z h
theorem VU {l l1 l2:List ε} {e:ε} (h:l=l1++e::l2):e∈l:=by subst h;simp
def ndQ (Γ:Cx) (c:Code) (i:Nat) (Q:Ex->St->Prop):Ex->St->Prop:=λ _ s=>∃ o,(Az c)[i]? = some o/\UQ Γ o (λ s'=>D2 Γ false (Az c) ((Az c).drop (i+1)) (Q .normal) s') s
structure ND (Γ:Cx) (c:Code) (i:Nat) (Q:Ex->St->Prop) (s:St):Prop where
 out:ndQ Γ c i Q .normal s
theorem O9 {m:Nat} {ops:List Oper}:∀ (l:List Oper) (Q:St->Prop) (s:St),D2 Γ false (ops.take m) l Q s->D2 Γ false ops l Q s:=by
 intro l
 induction l with
 | nil=>intro Q s h;exact h
 | cons o l ih=>intro Q s h;exact F9 (ih Q) (I0 h)
theorem rn (m:Nat) (hs:Au Γ.nt.nk s s') (hk:RF Γ (DG m (nav p C)) [] 0 (ndQ Γ (nav p C) m (KI C p s' Q)) s') (h:(FQ (nav p C)&&!Gv (nav p C))=true:=by kernel_rfl):WP Γ C p Q s:=by
 refine ⟨?_⟩
 have hk:=hk.out
 unfold Ay at hk
 simp only [nav,List.drop_zero] at hk
 unfold KI at hk
 generalize nav p C=c at *
 cases c with
 | region id ops d=>
  simp only [FQ,Gv,Bool.true_and,Bool.not_eq_true'] at h
  subst h
  refine ⟨s',hs,.inr (.inr ⟨rfl,?_⟩)⟩
  have hk:D2 Γ false (ops.toList.take m) (ops.toList.take m) _ s':=hk
  have hk:=O9 _ _ _ hk
  by_cases hm:m<ops.toList.length
  ·refine ⟨m,ops.toList[m],WH hm,Dz (λ s1 h1=>?_) _ _ hk⟩
   obtain ⟨o,ho,h1⟩:=h1
   rw [show Az (.region id ops false)=ops.toList from rfl,WH hm] at ho
   cases ho
   obtain ⟨q1,q2,S,q3,q4⟩:=h1
   exact ⟨q1,q2,S,q3,λ st' hst=>Dz (λ s2 h2=>h2.2) _ _ (q4 st' hst)⟩
  ·exfalso
   obtain ⟨S,_,_,hQS⟩:=DC _ _ _ hk
   obtain ⟨o,ho,_⟩:=hQS
   rw [show Az (.region id ops false)=ops.toList from rfl,List.getElem?_eq_none (by omega)] at ho
   cases ho
 | _=>cases h
theorem nd0 {c:Code} {m:Nat} (hk:ND Γ c m Q s) (hi:Nat.ble (Az (DG m c)).length i=true:=by kernel_rfl):RF Γ (DG m c) [] i (ndQ Γ c m Q) s:=⟨IQ i hi hk.out⟩
structure YOK (P:Program) (Γ:Cx):Prop where
 exn:Γ.exn=F6 P
def QF (Γ:Cx) (c:Code) (o:Oper):Bool:=!Gv c&&o.guard.isNone&&AZ Γ.nt o.dst
theorem Md (hY:YOK P Γ) {o:Oper} {S:St->Prop} (ho:(Az (nav p C))[i]? = some o) (h0:QF Γ (nav p C) o=true) (hx:F6 P Γ.nt o s S) (hk:∀ s',S s'->RF Γ C p (i+1) Q s'):ND Γ (nav p C) i Q s:=by
 simp only [QF,WI,Bool.not_eq_true'] at h0
 obtain ⟨⟨h1,h2⟩,h3⟩:=h0
 refine ⟨o,ho,by simpa using h2,h3,S,by rw [hY.exn];exact hx,λ s' hs=>?_⟩
 have:=(hk s' hs).out
 unfold Ay at this
 rw [h1] at this
 exact this
def U9 (objs:List (Option Ob)) (k:Nat):Option (Bool×Bool×List (List D×List D)):=match obA objs k with
 | some (.iter ka va _ l)=>some (ka,va,l)
 | _=>none
def itB (Γ:Cx) (c:Code) (i k:Nat) (s:St):Bool:=match (Az c)[i]? with
 | some o=>QF Γ c o&&(match o.op with
  | .next x b=>!b&&(match Ae s.env x with
   | .ptr k' off=>Nat.beq k' k&&Nat.beq off 0
   | _=>false)
  | _=>false)
 | none=>false
def itD (c:Code) (i:Nat):Option Tmp:=match (Az c)[i]? with
 | some o=>o.dst
 | none=>none
theorem nxt (hY:YOK P Γ) (k:Nat) {κ:Type} {encK:κ->List D} {enc:α->List D} {ka va:Bool} {m:List (κ×α)} (h0:m=[]->RF Γ C p (i+1) Q ⟨putA (itD (nav p C) i) false true (.tup [.d (.bool false)]) s.env,s.objs⟩)
  (h1:∀ e m1 m2,m=m1++e::m2->RF Γ C p (i+1) Q ⟨putA (itD (nav p C) i) false true (.tup [.d (.bool true),.top,.top]) s.env,s.objs.set k (some (.iter ka va (some (encK e.1,enc e.2)) (Bk encK enc (m1++m2))))⟩)
  (hb:itB Γ (nav p C) i k s=true:=by kernel_rfl) (hm:U9 s.objs k=some (ka,va,Bk encK enc m):=by kernel_rfl):ND Γ (nav p C) i Q s:=by
 unfold itB at hb
 unfold itD at h0 h1
 unfold U9 at hm
 split at hb
 ·rename_i o ho
  rw [ho] at h0 h1
  simp only [WI] at hb
  obtain ⟨hb1,hb2⟩:=hb
  split at hb2
  ·rename_i x b hop
   simp only [WI,Bool.not_eq_true'] at hb2
   obtain ⟨rfl,hb2⟩:=hb2
   split at hb2
   ·rename_i k' off hx
    simp only [WI] at hb2
    have e1:=WO hb2.1
    have e2:=WO hb2.2
    subst e1;subst e2
    split at hm
    ·rename_i ka' va' cur l hob
     cases hm
     refine Md hY ho hb1 (QC hop hx hob) λ s' hs=>?_
     rcases hs with ⟨hl,rfl⟩|⟨l1,e,l2,hl,rfl⟩
     ·refine h0 ?_
      cases m with
      | nil=>rfl
      | cons _ _=>cases hl
     ·obtain ⟨m1,r,hm1,rfl,hr⟩:=List.map_eq_append_iff.1 (show Bk encK enc m=l1++e::l2 from hl)
      obtain ⟨e',m2,rfl,rfl,rfl⟩:=List.map_eq_cons_iff.1 hr
      have:=h1 e' m1 m2 hm1
      unfold Bk at this
      rw [List.map_append] at this
      exact this
    ·cases hm
   ·cases hb2
  ·cases hb2
 ·cases hb
def nxR (Γ:Cx) (c:Code) (i:Nat) (s:St):Option St:=match (Az c)[i]? with
 | some o=>bif Qx Γ c o then (match o.op with
  | .range t x=>bif (Γ.ty t).ok then (match (Γ.ty t).kind,Ae s.env x with
   | .map _ _ _ _,.mp k=>match obA s.objs k with
    | some (.map ka va ents)=>some ⟨putA o.dst false true (.ptr s.objs.length 0) s.env,s.objs.set k none++[some (.iter ka va none ents)]⟩
    | _=>none
   | _,_=>none) else none
  | .entry x=>match Ae s.env x with
   | .ptr k 0=>match obA s.objs k with
    | some (.iter ka va (some e) _)=>some ⟨putA o.dst false true (.tup [kvV ka e.1,kvV va e.2]) s.env,s.objs⟩
    | _=>none
   | _=>none
  | _=>none) else none
 | none=>none
theorem xr (hX:XOK P Γ) (hk:RF Γ C p (i+1) Q ((nxR Γ (nav p C) i s).getD s)) (h:(nxR Γ (nav p C) i s).isSome=true:=by kernel_rfl):RF Γ C p i Q s:=by
 have h:=A7 (d:=s) h
 generalize (nxR Γ (nav p C) i s).getD s=s' at h hk
 unfold nxR at h
 split at h
 ·rename_i o ho
  obtain ⟨h0,h⟩:=Am h
  split at h
  ·rename_i t x hop
   obtain ⟨h1,h⟩:=Am h
   split at h
   ·rename_i ks ka' va' vz k hkd hx
    split at h
    ·rename_i ka va ents hob
     cases h
     exact Fr hX ho h0 (O4 hX.ty hop h1 hkd hx hob) hk
    ·cases h
   ·cases h
  ·rename_i x hop
   split at h
   ·rename_i k hx
    split at h
    ·rename_i ka va e l hob
     cases h
     exact Fr hX ho h0 (O5 hop hx hob) hk
    ·cases h
   ·cases h
  ·cases h
 ·cases h
theorem cT (hk:WP Γ C (p++[0]) Q s) (h:KN (nav p C)=true:=by kernel_rfl) (hc:Ae s.env (GY (nav p C))=.d (.bool true):=by kernel_rfl):WP Γ C p Q s:=⟨KH true (IY h) hc (λ _=>hk.out) (λ e=>by cases e)⟩
theorem cF (hk:WP Γ C (p++[1]) Q s) (h:KN (nav p C)=true:=by kernel_rfl) (hc:Ae s.env (GY (nav p C))=.d (.bool false):=by kernel_rfl):WP Γ C p Q s:=⟨KH false (IY h) hc (λ e=>by cases e) (λ _=>hk.out)⟩
def So (nk:Nat) (st:List ε->σ->St) (E0:σ->Ex->St->Prop) (E:ρ->Ex->St->Prop) (F:ε->σ->Option (σ⊕ρ)) (l:List ε) (x:σ):Ex->St->Prop
 | .normal,s=>∃ l1 e l2 y,l=l1++e::l2/\F e x=some (.inl y)/\Au nk s (st (l1++l2) y)
 | ex,s=>(l=[]/\E0 x ex s)\/∃ l1 e l2 r,l=l1++e::l2/\F e x=some (.inr r)/\E r ex s
theorem mg {st:List ε->σ->St} {E0:σ->Ex->St->Prop} {E:ρ->Ex->St->Prop} {F:ε->σ->Option (σ⊕ρ)} {l l1 l2:List ε} {e:ε} {x y:σ} (hl:l=l1++e::l2) (hF:F e x=some (.inl y)) (h:Au nk s (st (l1++l2) y)):PQ (So nk st E0 E F l x) .normal s:=⟨⟨l1,e,l2,y,hl,hF,h⟩⟩
theorem mE {st:List ε->σ->St} {E0:σ->Ex->St->Prop} {E:ρ->Ex->St->Prop} {F:ε->σ->Option (σ⊕ρ)} {l:List ε} {x:σ} {k nk':Nat} {st':τ->St} {y:τ} (hl:l=[]) (hE:E0 x=xX nk' k st' y) (h:Au nk' s (st' y)):PQ (So nk st E0 E F l x) (.exit k) s:=⟨.inl ⟨hl,by rw [hE];exact ⟨rfl,h⟩⟩⟩
theorem QG {F:ε->σ->Option (σ⊕ρ)} {l:List ε} {e:ε} {x y:σ} {done:List ε} (h:∀ rest,Dm F (done++rest) x=Dm F rest y) {y':σ} (hF:F e y=some (.inl y')):∀ rest,Dm F ((done++[e])++rest) x=Dm F rest y':=λ rest=>by
 rw [List.append_assoc,List.singleton_append,h]
 simp only [Dm,hF]
theorem lM {F:ε->σ->Option (σ⊕ρ)} {st:List ε->σ->St} {E0:σ->Ex->St->Prop} {E:ρ->Ex->St->Prop} {l:List ε} {x:σ} {nk':Nat} (hb:∀ l x,(∀ e,e∈l->∃ z,F e x=some z)->WP Γ C (p++[0]) (So nk' st E0 E F l x) (st l x)) (hs:Au nk' s (st l x))
  (hr:∀ ord,ord.Perm l->∃ r,Dm F ord x=some r) (hE0:∀ ord y,ord.Perm l->Dm F ord x=some (.inl y)->∀ e s,E0 y e s->PQ Q e s) (hE:∀ ord r,ord.Perm l->Dm F ord x=some (.inr r)->∀ e s,E r e s->PQ Q e s)
  (hn:Γ.nt.nk=nk':=by rfl) (h:IX (nav p C)=true:=by kernel_rfl):WP Γ C p Q s:=by
 subst hn
 refine ⟨?_⟩
 rw [L9 h]
 refine ⟨λ m s=>∃ done l' y,s=st l' y/\(done++l').Perm l/\(∀ rest,Dm F (done++rest) x=Dm F rest y)/\m=l'.length,l.length,⟨_,hs,[],l,x,rfl,List.Perm.refl _,λ _=>rfl,rfl⟩,?_⟩
 rintro m _ ⟨done,l',y,rfl,hp,hd,rfl⟩
 have hdef:∀ e,e∈l'->∃ z,F e y=some z:=λ e he=>by
  obtain ⟨l1,l2,rfl⟩:=List.append_of_mem he
  obtain ⟨r,hr⟩:=hr (done++e::(l1++l2)) ((List.Perm.append_left done List.perm_middle.symm).trans hp)
  rw [hd] at hr
  exact O8 hr
 refine IP ?_ (hb l' y hdef).out
 intro e s' hq
 cases e with
 | normal=>
  obtain ⟨l1,e,l2,y',rfl,hF,hsh⟩:=hq
  refine ⟨(l1++l2).length,_,by simp,hsh,done++[e],l1++l2,y',rfl,?_,QG (l:=l) hd hF,rfl⟩
  rw [List.append_assoc,List.singleton_append]
  exact (List.Perm.append_left done List.perm_middle.symm).trans hp
 | exit k=>
  rcases hq with ⟨rfl,hq⟩|⟨l1,e,l2,r,rfl,hF,hq⟩
  ·rw [List.append_nil] at hp
   have hm:Dm F done x=some (.inl y):=by have:=hd [];rw [List.append_nil] at this;rw [this];rfl
   exact (hE0 done y hp hm _ _ hq).out
  ·have hm:Dm F (done++e::(l1++l2)) x=some (.inr r):=by rw [hd];simp only [Dm,hF]
   exact (hE _ r ((List.Perm.append_left done List.perm_middle.symm).trans hp) hm _ _ hq).out
 | ret=>
  rcases hq with ⟨rfl,hq⟩|⟨l1,e,l2,r,rfl,hF,hq⟩
  ·rw [List.append_nil] at hp
   have hm:Dm F done x=some (.inl y):=by have:=hd [];rw [List.append_nil] at this;rw [this];rfl
   exact (hE0 done y hp hm _ _ hq).out
  ·have hm:Dm F (done++e::(l1++l2)) x=some (.inr r):=by rw [hd];simp only [Dm,hF]
   exact (hE _ r ((List.Perm.append_left done List.perm_middle.symm).trans hp) hm _ _ hq).out
theorem bI {x:Option α} {f:α->Option β} {r:β} (h:x.bind f=some r):∃ a,x=some a:=by
 cases x with
 | none=>cases h
 | some a=>exact ⟨a,rfl⟩
theorem bK {x:Option α} {f:α->Option β} {r:β} {a:α} (h:x.bind f=some r) (hx:x=some a):f a=some r:=by subst hx;exact h
theorem xQ {nk' k:Nat} {st':τ->St} {y:τ} {e:Ex} {G:Prop} (h:xX nk' k st' y e s) (hk:e=.exit k->Au nk' s (st' y)->G):G:=hk h.1 h.2
def GB (s:St) (k:Nat):Option St:=match obA s.objs k with
 | some (.iter ka va _ l)=>some ⟨s.env,s.objs.set k (some (.iter ka va none l))⟩
 | _=>none
theorem Va (k:Nat) (h:(GB s k).isSome=true:=by kernel_rfl):Au nk s ((GB s k).getD s):=by
 have h:=A7 (d:=s) h
 generalize (GB s k).getD s=s' at h
 unfold GB at h
 split at h
 ·rename_i ka va cur l hob
  cases h
  refine Au.sem λ _ _ _ _ _ _ _ _ hI=>?_
  obtain ⟨F,ρ,hS,hrest⟩:=hI
  refine ⟨F,ρ,hS.reob hob (λ L hr=>?_) (λ sz es he=>by cases he),hrest⟩
  obtain ⟨h1,bm,es,clock,since,seen,c0,q1,q2,q3,q4,q4',q5,q6,q7,_⟩:=hr
  exact ⟨h1,bm,es,clock,since,seen,c0,q1,q2,q3,q4,q4',q5,q6,q7,λ p hp=>by cases hp⟩
 ·cases h
def Me (Z:ζ->Prop) (r1:ζ->AV) (O1:ζ->List (Option Ob)):AV->List (Option Ob)->Prop:=λ r O=>∃ y,Z y/\r=r1 y/\O=O1 y
theorem pS {ty:Nat->Ty} {rs:List ResultVar} {Z:ζ->Prop} {r1:ζ->AV} {O1:ζ->List (Option Ob)} {y:ζ} (hy:Z y) (h:RL nk ty rs (r1 y) (O1 y) s):PQ (L3 nk ty rs (Me Z r1 O1)) .ret s:=by
 obtain ⟨s',h1,h2⟩:=h.out
 exact ⟨⟨s',h1,_,_,⟨y,hy,rfl,rfl⟩,h2⟩⟩
theorem pS' {ty:Nat->Ty} {rs:List ResultVar} {Z:ζ->Prop} {r1:ζ->AV} {O1:ζ->List (Option Ob)} {y:ζ} (hy:Z y) (h:RL nk ty rs (r1 y) (O1 y) s):PQ (L3 nk ty rs (Me Z r1 O1)) .normal s:=by
 obtain ⟨s',h1,h2⟩:=h.out
 exact ⟨⟨s',h1,_,_,⟨y,hy,rfl,rfl⟩,h2⟩⟩
def nxN (Γ:Cx) (c:Code) (i:Nat) (ord:List Nat) (nb:Nat) (r:AV) (O1:List (Option Ob)) (s:St):Option St:=
 match (Az c)[i]? with
 | some o=>bif QF Γ c o&&Nat.ble nb ord.length&&Nat.ble nb O1.length&&ord.all (λ k=>Nat.blt k s.objs.length) then
   some ⟨putA o.dst false true (E8 (BQ ord s.objs.length nb) r) s.env,Bg s.objs ord nb O1⟩ else none
 | none=>none
theorem nc (hY:YOK P Γ) (ord:List Nat) {f:FuncId} {ys:List AV} {O0 raw0:List (Option Ob)} {nb:Nat} {Z:ζ->Prop} {r1:ζ->AV} {O1:ζ->List (Option Ob)} (hr:BG P f ys O0 nb (Me Z r1 O1)) (hp0:raw0=O0)
  (hk:∀ y,Z y->RF Γ C p (i+1) Q ((nxN Γ (nav p C) i ord nb (r1 y) (O1 y) s).getD s)) (hg:CK (nav p C) i s=[]:=by kernel_rfl)
  (hc:Jw (nav p C) i s=some ((some f,((Jw (nav p C) i s).getD ((none,[]),[])).1.2),ord):=by kernel_rfl) (hxs:((Jw (nav p C) i s).getD ((none,[]),[])).1.2.map (C7 ord)=ys:=by kernel_rfl) (hO:BP s.objs ord=raw0:=by kernel_rfl)
  (hn:∀ y,(nxN Γ (nav p C) i ord nb (r1 y) (O1 y) s).isSome=true:=by intro y;kernel_rfl) (hb:Nat.ble nb ord.length=true:=by kernel_rfl) (hb2:ord.all (λ k=>Nat.blt k s.objs.length)=true:=by kernel_rfl) (h0:((Az (nav p C))[i]?.map (QF Γ (nav p C)))=some true:=by kernel_rfl):ND Γ (nav p C) i Q s:=by
 generalize ((Jw (nav p C) i s).getD ((none,[]),[])).1.2=zs at hc hxs
 subst hp0
 unfold Jw at hc
 split at hc
 ·rename_i o ho
  rw [ho] at h0
  simp only [Option.map_some,WR] at h0
  simp only [WR,Prod.mk.injEq] at hc
  obtain ⟨hc,hord⟩:=hc
  rw [hc] at hord
  simp only at hord
  subst hord
  subst hxs
  subst hO
  have hgob:CF true (o.op.operands.toList.map (Ae s.env)):=by
   refine Eg (g:=true) ?_
   unfold CK at hg
   rw [ho] at hg
   simp only at hg
   rw [hg]
   exact BM
  have hall:∀ y,Nat.ble nb (O1 y).length=true:=λ y=>by
   have:=hn y
   unfold nxN at this
   rw [ho] at this
   simp only at this
   cases hb3:Nat.ble nb (O1 y).length with
   | true=>rfl
   | false=>rw [hb3] at this;simp at this
  refine Md hY ho h0 (O6 hgob hc hr (WV hb) (λ r O hR=>?_) λ k hk=>?_) λ s' hs=>?_
  ·obtain ⟨y,_,_,rfl⟩:=hR
   exact WV (hall y)
  ·exact WV (Wv.1 hb2 k hk)
  ·obtain ⟨r,O,⟨y,hy,rfl,rfl⟩,rfl⟩:=hs
   have h:=hk y hy
   have e:nxN Γ (nav p C) i (Ah s.objs zs) nb (r1 y) (O1 y) s=some ⟨putA o.dst false true (E8 (BQ (Ah s.objs zs) s.objs.length nb) (r1 y)) s.env,Bg s.objs (Ah s.objs zs) nb (O1 y)⟩:=by
    unfold nxN
    rw [ho]
    simp only [h0,hb,hall y,hb2,Bool.and_self,cond_true]
   rw [e] at h
   exact h
 ·cases hc
theorem rfN (hΓ:Γ.lentS=BG P) (js:List Code) (ts ord:List Nat) {f:FuncId} {ys:List AV} {O0 raw0:List (Option Ob)} {nb:Nat} {Z:ζ->Prop} {r1:ζ->AV} {O1:ζ->List (Option Ob)} (j:ζ->Nat) (hr:BG P f ys O0 nb (Me Z r1 O1)) (hp0:raw0=O0)
  (hk:∀ y,Z y->JQ Q js (j y) ⟨s.env,(Bg ((rgV Γ (nav p C) js ts s).getD (0,[],[],[])).2.2.1 ord nb (O1 y)).set s.objs.length none⟩)
  (hc:rgV Γ (nav p C) js ts s=some (f,((rgV Γ (nav p C) js ts s).getD (0,[],[],[])).2.1,((rgV Γ (nav p C) js ts s).getD (0,[],[],[])).2.2.1,ord):=by kernel_rfl)
  (hxs:((rgV Γ (nav p C) js ts s).getD (0,[],[],[])).2.1.map (C7 ord)=ys:=by kernel_rfl) (hO:BP ((rgV Γ (nav p C) js ts s).getD (0,[],[],[])).2.2.1 ord=raw0:=by kernel_rfl)
  (hb:∀ y,rgB Γ ord nb ((rgV Γ (nav p C) js ts s).getD (0,[],[],[])).2.2.1 (O1 y)=true:=by intro y;kernel_rfl) (hb0:rgB Γ ord nb ((rgV Γ (nav p C) js ts s).getD (0,[],[],[])).2.2.1 (List.replicate nb none)=true:=by kernel_rfl) (hj:∀ y,lpJ (Bg ((rgV Γ (nav p C) js ts s).getD (0,[],[],[])).2.2.1 ord nb (O1 y)) s.objs.length=some (js,j y):=by intro y;kernel_rfl):WP Γ C p Q s:=by
 subst hp0
 generalize ((rgV Γ (nav p C) js ts s).getD (0,[],[],[])).2.1=xs at *
 generalize ((rgV Γ (nav p C) js ts s).getD (0,[],[],[])).2.2.1=O at *
 refine ⟨?_⟩
 unfold rgV at hc
 split at hc
 ·rename_i g ps asg body he
  split at hc
  ·rename_i f' caps hg
   simp only [WR,Prod.mk.injEq] at hc
   obtain ⟨rfl,rfl,rfl,rfl⟩:=hc
   unfold rgB at hb hb0
   simp only [WI,Bool.not_eq_true'] at hb hb0
   obtain ⟨⟨⟨b1,b2⟩,_⟩,b4⟩:=hb0
   rw [he]
   refine ⟨s,.refl s,.inr ?_⟩
   unfold Ic
   rw [hg]
   refine ⟨js,ts,nb,Me Z r1 O1,b1,?_,WV b2,λ k hk=>?_,λ r O hR=>?_⟩
   ·rw [hxs,hO,hΓ];exact hr
   ·have:=WV (Wv.1 b4 k hk)
    omega
   ·obtain ⟨y,hy,rfl,rfl⟩:=hR
    exact ⟨WV (hb y).1.2,j y,hj y,(hk y hy).out⟩
  ·cases hc
 ·cases hc
theorem flS {P:Program} {fn:Func} {f:FuncId} {args:List AV} {O0:List (Option Ob)} {nb:Nat} {R:AV->List (Option Ob)->Prop} (hfol:P.follows .mixedOrders=true) (hΓ:CG P Γ) (hf:P.funcs[f]? = some fn) (h:WP Γ (AM fn) [] (L3 nb Γ.ty fn.results.toList R) s)
  (hb:fn.body=some (AM fn):=by kernel_rfl) (hnm:(fn.name == "runtime.NumGoroutine")=false:=by kernel_rfl) (hnt:Γ.nt=⟨fn.ntmps,[],nb,Γ.nt.qf⟩:=by kernel_rfl) (hlen:Nat.ble args.length fn.ntmps=true:=by kernel_rfl) (hs:(⟨(List.range args.length).zip args,O0⟩:St)=s:=by kernel_rfl) (hrd:Γ.rd=false:=by kernel_rfl):BG P f args O0 nb R:=
 IM hfol hΓ hrd hf hb hnm hnt (WV hlen) (λ _ _ h=>h) (by rw [hs];exact h.out)
end Go.AI
end
section
namespace Go.AI
variable {P:Program} {Γ:Cx} {C:Code} {p:List Nat} {Q:Ex->St->Prop} {s s':St} {i nk:Nat}
variable {α β ζ:Type}
theorem Tz {e1:α->AV} (k off m:Nat) (t:Ty) {xs:List α} {n:Int} {x:α} (h:idx xs n=some x) (hk:obA s.objs k=some (.box (Gy s k)):=by kernel_rfl) (hc:((Gy s k).drop off).take m=xs.map e1:=by kernel_rfl) (ht:(!t.agg&&Nat.beq t.size 1)=true:=by kernel_rfl) :
  IZ s (Ci t s.objs (.ptr k (off+n.toNat*1))) (e1 x) [] [] none:=by
 generalize Gy s k=cells at hk hc
 obtain ⟨h1,_,h2⟩:=Gu h
 simp only [WI,Bool.not_eq_true'] at ht
 have hs:=WO ht.2
 have hg:cells[off+n.toNat*1]? = some (e1 x):=by
  have hm:n.toNat<((cells.drop off).take m).length:=by rw [hc,WF];exact (List.getElem?_eq_some_iff.1 h2).1
  have:((cells.drop off).take m)[n.toNat]? = some (e1 x):=by rw [hc,WL,h2];rfl
  rw [WY (by simp at hm;omega),WD] at this
  rw [Nat.mul_one];exact this
 have hl:=(List.getElem?_eq_some_iff.1 hg).1
 have:Ci t s.objs (.ptr k (off+n.toNat*1))=AO (e1 x) (off+n.toNat*1+t.size<=cells.length):=by
  simp only [Ci,hk,BF,ht.1,cond_false,hg]
 rw [this]
 exact .of rfl (by omega)
theorem xcv (hX:XOK P Γ) (ord:List Nat) {f:FuncId} {ys:List AV} {O0 O1:List (Option Ob)} {nb:Nat} {r:AV} (hr:Ba P f ys O0 nb r O1) (hk:RF Γ C p (i+1) Q ((nxC Γ (nav p C) i ord nb r O1 s).getD s))
  (hc:Ju (nav p C) i s=some (((Ju (nav p C) i s).getD ((none,[]),[])).1,ord):=by kernel_rfl) (hm:Tr P ((Ju (nav p C) i s).getD ((none,[]),[])).1.1 f=Nat.beq f f:=by kernel_rfl)
  (hxs:((Ju (nav p C) i s).getD ((none,[]),[])).1.2.map (C7 ord)=ys:=by kernel_rfl) (hO:BP s.objs ord=O0:=by kernel_rfl) (hn:(nxC Γ (nav p C) i ord nb r O1 s).isSome=true:=by kernel_rfl):RF Γ C p i Q s:=xc hX ord hr hk hc (hm.trans (Nat.beq_refl f)) hxs hO hn
end Go.AI
end
section
namespace Go.AI
open Go.Sort Go.Shelf Go.Proofs
variable {P:Program} {ρs:Ren}
theorem Sim.more {N:Nat->Prop} {H0 F0 F:Nat->Option Obj} {ρ:Nat->Option Loc} {O:List (Option Ob)} {h:Array Obj} (hS:Sim N H0 F0 F ρ O h) (os:Array Obj):Sim N H0 F0 F ρ O (h++os):=by
 have hl:∀ b,b<h.size->(h++os)[b]? = h[b]? := λ b hb=>Array.getElem?_append_left hb
 have hg:∀ b o,h[b]? = some o->(h++os)[b]? = some o:=λ b o hb=>by rw [hl b (Af hb)];exact hb
 obtain ⟨σ,hσ⟩:=hS.inn
 have hM:∀ k c M,σ k c=some M->(h++os)[M.b]? = h[M.b]? := λ k c M hM=>hl _ (hσ.new k c M hM).2.1
 refine { hS with size:=λ b hb=>hS.size b (by simp at hb;omega),old:=λ b hb=>?_,frz:=λ b o hb=>hg b o (hS.frz b o hb),loc:=λ k L hk=>?_,obj:=λ k L ob hk ho=>?_,inn:=⟨σ,λ k c M hM=>?_,hσ.obj,hσ.sep,λ k L sz es hk ho i e j isz xs hi hj cs t fr v hb hv=>?_⟩ }
 ·have:b<h.size:=by
   apply Classical.byContradiction;intro hn
   exact hb (hS.size b (by omega))
  rw [hl b this];exact hS.old b hb
 ·have:=hS.loc k L hk;simp;omega
 ·obtain ⟨g1,g2,g3⟩:=hS.obj k L ob hk ho
  exact ⟨g1.mono (FLe.refl _) (RLe.refl _) (hl _ (hS.loc k L hk)),g2,g3⟩
 ·obtain ⟨g1,g2,g3⟩:=hσ.new k c M hM
  exact ⟨g1,by simp;omega,g3⟩
 ·rw [hl _ (hS.loc k L hk)] at hb
  exact (hσ.rep k L sz es hk ho i e j isz xs hi hj cs t fr v hb hv).mono (FLe.refl _) λ L' hL'=>hM _ _ _ hL'
end Go.AI
end
section
namespace Go.AI
def Np {β:Type} (lt:β->β->Bool) (x:β):List β->List β
 | []=>[x]
 | y::l=>if lt y x=true then y::Np lt x l else x::y::l
def EL {β:Type} (lt:β->β->Bool):List β->List β
 | []=>[]
 | x::l=>Np lt x (EL lt l)
def Mf {β:Type} (lt:β->β->Bool) (xs:List β):Option (List β):=if xs.length<4611686018427387904 then some (EL lt xs) else none
section
variable {β:Type} {lt:β->β->Bool}
theorem G1 (x:β):∀ l:List β,(Np lt x l).Perm (x::l)
 | []=>.refl _
 | y::l=>by
  unfold Np
  split
  ·exact ((G1 x l).cons y).trans (.swap x y l)
  ·exact .refl _
theorem B9:∀ l:List β,(EL lt l).Perm l
 | []=>.refl _
 | x::l=>(G1 x _).trans ((B9 l).cons x)
theorem HD (hn:∀ x y z,lt x y=false->lt y z=false->lt x z=false) (ha:∀ x y,lt x y=true->lt y x=false) {x:β}:∀ {l:List β},l.Pairwise (λ a b=>lt b a=false)->(Np lt x l).Pairwise (λ a b=>lt b a=false)
 | [],_=>by simp [Np]
 | y::l,h=>by
  unfold Np
  rw [List.pairwise_cons] at h
  split
  ·rename_i hyx
   refine List.pairwise_cons.2 ⟨λ z hz=>?_,HD hn ha h.2⟩
   rcases List.mem_cons.1 ((G1 x l).mem_iff.1 hz) with rfl|hz
   ·exact ha _ _ hyx
   ·exact h.1 z hz
  ·rename_i hyx
   have hyx:lt y x=false:=by simpa using hyx
   refine List.pairwise_cons.2 ⟨λ z hz=>?_,List.pairwise_cons.2 h⟩
   rcases List.mem_cons.1 hz with rfl|hz
   ·exact hyx
   ·exact hn _ _ _ (h.1 z hz) hyx
theorem Ck (hn:∀ x y z,lt x y=false->lt y z=false->lt x z=false) (ha:∀ x y,lt x y=true->lt y x=false):∀ l:List β,(EL lt l).Pairwise (λ a b=>lt b a=false)
 | []=>.nil
 | _::l=>HD hn ha (Ck hn ha l)
theorem KQ (hi:∀ x,lt x x=false) (hn:∀ x y z,lt x y=false->lt y z=false->lt x z=false) (ht:∀ x y z,lt x y=true->lt y z=true->lt x z=true) (hT:∀ x y,lt x y=false->lt y x=false->x=y) (l:List β):EL lt l=l.mergeSort λ x y=>!lt y x:=by
 have ha:∀ x y,lt x y=true->lt y x=false:=λ x y h=>by
  rw [Bool.eq_false_iff];intro h'
  have:=ht x y x h h';rw [hi] at this;cases this
 refine List.Perm.eq_of_pairwise (le:=λ a b=>lt b a=false) (λ a b _ _ h1 h2=>hT _ _ h2 h1) (Ck hn ha l) ?_ ((B9 l).trans (List.mergeSort_perm _ _).symm)
 have:=List.pairwise_mergeSort (le:=λ x y:β=>!lt y x) (λ a b c h1 h2=>by simp at *;exact hn _ _ _ h2 h1) (λ a b=>by
  cases h:lt b a with
  | false=>simp
  | true=>simp [ha _ _ h]) l
 exact this.imp λ h=>by simpa using h
end
end Go.AI
end
section
namespace Go.AI
open Go.Sort Go.Shelf Go.Proofs
variable {P:Program} {ρs:Ren} {β:Type} [Inhabited β]
theorem AH.is_val {F:Nat->Option Obj} {x:D} {v:Value} (h:AH F x v) (hp:x.isPlain=true):v=x.val:=by
 cases h<;>first|rfl|cases hp
theorem Jy {x:D} (hp:x.isPlain=true):x.val.oneCell'=true:=AH.oneCell (AH.val (λ _=>none) hp)
theorem QH {g:Nat} {enc:β->List D} (hpl:∀ x,∀ d∈enc x,d.isPlain=true) {cf:β->β->Int} (hcmp:∀ x y,AB P g [.agg ((enc x).map .d),.agg ((enc y).map .d)] (.d (.int .i64 (cf x y)))) (k blk off size:Nat) (w:World):CmpLays P g #[] (λ x=>(enc x).map D.val) k cf blk off size w:=by
 intro m os dk _ x y
 generalize sortWorldK (λ x=>(enc x).map D.val) k w blk off m dk os=W
 have ag:∀ z:β,Ad (λ _=>none) noR (.agg ((enc z).map .d)) (.agg ((enc z).map D.val).toArray):=λ z=>by
  refine .agg _ _ (by simp) λ i a v h1 h2=>?_
  simp only [WL,WK] at h1
  obtain ⟨d,hd,rfl⟩:=h1
  simp only [List.getElem?_toArray,WL,hd,Option.map_some,WR] at h2
  subst h2
  exact .d _ _ (AH.val _ (hpl z d (WJ hd)))
 refine ((hcmp x y).2 (λ _=>none) W _ ⟨rfl,λ i a v h1 h2=>?_⟩ (λ b o h=>by cases h)).mono λ e w' he=>?_
 ·match i,h1,h2 with
  | 0,h1,h2=>cases h1;cases h2;exact ag x
  | 1,h1,h2=>cases h1;cases h2;exact ag y
 ·obtain ⟨v,F',ρ,rfl,hS,hv,hmu⟩:=he
  refine ⟨?_,w'.drawn-W.drawn,w'.heap.extract W.heap.size w'.heap.size,?_⟩
  ·have hv:Ad F' ρ (.d (.int .i64 (cf x y))) v:=hv
   rw [hv.int]
  ·obtain ⟨h1,h2,h3,h4,h5⟩:=hmu
   have hh:w'.heap=W.heap++w'.heap.extract W.heap.size w'.heap.size:=by
    apply Array.ext_getElem?
    intro b
    rw [Array.getElem?_append]
    split
    ·rename_i hb
     exact hS.old b (by omega)
    ·rename_i hb
     rw [Array.getElem?_extract]
     split
     ·congr 1;omega
     ·rw [Array.getElem?_eq_none (by omega)]
   show w'={ W with drawn:=W.drawn+(w'.drawn-W.drawn),heap:=W.heap++w'.heap.extract W.heap.size w'.heap.size }
   rw [← hh,Nat.add_sub_cancel' h5]
   cases w';cases W
   simp only at h1 h2 h4
   subst h1;subst h2;subst h4;rfl
theorem Nq (L:SlLaysF0.n6 P ρs) (k:Nat) (hk1:1<=k) (aE:∀ w,(isAgg (ρs.t 24)).run P w=.ok true w) (zE:∀ w,(Go.sizeOf (ρs.t 24)).run P w=.ok k w) {enc:β->List D} (hk:∀ x,(enc x).length=k) (hpl:∀ x,∀ d∈enc x,d.isPlain=true) {cf:β->β->Int} (hO:SWO (ltOf cf)) (hT:∀ x y,ltOf cf x y=false->ltOf cf y x=false->x=y) {g:Nat} (eg:∀ args w,(callFunc g args).run P w=.ok (.enter g args) w)
  (hcmp:∀ x y,AB P g [.agg ((enc x).map .d),.agg ((enc y).map .d)] (.d (.int .i64 (cf x y)))) (hf:∃ fn c,P.funcs[ρs.f 6]? = some fn/\fn.body=some c/\(fn.name == "runtime.NumGoroutine")=false) {xs zs:List β} (h:Mf (ltOf cf) xs=some zs) :
  Ba P (ρs.f 6) [.osl 0 k 0 xs.length,.clo g []] [some (.arr k (xs.map enc))] 1 (.tup []) [some (.arr k (zs.map enc))]:=by
 have hz:xs.length<4611686018427387904/\zs=xs.mergeSort λ x y=>!(ltOf cf) y x:=by
  unfold Mf at h
  split at h
  ·rename_i h1;exact ⟨h1,by rw [← KQ hO.irrefl hO.ntrans hO.trans hT];exact (Option.some.inj h).symm⟩
  ·cases h
 obtain ⟨hlt,hzs⟩:=hz
 refine ⟨hf,λ N F ρ w vs hS hcr=>?_⟩
 obtain ⟨v,u,rfl⟩:∃ v u,vs=#[v,u]:=by
  have h1:vs.size=2:=by simpa using hcr.1.symm
  exact ⟨vs[0],vs[1],by apply Array.ext;simp [h1];intro i h1' h2;simp at h2;match i,h2 with|0,_=>rfl|1,_=>rfl⟩
 have hv:=hcr.2 0 _ v rfl rfl
 have hu:=hcr.2 1 _ u rfl rfl
 have hu:u=.func (.func g) #[] #[]:=by
  cases hu with
  | clo _ _ vs hl _=>
   have:vs=#[]:=Array.eq_empty_of_size_eq_zero hl.symm
   rw [this]
 subst hu
 have hlen:zs.length=xs.length:=by rw [hzs];exact List.length_mergeSort _
 have htup:∀ F' ρ',Ad F' ρ' (.tup []) (.tuple #[]):=λ F' ρ'=>.tup [] #[] rfl λ i a v h=>by simp at h
 generalize hn:xs.length=n at hv
 cases hv with
 | osl0 _ _ _ a=>
  have hx:xs=[]:=List.length_eq_zero_iff.1 hn
  have hz0:zs=[]:=List.length_eq_zero_iff.1 (by omega)
  refine (AnyF.slices_SortFunc_none L a 0 _ w).mono λ e w' he=>?_
  obtain ⟨rfl,rfl⟩:=he
  subst hx;subst hz0
  exact ⟨_,F,ρ,rfl,hS,λ j _ L h=>h,htup _ _,Mu.refl _⟩
 | osl _ _ _ _ cap Lo hL hc hs hz=>
  obtain ⟨⟨g1,g2,cs,t,fr,g3,g4,g5,g6⟩,gN,gF⟩:=hS.obj 0 Lo _ hL rfl
  simp only [WF] at g2
  have hdm:∀ j,j<xs.length*k->j / k<xs.length/\j % k<k/\j / k*k+j % k=j:=λ j hj=>⟨(Nat.div_lt_iff_lt_mul (by omega)).2 hj,Nat.mod_lt _ (by omega),by rw [Nat.mul_comm];exact Nat.div_add_mod j k⟩
  have hcell:∀ j,j<xs.length*k->cs[Lo.base+j]? = some ((flatK (λ x=>(enc x).map D.val) k xs.toArray)[j]!):=λ j hj=>by
   obtain ⟨d1,d2,d3⟩:=hdm j hj
   have hx:xs.toArray[j / k]! = xs[j / k]:=by rw [getElem!_pos _ (j / k) (by simpa using d1)];simp
   have hd2:j % k<(enc xs[j / k]).length:=by rw [hk];exact d2
   obtain ⟨v,hv,hd⟩:=g6 (j / k) (enc xs[j / k]) (by rw [WL,WH d1];rfl) (j % k) _ (WH hd2)
   have:=hd.is_val (hpl _ _ (Wx hd2))
   subst this
   rw [get_flatK _ _ _ j (by simpa using hj),hx]
   rw [show Lo.base+j=Lo.base+j / k*k+j % k by omega,hv,getElem!_pos _ (j % k) (by simpa using hd2)]
   simp
  have hH:HoldsK (λ x=>(enc x).map D.val) k w Lo.b (Lo.base+0*k) xs.toArray:=λ j hj=>by
   have hj:j<xs.length*k:=by simpa using hj
   have:=hcell j hj
   refine ⟨by simp only [World.cell?,g3,Option.isSome_none,WS,if_false,Nat.zero_mul,Nat.add_zero];exact this,Id g3 (g5 _ ?_)⟩
   simp;omega
  have hcon:=AnyQ.slices_SortFunc_total L k aE zE (λ x=>(enc x).map D.val) (λ x=>by simp [hk]) (λ x v hv=>by
   simp only [WC] at hv
   obtain ⟨d,hd,rfl⟩:=hv
   exact Jy (hpl x d hd)) cf hO g #[] Lo.b (Lo.base+0*k) cap xs.toArray w eg (QH hpl hcmp k _ _ _ w) hH (Af g3) (by simpa using hlt) hT
  rw [show xs.toArray.size=n by simpa using hn] at hcon
  refine hcon.mono λ e w' he=>?_
  obtain ⟨rfl,m,os,rfl⟩:=he
  rw [show xs.toArray.toList=xs from rfl,← hzs]
  have hheap:(sortWorldK (λ x=>(enc x).map D.val) k w Lo.b (Lo.base+0*k) m zs.toArray os).heap=w.heap.setIfInBounds Lo.b (.cells (putCells id Lo.base (flatK (λ x=>(enc x).map D.val) k zs.toArray) cs) t fr)++os:=by
   simp only [sortWorldK,putRowK,grow,putRow,mapBlock,Sort.ahead,Nat.zero_mul,Nat.add_zero]
   congr 1
   apply Array.ext_getElem?
   intro i
   rw [Array.getElem?_modify,Array.getElem?_setIfInBounds]
   split
   ·rename_i e;subst e
    rw [if_pos (Af g3),g3];rfl
   ·rfl
  have hS1:=hS.rewrite (k':=0) (L':=Lo) (x:=.cells (putCells id Lo.base (flatK (λ x=>(enc x).map D.val) k zs.toArray) cs) t fr) (O':=[some (.arr k (zs.map enc))]) hL rfl (by rw [A0 hL];exact RLe.refl _) rfl (λ j ob' hj hob'=>by
    have:=Aq hob';simp at this;omega) (by simp) (by simp) (λ ob' hob'=>by
    cases hob'
    refine ⟨λ e he=>?_,by simp;rw [hlen];exact g2,_,t,fr,by rw [Array.getElem?_setIfInBounds_self_of_lt (Af g3)],by simp [putCells,g4],g5,λ i e hi j x hx=>?_⟩
    ·simp only [WC] at he;obtain ⟨y,_,rfl⟩:=he;exact hk y
    ·simp only [WL,WK] at hi
     obtain ⟨y,hy,rfl⟩:=hi
     have hj:j<k:=by have:=Ac hx;rw [hk] at this;exact this
     have hil:=Ac hy
     have hlt2:i*k+j<zs.length*k:=by
      have:(i+1)*k<=zs.length*k:=Wu k (by omega)
      rw [WT] at this;omega
     have hcs:Lo.base+i*k+j<cs.size:=by
      have:=hcell (i*k+j) (by rw [← hlen];exact hlt2)
      have:=Af this;omega
     refine ⟨x.val,?_,AH.val _ (hpl y x (WJ hx))⟩
     have e1:(flatK (λ x=>(enc x).map D.val) k zs.toArray)[i*k+j]! = x.val:=by
      rw [get_flatK _ _ _ _ (by simpa using hlt2)]
      have h1:(i*k+j) / k=i:=by rw [Nat.mul_comm,Nat.mul_add_div (by omega),Nat.div_eq_of_lt hj];omega
      have h2:(i*k+j) % k=j:=by rw [Nat.mul_comm,Nat.mul_add_mod];exact Nat.mod_eq_of_lt hj
      rw [h1,h2]
      have e0:zs.toArray[i]! = y:=by
       rw [getElem!_pos _ i (by simpa using hil)]
       simpa [WH hil] using hy
      rw [e0]
      have hjl:j<((enc y).map D.val).length:=by simp [hk];exact hj
      rw [getElem!_pos _ j hjl,List.getElem_map]
      have:=WH (l:=enc y) (by rw [hk];exact hj)
      rw [this] at hx;cases hx;rfl
     simp only [putCells,Array.getElem?_mapIdx,WM hcs,Option.map_some]
     rw [if_pos ⟨by omega,by simp;omega⟩,show Lo.base+i*k+j-Lo.base=i*k+j by omega,e1];rfl) (λ ob' hob'=>by cases hob';rfl)
  rw [A0 hL] at hS1
  refine ⟨_,F,ρ,rfl,by rw [hheap];exact hS1.more os,λ j _ L h=>h,htup _ _,rfl,rfl,by rw [hheap];simp,rfl,Nat.le_add_right _ _⟩
end Go.AI
end
section
namespace Go.AI
variable {β:Type}
def ltC (c:β->β->Option Int) (x y:β):Bool:=decide ((c x y).getD 0<0)
structure N4 (c:β->β->Option Int):Prop where
 tot:∀ x y,(c x y).isSome=true
 irrefl:∀ x,ltC c x x=false
 trans:∀ x y z,ltC c x y=true->ltC c y z=true->ltC c x z=true
 ntrans:∀ x y z,ltC c x y=false->ltC c y z=false->ltC c x z=false
 one:∀ x y,ltC c x y=false->ltC c y x=false->x=y
open Classical in
noncomputable def J8 (c:β->β->Option Int) (xs:List β):Option (List β):=if N4 c then Mf (ltC c) xs else none
theorem Ns {c:β->β->Option Int} {xs zs:List β} (h:J8 c xs=some zs):N4 c/\Mf (ltC c) xs=some zs:=by
 unfold J8 at h
 split at h
 ·rename_i hc;exact ⟨hc,h⟩
 ·cases h
theorem QI {c:β->β->Option Int} (hc:N4 c) (xs:List β) (h:xs.length<4611686018427387904):J8 c xs=some (EL (ltC c) xs):=by
 unfold J8 Mf
 rw [if_pos hc,if_pos h]
end Go.AI
end
section
namespace Go.AI
open Go.Sort Go.Shelf Go.Proofs
theorem KR {P:Program} {g:Nat} {fn:Func} (hf:P.funcs[g]? = some fn) (hb:fn.body=some (AM fn):=by kernel_rfl) (hnm:(fn.name == "runtime.NumGoroutine")=false:=by kernel_rfl) (args:Array Value) (w:World):(callFunc g args).run P w=.ok (.enter g args) w:=by
 simp only [callFunc,Ws,run_program,Wq,hf,hnm,hb,WS,if_false,Option.isNone_some,Wt]
theorem Nt {P:Program} {ρs:Ren} {β:Type} [Inhabited β] (L:SlLaysF0.n6 P ρs) {k:Nat} (hk1:1<=k) (aE:∀ w,(isAgg (ρs.t 24)).run P w=.ok true w) (zE:∀ w,(Go.sizeOf (ρs.t 24)).run P w=.ok k w) {enc:β->List D} (hk:∀ x,(enc x).length=k) (hpl:∀ x,∀ d∈enc x,d.isPlain=true) {c:β->β->Option Int} {g:Nat} (eg:∀ args w,(callFunc g args).run P w=.ok (.enter g args) w)
  (hcmp:∀ {x y:β} {z:Int},c x y=some z->AB P g [.agg ((enc x).map .d),.agg ((enc y).map .d)] (.d (.int .i64 z))) (hf:∃ fn c,P.funcs[ρs.f 6]? = some fn/\fn.body=some c/\(fn.name == "runtime.NumGoroutine")=false) {xs zs:List β} (h:J8 c xs=some zs) :
  Ba P (ρs.f 6) [.osl 0 k 0 xs.length,.clo g []] [some (.arr k (xs.map enc))] 1 (.tup []) [some (.arr k (zs.map enc))]:=by
 obtain ⟨hc,h⟩:=Ns h
 refine Nq L k hk1 aE zE hk hpl (cf:=λ x y=>(c x y).getD 0) ⟨hc.irrefl,hc.trans,hc.ntrans⟩ hc.one eg (λ x y=>hcmp ?_) hf h
 have:=hc.tot x y
 rw [Option.isSome_iff_exists] at this
 obtain ⟨n,hn⟩:=this
 rw [hn];rfl
end Go.AI
end
section
namespace Go.Proofs
open Go.Shelf
def Try.laysSortF_ren:Go.Shelf.Ren:=⟨λ|6=>53|15=>61|14=>60|28=>74|29=>75|20=>66|21=>67|22=>68|23=>69|24=>70|25=>71|26=>72|27=>73|46=>77|47=>78|48=>79|49=>80|50=>81|57=>82|n=>n,λ|22=>27|24=>32|25=>71|3=>3|39=>84|0=>0|53=>97|55=>99|4=>4|46=>90|45=>89|50=>94|5=>5|9=>9|66=>100|70=>104|76=>106|77=>107|n=>n,λ|n=>n⟩
theorem Try.laysSortF:Go.Proofs.SlLaysF0.n6 Try.prog Try.laysSortF_ren:={
 mixed:=by kernel_rfl
 f6:=⟨ "slices.SortFunc[[]sixdot/api.Point,sixdot/api.Point]",by decide,Try.func53.trans (congrArg some (by kernel_rfl))⟩
 f14:=⟨ "slices.pdqsortCmpFunc[sixdot/api.Point]",by decide,Try.func60.trans (congrArg some (by kernel_rfl))⟩
 f15:=Try.func61.trans (congrArg some (by kernel_rfl))
 f20:=⟨ "slices.insertionSortCmpFunc[sixdot/api.Point]",by decide,Try.func66.trans (congrArg some (by kernel_rfl))⟩
 f21:=⟨ "slices.heapSortCmpFunc[sixdot/api.Point]",by decide,Try.func67.trans (congrArg some (by kernel_rfl))⟩
 f22:=⟨ "slices.breakPatternsCmpFunc[sixdot/api.Point]",by decide,Try.func68.trans (congrArg some (by kernel_rfl))⟩
 f23:=⟨ "slices.choosePivotCmpFunc[sixdot/api.Point]",by decide,Try.func69.trans (congrArg some (by kernel_rfl))⟩
 f24:=⟨ "slices.reverseRangeCmpFunc[sixdot/api.Point]",by decide,Try.func70.trans (congrArg some (by kernel_rfl))⟩
 f25:=⟨ "slices.partialInsertionSortCmpFunc[sixdot/api.Point]",by decide,Try.func71.trans (congrArg some (by kernel_rfl))⟩
 f26:=⟨ "slices.partitionEqualCmpFunc[sixdot/api.Point]",by decide,Try.func72.trans (congrArg some (by kernel_rfl))⟩
 f27:=⟨ "slices.partitionCmpFunc[sixdot/api.Point]",by decide,Try.func73.trans (congrArg some (by kernel_rfl))⟩
 f28:=Try.func74.trans (congrArg some (by kernel_rfl))
 f29:=Try.func75.trans (congrArg some (by kernel_rfl))
 f46:=⟨ "slices.siftDownCmpFunc[sixdot/api.Point]",by decide,Try.func77.trans (congrArg some (by kernel_rfl))⟩
 f47:=Try.func78.trans (congrArg some (by kernel_rfl))
 f48:=Try.func79.trans (congrArg some (by kernel_rfl))
 f49:=⟨ "slices.medianAdjacentCmpFunc[sixdot/api.Point]",by decide,Try.func80.trans (congrArg some (by kernel_rfl))⟩
 f50:=⟨ "slices.medianCmpFunc[sixdot/api.Point]",by decide,Try.func81.trans (congrArg some (by kernel_rfl))⟩
 f57:=⟨ "slices.order2CmpFunc[sixdot/api.Point]",by decide,Try.func82.trans (congrArg some (by kernel_rfl))⟩
 t0:=Try.underlying0
 a0:=Try.isAgg0
 z0:=Try.sizeOf0
 v0:=Try.zeroValue0
 t3:=Try.underlying3
 a3:=Try.isAgg3
 z3:=Try.sizeOf3
 v3:=Try.zeroValue3
 t4:=Try.underlying4
 a4:=Try.isAgg4
 z4:=Try.sizeOf4
 v4:=Try.zeroValue4
 t5:=Try.underlying5
 a5:=Try.isAgg5
 z5:=Try.sizeOf5
 v5:=Try.zeroValue5
 t9:=Try.underlying9
 a9:=Try.isAgg9
 z9:=Try.sizeOf9
 v9:=Try.zeroValue9
 t22:=Try.underlying27
 a22:=Try.isAgg27
 z22:=Try.sizeOf27
 v22:=Try.zeroValue27
 t25:=Try.underlying71
 a25:=Try.isAgg71
 z25:=Try.sizeOf71
 v25:=Try.zeroValue71
 t39:=Try.underlying84
 a39:=Try.isAgg84
 z39:=Try.sizeOf84
 v39:=Try.zeroValue84
 t45:=Try.underlying89
 a45:=Try.isAgg89
 z45:=Try.sizeOf89
 v45:=Try.zeroValue89
 t46:=Try.underlying90
 a46:=Try.isAgg90
 z46:=Try.sizeOf90
 v46:=Try.zeroValue90
 t50:=Try.underlying94
 a50:=Try.isAgg94
 z50:=Try.sizeOf94
 v50:=Try.zeroValue94
 t53:=Try.underlying97
 a53:=Try.isAgg97
 z53:=Try.sizeOf97
 v53:=Try.zeroValue97
 t55:=Try.underlying99
 a55:=Try.isAgg99
 z55:=Try.sizeOf99
 v55:=Try.zeroValue99
 t66:=Try.underlying100
 a66:=Try.isAgg100
 z66:=Try.sizeOf100
 v66:=Try.zeroValue100
 t70:=Try.underlying104
 a70:=Try.isAgg104
 z70:=Try.sizeOf104
 v70:=Try.zeroValue104
 t76:=Try.underlying106
 a76:=Try.isAgg106
 z76:=Try.sizeOf106
 v76:=Try.zeroValue106
 t77:=Try.underlying107
 a77:=Try.isAgg107
 z77:=Try.sizeOf107
 v77:=Try.zeroValue107 }
end Go.Proofs
end
section
namespace Go.AI
variable {P:Program} {F:Nat->Option Obj} {ρ:Nat->Option Loc} {w:World}
def At (F:Nat->Option Obj) (ρ:Nat->Option Loc) (xs:Array Value) (o:Nat) (l:List AV):Prop:=∀ (j:Nat) a,l[j]? = some a->∃ v,xs[o+j]? = some v/\Ad F ρ a v
theorem At.take {xs:Array Value} {o:Nat} {l:List AV} (h:At F ρ xs o l) (n:Nat):At F ρ xs o (l.take n):=λ j a ha=>by
 rw [List.getElem?_take] at ha
 split at ha
 ·exact h j a ha
 ·cases ha
theorem At.drop {xs:Array Value} {o:Nat} {l:List AV} (h:At F ρ xs o l) (n:Nat):At F ρ xs (o+n) (l.drop n):=λ j a ha=>by
 rw [WD] at ha
 rw [WE];exact h _ a ha
end Go.AI
end
section
namespace Go.AI
open Go.Proofs
set_option maxRecDepth 100000
theorem Pa:Inf Try.prog 3 1 8 (.int .i64 0):=AL (by kernel_rfl)
theorem Sp:Inf Try.prog 4 1 1 (.bool false):=AL (by kernel_rfl)
theorem Sq:Inf Try.prog 5 1 1 (.int .u8 0):=AL (by kernel_rfl)
theorem VV:Inf Try.prog 9 1 16 (.string ⟨#[]⟩):=AL (by kernel_rfl)
theorem SN:Inf Try.prog 22 1 24 (.slice none 0 0):=AL (by kernel_rfl)
theorem Vb:Inf Try.prog 24 3 32 (.agg #[.int .u8 0,.int .u8 0,.slice none 0 0]):=AL (by kernel_rfl)
theorem QJ:Inf Try.prog 25 2 2 (.agg #[.int .u8 0,.int .u8 0]):=AL (by kernel_rfl)
theorem SO:Inf Try.prog 27 1 24 (.slice none 0 0):=AL (by kernel_rfl)
theorem Vc:Inf Try.prog 29 3 40 (.agg #[.int .i64 0,.int .i64 0,.slice none 0 0]):=AL (by kernel_rfl)
theorem QK:Inf Try.prog 32 2 16 (.agg #[.int .i64 0,.int .i64 0]):=AL (by kernel_rfl)
theorem SP:Inf Try.prog 40 1 1 (.int .i8 0):=AL (by kernel_rfl)
theorem Vd:Inf Try.prog 41 2 2 (.agg #[.int .i8 0,.int .i8 0]):=AL (by kernel_rfl)
theorem Ve:Inf Try.prog 43 6 6 (.agg #[.int .u8 0,.int .u8 0,.int .u8 0,.int .u8 0,.int .u8 0,.int .u8 0]):=AL (by kernel_rfl)
theorem Vf:Inf Try.prog 44 6 48 (.agg #[.int .i64 0,.int .i64 0,.int .i64 0,.int .i64 0,.int .i64 0,.int .i64 0]):=AL (by kernel_rfl)
theorem Vg:Inf Try.prog 53 1 24 (.slice none 0 0):=AL (by kernel_rfl)
theorem Vh:Inf Try.prog 57 1 8 (.map none):=AL (by kernel_rfl)
theorem SQ:Inf Try.prog 59 1 8 (.nilFunc):=AL (by kernel_rfl)
theorem Vi:Inf Try.prog 67 1 8 (.nilFunc):=AL (by kernel_rfl)
theorem Vj:Inf Try.prog 71 1 8 (.nilFunc):=AL (by kernel_rfl)
theorem Vk:Inf Try.prog 73 4 32 (.agg #[.nilFunc,.nilFunc,.nilFunc,.nilFunc]):=AL (by kernel_rfl)
theorem SR:Inf Try.prog 74 60 60 (.agg (Array.replicate 60 (.bool false))):=AL (by kernel_rfl)
theorem Vl:Inf Try.prog 75 3600 3600 (.agg (Array.replicate 3600 (.bool false))):=AL (by kernel_rfl)
theorem Vm:Inf Try.prog 79 1 24 (.slice none 0 0):=AL (by kernel_rfl)
theorem Vn:Inf Try.prog 84 1 8 (.int .u64 0):=AL (by kernel_rfl)
theorem Vo:Inf Try.prog 89 1 8 (.int .i64 0):=AL (by kernel_rfl)
theorem Vp:Inf Try.prog 97 1 4 (.int .u32 0):=AL (by kernel_rfl)
theorem Vq:Inf Try.prog 99 1 8 (.int .u64 0):=AL (by kernel_rfl)
theorem TA:Inf Try.prog 100 1 8 (.int .u64 0):=AL (by kernel_rfl)
theorem TB:Inf Try.prog 104 1 8 (.pointer none):=AL (by kernel_rfl)
def ty:Nat->Ty
 | 3=>⟨true,[],1,false,[.int .i64 0],.int .i64⟩
 | 4=>⟨true,[],1,false,[.bool false],.bool⟩
 | 5=>⟨true,[],1,false,[.int .u8 0],.int .u8⟩
 | 9=>⟨true,[],1,false,[.str []],.string⟩
 | 22=>⟨true,[],1,false,[.nil],.slice 2 2 [.int .u8 0,.int .u8 0]⟩
 | 24=>⟨true,[],3,true,[.int .u8 0,.int .u8 0,.nil],.struct [(0,1),(1,1),(2,1)]⟩
 | 25=>⟨true,[],2,true,[.int .u8 0,.int .u8 0],.array 2 1⟩
 | 27=>⟨true,[],1,false,[.nil],.slice 2 16 [.int .i64 0,.int .i64 0]⟩
 | 29=>⟨true,[],3,true,[.int .i64 0,.int .i64 0,.nil],.struct [(0,1),(1,1),(2,1)]⟩
 | 32=>⟨true,[.int .i64,.int .i64],2,true,[.int .i64 0,.int .i64 0],.struct [(0,1),(1,1)]⟩
 | 40=>⟨true,[],1,false,[.int .i8 0],.int .i8⟩
 | 41=>⟨true,[],2,true,[.int .i8 0,.int .i8 0],.array 2 1⟩
 | 43=>⟨true,[],6,true,[.int .u8 0,.int .u8 0,.int .u8 0,.int .u8 0,.int .u8 0,.int .u8 0],.array 3 2⟩
 | 44=>⟨true,[],6,true,[.int .i64 0,.int .i64 0,.int .i64 0,.int .i64 0,.int .i64 0,.int .i64 0],.array 3 2⟩
 | 53=>⟨true,[],1,false,[.nil],.slice 1 1 [.bool false]⟩
 | 57=>⟨true,[],1,false,[.nilm],.map [.int .i64,.int .i64] true false [.bool false]⟩
 | 59=>⟨true,[],1,false,[.nilf],.other⟩
 | 67=>⟨true,[],1,false,[.nilf],.other⟩
 | 71=>⟨true,[],1,false,[.nilf],.other⟩
 | 73=>⟨true,[],4,true,[.nilf,.nilf,.nilf,.nilf],.array 4 1⟩
 | 74=>⟨true,[],60,true,(List.replicate 60 (.bool false)),.array 60 1⟩
 | 75=>⟨true,[],3600,true,(List.replicate 3600 (.bool false)),.array 60 60⟩
 | 79=>⟨true,[],1,false,[.nil],.slice 1 8 [.int .i64 0]⟩
 | 84=>⟨true,[],1,false,[.int .u64 0],.int .u64⟩
 | 89=>⟨true,[],1,false,[.int .i64 0],.int .i64⟩
 | 97=>⟨true,[],1,false,[.int .u32 0],.int .u32⟩
 | 99=>⟨true,[],1,false,[.int .u64 0],.int .u64⟩
 | 100=>⟨true,[],1,false,[.int .u64 0],.int .u64⟩
 | 104=>⟨true,[],1,false,[.nilp],.other⟩
 | _=>⟨false,[],0,false,[],.other⟩
theorem tf3:Ar Try.prog 3 (ty 3):=tfM Pa Try.underlying3 rfl
theorem tf4:Ar Try.prog 4 (ty 4):=tfM Sp Try.underlying4 rfl
theorem tf5:Ar Try.prog 5 (ty 5):=tfM Sq Try.underlying5 rfl
theorem tf9:Ar Try.prog 9 (ty 9):=tfM VV Try.underlying9 rfl
theorem VW:Ar Try.prog 22 (ty 22):=tfM SN Try.underlying22 (slK QJ)
theorem VX:Ar Try.prog 24 (ty 24):=tfM Vb Try.underlying24 (stF (Fp (L4 Sq Try.underlying5) (Fp (L4 Sq Try.underlying5) (Fp (L4 SN Try.underlying22) P1))))
theorem VY:Ar Try.prog 25 (ty 25):=tfM QJ Try.underlying25 (arK Sq)
theorem VZ:Ar Try.prog 27 (ty 27):=tfM SO Try.underlying27 (slK QK)
theorem V0:Ar Try.prog 29 (ty 29):=tfM Vc Try.underlying29 (stF (Fp (L4 Pa Try.underlying3) (Fp (L4 Pa Try.underlying3) (Fp (L4 SO Try.underlying27) P1))))
theorem V1:Ar Try.prog 32 (ty 32):=tfM QK Try.underlying32 (stF (Fp (L4 Pa Try.underlying3) (Fp (L4 Pa Try.underlying3) P1))) (λ _=>R1 Try.underlying32 (by kernel_rfl) (by kernel_rfl) rfl λ j f k h1 h2=>match j,h1,h2 with|0,h1,h2=>(by cases h1;cases h2;exact ⟨by decide,rfl,⟨_,Try.underlying3⟩⟩)|1,h1,h2=>(by cases h1;cases h2;exact ⟨by decide,rfl,⟨_,Try.underlying3⟩⟩)|n+2,h1,_=>by simp at h1)
theorem V2:Ar Try.prog 40 (ty 40):=tfM SP Try.underlying40 rfl
theorem V3:Ar Try.prog 41 (ty 41):=tfM Vd Try.underlying41 (arK SP)
theorem V4:Ar Try.prog 43 (ty 43):=tfM Ve Try.underlying43 (arK QJ)
theorem V5:Ar Try.prog 44 (ty 44):=tfM Vf Try.underlying44 (arK QK)
theorem V6:Ar Try.prog 53 (ty 53):=tfM Vg Try.underlying53 (slK Sp)
theorem V7:Ar Try.prog 57 (ty 57):=tfM Vh Try.underlying57 (by obtain ⟨j,h1,h2,h3,h4⟩:=Sp;exact ⟨_,_,j,_,rfl,(Jt Try.underlying32 (by kernel_rfl) rfl λ j f k h1 h2=>match j,h1,h2 with|0,h1,h2=>(by cases h1;cases h2;exact ⟨by decide,rfl,⟨_,Try.underlying3⟩⟩)|1,h1,h2=>(by cases h1;cases h2;exact ⟨by decide,rfl,⟨_,Try.underlying3⟩⟩)|n+2,h1,_=>by simp at h1),h1,h4,rfl,(λ h=>by cases h),(λ _=>⟨_,rfl,rfl⟩)⟩)
theorem V8:Ar Try.prog 59 (ty 59):=tfM SQ Try.underlying59 trivial
theorem V9:Ar Try.prog 67 (ty 67):=tfM Vi Try.underlying67 trivial
theorem Wa:Ar Try.prog 71 (ty 71):=tfM Vj Try.underlying71 trivial
theorem Wb:Ar Try.prog 73 (ty 73):=tfM Vk Try.underlying73 (arK SQ)
theorem Wc:Ar Try.prog 74 (ty 74):=tfM SR Try.underlying74 (arK Sp)
theorem Wd:Ar Try.prog 75 (ty 75):=tfM Vl Try.underlying75 (arK SR)
theorem We:Ar Try.prog 79 (ty 79):=tfM Vm Try.underlying79 (slK Pa)
theorem Wf:Ar Try.prog 84 (ty 84):=tfM Vn Try.underlying84 rfl
theorem Wg:Ar Try.prog 89 (ty 89):=tfM Vo Try.underlying89 rfl
theorem Wh:Ar Try.prog 97 (ty 97):=tfM Vp Try.underlying97 rfl
theorem Wi:Ar Try.prog 99 (ty 99):=tfM Vq Try.underlying99 rfl
theorem Vr:Ar Try.prog 100 (ty 100):=tfM TA Try.underlying100 rfl
theorem Vs:Ar Try.prog 104 (ty 104):=tfM TB Try.underlying104 trivial
theorem tyOK:Ez Try.prog ty:=by
 intro t h
 unfold ty at h
 split at h
 ·exact tf3
 ·exact tf4
 ·exact tf5
 ·exact tf9
 ·exact VW
 ·exact VX
 ·exact VY
 ·exact VZ
 ·exact V0
 ·exact V1
 ·exact V2
 ·exact V3
 ·exact V4
 ·exact V5
 ·exact V6
 ·exact V7
 ·exact V8
 ·exact V9
 ·exact Wa
 ·exact Wb
 ·exact Wc
 ·exact Wd
 ·exact We
 ·exact Wf
 ·exact Wg
 ·exact Wh
 ·exact Wi
 ·exact Vr
 ·exact Vs
 ·cases h
theorem follows:Try.prog.follows .mixedOrders=true:=by kernel_rfl
def qfT:List (Nat×Nat):=[]
theorem Wj:∀ f k,(f,k)∈qfT->∀ vs:Array Value,vs.size=k->QD Try.prog (Ia f vs):=λ _ _ h=>by cases h
def cxk (n nk:Nat):Cx:=⟨ty,⟨n,[],nk,qfT⟩,AB Try.prog,Ba Try.prog,Gl Try.prog,F6 Try.prog,BG Try.prog,false⟩
def cxr (n nk:Nat):Cx:=⟨ty,⟨n,[],nk,[]⟩,AB Try.prog,Ba Try.prog,Gl Try.prog,F6 Try.prog,BG Try.prog,true⟩
def cx (n:Nat):Cx:=cxk n 0
theorem QL (n nk:Nat):CG Try.prog (cxk n nk):=⟨tyOK,λ _ _ _ h=>h,λ _ _ _ _ _ _ h=>h,λ _ _ _ _ _ h=>h,λ _ _ _ _ h=>h,λ _ _ _ _ _ h=>h,Wj,λ h=>by cases h⟩
theorem Vt (n nk:Nat):CG Try.prog (cxr n nk):=⟨tyOK,λ _ _ _ h=>h,λ _ _ _ _ _ _ h=>h,λ _ _ _ _ _ h=>h,λ _ _ _ _ h=>h,λ _ _ _ _ _ h=>h,λ _ _ h=>(by cases h),λ _=>rfl⟩
end Go.AI
end
section
namespace Go.AI
structure Aa where
 X:Int
 Y:Int
 deriving DecidableEq,Inhabited
structure Ag where
 Kind:Int
 Texture:Int
 P:(List Aa)
 deriving DecidableEq,Inhabited
structure Pb (α:Type) where
 a0:α
 a1:α
 deriving DecidableEq,Inhabited
structure GC where
 Kind:Int
 Texture:Int
 L:(List (Pb Int))
 deriving DecidableEq,Inhabited
structure Wp (α:Type) where
 a0:α
 a1:α
 a2:α
 deriving DecidableEq,Inhabited
def AE (_:Nat) (p0_:Int) (p1_:Int):Option Aa:=
 some ({ X:=p0_,Y:=p1_ }:Aa)
def Bf (n:Nat) :Option (List Aa):=
 (AE n 0 0).bind λ r1=>
 (AE n 2 0).bind λ r2=>
 (AE n 2 2).bind λ r3=>
 (AE n 0 2).bind λ r4=>
 some [r1,r2,r3,r4]
def Dr (_:Nat) (p0_:Ag) (x_1:Int):Option (Int⊕(Unit⊕Bool)):=
 if decide (x_1<((p0_.P.length:Nat):Int))=true then
  (idx p0_.P x_1).bind λ x1=>
  if ((((decide (x1.X<0))||(decide (x1.X>=60)))||(decide (x1.Y<0)))||(decide (x1.Y>=60)))=true then
   some (.inr (.inr false))
  else
   some (.inl (Bm .i64 x_1 1))
 else
  some (.inr (.inl ()))
def BW (n:Nat) (p0_:Ag):Option Bool:=
 if ((decide (((p0_.P.length:Nat):Int)<1))||(decide (((p0_.P.length:Nat):Int)>12)))=true then
  some false
 else
  (whl (λ (x:Int)=>Dr n p0_ x) n 0).bind λ y1=>
  match y1 with
  | Sum.inl _=>
   if (p0_.Kind==1)=true then
    some ((((p0_.P.length:Nat):Int)==1)&&(p0_.Texture==0))
   else
    if (p0_.Kind==2)=true then
     some ((decide (((p0_.P.length:Nat):Int)>=2))&&(p0_.Texture==0))
    else
     if (p0_.Kind==3)=true then
      some (((decide (((p0_.P.length:Nat):Int)>=3))&&(decide (p0_.Texture>=0)))&&(decide (p0_.Texture<=3)))
     else
      some false
  | Sum.inr y3=>
   some y3
def DQ (_:Nat) (p0_:(List Aa)) (x_2:Int):Option (Int⊕(Unit⊕Bool)):=
 if decide (x_2<((p0_.length:Nat):Int))=true then
  (idx p0_ x_2).bind λ x2=>
  if ((((decide (x2.X<(-1000)))||(decide (x2.X>1000)))||(decide (x2.Y<(-1000))))||(decide (x2.Y>1000)))=true then
   some (.inr (.inr false))
  else
   some (.inl (Bm .i64 x_2 1))
 else
  some (.inr (.inl ()))
def I1 (n:Nat) (p0_:(List Aa)):Option Bool:=
 (whl (λ (x:Int)=>DQ n p0_ x) n 0).bind λ y4=>
 match y4 with
 | Sum.inl _=>
  some true
 | Sum.inr y6=>
  some y6
def GD (_:Nat) (p0_:Int):Option Int:=
 if decide (p0_<0)=true then
  some (US .i64 p0_)
 else
  some p0_
def FI (n:Nat) (p0_:Aa) (p1_:Aa):Option Int:=
 (GD n (B8 .i64 p0_.X p1_.X)).bind λ r5=>
 (GD n (B8 .i64 p0_.Y p1_.Y)).bind λ r6=>
 some (if r6>r5 then r6 else r5)
def CL (_:Nat) (quotient_1:Int):Option Int:=
 some quotient_1
def De (n:Nat) (p0_:Int) (p1_:Int) (p2_:Int) (p3_:Int):Option Int:=
 (Dl (!((BK .i64 2 p3_)==0))).bind λ _=>
 (Dl (!((BK .i64 2 p3_)==0))).bind λ _=>
 if decide (BL (Bm .i64 (BK .i64 2 (Bm .i64 (BK .i64 p0_ p3_) (BK .i64 p2_ (B8 .i64 p1_ p0_)))) p3_) (BK .i64 2 p3_)<0)=true then
  CL n (B8 .i64 (KG .i64 (Bm .i64 (BK .i64 2 (Bm .i64 (BK .i64 p0_ p3_) (BK .i64 p2_ (B8 .i64 p1_ p0_)))) p3_) (BK .i64 2 p3_)) 1)
 else
  CL n (KG .i64 (Bm .i64 (BK .i64 2 (Bm .i64 (BK .i64 p0_ p3_) (BK .i64 p2_ (B8 .i64 p1_ p0_)))) p3_) (BK .i64 2 p3_))
def DR (n:Nat) (p0_:Aa) (p1_:Aa) (r8:Int) (l_1:(List Aa)) (x_3:Int):Option (((List Aa)×Int)⊕(List Aa)):=
 if decide (x_3<Bm .i64 r8 1)=true then
  (De n p0_.X p1_.X x_3 r8).bind λ r9=>
  (De n p0_.Y p1_.Y x_3 r8).bind λ r10=>
  (app 16 l_1 [({ X:=r9,Y:=r10 }:Aa)]).bind λ l2=>
  some (.inl (l2,(Bm .i64 x_3 1)))
 else
  some (.inr l_1)
def I2 (n:Nat) (p0_:Aa) (p1_:Aa):Option (List Aa):=
 (I1 n [p0_,p1_]).bind λ r7=>
 if (!r7)=true then
  some []
 else
  (FI n p0_ p1_).bind λ r8=>
  if (r8==0)=true then
   some [p0_]
  else
   (mkc 16 0 (Bm .i64 r8 1) (⟨0,0⟩:Aa)).bind λ l1=>
   (whl (λ (x:((List Aa)×Int))=>DR n p0_ p1_ r8 x.1 x.2) n (l1,0)).bind λ y7=>
   some y7
def EM (_:Nat) (r11:(List Aa)) (dots_1:(List (Aa×Bool))) (x_5:Int):Option (((List (Aa×Bool))×Int)⊕(List (Aa×Bool))):=
 if decide (x_5<((r11.length:Nat):Int))=true then
  (idx r11 x_5).bind λ x3=>
  some (.inl ((E9 x3 true dots_1),(Bm .i64 x_5 1)))
 else
  some (.inr dots_1)
def H1 (n:Nat) (p1_:Aa) (p2_:Aa) (o0_:(List (Aa×Bool))):Option (List (Aa×Bool)):=
 (I2 n p1_ p2_).bind λ r11=>
 (whl (λ (x:((List (Aa×Bool))×Int))=>EM n r11 x.1 x.2) n (o0_,0)).bind λ y8=>
 some y8
def CM (_:Nat) (p0_:Int):Option Bool:=
 some (p0_ != p0_)
def BH (n:Nat) (p0_:Int) (p1_:Int):Option Int:=
 (CM n p0_).bind λ r12=>
 (CM n p1_).bind λ r13=>
 if r12=true then
  if r13=true then
   some 0
  else
   some (-1)
 else
  if r13=true then
   some 1
  else
   if decide (p0_<p1_)=true then
    some (-1)
   else
    if decide (p0_>p1_)=true then
     some 1
    else
     some 0
def Ca (_:Nat) (p0_:(List Int)) (x_7:Int):Option (Int⊕(Unit⊕Int)):=
 if decide (x_7<((p0_.length:Nat):Int))=true then
  (idx p0_ x_7).bind λ x4=>
  if (x4 != 0)=true then
   some (.inr (.inr x4))
  else
   some (.inl (Bm .i64 x_7 1))
 else
  some (.inr (.inl ()))
def DS (n:Nat) (p0_:(List Int)):Option Int:=
 (whl (λ (x:Int)=>Ca n p0_ x) n 0).bind λ y9=>
 match y9 with
 | Sum.inl _=>
  some 0
 | Sum.inr y11=>
  some y11
def BC (n:Nat) (p0_:Aa) (p1_:Aa):Option Int:=
 (BH n p0_.Y p1_.Y).bind λ r14=>
 (BH n p0_.X p1_.X).bind λ r15=>
 (DS n [r14,r15]).bind λ r16=>
 some r16
def Ds (n:Nat) (p0_:(List Aa)) (dots_2:(List (Aa×Bool))) (i_1:Int):Option (((List (Aa×Bool))×Int)⊕(List (Aa×Bool))):=
 if decide (i_1<((p0_.length:Nat):Int))=true then
  (idx p0_ (B8 .i64 i_1 1)).bind λ x5=>
  (idx p0_ i_1).bind λ x6=>
  (H1 n x5 x6 dots_2).bind λ r17=>
  some (.inl (r17,(Bm .i64 i_1 1)))
 else
  some (.inr dots_2)
def FJ (n:Nat) (p0_:(List Aa)):Option (List (Aa×Bool)):=
 (whl (λ (x:((List (Aa×Bool))×Int))=>Ds n p0_ x.1 x.2) n ([],1)).bind λ y12=>
 some y12
def FR (_:Nat) (_:Aa):Option Bool:=
 some false
def Cl (_:Nat) (p0_:Aa):Option Bool:=
 some ((BL (Bm .i64 p0_.X p0_.Y) 2)==0)
def Cm (_:Nat) (p0_:Aa):Option Bool:=
 some ((BL p0_.Y 2)==0)
def FS (_:Nat) (_:Aa):Option Bool:=
 some true
def KT (_:Nat) (p0_:Aa) (p1_:Aa) (p2_:Aa):Option Bool:=
 if (((p2_.X==p0_.X)&&((p2_.Y==p0_.Y)&&true))||((p2_.X==p1_.X)&&((p2_.Y==p1_.Y)&&true)))=true then
  some true
 else
  if ((BK .i64 (B8 .i64 p1_.X p0_.X) (B8 .i64 p2_.Y p0_.Y)) != (BK .i64 (B8 .i64 p1_.Y p0_.Y) (B8 .i64 p2_.X p0_.X)))=true then
   some false
  else
   some ((((decide ((if p1_.X<p0_.X then p1_.X else p0_.X)<=p2_.X))&&(decide (p2_.X<=(if p1_.X>p0_.X then p1_.X else p0_.X))))&&(decide ((if p1_.Y<p0_.Y then p1_.Y else p0_.Y)<=p2_.Y)))&&(decide (p2_.Y<=(if p1_.Y>p0_.Y then p1_.Y else p0_.Y))))
def EN (_:Nat) (p0_:Aa) (p1_:Aa) (p2_:Aa):Option Bool:=
 if ((decide (p0_.Y<=p2_.Y))==(decide (p1_.Y<=p2_.Y)))=true then
  some false
 else
  if decide (p1_.Y>p0_.Y)=true then
   some (decide (BK .i64 (B8 .i64 p2_.Y p0_.Y) (B8 .i64 p1_.X p0_.X)>BK .i64 (B8 .i64 p2_.X p0_.X) (B8 .i64 p1_.Y p0_.Y)))
  else
   some (decide (BK .i64 (B8 .i64 p2_.Y p0_.Y) (B8 .i64 p1_.X p0_.X)<BK .i64 (B8 .i64 p2_.X p0_.X) (B8 .i64 p1_.Y p0_.Y)))
def C2 (_:Nat) (x_9:Int) (odd_3:Bool):Option ((Bool×Int)⊕(Bool⊕Bool)):=
 some (.inl (odd_3,(Bm .i64 x_9 1)))
def C3 (n:Nat) (p0_:(List Aa)) (p1_:Aa) (odd_1:Bool) (x_9:Int):Option ((Bool×Int)⊕(Bool⊕Bool)):=
 if decide (x_9<((p0_.length:Nat):Int))=true then
  (idx p0_ x_9).bind λ x7=>
  (Dl (!(((p0_.length:Nat):Int)==0))).bind λ _=>
  (idx p0_ (BL (Bm .i64 x_9 1) ((p0_.length:Nat):Int))).bind λ x8=>
  (KT n x7 x8 p1_).bind λ r18=>
  if r18=true then
   some (.inr (.inr true))
  else
   (EN n x7 x8 p1_).bind λ r19=>
   if r19=true then
    C2 n x_9 (!odd_1)
   else
    C2 n x_9 odd_1
 else
  some (.inr (.inl odd_1))
def Bq (n:Nat) (p0_:(List Aa)) (p1_:Aa):Option Bool:=
 (whl (λ (x:(Bool×Int))=>C3 n p0_ p1_ x.1 x.2) n (false,0)).bind λ y13=>
 match y13 with
 | Sum.inl y14=>
  some y14
 | Sum.inr y15=>
  some y15
def Dn (_:Nat) (_:(List (Aa×Bool))):Option Unit:=
 some ()
def EO (_:Nat) (p1_:Aa) (o2_:(List Aa)):Option (List Aa):=
 (app 16 o2_ [p1_]).bind λ l3=>
 some l3
def AG (n:Nat) (e1:(Aa×Bool)) (x_12:(List Aa)):Option ((List Aa)⊕Empty):=
 (EO n e1.1 x_12).bind λ r20=>
 some (.inl r20)
noncomputable def B3 (n:Nat) (o3_:(List (Aa×Bool))) (o4_:(List Aa)):Option ((List Aa)->Prop):=
 O7 (λ (ord:(List (Aa×Bool)))=>List.Perm ord o3_) λ (ord:(List (Aa×Bool)))=>
 (Dm (λ (e:(Aa×Bool)) (x:(List Aa))=>AG n e x) ord o4_).bind λ y16=>
 match y16 with
 | Sum.inl y17=>
  some (Jx y17)
 | Sum.inr r=>
  nomatch r
noncomputable def EP (n:Nat) (o1_:(List (Aa×Bool))):Option ((List Aa)->Prop):=
 (B3 n o1_ ([]:List Aa)).bind λ S1=>
 O7 S1 λ (r21:(List Aa))=>
 some (Jx r21)
noncomputable def DT (n:Nat) (o1_:(List (Aa×Bool))):Option ((List Aa)->Prop):=
 (EP n o1_).bind λ S2=>
 O7 S2 λ (r22:(List Aa))=>
 some (Jx r22)
noncomputable def I3 (n:Nat) (o0_:(List Aa)):Option (List Aa):=
 J8 (λ (x:Aa) (y:Aa)=>BC n x y) o0_
noncomputable def Dt (n:Nat) (o1_:(List (Aa×Bool))):Option (List Aa):=
 (DT n o1_).bind λ S3=>
 dem S3 λ (r23:(List Aa))=>
 (I3 n r23).bind λ r24=>
 (Dl (decide (List.length r23=List.length r24))).bind λ _=>
 some r24
noncomputable def Cz (n:Nat) (o0_:(List (Aa×Bool))):Option (List Aa):=
 (Dn n o0_).bind λ _=>
 (Dt n o0_).bind λ r26=>
 some r26
def D5 (_:Nat) (dots_4:(List (Aa×Bool))):Option (List (Aa×Bool)):=
 some dots_4
def EQ (n:Nat) (p0_:(List Aa)):Option (List (Aa×Bool)):=
 (FJ n p0_).bind λ r27=>
 if decide (((p0_.length:Nat):Int)>0)=true then
  (idx p0_ (B8 .i64 ((p0_.length:Nat):Int) 1)).bind λ x9=>
  (idx p0_ 0).bind λ x10=>
  (H1 n x9 x10 r27).bind λ r28=>
  D5 n r28
 else
  D5 n r27
def DU (_:Nat) (p0_:Int):Option Nat:=
 (idx ([46,47,48,49]:List Nat) p0_).bind λ x11=>
 some x11
def Cn (_:Nat) (p0_:Ag) (_:(List (Aa×Bool))) (low_1:Aa) (high_1:Aa) (x_20:Int):Option ((Aa×Aa×Int)⊕(Aa×Aa)):=
 if decide (x_20<((p0_.P.length:Nat):Int))=true then
  (idx p0_.P x_20).bind λ x15=>
  some (.inl (({ X:=(if x15.X<low_1.X then x15.X else low_1.X),Y:=(if x15.Y<low_1.Y then x15.Y else low_1.Y) }:Aa),({ X:=(if x15.X>high_1.X then x15.X else high_1.X),Y:=(if x15.Y>high_1.Y then x15.Y else high_1.Y) }:Aa),(Bm .i64 x_20 1)))
 else
  some (.inr (low_1,high_1))
def C4 (_:Nat) (x_21:Int) (dots_9:(List (Aa×Bool))):Option (((List (Aa×Bool))×Int)⊕(List (Aa×Bool))):=
 some (.inl (dots_9,(Bm .i64 x_21 1)))
def GE (n:Nat) (x:Nat) (p0_:Aa):Option Bool:=
 if Nat.beq x 46=true then
  FR n p0_
 else
  if Nat.beq x 47=true then
   Cl n p0_
  else
   if Nat.beq x 48=true then
    Cm n p0_
   else
    if Nat.beq x 49=true then
     FS n p0_
    else
     none
def C5 (n:Nat) (p0_:Ag) (y18:(Aa×Aa)) (r33:Nat) (y_1:Int) (dots_7:(List (Aa×Bool))) (x_21:Int):Option (((List (Aa×Bool))×Int)⊕(List (Aa×Bool))):=
 if decide (x_21<=y18.2.X)=true then
  (GE n r33 ({ X:=x_21,Y:=y_1 }:Aa)).bind λ r34=>
  (if r34=true then Bq n p0_.P ({ X:=x_21,Y:=y_1 }:Aa) else some default).bind λ r35=>
  if (r34&&r35)=true then
   C4 n x_21 (E9 ({ X:=x_21,Y:=y_1 }:Aa) true dots_7)
  else
   C4 n x_21 dots_7
 else
  some (.inr dots_7)
def C6 (n:Nat) (p0_:Ag) (y18:(Aa×Aa)) (r33:Nat) (dots_5:(List (Aa×Bool))) (y_1:Int):Option (((List (Aa×Bool))×Int)⊕(List (Aa×Bool))):=
 if decide (y_1<=y18.2.Y)=true then
  (whl (λ (x:((List (Aa×Bool))×Int))=>C5 n p0_ y18 r33 y_1 x.1 x.2) n (dots_5,y18.1.X)).bind λ y19=>
  some (.inl (y19,(Bm .i64 y_1 1)))
 else
  some (.inr dots_5)
noncomputable def Bb (n:Nat) (p0_:Ag):Option (List Aa):=
 (BW n p0_).bind λ r29=>
 if (!r29)=true then
  some []
 else
  if (p0_.Kind==1)=true then
   (idx p0_.P 0).bind λ x12=>
   some [x12]
  else
   if (p0_.Kind==2)=true then
    (FJ n p0_.P).bind λ r30=>
    (Cz n r30).bind λ r31=>
    some r31
   else
    (EQ n p0_.P).bind λ r32=>
    (idx p0_.P 0).bind λ x13=>
    (idx p0_.P 0).bind λ x14=>
    (whl (λ (x:(Aa×Aa×Int))=>Cn n p0_ r32 x.1 x.2.1 x.2.2) n (x13,x14,0)).bind λ y18=>
    (DU n p0_.Texture).bind λ r33=>
    (whl (λ (x:((List (Aa×Bool))×Int))=>C6 n p0_ y18 r33 x.1 x.2) n (r32,y18.1.Y)).bind λ y20=>
    (Cz n y20).bind λ r36=>
    some r36
def Du (_:Nat) (p0_:(List Aa)) (p1_:(List Aa)) (i_2:Int):Option (Int⊕(Unit⊕Bool)):=
 if decide (i_2<((p0_.length:Nat):Int))=true then
  (idx p0_ i_2).bind λ x16=>
  (idx p1_ i_2).bind λ x17=>
  if (!((x16.X==x17.X)&&((x16.Y==x17.Y)&&true)))=true then
   some (.inr (.inr false))
  else
   some (.inl (Bm .i64 i_2 1))
 else
  some (.inr (.inl ()))
def Ei (n:Nat) (p0_:(List Aa)) (p1_:(List Aa)):Option Bool:=
 if (((p0_.length:Nat):Int) != ((p1_.length:Nat):Int))=true then
  some false
 else
  (whl (λ (x:Int)=>Du n p0_ p1_ x) n 0).bind λ y21=>
  match y21 with
  | Sum.inl _=>
   some true
  | Sum.inr y23=>
   some y23
noncomputable def Df (n:Nat) (p0_:(List Aa)):Option (List Aa):=
 (EQ n p0_).bind λ r37=>
 (Cz n r37).bind λ r38=>
 some r38
noncomputable def Fs (n:Nat) :Option Bool:=
 (AE n 3 4).bind λ r39=>
 (AE n 0 0).bind λ r40=>
 (AE n 2 0).bind λ r41=>
 (Bf n).bind λ r42=>
 (Bf n).bind λ r43=>
 (Bb n ({ Kind:=1,Texture:=0,P:=[r39] }:Ag)).bind λ r44=>
 (Ei n r44 [r39]).bind λ r45=>
 (if r45=true then Bb n ({ Kind:=2,Texture:=0,P:=[r40,r41] }:Ag) else some default).bind λ r46=>
 (if r45=true then AE n 0 0 else some default).bind λ r47=>
 (if r45=true then AE n 1 0 else some default).bind λ r48=>
 (if r45=true then AE n 2 0 else some default).bind λ r49=>
 (if r45=true then Ei n r46 [r47,r48,r49] else some default).bind λ r50=>
 (if (r45&&r50)=true then Bb n ({ Kind:=3,Texture:=0,P:=r42 }:Ag) else some default).bind λ r51=>
 (if ((r45&&r50)&&(((r51.length:Nat):Int)==8))=true then Bb n ({ Kind:=3,Texture:=3,P:=r43 }:Ag) else some default).bind λ r52=>
 (BW n ({ Kind:=1,Texture:=0,P:=[r39] }:Ag)).bind λ r53=>
 (if r53=true then BW n ({ Kind:=3,Texture:=3,P:=r43 }:Ag) else some default).bind λ r54=>
 (if (r53&&r54)=true then BW n ({ Kind:=0,Texture:=0,P:=[] }:Ag) else some default).bind λ r55=>
 (if ((r53&&r54)&&(!r55))=true then Bf n else some default).bind λ r56=>
 (if ((r53&&r54)&&(!r55))=true then BW n ({ Kind:=1,Texture:=0,P:=r56 }:Ag) else some default).bind λ r57=>
 (if (((r53&&r54)&&(!r55))&&(!r57))=true then Bf n else some default).bind λ r58=>
 (if (((r53&&r54)&&(!r55))&&(!r57))=true then BW n ({ Kind:=3,Texture:=4,P:=r58 }:Ag) else some default).bind λ r59=>
 (if ((((r53&&r54)&&(!r55))&&(!r57))&&(!r59))=true then AE n 60 0 else some default).bind λ r60=>
 (if ((((r53&&r54)&&(!r55))&&(!r57))&&(!r59))=true then BW n ({ Kind:=1,Texture:=0,P:=[r60] }:Ag) else some default).bind λ r61=>
 (if ((((r45&&r50)&&(((r51.length:Nat):Int)==8))&&(((r52.length:Nat):Int)==9))&&(((((r53&&r54)&&(!r55))&&(!r57))&&(!r59))&&(!r61)))=true then Bf n else some default).bind λ r62=>
 (if ((((r45&&r50)&&(((r51.length:Nat):Int)==8))&&(((r52.length:Nat):Int)==9))&&(((((r53&&r54)&&(!r55))&&(!r57))&&(!r59))&&(!r61)))=true then AE n 1 1 else some default).bind λ r63=>
 (if ((((r45&&r50)&&(((r51.length:Nat):Int)==8))&&(((r52.length:Nat):Int)==9))&&(((((r53&&r54)&&(!r55))&&(!r57))&&(!r59))&&(!r61)))=true then Bq n r62 r63 else some default).bind λ r64=>
 (if (((((r45&&r50)&&(((r51.length:Nat):Int)==8))&&(((r52.length:Nat):Int)==9))&&(((((r53&&r54)&&(!r55))&&(!r57))&&(!r59))&&(!r61)))&&r64)=true then Bf n else some default).bind λ r65=>
 (if (((((r45&&r50)&&(((r51.length:Nat):Int)==8))&&(((r52.length:Nat):Int)==9))&&(((((r53&&r54)&&(!r55))&&(!r57))&&(!r59))&&(!r61)))&&r64)=true then AE n 2 1 else some default).bind λ r66=>
 (if (((((r45&&r50)&&(((r51.length:Nat):Int)==8))&&(((r52.length:Nat):Int)==9))&&(((((r53&&r54)&&(!r55))&&(!r57))&&(!r59))&&(!r61)))&&r64)=true then Bq n r65 r66 else some default).bind λ r67=>
 (if ((((((r45&&r50)&&(((r51.length:Nat):Int)==8))&&(((r52.length:Nat):Int)==9))&&(((((r53&&r54)&&(!r55))&&(!r57))&&(!r59))&&(!r61)))&&r64)&&r67)=true then Bf n else some default).bind λ r68=>
 (if ((((((r45&&r50)&&(((r51.length:Nat):Int)==8))&&(((r52.length:Nat):Int)==9))&&(((((r53&&r54)&&(!r55))&&(!r57))&&(!r59))&&(!r61)))&&r64)&&r67)=true then AE n 0 2 else some default).bind λ r69=>
 (if ((((((r45&&r50)&&(((r51.length:Nat):Int)==8))&&(((r52.length:Nat):Int)==9))&&(((((r53&&r54)&&(!r55))&&(!r57))&&(!r59))&&(!r61)))&&r64)&&r67)=true then Bq n r68 r69 else some default).bind λ r70=>
 (if (((((((r45&&r50)&&(((r51.length:Nat):Int)==8))&&(((r52.length:Nat):Int)==9))&&(((((r53&&r54)&&(!r55))&&(!r57))&&(!r59))&&(!r61)))&&r64)&&r67)&&r70)=true then Bf n else some default).bind λ r71=>
 (if (((((((r45&&r50)&&(((r51.length:Nat):Int)==8))&&(((r52.length:Nat):Int)==9))&&(((((r53&&r54)&&(!r55))&&(!r57))&&(!r59))&&(!r61)))&&r64)&&r67)&&r70)=true then AE n 3 1 else some default).bind λ r72=>
 (if (((((((r45&&r50)&&(((r51.length:Nat):Int)==8))&&(((r52.length:Nat):Int)==9))&&(((((r53&&r54)&&(!r55))&&(!r57))&&(!r59))&&(!r61)))&&r64)&&r67)&&r70)=true then Bq n r71 r72 else some default).bind λ r73=>
 (if ((((((((r45&&r50)&&(((r51.length:Nat):Int)==8))&&(((r52.length:Nat):Int)==9))&&(((((r53&&r54)&&(!r55))&&(!r57))&&(!r59))&&(!r61)))&&r64)&&r67)&&r70)&&(!r73))=true then Bf n else some default).bind λ r74=>
 (if ((((((((r45&&r50)&&(((r51.length:Nat):Int)==8))&&(((r52.length:Nat):Int)==9))&&(((((r53&&r54)&&(!r55))&&(!r57))&&(!r59))&&(!r61)))&&r64)&&r67)&&r70)&&(!r73))=true then AE n (-1) 0 else some default).bind λ r75=>
 (if ((((((((r45&&r50)&&(((r51.length:Nat):Int)==8))&&(((r52.length:Nat):Int)==9))&&(((((r53&&r54)&&(!r55))&&(!r57))&&(!r59))&&(!r61)))&&r64)&&r67)&&r70)&&(!r73))=true then Bq n r74 r75 else some default).bind λ r76=>
 (if (((((((((r45&&r50)&&(((r51.length:Nat):Int)==8))&&(((r52.length:Nat):Int)==9))&&(((((r53&&r54)&&(!r55))&&(!r57))&&(!r59))&&(!r61)))&&r64)&&r67)&&r70)&&(!r73))&&(!r76))=true then AE n 0 0 else some default).bind λ r77=>
 (if (((((((((r45&&r50)&&(((r51.length:Nat):Int)==8))&&(((r52.length:Nat):Int)==9))&&(((((r53&&r54)&&(!r55))&&(!r57))&&(!r59))&&(!r61)))&&r64)&&r67)&&r70)&&(!r73))&&(!r76))=true then Bq n [] r77 else some default).bind λ r78=>
 (if ((((((((((r45&&r50)&&(((r51.length:Nat):Int)==8))&&(((r52.length:Nat):Int)==9))&&(((((r53&&r54)&&(!r55))&&(!r57))&&(!r59))&&(!r61)))&&r64)&&r67)&&r70)&&(!r73))&&(!r76))&&(!r78))=true then Bf n else some default).bind λ r79=>
 (if ((((((((((r45&&r50)&&(((r51.length:Nat):Int)==8))&&(((r52.length:Nat):Int)==9))&&(((((r53&&r54)&&(!r55))&&(!r57))&&(!r59))&&(!r61)))&&r64)&&r67)&&r70)&&(!r73))&&(!r76))&&(!r78))=true then Df n r79 else some default).bind λ r80=>
 some (((((((((((r45&&r50)&&(((r51.length:Nat):Int)==8))&&(((r52.length:Nat):Int)==9))&&(((((r53&&r54)&&(!r55))&&(!r57))&&(!r59))&&(!r61)))&&r64)&&r67)&&r70)&&(!r73))&&(!r76))&&(!r78))&&(((r80.length:Nat):Int)==8))
def Ct (_:Nat) (p0_:(List (Pb Int))) (p1_:Int) (out_1:(List Aa)) (i_3:Int):Option (((List Aa)×Int)⊕(List Aa)):=
 if ((decide (i_3<((p0_.length:Nat):Int)))&&(decide (i_3<p1_)))=true then
  (idx p0_ i_3).bind λ x18=>
  (idx p0_ i_3).bind λ x19=>
  (app 16 out_1 [({ X:=IntKind.i64.wrap (BL x18.a0 24),Y:=IntKind.i64.wrap (BL x19.a1 24) }:Aa)]).bind λ l7=>
  some (.inl (l7,(Bm .i64 i_3 1)))
 else
  some (.inr out_1)
def ES (n:Nat) (p0_:(List (Pb Int))) (p1_:Int):Option (List Aa):=
 (whl (λ (x:((List Aa)×Int))=>Ct n p0_ p1_ x.1 x.2) n (([]:List Aa),0)).bind λ y24=>
 some y24
def Dv (_:Nat) (_:GC) (l_3:(List Aa)):Option ((List Aa)⊕(List Aa)):=
 if decide (((l_3.length:Nat):Int)<3)=true then
  (app 16 l_3 [({ X:=BK .i64 5 ((l_3.length:Nat):Int),Y:=Bm .i64 3 (BK .i64 ((l_3.length:Nat):Int) ((l_3.length:Nat):Int)) }:Aa)]).bind λ l8=>
  some (.inl l8)
 else
  some (.inr l_3)
def G2 (n:Nat) (p0_:GC):Option Ag:=
 (ES n p0_.L 6).bind λ r81=>
 (whl (λ (x:(List Aa))=>Dv n p0_ x) n r81).bind λ y25=>
 if ((BL p0_.Kind 3)==0)=true then
  (sub y25 0 1).bind λ l9=>
  some ({ Kind:=1,Texture:=0,P:=l9 }:Ag)
 else
  if ((BL p0_.Kind 3)==1)=true then
   (Dl (!((B8 .i64 ((y25.length:Nat):Int) 1)==0))).bind λ _=>
   (sub y25 0 (Bm .i64 2 (BL (IntKind.i64.wrap p0_.Texture) (B8 .i64 ((y25.length:Nat):Int) 1)))).bind λ l10=>
   some ({ Kind:=2,Texture:=0,P:=l10 }:Ag)
  else
   some ({ Kind:=3,Texture:=IntKind.i64.wrap (BL p0_.Texture 4),P:=y25 }:Ag)
def Dw (_:Nat) (p0_:Int) (p1_:Aa):Option Bool:=
 some (((p0_==3)||((p0_==2)&&((BL p1_.Y 2)==0)))||((p0_==1)&&((BL (Bm .i64 p1_.X p1_.Y) 2)==0)))
def DV (_:Nat) (p0_:(List Aa)) (p1_:Aa) (i_12:Int):Option (Int⊕(Unit⊕Bool)):=
 if decide (i_12<((p0_.length:Nat):Int))=true then
  (idx p0_ i_12).bind λ x36=>
  if ((x36.X==p1_.X)&&((x36.Y==p1_.Y)&&true))=true then
   some (.inr (.inr true))
  else
   some (.inl (Bm .i64 i_12 1))
 else
  some (.inr (.inl ()))
def I4 (n:Nat) (p0_:(List Aa)) (p1_:Aa):Option Bool:=
 (whl (λ (x:Int)=>DV n p0_ p1_ x) n 0).bind λ y43=>
 match y43 with
 | Sum.inl _=>
  some false
 | Sum.inr y45=>
  some y45
def Bs (_:Nat) (n_1:Int) (at_3:Int):Option ((Int×Int)⊕(Int⊕Bool)):=
 some (.inl (at_3,(Bm .i64 n_1 1)))
def A9 (n:Nat) (_:Bool) (r154:(List Aa)) (f_1:Ag) (k_2:Int) (r155:(List Aa)) (at_1:Int) (n_1:Int):Option ((Int×Int)⊕(Int⊕Bool)):=
 if decide (n_1<600)=true then
  (AE n (BL n_1 25) (KG .i64 n_1 25)).bind λ r156=>
  (I4 n r154 r156).bind λ r157=>
  (if (!r157)=true then Dw n k_2 r156 else some default).bind λ r158=>
  (if ((!r157)&&r158)=true then Bq n f_1.P r156 else some default).bind λ r159=>
  (if decide (at_1<((r155.length:Nat):Int))=true then idx r155 at_1 else some default).bind λ x37=>
  if (!((r157||(r158&&r159))==((decide (at_1<((r155.length:Nat):Int)))&&((x37.X==r156.X)&&((x37.Y==r156.Y)&&true)))))=true then
   some (.inr (.inr false))
  else
   if (r157||(r158&&r159))=true then
    Bs n n_1 (Bm .i64 at_1 1)
   else
    Bs n n_1 at_1
 else
  some (.inr (.inl at_1))
noncomputable def Bt (n:Nat) (r152:Bool) (r154:(List Aa)) (f_1:Ag) (k_2:Int):Option ((Ag×Int)⊕(Unit⊕Bool)):=
 if decide (k_2<=3)=true then
  (Bb n ({ Kind:=f_1.Kind,Texture:=k_2,P:=f_1.P }:Ag)).bind λ r155=>
  (whl (λ (x:(Int×Int))=>A9 n r152 r154 f_1 k_2 r155 x.1 x.2) n (0,0)).bind λ y46=>
  match y46 with
  | Sum.inl y47=>
   if (y47 != ((r155.length:Nat):Int))=true then
    some (.inr (.inr false))
   else
    some (.inl (({ Kind:=f_1.Kind,Texture:=k_2,P:=f_1.P }:Ag),(Bm .i64 k_2 1)))
  | Sum.inr y48=>
   some (.inr (.inr y48))
 else
  some (.inr (.inl ()))
noncomputable def CA (n:Nat) (p0_:GC):Option Bool:=
 (Fs n).bind λ r152=>
 (G2 n ({ Kind:=2,Texture:=p0_.Texture,L:=p0_.L }:GC)).bind λ r153=>
 (Df n r153.P).bind λ r154=>
 (whl (λ (x:(Ag×Int))=>Bt n r152 r154 x.1 x.2) n (r153,0)).bind λ y49=>
 match y49 with
 | Sum.inl _=>
  some r152
 | Sum.inr y51=>
  some y51
end Go.AI
end
section
namespace Go.AI
open Go.Proofs
set_option maxRecDepth 10000
theorem xok (n kl:Nat):XOK Try.prog (cxk n kl):=⟨tyOK,rfl⟩
noncomputable def Bd:Hg:=lpd (AM Try.f59) [1,0,1,0] 13 [7] []
theorem fO (k:Nat) (s:St) {fn:Func} {f:FuncId} {args:List AV} {r:AV} (hf:Try.prog.funcs[f]? = some fn) (h:WP (cxk k 0) (AM fn) [] (LZ (cxk k 0).ty fn.results.toList r) s) (hb:fn.body=some (AM fn):=by kernel_rfl) (hnm:(fn.name == "runtime.NumGoroutine")=false:=by kernel_rfl) (hnt:(cxk k 0).nt.n=fn.ntmps:=by kernel_rfl) (hlen:Nat.ble args.length fn.ntmps=true:=by kernel_rfl) (hs:(⟨(List.range args.length).zip args,[]⟩:St)=s:=by kernel_rfl):AB Try.prog f args r:=fo follows (QL k 0) hf h hb hnm hnt hlen hs
theorem fL (k nb:Nat) (s:St) {fn:Func} {f:FuncId} {args:List AV} {O0 O1:List (Option Ob)} {r:AV} (hf:Try.prog.funcs[f]? = some fn) (h:WP (cxk k nb) (AM fn) [] (J1 nb (cxk k nb).ty fn.results.toList r O1) s) (hb:fn.body=some (AM fn):=by kernel_rfl) (hnm:(fn.name == "runtime.NumGoroutine")=false:=by kernel_rfl) (hnt:(cxk k nb).nt=⟨fn.ntmps,[],nb,qfT⟩:=by kernel_rfl) (hlen:Nat.ble args.length fn.ntmps=true:=by kernel_rfl) (hs:(⟨(List.range args.length).zip args,O0⟩:St)=s:=by kernel_rfl):Ba Try.prog f args O0 nb r O1:=fl follows (QL k nb) hf h hb hnm hnt hlen hs
theorem fS (k nb:Nat) (s:St) {fn:Func} {f:FuncId} {args:List AV} {O0:List (Option Ob)} {R:AV->List (Option Ob)->Prop} (hf:Try.prog.funcs[f]? = some fn) (h:WP (cxk k nb) (AM fn) [] (L3 nb (cxk k nb).ty fn.results.toList R) s) (hb:fn.body=some (AM fn):=by kernel_rfl) (hnm:(fn.name == "runtime.NumGoroutine")=false:=by kernel_rfl) (hnt:(cxk k nb).nt=⟨fn.ntmps,[],nb,qfT⟩:=by kernel_rfl) (hlen:Nat.ble args.length fn.ntmps=true:=by kernel_rfl) (hs:(⟨(List.range args.length).zip args,O0⟩:St)=s:=by kernel_rfl):BG Try.prog f args O0 nb R:=flS follows (QL k nb) hf h hb hnm hnt hlen hs
theorem yok (n kl:Nat):YOK Try.prog (cxk n kl):=⟨rfl⟩
variable {n:Nat}
def Ab (x:Aa):List D:=[.int .i64 x.X,.int .i64 x.Y]
@[reducible] def EZ {α:Type} (e:α->List D) (x:Pb α):List D:=e x.a0++e x.a1
def Vu (x:GC):List D:=[.int .u8 x.Kind,.int .u8 x.Texture,.sl (x.L.map (EZ eU8))]
def Cb (x:Ag):List AV:=[.d (.int .i64 x.Kind),.d (.int .i64 x.Texture),.d (.sl (x.P.map Ab))]
def Sr (x:GC):List AV:=[.d (.int .u8 x.Kind),.d (.int .u8 x.Texture),.d (.sl (x.L.map (EZ eU8)))]
theorem SS:∀ a b:Aa,Ax [.int .i64,.int .i64] ((Ab a).map .d) ((Ab b).map .d)=some (decide (a=b)):=by
  intro a b
  cases a;cases b
  simp [Ax,Ab,Bool.decide_and]
  all_goals (first|rfl|(rw [Bool.eq_iff_iff];simp))
section
variable (p0_:Int) (p1_:Int)
def TC:St:=⟨(0,.d (.int .i64 p0_))::(1,.d (.int .i64 p1_))::[],[]⟩
variable {p0_ p1_}
theorem Av {z} (H:AE n p0_ p1_=some z):AB Try.prog 12 [.d (.int .i64 p0_),.d (.int .i64 p1_)] (.agg [.d (.int .i64 z.X),.d (.int .i64 z.Y)]):=by
 exact fO 8 (TC p0_ p1_) Try.func12 (sr (ck 1 (en (sr (ck 4 (en (re (by cases H;exact pr rd))))))))
end
def TD:St:=⟨[],[]⟩
theorem AR {z} (H:Bf n=some z):AB Try.prog 27 [] (.own 2 (z.map Ab)):=by
 exact fO 6 TD Try.func27 (sr (ck 1 (en (sr (bx H λ r1 h1 H=>ca false (Av h1) (bx H λ r2 h2 H=>ca false (Av h2) (bx H λ r3 h3 H=>ca false (Av h3) (bx H λ r4 h4 H=>ca false (Av h4) (ck 2 (en (re (by cases H;exact pr (rO (v:=.osl 0 2 0 (List.length [r1,r2,r3,r4])) [0] (ao vo))))))))))))))
section
variable (p0_:Ag) (x_1:Int)
def TE:St:=⟨(0,.agg [.d (.int .i64 p0_.Kind),.d (.int .i64 p0_.Texture),.d (.sl (p0_.P.map Ab))])::[],[]⟩
def TF:St:=⟨(1,.ptr 0 0)::(3,.d (.int .i64 ((p0_.P.length:Nat):Int)))::(16,.d (.sl (p0_.P.map Ab)))::(17,.d (.int .i64 ((p0_.P.length:Nat):Int)))::(18,.d (.int .i64 x_1))::[],[some (.box (Cb p0_))]⟩
def TG:St:=⟨(1,.ptr 0 0)::(3,.d (.int .i64 ((p0_.P.length:Nat):Int)))::[],[some (.box (Cb p0_))]⟩
def I5:(Unit⊕Bool)->Ex->St->Prop:=xS (xX 0 0 (λ (y:Unit)=>TG p0_)) (xR ty Try.f13 (λ (y:Bool)=>.d (.bool y)))
def Ft:Int->St:=(λ (x:Int)=>TF p0_ x)
variable {p0_ x_1}
theorem E1 (x:Int) (z:(Int⊕(Unit⊕Bool))) (H:Dr n p0_ x=some z):WP (cxk 75 0) (AM Try.f13) [1,1,1,0,1,0,0] (A2 0 (Ft p0_) (I5 p0_) z) (Ft p0_ x):=by
 revert H
 generalize x=x_1
 intro H
 refine sr (ck 1 (en (sq (cn H (λ H=>?_) (λ H=>?_)))))
 ·refine sk (qz (sq (bk 1 (sr (bx H λ x1 h5 H=>sp (Bj Ab h5) (ck 3 (en (sr (ck 5 (gc 2 (!(decide (x1.X<0))) (pO (ck 2 (gc 2 (!((decide (x1.X<0))||(decide (x1.X>=60)))) (pO (ck 2 (gc 2 (!(((decide (x1.X<0))||(decide (x1.X>=60)))||(decide (x1.Y<0)))) (pO (en (cn H (λ H=>?_) (λ H=>?_))))))))))))))))))))
  ·exact sr (ck 1 (en (re (qR (qr (by cases H;exact ro rfl rd))))))
  ·exact sk (qN (qz (rz (ck 2 (ae (by cases H;exact og (sg [1,3,16,17,18])))))))
 ·exact ex 0 (qx (by cases H;exact xo rfl (sg [1,3])))
theorem BN {z} (H:BW n p0_=some z):AB Try.prog 13 [.agg (Cb p0_)] (.d (.bool z)):=by
 refine fO 75 (TE p0_) Try.func13 (sr (ck 2 (en (sr (ck 2 (sp (BE Ab p0_.P) (ck 1 (en (sq (sr (ck 4 (gc 1 (!(decide (((p0_.P.length:Nat):Int)<1))) (pO (en (cn H (λ H=>?_) (λ H=>?_))))))))))))))))
 ·exact sr (ck 1 (en (re (qr (by cases H;exact pr rd)))))
 ·refine sk (qz (sq (sr (ck 2 (sp (BE Ab p0_.P) (ck 1 (en (bk 0 (bx H λ y1 h6 H=>?_)))))))))
  rcases y1 with y2|y3
  ·refine lX E1 h6 (sg [1,3,16,17,18]) rfl λ s hE1=>qH (qs (hE1) (sq (sr (ck 2 (en (bk 2 (sr (ck 2 (en (cn H (λ H=>?_) (λ H=>?_)))))))))))
   ·exact sr (ck 4 (gc 2 (((p0_.P.length:Nat):Int)==1) (pA (ck 1 (en (re (qR (qr (by cases H;exact pr rd)))))))))
   ·refine sr (ck 2 (en (cn H (λ H=>?_) (λ H=>?_))))
    ·exact sr (ck 4 (gc 2 (decide (((p0_.P.length:Nat):Int)>=2)) (pA (ck 1 (en (re (qR (qr (by cases H;exact pr rd)))))))))
    ·refine sr (ck 2 (en (cn H (λ H=>?_) (λ H=>?_))))
     ·exact sr (ck 4 (gc 2 (decide (((p0_.P.length:Nat):Int)>=3)) (pA (ck 2 (gc 2 ((decide (((p0_.P.length:Nat):Int)>=3))&&(decide (p0_.Texture>=0))) (pA (ck 1 (en (re (qR (qr (by cases H;exact pr rd))))))))))))
     ·exact sk (qN (qz (sr (ck 1 (en (re (by cases H;exact pr rd)))))))
  ·exact lR E1 h6 (sg [1,3,16,17,18]) rfl λ s hE2=>qR (qr (by cases H;exact pr hE2))
end
section
variable (p0_:(List Aa)) (x_2:Int)
def TH:St:=⟨(0,.d (.sl (p0_.map Ab)))::[],[]⟩
def TI:St:=⟨(5,.d (.sl (p0_.map Ab)))::(6,.d (.int .i64 ((p0_.length:Nat):Int)))::(7,.d (.int .i64 x_2))::[],[]⟩
def TJ:St:=⟨[],[]⟩
def Jz:(Unit⊕Bool)->Ex->St->Prop:=xS (xX 0 0 (λ (y:Unit)=>TJ)) (xR ty Try.f62 (λ (y:Bool)=>.d (.bool y)))
def FT:Int->St:=(λ (x:Int)=>TI p0_ x)
variable {p0_ x_2}
theorem Fu (x:Int) (z:(Int⊕(Unit⊕Bool))) (H:DQ n p0_ x=some z):WP (cxk 30 0) (AM Try.f62) [1,0,1,0,0] (A2 0 (FT p0_) (Jz) z) (FT p0_ x):=by
 revert H
 generalize x=x_2
 intro H
 refine sr (ck 1 (en (sq (cn H (λ H=>?_) (λ H=>?_)))))
 ·refine sk (qz (sq (bk 1 (sr (bx H λ x2 h7 H=>sp (Bj Ab h7) (ck 3 (en (sr (ck 5 (gc 2 (!(decide (x2.X<(-1000)))) (pO (ck 2 (gc 2 (!((decide (x2.X<(-1000)))||(decide (x2.X>1000)))) (pO (ck 2 (gc 2 (!(((decide (x2.X<(-1000)))||(decide (x2.X>1000)))||(decide (x2.Y<(-1000))))) (pO (en (cn H (λ H=>?_) (λ H=>?_))))))))))))))))))))
  ·exact sr (ck 1 (en (re (qR (qr (by cases H;exact ro rfl rd))))))
  ·exact sk (qN (qz (rz (ck 2 (ae (by cases H;exact og (sg [5,6,7])))))))
 ·exact ex 0 (qx (by cases H;exact xo rfl (sg [])))
theorem Mg {z} (H:I1 n p0_=some z):AB Try.prog 62 [.d (.sl (p0_.map Ab))] (.d (.bool z)):=by
 refine fO 30 (TH p0_) Try.func62 (sr (ck 1 (en (sq (sr (ck 1 (sp (BE Ab p0_) (ck 1 (en (bk 0 (bx H λ y4 h8 H=>?_)))))))))))
 rcases y4 with y5|y6
 ·exact lX Fu h8 (sg [5,6,7]) rfl λ s hE3=>qH (qs (hE3) (sr (ck 1 (en (re (by cases H;exact pr rd))))))
 ·exact lR Fu h8 (sg [5,6,7]) rfl λ s hE4=>qR (qr (by cases H;exact pr hE4))
end
section
variable (p0_:Int)
def TL:St:=⟨(0,.d (.int .i64 p0_))::[],[]⟩
variable {p0_}
theorem I6 {z} (H:GD n p0_=some z):AB Try.prog 76 [.d (.int .i64 p0_)] (.d (.int .i64 z)):=by
 refine fO 8 (TL p0_) Try.func76 (sr (ck 1 (en (sq (sr (ck 2 (en (cn H (λ H=>?_) (λ H=>?_)))))))))
 ·exact sr (ck 3 (en (re (qr (by cases H;exact pr rd)))))
 ·exact sk (qz (sr (ck 2 (en (re (by cases H;exact pr rd))))))
end
section
variable (p0_:Aa) (p1_:Aa)
def TM:St:=⟨(0,.agg [.d (.int .i64 p0_.X),.d (.int .i64 p0_.Y)])::(1,.agg [.d (.int .i64 p1_.X),.d (.int .i64 p1_.Y)])::[],[]⟩
variable {p0_ p1_}
theorem KU {z} (H:FI n p0_ p1_=some z):AB Try.prog 63 [.agg [.d (.int .i64 p0_.X),.d (.int .i64 p0_.Y)],.agg [.d (.int .i64 p1_.X),.d (.int .i64 p1_.Y)]] (.d (.int .i64 z)):=by
 exact fO 18 (TM p0_ p1_) Try.func63 (sr (ck 3 (en (sr (ck 5 (bx H λ r5 h9 H=>ca false (I6 h9) (ck 5 (bx H λ r6 h10 H=>ca false (I6 h10) (ck 2 (en (re (by cases H;exact pr rd))))))))))))
end
section
variable (p0_:Int) (p1_:Int) (p2_:Int) (p3_:Int) (quotient_1:Int)
def TN:St:=⟨(0,.d (.int .i64 p0_))::(1,.d (.int .i64 p1_))::(2,.d (.int .i64 p2_))::(3,.d (.int .i64 p3_))::[],[]⟩
def TO:St:=⟨(10,.d (.int .i64 quotient_1))::[],[]⟩
variable {p0_ p1_ p2_ p3_ quotient_1}
theorem Fv {z} (H:De n p0_ p1_ p2_ p3_=some z):AB Try.prog 64 [.d (.int .i64 p0_),.d (.int .i64 p1_),.d (.int .i64 p2_),.d (.int .i64 p3_)] (.d (.int .i64 z)):=by
 refine fO 35 (TN p0_ p1_ p2_ p3_) Try.func64 (sr (ck 1 (en (sr (ck 13 (en (sr (ck 3 (bx H λ gd1 h11 H=>so (GA h11) (ck 1 (en (sj (λ (x:Int)=>TO x) (λ (x:Int)=>CL n x) z ?_ (λ hFGr_between_J1=>?_)))))))))))))
 ·intro quotient_1 H
  exact sr (ck 2 (en (re (by cases H;exact pr rd))))
 refine sr (ck 3 (bx H λ gd2 h12 H=>so (GA h12) (ck 1 (en (cn H (λ H=>?_) (λ H=>?_))))))
 ·exact rz (ck 3 (ae (qs (sg [10]) (hFGr_between_J1 (B8 .i64 (KG .i64 (Bm .i64 (BK .i64 2 (Bm .i64 (BK .i64 p0_ p3_) (BK .i64 p2_ (B8 .i64 p1_ p0_)))) p3_) (BK .i64 2 p3_)) 1) H))))
 ·exact sk (qs (sg [10]) (hFGr_between_J1 (KG .i64 (Bm .i64 (BK .i64 2 (Bm .i64 (BK .i64 p0_ p3_) (BK .i64 p2_ (B8 .i64 p1_ p0_)))) p3_) (BK .i64 2 p3_)) H))
end
section
variable (p0_:Aa) (p1_:Aa) (r8:Int) (l_1:(List Aa)) (x_3:Int) (l_2:(List Aa))
def TP:St:=⟨(0,.agg [.d (.int .i64 p0_.X),.d (.int .i64 p0_.Y)])::(1,.agg [.d (.int .i64 p1_.X),.d (.int .i64 p1_.Y)])::[],[]⟩
def TQ:St:=⟨(2,.ptr 0 0)::(3,.ptr 1 0)::(5,.d (.int .i64 r8))::(6,.osl 2 2 0 (l_1.length))::(24,.d (.int .i64 (Bm .i64 r8 1)))::(25,.d (.int .i64 x_3))::[],[some (.box [.d (.int .i64 p0_.X),.d (.int .i64 p0_.Y)]),some (.box [.d (.int .i64 p1_.X),.d (.int .i64 p1_.Y)]),some (.arr 2 (l_1.map Ab))]⟩
def TR:St:=⟨(6,.osl 0 2 0 (l_2.length))::[],[some (.arr 2 (l_2.map Ab))]⟩
def JA:(List Aa)->Ex->St->Prop:=xX 0 0 (λ (y:(List Aa))=>TR y)
def FU:((List Aa)×Int)->St:=(λ (x:((List Aa)×Int))=>TQ p0_ p1_ r8 x.1 x.2)
variable {p0_ p1_ r8 l_1 x_3 l_2}
theorem I7 (x:((List Aa)×Int)) (z:(((List Aa)×Int)⊕(List Aa))) (H:DR n p0_ p1_ r8 x.1 x.2=some z):WP (cxk 48 0) (AM Try.f56) [1,1,1,1,1,0,1,0,0] (A2 0 (FU p0_ p1_ r8) (JA) z) (FU p0_ p1_ r8 x):=by
 obtain ⟨l_1,x_3⟩:=x
 refine sr (ck 1 (en (sq (cn H (λ H=>?_) (λ H=>?_)))))
 ·exact sk (qz (sq (bk 1 (sr (ck 2 (en (rz (ck 7 (bx H λ r9 h16 H=>ca false (Fv h16) (ck 6 (bx H λ r10 h17 H=>ca false (Fv h17) (ck 2 (bx H λ l2 h18 H=>sp (HY Ab 2 2 h18) (ck 1 (ae (qN (qz (rz (ck 2 (ae (by cases H;exact og (sg [2,3,5,6,24,25]))))))))))))))))))))))
 ·exact ex 0 (qx (by cases H;exact xo rfl (sg [6])))
theorem Mh {z} (H:I2 n p0_ p1_=some z):AB Try.prog 56 [.agg [.d (.int .i64 p0_.X),.d (.int .i64 p0_.Y)],.agg [.d (.int .i64 p1_.X),.d (.int .i64 p1_.Y)]] (.own 2 (z.map Ab)):=by
 refine fO 48 (TP p0_ p1_) Try.func56 (sr (ck 3 (en (sq (sr (ck 3 (bx H λ r7 h13 H=>cb (ks:=[2]) (obl:=[(0+List.length [p0_,p1_],List.length (List.map Ab [p0_,p1_]))]) false (leK leM (leZ)) (Cf HC rfl) (Mg h13) (Or.inr trivial) rfl (ck 1 (en (cn H (λ H=>?_) (λ H=>?_)))))))))))
 ·exact sr (ck 1 (en (re (qr (by cases H;exact pr (rO (v:=.d (.nil)) [] (ad vz)))))))
 ·refine sk (qz (sr (ck 2 (bx H λ r8 h14 H=>ca false (KU h14) (ck 1 (en (sq (sr (ck 2 (en (cn H (λ H=>?_) (λ H=>?_))))))))))))
  ·exact sr (ck 3 (en (re (qr (by cases H;exact pr (rO (v:=.osl 3 2 0 (List.length [p0_])) [3] (ao vo)))))))
  ·exact sk (qz (sr (ck 2 (bx H λ l1 h15 H=>sp (Tp Ab 2 h15) (ck 1 (en (sq (sr (ck 3 (en (bk 0 (bx H λ y7 h19 H=>lX I7 h19 (sg [2,3,5,6,24,25]) rfl λ s hE5=>qH (qs (hE5) (sr (ck 2 (en (re (by cases H;exact pr (rO (v:=.osl 0 2 0 (z.length)) [0] (ao vo))))))))))))))))))))
end
section
variable (p1_:Aa) (p2_:Aa) (o0_:(List (Aa×Bool))) (x_4:(List (Aa×Bool))) (r11:(List Aa)) (dots_1:(List (Aa×Bool))) (x_5:Int) (x_6:(List (Aa×Bool)))
def QM:St:=⟨(0,.mp 0)::(1,.agg [.d (.int .i64 p1_.X),.d (.int .i64 p1_.Y)])::(2,.agg [.d (.int .i64 p2_.X),.d (.int .i64 p2_.Y)])::[],[some (.map true false (Bk Ab eB o0_))]⟩
def QN:St:=⟨[],[some (.map true false (Bk Ab eB x_4))]⟩
def QO:St:=⟨(0,.mp 0)::(10,.d (.sl (r11.map Ab)))::(11,.d (.int .i64 ((r11.length:Nat):Int)))::(12,.d (.int .i64 x_5))::[],[some (.map true false (Bk Ab eB dots_1))]⟩
def QP:St:=⟨[],[some (.map true false (Bk Ab eB x_6))]⟩
def KW:(List (Aa×Bool))->Ex->St->Prop:=xX 1 0 (λ (y:(List (Aa×Bool)))=>QP y)
def GG:((List (Aa×Bool))×Int)->St:=(λ (x:((List (Aa×Bool))×Int))=>QO r11 x.1 x.2)
variable {p1_ p2_ o0_ x_4 r11 dots_1 x_5 x_6}
theorem JB (x:((List (Aa×Bool))×Int)) (z:(((List (Aa×Bool))×Int)⊕(List (Aa×Bool)))) (H:EM n r11 x.1 x.2=some z):WP (cxk 19 1) (AM Try.f45) [1,1,0,0] (A2 1 (GG r11) (KW) z) (GG r11 x):=by
 obtain ⟨dots_1,x_5⟩:=x
 refine sr (ck 1 (en (sq (cn H (λ H=>?_) (λ H=>?_)))))
 ·exact sk (qz (sq (bk 1 (sr (bx H λ x3 h21 H=>sp (Bj Ab h21) (ck 3 (en (rz (ck 2 (sp (N0 (enc:=eB) (encK:=Ab) (k:=0) (e1:=λ x=>.bool x) (m:=dots_1) (l:=[.d (.int .i64 x3.X),.d (.int .i64 x3.Y)]) (key:=x3) (y:=true) (v:=.d (.bool true)) (vz:=[.bool false]) SS) (ae (qN (qz (rz (ck 2 (ae (by cases H;exact og (sg [0,10,11,12]))))))))))))))))))
 ·exact ex 0 (qx (by cases H;exact xo rfl (sg [])))
theorem I8 {z} (H:H1 n p1_ p2_ o0_=some z):Ba Try.prog 45 [.mp 0,.agg [.d (.int .i64 p1_.X),.d (.int .i64 p1_.Y)],.agg [.d (.int .i64 p2_.X),.d (.int .i64 p2_.Y)]] [some (.map true false (Bk Ab eB o0_))] 1 (.tup []) [some (.map true false (Bk Ab eB z))]:=by
 exact fL 19 1 (QM p1_ p2_ o0_) Try.func45 (sr (ck 2 (en (sr (ck 2 (bx H λ r11 h20 H=>ca false (Mh h20) (sp (BE Ab r11) (ck 1 (en (bk 0 (bx H λ y8 h22 H=>lX JB h22 (sg [0,10,11,12]) rfl λ s hE6=>qH (by cases H;exact pL' (rl (s':=QN z) (tr (hE6) (sg [])))))))))))))))
end
section
variable (p0_:Int)
def TT:St:=⟨(0,.d (.int .i64 p0_))::[],[]⟩
variable {p0_}
theorem DW {z} (H:CM n p0_=some z):AB Try.prog 55 [.d (.int .i64 p0_)] (.d (.bool z)):=by
 exact fO 6 (TT p0_) Try.func55 (sr (ck 1 (en (sr (ck 4 (en (re (by cases H;exact pr rd))))))))
end
section
variable (p0_:Int) (p1_:Int)
def TU:St:=⟨(0,.d (.int .i64 p0_))::(1,.d (.int .i64 p1_))::[],[]⟩
variable {p0_ p1_}
theorem Dp {z} (H:BH n p0_ p1_=some z):AB Try.prog 44 [.d (.int .i64 p0_),.d (.int .i64 p1_)] (.d (.int .i64 z)):=by
 refine fO 20 (TU p0_ p1_) Try.func44 (sr (ck 1 (en (sr (ck 1 (bx H λ r12 h23 H=>ca false (DW h23) (ck 1 (en (sr (ck 1 (bx H λ r13 h24 H=>ca false (DW h24) (ck 1 (en (sq (sr (ck 1 (en (cn H (λ H=>?_) (λ H=>?_)))))))))))))))))))
 ·refine sq (sr (ck 1 (en (cn H (λ H=>?_) (λ H=>?_)))))
  ·exact sr (ck 1 (en (re (qr (qr (by cases H;exact pr rd))))))
  ·exact sk (qz (sr (ck 1 (en (re (qr (by cases H;exact pr rd)))))))
 ·refine sk (qz (sq (sr (ck 1 (en (cn H (λ H=>?_) (λ H=>?_)))))))
  ·exact sr (ck 1 (en (re (qr (by cases H;exact pr rd)))))
  ·refine sk (qz (sq (sr (ck 3 (en (cn H (λ H=>?_) (λ H=>?_)))))))
   ·exact sr (ck 1 (en (re (qr (by cases H;exact pr rd)))))
   ·refine sk (qz (sq (sr (ck 3 (en (cn H (λ H=>?_) (λ H=>?_)))))))
    ·exact sr (ck 1 (en (re (qr (by cases H;exact pr rd)))))
    ·exact sk (qz (sr (ck 1 (en (re (by cases H;exact pr rd))))))
end
section
variable (p0_:(List Int)) (x_7:Int)
def TV:St:=⟨(0,.d (.sl (p0_.map OZ)))::[],[]⟩
def TW:St:=⟨(3,.d (.int .i64 0))::(6,.d (.sl (p0_.map OZ)))::(7,.d (.int .i64 ((p0_.length:Nat):Int)))::(8,.d (.int .i64 x_7))::[],[]⟩
def TX:St:=⟨(3,.d (.int .i64 0))::[],[]⟩
def G3:(Unit⊕Int)->Ex->St->Prop:=xS (xX 0 0 (λ (y:Unit)=>TX)) (xR ty Try.f43 (λ (y:Int)=>.d (.int .i64 y)))
def Ej:Int->St:=(λ (x:Int)=>TW p0_ x)
variable {p0_ x_7}
theorem DY (x:Int) (z:(Int⊕(Unit⊕Int))) (H:Ca n p0_ x=some z):WP (cxk 18 0) (AM Try.f43) [1,1,0,1,0,0] (A2 0 (Ej p0_) (G3) z) (Ej p0_ x):=by
 revert H
 generalize x=x_7
 intro H
 refine sr (ck 1 (en (sq (cn H (λ H=>?_) (λ H=>?_)))))
 ·refine sk (qz (sq (bk 1 (sr (bx H λ x4 h25 H=>sp (Bj OZ h25) (ck 2 (en (sr (ck 3 (en (cn H (λ H=>?_) (λ H=>?_))))))))))))
  ·exact sr (ck 2 (en (re (qR (qr (by cases H;exact ro rfl rd))))))
  ·exact sk (qN (qz (rz (ck 2 (ae (by cases H;exact og (sg [3,6,7,8])))))))
 ·exact ex 0 (qx (by cases H;exact xo rfl (sg [3])))
theorem I9 {z} (H:DS n p0_=some z):AB Try.prog 43 [.d (.sl (p0_.map OZ))] (.d (.int .i64 z)):=by
 refine fO 18 (TV p0_) Try.func43 (sr (ck 1 (en (sr (ck 1 (en (sq (sr (ck 1 (sp (BE OZ p0_) (ck 1 (en (bk 0 (bx H λ y9 h26 H=>?_))))))))))))))
 rcases y9 with y10|y11
 ·exact lX DY h26 (sg [3,6,7,8]) rfl λ s hE7=>qH (qs (hE7) (sr (ck 2 (en (re (by cases H;exact pr rd))))))
 ·exact lR DY h26 (sg [3,6,7,8]) rfl λ s hE8=>qR (qr (by cases H;exact pr hE8))
end
section
variable (p0_:Aa) (p1_:Aa)
def TY:St:=⟨(0,.agg [.d (.int .i64 p0_.X),.d (.int .i64 p0_.Y)])::(1,.agg [.d (.int .i64 p1_.X),.d (.int .i64 p1_.Y)])::[],[]⟩
variable {p0_ p1_}
theorem HH {z} (H:BC n p0_ p1_=some z):AB Try.prog 42 [.agg [.d (.int .i64 p0_.X),.d (.int .i64 p0_.Y)],.agg [.d (.int .i64 p1_.X),.d (.int .i64 p1_.Y)]] (.d (.int .i64 z)):=by
 exact fO 17 (TY p0_ p1_) Try.func42 (sr (ck 3 (en (sr (ck 4 (bx H λ r14 h27 H=>ca false (Dp h27) (ck 4 (bx H λ r15 h28 H=>ca false (Dp h28) (ck 1 (bx H λ r16 h29 H=>cb (ks:=[2]) (obl:=[(0+List.length [r14,r15],List.length (List.map OZ [r14,r15]))]) true (leK leM (leZ)) (Cf HC rfl) (I9 h29) (Or.inr trivial) rfl (ck 1 (en (re (by cases H;exact pr rd))))))))))))))
end
section
variable (p0_:(List Aa)) (x_8:(List (Aa×Bool))) (dots_2:(List (Aa×Bool))) (i_1:Int) (dots_3:(List (Aa×Bool)))
def QQ:St:=⟨(0,.d (.sl (p0_.map Ab)))::[],[]⟩
def QR:St:=⟨(2,.mp 0)::[],[some (.map true false (Bk Ab eB x_8))]⟩
def QS:St:=⟨(0,.d (.sl (p0_.map Ab)))::(3,.mp 0)::(4,.d (.int .i64 i_1))::[],[some (.map true false (Bk Ab eB dots_2))]⟩
def QT:St:=⟨(3,.mp 0)::[],[some (.map true false (Bk Ab eB dots_3))]⟩
def Ja:(List (Aa×Bool))->Ex->St->Prop:=xX 0 0 (λ (y:(List (Aa×Bool)))=>QT y)
def Fw:((List (Aa×Bool))×Int)->St:=(λ (x:((List (Aa×Bool))×Int))=>QS p0_ x.1 x.2)
variable {p0_ x_8 dots_2 i_1 dots_3}
theorem HI (x:((List (Aa×Bool))×Int)) (z:(((List (Aa×Bool))×Int)⊕(List (Aa×Bool)))) (H:Ds n p0_ x.1 x.2=some z):WP (cxk 24 0) (AM Try.f30) [1,1,0,1,0,0] (A2 0 (Fw p0_) (Ja) z) (Fw p0_ x):=by
 obtain ⟨dots_2,i_1⟩:=x
 refine sq (sr (ck 2 (sp (BE Ab p0_) (ck 1 (en (cn H (λ H=>?_) (λ H=>?_)))))))
 ·exact sk (qz (sq (bk 1 (rx 11 10 (.refl _) (ck 4 (bx H λ x5 h30 H=>sp (Bj Ab h30) (ck 3 (bx H λ x6 h31 H=>sp (Bj Ab h31) (ck 1 (mx (bx H λ r17 h32 H=>lt [0] (I8 h32) (nz (qN (qz (rz (ck 3 (ae (by cases H;exact og (sg [0,3,4])))))))))))))))))))
 ·exact ex 0 (qx (by cases H;exact xo rfl (sg [3])))
theorem GH {z} (H:FJ n p0_=some z):Ba Try.prog 30 [.d (.sl (p0_.map Ab))] [] 0 (.mp 0) [some (.map true false (Bk Ab eB z))]:=by
 exact fL 24 0 (QQ p0_) Try.func30 (sr (ck 1 (en (sr (ck 2 (en (sq (sr (ck 1 (en (bk 0 (bx H λ y12 h33 H=>lX HI h33 (sg [0,3,4]) rfl λ s hE9=>qH (qs (hE9) (sr (ck 2 (en (re (by cases H;exact pL (rl (s':=QR z) (sg [2]))))))))))))))))))))
end
section
variable (p0_:Aa)
def TZ:St:=⟨(0,.agg [.d (.int .i64 p0_.X),.d (.int .i64 p0_.Y)])::[],[]⟩
variable {p0_}
theorem G4 {z} (H:FR n p0_=some z):AB Try.prog 46 [.agg [.d (.int .i64 p0_.X),.d (.int .i64 p0_.Y)]] (.d (.bool z)):=by
 exact fO 3 (TZ p0_) Try.func46 (sr (ck 2 (en (sr (ck 1 (en (re (by cases H;exact pr rd))))))))
end
section
variable (p0_:Aa)
def T0:St:=⟨(0,.agg [.d (.int .i64 p0_.X),.d (.int .i64 p0_.Y)])::[],[]⟩
variable {p0_}
theorem G5 {z} (H:Cl n p0_=some z):AB Try.prog 47 [.agg [.d (.int .i64 p0_.X),.d (.int .i64 p0_.Y)]] (.d (.bool z)):=by
 exact fO 10 (T0 p0_) Try.func47 (sr (ck 2 (en (sr (ck 8 (en (re (by cases H;exact pr rd))))))))
end
section
variable (p0_:Aa)
def T1:St:=⟨(0,.agg [.d (.int .i64 p0_.X),.d (.int .i64 p0_.Y)])::[],[]⟩
variable {p0_}
theorem G6 {z} (H:Cm n p0_=some z):AB Try.prog 48 [.agg [.d (.int .i64 p0_.X),.d (.int .i64 p0_.Y)]] (.d (.bool z)):=by
 exact fO 7 (T1 p0_) Try.func48 (sr (ck 2 (en (sr (ck 5 (en (re (by cases H;exact pr rd))))))))
end
section
variable (p0_:Aa)
def T3:St:=⟨(0,.agg [.d (.int .i64 p0_.X),.d (.int .i64 p0_.Y)])::[],[]⟩
variable {p0_}
theorem G7 {z} (H:FS n p0_=some z):AB Try.prog 49 [.agg [.d (.int .i64 p0_.X),.d (.int .i64 p0_.Y)]] (.d (.bool z)):=by
 exact fO 3 (T3 p0_) Try.func49 (sr (ck 2 (en (sr (ck 1 (en (re (by cases H;exact pr rd))))))))
end
section
variable (p0_:Aa) (p1_:Aa) (p2_:Aa)
def T4:St:=⟨(0,.agg [.d (.int .i64 p0_.X),.d (.int .i64 p0_.Y)])::(1,.agg [.d (.int .i64 p1_.X),.d (.int .i64 p1_.Y)])::(2,.agg [.d (.int .i64 p2_.X),.d (.int .i64 p2_.Y)])::[],[]⟩
variable {p0_ p1_ p2_}
theorem Pc {z} (H:KT n p0_ p1_ p2_=some z):AB Try.prog 35 [.agg [.d (.int .i64 p0_.X),.d (.int .i64 p0_.Y)],.agg [.d (.int .i64 p1_.X),.d (.int .i64 p1_.Y)],.agg [.d (.int .i64 p2_.X),.d (.int .i64 p2_.Y)]] (.d (.bool z)):=by
 refine fO 76 (T4 p0_ p1_ p2_) Try.func35 (sr (ck 4 (en (sq (sr (ck 6 (gc 1 (!((p2_.X==p0_.X)&&((p2_.Y==p0_.Y)&&true))) (pO (en (cn H (λ H=>?_) (λ H=>?_)))))))))))
 ·exact sr (ck 1 (en (re (qr (by cases H;exact pr rd)))))
 ·refine sk (qz (sq (sr (ck 23 (en (cn H (λ H=>?_) (λ H=>?_)))))))
  ·exact sr (ck 1 (en (re (qr (by cases H;exact pr rd)))))
  ·exact sk (qz (sr (ck 10 (gc 1 (decide ((if p1_.X<p0_.X then p1_.X else p0_.X)<=p2_.X)) (ck 1 (gc 1 (decide ((if p1_.X<p0_.X then p1_.X else p0_.X)<=p2_.X)) (ck 1 (gc 3 (decide ((if p1_.X<p0_.X then p1_.X else p0_.X)<=p2_.X)) (pA (ck 2 (gc 1 ((decide ((if p1_.X<p0_.X then p1_.X else p0_.X)<=p2_.X))&&(decide (p2_.X<=(if p1_.X>p0_.X then p1_.X else p0_.X)))) (ck 1 (gc 2 ((decide ((if p1_.X<p0_.X then p1_.X else p0_.X)<=p2_.X))&&(decide (p2_.X<=(if p1_.X>p0_.X then p1_.X else p0_.X)))) (ck 1 (gc 2 ((decide ((if p1_.X<p0_.X then p1_.X else p0_.X)<=p2_.X))&&(decide (p2_.X<=(if p1_.X>p0_.X then p1_.X else p0_.X)))) (pA (ck 2 (gc 1 (((decide ((if p1_.X<p0_.X then p1_.X else p0_.X)<=p2_.X))&&(decide (p2_.X<=(if p1_.X>p0_.X then p1_.X else p0_.X))))&&(decide ((if p1_.Y<p0_.Y then p1_.Y else p0_.Y)<=p2_.Y))) (ck 1 (gc 1 (((decide ((if p1_.X<p0_.X then p1_.X else p0_.X)<=p2_.X))&&(decide (p2_.X<=(if p1_.X>p0_.X then p1_.X else p0_.X))))&&(decide ((if p1_.Y<p0_.Y then p1_.Y else p0_.Y)<=p2_.Y))) (ck 1 (gc 3 (((decide ((if p1_.X<p0_.X then p1_.X else p0_.X)<=p2_.X))&&(decide (p2_.X<=(if p1_.X>p0_.X then p1_.X else p0_.X))))&&(decide ((if p1_.Y<p0_.Y then p1_.Y else p0_.Y)<=p2_.Y))) (pA (ck 1 (en (re (by cases H;exact pr rd)))))))))))))))))))))))))))
end
section
variable (p0_:Aa) (p1_:Aa) (p2_:Aa)
def T5:St:=⟨(0,.agg [.d (.int .i64 p0_.X),.d (.int .i64 p0_.Y)])::(1,.agg [.d (.int .i64 p1_.X),.d (.int .i64 p1_.Y)])::(2,.agg [.d (.int .i64 p2_.X),.d (.int .i64 p2_.Y)])::[],[]⟩
variable {p0_ p1_ p2_}
theorem JC {z} (H:EN n p0_ p1_ p2_=some z):AB Try.prog 36 [.agg [.d (.int .i64 p0_.X),.d (.int .i64 p0_.Y)],.agg [.d (.int .i64 p1_.X),.d (.int .i64 p1_.Y)],.agg [.d (.int .i64 p2_.X),.d (.int .i64 p2_.Y)]] (.d (.bool z)):=by
 refine fO 53 (T5 p0_ p1_ p2_) Try.func36 (sr (ck 4 (en (sq (sr (ck 11 (en (cn H (λ H=>?_) (λ H=>?_)))))))))
 ·exact sr (ck 1 (en (re (qr (by cases H;exact pr rd)))))
 ·refine sk (qz (sr (ck 24 (en (sq (sr (ck 5 (en (cn H (λ H=>?_) (λ H=>?_))))))))))
  ·exact sr (ck 4 (en (re (qr (by cases H;exact pr rd)))))
  ·exact sk (qz (sr (ck 4 (en (re (by cases H;exact pr rd))))))
end
section
variable (p0_:(List Aa)) (p1_:Aa) (odd_1:Bool) (x_9:Int) (odd_2:Bool) (odd_3:Bool)
def T6:St:=⟨(0,.d (.sl (p0_.map Ab)))::(1,.agg [.d (.int .i64 p1_.X),.d (.int .i64 p1_.Y)])::[],[]⟩
def T7:St:=⟨(0,.d (.sl (p0_.map Ab)))::(3,.ptr 0 0)::(5,.d (.bool odd_1))::(9,.d (.sl (p0_.map Ab)))::(10,.d (.int .i64 ((p0_.length:Nat):Int)))::(11,.d (.int .i64 x_9))::[],[some (.box [.d (.int .i64 p1_.X),.d (.int .i64 p1_.Y)])]⟩
def T8:St:=⟨(5,.d (.bool odd_2))::[],[]⟩
def T9:St:=⟨(0,.d (.sl (p0_.map Ab)))::(3,.ptr 0 0)::(5,.d (.bool odd_3))::(9,.d (.sl (p0_.map Ab)))::(10,.d (.int .i64 ((p0_.length:Nat):Int)))::(11,.d (.int .i64 x_9))::[],[some (.box [.d (.int .i64 p1_.X),.d (.int .i64 p1_.Y)])]⟩
def HJ:(Bool⊕Bool)->Ex->St->Prop:=xS (xX 0 0 (λ (y:Bool)=>T8 y)) (xR ty Try.f19 (λ (y:Bool)=>.d (.bool y)))
def E2:(Bool×Int)->St:=(λ (x:(Bool×Int))=>T7 p0_ p1_ x.1 x.2)
variable {p0_ p1_ odd_1 x_9 odd_2 odd_3}
theorem Ek (x:(Bool×Int)) (z:((Bool×Int)⊕(Bool⊕Bool))) (H:C3 n p0_ p1_ x.1 x.2=some z):WP (cxk 36 0) (AM Try.f19) [1,1,0,1,0,0] (A2 0 (E2 p0_ p1_) (HJ) z) (E2 p0_ p1_ x):=by
 obtain ⟨odd_1,x_9⟩:=x
 refine sr (ck 1 (en (sq (cn H (λ H=>?_) (λ H=>?_)))))
 ·refine sk (qz (sj (λ (x:Bool)=>T9 p0_ p1_ x_9 x) (λ (x:Bool)=>C2 n x_9 x) z ?_ (λ hFSh_Inside_J1=>?_)))
  ·intro odd_3 H
   exact rz (ck 2 (ae (by cases H;exact og (sg [0,3,5,9,10,11]))))
  refine bk 1 (sr (ck 1 (bx H λ x7 h34 H=>sp (Bj Ab h34) (ck 4 (en (sr (ck 4 (sp (BE Ab p0_) (bx H λ gd3 h35 H=>so (GA h35) (bx H λ x8 h36 H=>sp (Bj Ab h36) (ck 3 (en (sq (sr (ck 3 (bx H λ r18 h37 H=>ca false (Pc h37) (en (cn H (λ H=>?_) (λ H=>?_)))))))))))))))))))
  ·exact sr (ck 1 (en (re (qr (qR (qr (by cases H;exact ro rfl rd)))))))
  ·refine sk (qz (sr (ck 3 (bx H λ r19 h38 H=>ca false (JC h38) (en (cn H (λ H=>?_) (λ H=>?_)))))))
   ·exact rz (ck 3 (ae (qN (qs (sg [0,3,5,9,10,11]) (hFSh_Inside_J1 (!odd_1) H)))))
   ·exact sk (qN (qs (sg [0,3,5,9,10,11]) (hFSh_Inside_J1 odd_1 H)))
 ·exact ex 0 (qx (by cases H;exact xo rfl (sg [5])))
theorem Bl {z} (H:Bq n p0_ p1_=some z):AB Try.prog 19 [.d (.sl (p0_.map Ab)),.agg [.d (.int .i64 p1_.X),.d (.int .i64 p1_.Y)]] (.d (.bool z)):=by
 refine fO 36 (T6 p0_ p1_) Try.func19 (sr (ck 2 (en (sr (ck 1 (en (sq (sr (ck 1 (sp (BE Ab p0_) (ck 1 (en (bk 0 (bx H λ y13 h39 H=>?_))))))))))))))
 rcases y13 with y14|y15
 ·exact lX Ek h39 (sg [0,3,5,9,10,11]) rfl λ s hE10=>qH (qs (hE10) (sr (ck 2 (en (re (by cases H;exact pr rd))))))
 ·exact lR Ek h39 (sg [0,3,5,9,10,11]) rfl λ s hE11=>qR (qr (by cases H;exact pr hE11))
end
section
variable (o0_:(List (Aa×Bool)))
def QU:St:=⟨(0,.mp 0)::[],[some (.map true false (Bk Ab eB o0_))]⟩
def QV:St:=⟨(2,.clo 54 [.ptr 1 0])::[],[some (.map true false (Bk Ab eB o0_)),some (.box [.mp 0])]⟩
variable {o0_}
theorem Gb {z} (H:Dn n o0_=some z):Ba Try.prog 41 [.mp 0] [some (.map true false (Bk Ab eB o0_))] 1 (.clo 54 [.ptr 1 0]) [some (.map true false (Bk Ab eB o0_)),some (.box [.mp 0])]:=by
 exact fL 4 1 (QU o0_) Try.func41 (sr (ck 2 (en (sr (xm (xok _ _) (ck 1 (en (re (by cases H;exact pL (rl (s':=QV o0_) (sg [2])))))))))))
end
noncomputable def QW (p1_:Aa) (o2_:(List Aa)):St:=⟨(7,.agg [.d (.int .i64 p1_.X),.d (.int .i64 p1_.Y)])::(2,.ptr 1 0)::[],[some (.lp Bd [2] [.ptr 1 0] 0),some (.box [.osl 2 2 0 (o2_.length)]),some (.arr 2 (o2_.map Ab))]⟩
noncomputable def QX (x_10:(List Aa)):St:=⟨[],[some (.lp Bd [2] [.ptr 1 0] 1),some (.box [.osl 3 2 0 (x_10.length)]),none,some (.arr 2 (x_10.map Ab))]⟩
section
variable (p1_:Aa) (o2_:(List Aa))
variable {p1_ o2_}
theorem HK {z} (H:EO n p1_ o2_=some z):Ma Try.prog [.agg [.d (.int .i64 p1_.X),.d (.int .i64 p1_.Y)]] [some (.lp Bd [2] [.ptr 1 0] 0),some (.box [.osl 2 2 0 (o2_.length)]),some (.arr 2 (o2_.map Ab))] 3 0 [some (.lp Bd [2] [.ptr 1 0] 0),some (.box [.osl 3 2 0 (z.length)]),none,some (.arr 2 (z.map Ab))]:=by
 exact fk (C:=AM Try.f59) (p:=[1,0,1,0]) 13 [7] [] (ts:=[2]) (vs:=[.ptr 1 0]) (QW p1_ o2_) follows (Vt 13 3) (rz (ck 2 (ae (aq (js:=[]) (bk 1 (rz (ck 3 (bx H λ l3 h40 H=>sp (HY Ab 2 2 h40) (ck 1 (ae (qN (by cases H;exact rq (s':=QX z) (sg [])))))))))))))
end
section
variable (o3_:(List (Aa×Bool))) (o4_:(List Aa)) (x_11:(List Aa)) (l4:(List (Aa×Bool))) (x_12:(List Aa)) (x_13:(List Aa))
noncomputable def QY:St:=⟨(0,.yld 0)::(1,.ptr 1 0)::[],[some (.lp Bd [2] [.ptr 2 0] 0),some (.box [.mp 3]),some (.box [.osl 4 2 0 (o4_.length)]),some (.map true false (Bk Ab eB o3_)),some (.arr 2 (o4_.map Ab))]⟩
noncomputable def QZ:St:=⟨[],[some (.lp Bd [2] [.ptr 2 0] 0),some (.box [.mp 3]),some (.box [.osl 5 2 0 (x_11.length)]),none,none,some (.arr 2 (x_11.map Ab))]⟩
noncomputable def Q0:St:=⟨(0,.yld 0)::(5,.ptr 5 0)::[],[some (.lp Bd [2] [.ptr 2 0] 0),some (.box [.mp 3]),some (.box [.osl 6 2 0 (x_12.length)]),none,none,some (.iter true false none (Bk Ab eB l4)),some (.arr 2 (x_12.map Ab))]⟩
noncomputable def Q1:St:=⟨[],[some (.lp Bd [2] [.ptr 2 0] 0),some (.box [.mp 3]),some (.box [.osl 5 2 0 (x_13.length)]),none,none,some (.arr 2 (x_13.map Ab))]⟩
def CN:Empty->Ex->St->Prop:=(λ (_:Empty) _ _=>False)
variable {o3_ o4_ x_11 l4 x_12 x_13}
end
noncomputable def CC :(List Aa)->Ex->St->Prop:=(λ (x:(List Aa))=>xX 5 0 (λ (y:(List Aa))=>Q1 y) x)
section
variable (o3_:(List (Aa×Bool))) (o4_:(List Aa))
noncomputable def CO:(List (Aa×Bool))->(List Aa)->St:=(λ (l:(List (Aa×Bool))) (x:(List Aa))=>Q0 l x)
variable {o3_ o4_}
theorem El (l4:(List (Aa×Bool))) (x:(List Aa)) (hz:∀ e,e∈l4->∃ z,AG n e x=some z):WP (cxk 14 5) (AM Try.f54) [1,0,0] (So 5 (CO) (CC) (CN) (λ (e:(Aa×Bool)) (x:(List Aa))=>AG n e x) l4 x) (CO l4 x):=by
 revert hz
 generalize x=x_12
 intro hz
 refine sq (rn 0 (.refl _) (nd0 (nxt (yok _ _) (encK:=Ab) (enc:=eB) (ka:=true) (va:=false) 5 (λ hl=>?_) (λ e1 l5 l6 hl1=>bE (hz e1 (VU hl1)) λ z hF=>?_))))
 ·exact ck 1 (en (sq (cF (ex 0 (qx (mE hl rfl (sg [])))))))
 ·have H:=hF
  exact ck 1 (en (sq (cT (sk (qz (bk 1 (sr (xr (xok _ _) (ck 3 (en (sr (ck 2 (bx H λ r20 h41 H=>xy (xok _ _) (g:=true) rfl (BM) [0,2,6] (HK h41) rfl (ck 1 (en (cF (sk (qN (by cases H;exact mg hl1 hF (tr (Va 5 (by kernel_rfl)) (sg [0,5])))))))))))))))))))))
theorem Fx {z} (H:B3 n o3_ o4_=some z):BG Try.prog 54 [.yld 0,.ptr 1 0] [some (.lp Bd [2] [.ptr 2 0] 0),some (.box [.mp 3]),some (.box [.osl 4 2 0 (o4_.length)]),some (.map true false (Bk Ab eB o3_)),some (.arr 2 (o4_.map Ab))] 5 (Me z (λ (q:(List Aa))=>.tup []) (λ (q:(List Aa))=>[some (.lp Bd [2] [.ptr 2 0] 0),some (.box [.mp 3]),some (.box [.osl 5 2 0 (q.length)]),none,none,some (.arr 2 (q.map Ab))])):=by
 refine fS 14 5 (QY o3_ o4_) Try.func54 (sr (ck 1 (xr (xok _ _) (en (bk 0 ?_)))))
 have hD:=KO H
 refine lM (F:=(λ (e:(Aa×Bool)) (x:(List Aa))=>AG n e x)) (E:=CN) (E0:=CC) El (tr (KM (k:=4) (sz:=2) 2 0 (o4_.map Ab) (o4_.length) (by kernel_rfl) Gz leM rfl) (sg [0,5])) (λ ord ho=>(by obtain ⟨_,h,_⟩:=hD ord ho;exact bI h)) (λ ord y17 ho hy e s hE=>xQ hE (λ he hE12=>?_)) (λ ord r ho hy e s hE=>?_)
 ·subst he
  obtain ⟨Z',H,hz1⟩:=hD ord ho
  replace H:=bK H hy
  exact qH (by cases H;exact pS' (hz1 _ rfl) (rl (s':=QZ y17) (tr (hE12) (sg []))))
 ·cases r
end
section
variable (o1_:(List (Aa×Bool))) (x_14:(List Aa))
def Q2:St:=⟨(0,.d (.nil))::(1,.clo 54 [.ptr 0 0])::[],[some (.box [.mp 1]),some (.map true false (Bk Ab eB o1_))]⟩
def Q3:St:=⟨(4,.osl 2 2 0 (x_14.length))::[],[some (.box [.mp 1]),none,some (.arr 2 (x_14.map Ab))]⟩
variable {o1_ x_14}
theorem JD {z} (H:EP n o1_=some z):BG Try.prog 59 [.d (.nil),.clo 54 [.ptr 0 0]] [some (.box [.mp 1]),some (.map true false (Bk Ab eB o1_))] 2 (Me z (λ (q:(List Aa))=>.osl 2 2 0 (q.length)) (λ (q:(List Aa))=>[some (.box [.mp 1]),none,some (.arr 2 (q.map Ab))])):=by
 refine fS 13 2 (Q2 o1_) Try.func59 (sr (ck 2 (en (sq (sr (ck 1 (en (bk 0 (wsh (NV 2 0 2 (by kernel_rfl)) (bx H λ S1 h42 H=>?_))))))))))
 have hD:=KO H
 refine rfN rfl [] [2] [4,0,2,1,3] (λ (r21:(List Aa))=>0) (Fx h42) rfl (λ r21 hr=>?_)
 obtain ⟨Z',H,hz2⟩:=hD r21 hr
 exact jz (qN (qz (sr (ck 2 (en (re (by cases H;exact pS (hz2 _ rfl) (rl (s':=Q3 r21) (sg [4])))))))))
end
section
variable (o1_:(List (Aa×Bool))) (x_15:(List Aa))
def Q4:St:=⟨(0,.clo 54 [.ptr 0 0])::[],[some (.box [.mp 1]),some (.map true false (Bk Ab eB o1_))]⟩
def Q5:St:=⟨(2,.osl 2 2 0 (x_15.length))::[],[some (.box [.mp 1]),none,some (.arr 2 (x_15.map Ab))]⟩
variable {o1_ x_15}
theorem Jb {z} (H:DT n o1_=some z):BG Try.prog 52 [.clo 54 [.ptr 0 0]] [some (.box [.mp 1]),some (.map true false (Bk Ab eB o1_))] 2 (Me z (λ (q:(List Aa))=>.osl 2 2 0 (q.length)) (λ (q:(List Aa))=>[some (.box [.mp 1]),none,some (.arr 2 (q.map Ab))])):=by
 refine fS 5 2 (Q4 o1_) Try.func52 (sr (ck 1 (en (sq (rn 1 (.refl _) (ck 1 (bx H λ S2 h43 H=>?_)))))))
 have hD:=KO H
 refine nd0 (nc (yok _ _) [0,1] (JD h43) rfl (λ r22 hr=>?_))
 obtain ⟨Z',H,hz3⟩:=hD r22 hr
 exact ck 1 (en (re (by cases H;exact pS (hz3 _ rfl) (rl (s':=Q5 r22) (sg [2])))))
end
theorem Mj {n:Nat} {o0_:(List Aa)} {z:(List Aa)} (H:I3 n o0_=some z):Ba Try.prog 53 [.osl 0 2 0 (o0_.length),.clo 42 []] [some (.arr 2 (o0_.map Ab))] 1 (.tup []) [some (.arr 2 (z.map Ab))]:=Nt Try.laysSortF (by decide) Try.isAgg32 Try.sizeOf32 (enc:=Ab) (λ _=>rfl) (λ x d hd=>by simp only [Ab,List.mem_cons,List.not_mem_nil,or_false] at hd;rcases hd with rfl|rfl<;>rfl) (KR Try.func42) (λ h=>HH h) ⟨_,_,Try.func53,rfl,rfl⟩ H
section
variable (o1_:(List (Aa×Bool))) (x_16:(List Aa))
def Q6:St:=⟨(0,.clo 54 [.ptr 0 0])::(1,.clo 42 [])::[],[some (.box [.mp 1]),some (.map true false (Bk Ab eB o1_))]⟩
def Q7:St:=⟨(4,.osl 2 2 0 (x_16.length))::[],[some (.box [.mp 1]),none,some (.arr 2 (x_16.map Ab))]⟩
variable {o1_ x_16}
theorem HL {z} (H:Dt n o1_=some z):Ba Try.prog 40 [.clo 54 [.ptr 0 0],.clo 42 []] [some (.box [.mp 1]),some (.map true false (Bk Ab eB o1_))] 2 (.osl 2 2 0 (z.length)) [some (.box [.mp 1]),none,some (.arr 2 (z.map Ab))]:=by
 refine fL 12 2 (Q6 o1_) Try.func40 (sr (ck 1 (en (sq (rn 1 (.refl _) (ck 1 (bx H λ S3 h44 H=>?_)))))))
 have hD:=Tw H
 refine nd0 (nc (yok _ _) [0,1] (Jb h44) rfl (λ r23 hr=>?_))
 have H:=hD r23 hr
 exact ck 1 (en (sr (ck 2 (bx H λ r24 h45 H=>lt [2] (Mj h45) (bx H λ _ h46 H=>en (sq (rg (tr (tr (sn 7 2 2 (G0 h46)) (sn 5 2 2 (G0 h46))) (sn 8 2 2 (G0 h46))) (ck 2 (en (re (by cases H;exact pL (rl (s':=Q7 z) (sg [4])))))))))))))
end
section
variable (o0_:(List (Aa×Bool))) (x_17:(List Aa))
def Q8:St:=⟨(0,.mp 0)::[],[some (.map true false (Bk Ab eB o0_))]⟩
def Q9:St:=⟨(2,.osl 1 2 0 (x_17.length))::[],[none,some (.arr 2 (x_17.map Ab))]⟩
variable {o0_ x_17}
theorem D6 {z} (H:Cz n o0_=some z):Ba Try.prog 29 [.mp 0] [some (.map true false (Bk Ab eB o0_))] 1 (.osl 1 2 0 (z.length)) [none,some (.arr 2 (z.map Ab))]:=by
 exact fL 6 1 (Q8 o0_) Try.func29 (sr (ck 1 (en (sr (ck 1 (bx H λ r25 h47 H=>lt [0] (Gb h47) (bx H λ r26 h48 H=>lt [1,0] (HL h48) (ck 1 (en (re (by cases H;exact pL (rl (s':=Q9 z) (sg [2])))))))))))))
end
section
variable (p0_:(List Aa)) (x_18:(List (Aa×Bool))) (dots_4:(List (Aa×Bool)))
def Ra:St:=⟨(0,.d (.sl (p0_.map Ab)))::[],[]⟩
def Rb:St:=⟨(2,.mp 0)::[],[some (.map true false (Bk Ab eB x_18))]⟩
def Rc:St:=⟨(3,.mp 0)::[],[some (.map true false (Bk Ab eB dots_4))]⟩
variable {p0_ x_18 dots_4}
theorem FV {z} (H:EQ n p0_=some z):Ba Try.prog 31 [.d (.sl (p0_.map Ab))] [] 0 (.mp 0) [some (.map true false (Bk Ab eB z))]:=by
 refine fL 21 0 (Ra p0_) Try.func31 (sr (ck 1 (en (sr (ck 1 (bx H λ r27 h49 H=>lt [] (GH h49) (ck 1 (en (sj (λ (x:(List (Aa×Bool)))=>Rc x) (λ (x:(List (Aa×Bool)))=>D5 n x) z ?_ (λ hFSh_around_J1=>?_))))))))))
 ·intro dots_4 H
  exact sr (ck 2 (en (re (by cases H;exact pL (rl (s':=Rb z) (sg [2]))))))
 refine sr (ck 1 (sp (BE Ab p0_) (ck 1 (en (cn H (λ H=>?_) (λ H=>?_))))))
 ·exact rx 11 10 (.refl _) (ck 3 (sp (BE Ab p0_) (ck 1 (bx H λ x9 h50 H=>sp (Bj Ab h50) (ck 2 (bx H λ x10 h51 H=>sp (Bj Ab h51) (ck 1 (mx (bx H λ r28 h52 H=>lt [0] (I8 h52) (nz (qs (sg [3]) (hFSh_around_J1 r28 H))))))))))))
 ·exact sk (qs (sg [3]) (hFSh_around_J1 r27 H))
end
section
variable (p0_:Int) (x_19:Nat)
def Re:St:=⟨(0,.d (.int .i64 p0_))::[],[]⟩
def Rf:St:=⟨(2,.clo x_19 [])::[],[]⟩
variable {p0_ x_19}
theorem Jc {z} (H:DU n p0_=some z):Ba Try.prog 32 [.d (.int .i64 p0_)] [] 0 (.clo z []) []:=by
 exact fL 8 0 (Re p0_) Try.func32 (sr (ck 1 (en (sr (ck 3 (en (sr (ck 1 (bx H λ x11 h53 H=>sp (Sj 0 0 4 h53) (sp (Tz (e1:=λ x=>.clo x []) 0 0 4 (ty 59) h53) (ck 1 (en (re (by cases H;exact pL (rl (s':=Rf z) (sg [2]))))))))))))))))
end
def Ua (p0_:Ag):St:=⟨(0,.agg [.d (.int .i64 p0_.Kind),.d (.int .i64 p0_.Texture),.d (.sl (p0_.P.map Ab))])::[],[]⟩
def Ub (p0_:Ag) (r32:(List (Aa×Bool))) (low_1:Aa) (high_1:Aa) (x_20:Int):St:=⟨(1,.ptr 0 0)::(3,.mp 1)::(4,.ptr 2 0)::(5,.ptr 3 0)::(42,.d (.sl (p0_.P.map Ab)))::(43,.d (.int .i64 ((p0_.P.length:Nat):Int)))::(44,.d (.int .i64 x_20))::[],[some (.box (Cb p0_)),some (.map true false (Bk Ab eB r32)),some (.box [.d (.int .i64 low_1.X),.d (.int .i64 low_1.Y)]),some (.box [.d (.int .i64 high_1.X),.d (.int .i64 high_1.Y)])]⟩
def Uc (p0_:Ag) (r32:(List (Aa×Bool))) (low_2:Aa) (high_2:Aa):St:=⟨(1,.ptr 0 0)::(3,.mp 1)::(4,.ptr 2 0)::(5,.ptr 3 0)::[],[some (.box (Cb p0_)),some (.map true false (Bk Ab eB r32)),some (.box [.d (.int .i64 low_2.X),.d (.int .i64 low_2.Y)]),some (.box [.d (.int .i64 high_2.X),.d (.int .i64 high_2.Y)])]⟩
def HM (p0_:Ag) (r32:(List (Aa×Bool))):(Aa×Aa)->Ex->St->Prop:=xX 0 1 (λ (y:(Aa×Aa))=>Uc p0_ r32 y.1 y.2)
def E3 (p0_:Ag) (r32:(List (Aa×Bool))):(Aa×Aa×Int)->St:=(λ (x:(Aa×Aa×Int))=>Ub p0_ r32 x.1 x.2.1 x.2.2)
theorem G8 {n:Nat} {p0_:Ag} {r32:(List (Aa×Bool))} (x:(Aa×Aa×Int)) (z:((Aa×Aa×Int)⊕(Aa×Aa))) (H:Cn n p0_ r32 x.1 x.2.1 x.2.2=some z):WP (cxk 106 0) (AM Try.f15) [1,1,1,1,1,0,1,0,0] (A2 0 (E3 p0_ r32) (HM p0_ r32) z) (E3 p0_ r32 x):=by
 obtain ⟨low_1,high_1,x_20⟩:=x
 refine sr (ck 1 (en (sq (cn H (λ H=>?_) (λ H=>?_)))))
 ·exact sk (qz (sq (bk 2 (sr (bx H λ x15 h61 H=>sp (Bj Ab h61) (ck 3 (en (sr (ck 12 (en (rz (ck 12 (ae (qN (qz (rz (ck 2 (ae (by cases H;exact og (sg [1,3,4,5,42,43,44]))))))))))))))))))))
 ·exact ex 1 (qx (by cases H;exact xo rfl (sg [1,3,4,5])))
def Ud (p0_:Ag) (y18:(Aa×Aa)) (r33:Nat) (dots_5:(List (Aa×Bool))) (y_1:Int):St:=⟨(1,.ptr 0 0)::(3,.mp 1)::(4,.ptr 2 0)::(5,.ptr 3 0)::(8,.clo r33 [])::(9,.d (.int .i64 y_1))::[],[some (.box (Cb p0_)),some (.map true false (Bk Ab eB dots_5)),some (.box [.d (.int .i64 y18.1.X),.d (.int .i64 y18.1.Y)]),some (.box [.d (.int .i64 y18.2.X),.d (.int .i64 y18.2.Y)])]⟩
def Ue (dots_6:(List (Aa×Bool))):St:=⟨(3,.mp 0)::[],[some (.map true false (Bk Ab eB dots_6))]⟩
def Uf (p0_:Ag) (y18:(Aa×Aa)) (r33:Nat) (y_1:Int) (dots_7:(List (Aa×Bool))) (x_21:Int):St:=⟨(1,.ptr 0 0)::(3,.mp 1)::(4,.ptr 2 0)::(5,.ptr 3 0)::(8,.clo r33 [])::(9,.d (.int .i64 y_1))::(10,.d (.int .i64 x_21))::[],[some (.box (Cb p0_)),some (.map true false (Bk Ab eB dots_7)),some (.box [.d (.int .i64 y18.1.X),.d (.int .i64 y18.1.Y)]),some (.box [.d (.int .i64 y18.2.X),.d (.int .i64 y18.2.Y)])]⟩
def Ug (p0_:Ag) (y18:(Aa×Aa)) (r33:Nat) (y_1:Int) (dots_8:(List (Aa×Bool))):St:=⟨(1,.ptr 0 0)::(3,.mp 1)::(4,.ptr 2 0)::(5,.ptr 3 0)::(8,.clo r33 [])::(9,.d (.int .i64 y_1))::[],[some (.box (Cb p0_)),some (.map true false (Bk Ab eB dots_8)),some (.box [.d (.int .i64 y18.1.X),.d (.int .i64 y18.1.Y)]),some (.box [.d (.int .i64 y18.2.X),.d (.int .i64 y18.2.Y)])]⟩
def Uh (p0_:Ag) (y18:(Aa×Aa)) (r33:Nat) (y_1:Int) (x_21:Int) (dots_9:(List (Aa×Bool))):St:=⟨(1,.ptr 0 0)::(3,.mp 1)::(4,.ptr 2 0)::(5,.ptr 3 0)::(8,.clo r33 [])::(9,.d (.int .i64 y_1))::(10,.d (.int .i64 x_21))::[],[some (.box (Cb p0_)),some (.map true false (Bk Ab eB dots_9)),some (.box [.d (.int .i64 y18.1.X),.d (.int .i64 y18.1.Y)]),some (.box [.d (.int .i64 y18.2.X),.d (.int .i64 y18.2.Y)])]⟩
theorem Nu {n x:Nat} {p0_:Aa} {z:Bool} (H:GE n x p0_=some z):AB Try.prog x [.agg [.d (.int .i64 p0_.X),.d (.int .i64 p0_.Y)]] (.d (.bool z)):=by
 unfold GE at H
 split at H
 ·rename_i hx;have hx:=WO hx;subst hx;exact G4 H
 ·split at H
  ·rename_i hx;have hx:=WO hx;subst hx;exact G5 H
  ·split at H
   ·rename_i hx;have hx:=WO hx;subst hx;exact G6 H
   ·split at H
    ·rename_i hx;have hx:=WO hx;subst hx;exact G7 H
    ·cases H
section
variable (p0_:Ag) (y18:(Aa×Aa)) (r33:Nat) (y_1:Int)
def HN:(List (Aa×Bool))->Ex->St->Prop:=xX 0 5 (λ (y:(List (Aa×Bool)))=>Ug p0_ y18 r33 y_1 y)
def E4:((List (Aa×Bool))×Int)->St:=(λ (x:((List (Aa×Bool))×Int))=>Uf p0_ y18 r33 y_1 x.1 x.2)
def HO:(List (Aa×Bool))->Ex->St->Prop:=xX 0 3 (λ (y:(List (Aa×Bool)))=>Ue y)
def E5:((List (Aa×Bool))×Int)->St:=(λ (x:((List (Aa×Bool))×Int))=>Ud p0_ y18 r33 x.1 x.2)
variable {p0_ y18 r33 y_1}
theorem G9 (x:((List (Aa×Bool))×Int)) (z:(((List (Aa×Bool))×Int)⊕(List (Aa×Bool)))) (H:C5 n p0_ y18 r33 y_1 x.1 x.2=some z):WP (cxk 106 0) (AM Try.f15) [1,1,1,1,1,1,1,0,1,0,0,1,0,0,1,0,0] (A2 0 (E4 p0_ y18 r33 y_1) (HN p0_ y18 r33 y_1) z) (E4 p0_ y18 r33 y_1 x):=by
 obtain ⟨dots_7,x_21⟩:=x
 refine sq (sr (ck 4 (en (cn H (λ H=>?_) (λ H=>?_)))))
 ·refine sk (qz (sj (λ (x:(List (Aa×Bool)))=>Uh p0_ y18 r33 y_1 x_21 x) (λ (x:(List (Aa×Bool)))=>C4 n x_21 x) z ?_ (λ hFSh_Points_J1=>?_)))
  ·intro dots_9 H
   exact rz (ck 3 (ae (by cases H;exact og (sg [1,3,4,5,8,9,10]))))
  refine bk 6 (sr (ck 5 (en (sr (ck 2 (bx H λ r34 h64 H=>xcv (xok _ _) [] ((Nu h64).lent rfl) (ck 2 (gc 1 r34 (ck 1 (bx H λ r35 h65 H=>cG false (leZ) rfl (λ hg=>Bl (BS h65 hg)) (Or.inl rfl) (CP (λ hh=>hh) (CP (λ hh=>hh) (BM))) rfl (pA (en (cn H (λ H=>?_) (λ H=>?_))))))))))))))
  ·exact rz (ck 2 (sp (N0 (enc:=eB) (encK:=Ab) (k:=1) (e1:=λ x=>.bool x) (m:=dots_7) (l:=[.d (.int .i64 x_21),.d (.int .i64 y_1)]) (key:=({ X:=x_21,Y:=y_1 }:Aa)) (y:=true) (v:=.d (.bool true)) (vz:=[.bool false]) SS) (ae (qN (qs (sg [1,3,4,5,8,9,10]) (hFSh_Points_J1 (E9 ({ X:=x_21,Y:=y_1 }:Aa) true dots_7) H))))))
  ·exact sk (qN (qs (sg [1,3,4,5,8,9,10]) (hFSh_Points_J1 dots_7 H)))
 ·exact ex 5 (qx (by cases H;exact xo rfl (sg [1,3,4,5,8,9])))
theorem Ha (x:((List (Aa×Bool))×Int)) (z:(((List (Aa×Bool))×Int)⊕(List (Aa×Bool)))) (H:C6 n p0_ y18 r33 x.1 x.2=some z):WP (cxk 106 0) (AM Try.f15) [1,1,1,1,1,1,1,0,1,0,0] (A2 0 (E5 p0_ y18 r33) (HO) z) (E5 p0_ y18 r33 x):=by
 obtain ⟨dots_5,y_1⟩:=x
 refine sq (sr (ck 4 (en (cn H (λ H=>?_) (λ H=>?_)))))
 ·exact sk (qz (sq (bk 4 (sr (ck 3 (en (bk 5 (bx H λ y19 h66 H=>lX G9 h66 (sg [1,3,4,5,8,9,10]) rfl λ s hE14=>qH (qN (qs (hE14) (rz (ck 3 (ae (by cases H;exact og (sg [1,3,4,5,8,9])))))))))))))))
 ·exact ex 3 (qx (by cases H;exact xo rfl (sg [3])))
theorem Co {z} (H:Bb n p0_=some z):AB Try.prog 15 [.agg (Cb p0_)] (.own 2 (z.map Ab)):=by
 refine fO 106 (Ua p0_) Try.func15 (sr (ck 2 (en (sq (sr (ck 1 (bx H λ r29 h54 H=>ca false (BN h54) (ck 1 (en (cn H (λ H=>?_) (λ H=>?_)))))))))))
 ·exact sr (ck 1 (en (re (qr (by cases H;exact pr (rO (v:=.d (.nil)) [] (ad vz)))))))
 ·refine sk (qz (sq (sr (ck 2 (en (bk 0 (sr (ck 2 (en (cn H (λ H=>?_) (λ H=>?_)))))))))))
  ·exact sr (ck 2 (bx H λ x12 h55 H=>sp (Bj Ab h55) (ck 3 (en (re (qR (qr (by cases H;exact pr (rO (v:=.osl 1 2 0 (List.length [x12])) [1] (ao vo))))))))))
  ·refine sr (ck 2 (en (cn H (λ H=>?_) (λ H=>?_))))
   ·exact sr (ck 2 (bx H λ r30 h56 H=>lt [] (GH h56) (bx H λ r31 h57 H=>lt [1] (D6 h57) (ck 1 (en (re (qR (qr (by cases H;exact pr (rO (v:=.osl 2 2 0 (z.length)) [2] (ao vo)))))))))))
   ·exact sk (qN (qz (sr (ck 2 (bx H λ r32 h58 H=>lt [] (FV h58) (ck 1 (en (sr (ck 2 (bx H λ x13 h59 H=>sp (Bj Ab h59) (ck 3 (bx H λ x14 h60 H=>sp (Bj Ab h60) (ck 5 (en (sq (sr (ck 2 (sp (BE Ab p0_.P) (ck 1 (en (bk 1 (bx H λ y18 h62 H=>lX G8 h62 (sg [1,3,4,5,42,43,44]) rfl λ s hE13=>qH (qs (hE13) (sr (ck 2 (bx H λ r33 h63 H=>lt [] (Jc h63) (ck 1 (en (sq (sr (ck 3 (en (bk 3 (bx H λ y20 h67 H=>lX Ha h67 (sg [1,3,4,5,8,9]) rfl λ s hE15=>qH (qs (hE15) (sr (ck 1 (bx H λ r36 h68 H=>lt [0] (D6 h68) (ck 1 (en (re (by cases H;exact pr (rO (v:=.osl 1 2 0 (z.length)) [1] (ao vo))))))))))))))))))))))))))))))))))))))))))))
end
section
variable (p0_:(List Aa)) (p1_:(List Aa)) (i_2:Int)
def Ui:St:=⟨(0,.d (.sl (p0_.map Ab)))::(1,.d (.sl (p1_.map Ab)))::[],[]⟩
def Uj:St:=⟨(0,.d (.sl (p0_.map Ab)))::(1,.d (.sl (p1_.map Ab)))::(5,.d (.int .i64 i_2))::[],[]⟩
def Uk:St:=⟨[],[]⟩
def Jd:(Unit⊕Bool)->Ex->St->Prop:=xS (xX 0 0 (λ (y:Unit)=>Uk)) (xR ty Try.f14 (λ (y:Bool)=>.d (.bool y)))
def Fy:Int->St:=(λ (x:Int)=>Uj p0_ p1_ x)
variable {p0_ p1_ i_2}
theorem E6 (x:Int) (z:(Int⊕(Unit⊕Bool))) (H:Du n p0_ p1_ x=some z):WP (cxk 26 0) (AM Try.f14) [1,1,0,1,0,0] (A2 0 (Fy p0_ p1_) (Jd) z) (Fy p0_ p1_ x):=by
 revert H
 generalize x=i_2
 intro H
 refine sq (sr (ck 2 (sp (BE Ab p0_) (ck 1 (en (cn H (λ H=>?_) (λ H=>?_)))))))
 ·refine sk (qz (sq (bk 1 (sr (ck 2 (bx H λ x16 h69 H=>sp (Bj Ab h69) (ck 3 (bx H λ x17 h70 H=>sp (Bj Ab h70) (ck 2 (en (cn H (λ H=>?_) (λ H=>?_))))))))))))
  ·exact sr (ck 1 (en (re (qR (qr (by cases H;exact ro rfl rd))))))
  ·exact sk (qN (qz (rz (ck 3 (ae (by cases H;exact og (sg [0,1,5])))))))
 ·exact ex 0 (qx (by cases H;exact xo rfl (sg [])))
theorem GI {z} (H:Ei n p0_ p1_=some z):AB Try.prog 14 [.d (.sl (p0_.map Ab)),.d (.sl (p1_.map Ab))] (.d (.bool z)):=by
 refine fO 26 (Ui p0_ p1_) Try.func14 (sr (ck 1 (en (sq (sr (ck 1 (sp (BE Ab p0_) (ck 1 (sp (BE Ab p1_) (ck 1 (en (cn H (λ H=>?_) (λ H=>?_)))))))))))))
 ·exact sr (ck 1 (en (re (qr (by cases H;exact pr rd)))))
 ·refine sk (qz (sq (sr (ck 1 (en (bk 0 (bx H λ y21 h71 H=>?_)))))))
  rcases y21 with y22|y23
  ·exact lX E6 h71 (sg [0,1,5]) rfl λ s hE16=>qH (qs (hE16) (sr (ck 1 (en (re (by cases H;exact pr rd))))))
  ·exact lR E6 h71 (sg [0,1,5]) rfl λ s hE17=>qR (qr (by cases H;exact pr hE17))
end
section
variable (p0_:(List Aa))
def Ul:St:=⟨(0,.d (.sl (p0_.map Ab)))::[],[]⟩
variable {p0_}
theorem Fz {z} (H:Df n p0_=some z):AB Try.prog 17 [.d (.sl (p0_.map Ab))] (.own 2 (z.map Ab)):=by
 exact fO 6 (Ul p0_) Try.func17 (sr (ck 1 (en (sr (ck 1 (bx H λ r37 h72 H=>lt [] (FV h72) (bx H λ r38 h73 H=>lt [0] (D6 h73) (ck 1 (en (re (by cases H;exact pr (rO (v:=.osl 1 2 0 (z.length)) [1] (ao vo)))))))))))))
end
def Um:St:=⟨[],[]⟩
theorem Je {z} (H:Fs n=some z):AB Try.prog 10 [] (.d (.bool z)):=by
 exact fO 116 Um Try.func10 (sr (ck 1 (en (sr (bx H λ r39 h74 H=>ca false (Av h74) (ck 4 (en (sr (bx H λ r40 h75 H=>ca false (Av h75) (bx H λ r41 h76 H=>ca false (Av h76) (ck 4 (en (sr (bx H λ r42 h77 H=>ca false (AR h77) (ck 3 (en (sr (bx H λ r43 h78 H=>ca false (AR h78) (ck 3 (en (sr (ck 1 (bx H λ r44 h79 H=>cb (ks:=[0]) (obl:=[(0+List.length [r39],List.length (List.map Ab [r39]))]) false (leK leM (leZ)) (Cf (Sc (Cf rfl (Cf rfl (Cf HC rfl)))) rfl) (Co h79) (Or.inr (U5 λ _=>rfl)) rfl (ck 2 (bx H λ r45 h80 H=>cb (ks:=[0]) (obl:=[(0+List.length [r39],List.length (List.map Ab [r39]))]) false (leK leM (leZ)) (Cf rfl (Cf HC rfl)) (GI h80) (Or.inr trivial) rfl (ck 2 (bx H λ r46 h81 H=>cG (ks:=[2]) (obl:=[(0+List.length [r40,r41],List.length (List.map Ab [r40,r41]))]) false (leK leM (leZ)) (Cf (Sc (Cf rfl (Cf rfl (Cf HC rfl)))) rfl) (λ hg=>Co (BS h81 hg)) (Or.inr (U5 λ _=>rfl)) (CP (λ hh=>hh) (BM)) rfl (bx H λ r47 h82 H=>cG false (leZ) rfl (λ hg=>Av (BS h82 hg)) (Or.inl rfl) (BM) rfl (bx H λ r48 h83 H=>cG false (leZ) rfl (λ hg=>Av (BS h83 hg)) (Or.inl rfl) (BM) rfl (bx H λ r49 h84 H=>cG false (leZ) rfl (λ hg=>Av (BS h84 hg)) (Or.inl rfl) (BM) rfl (gc 1 r45 (bx H λ r50 h85 H=>cG (ks:=[6]) (obl:=[(0+List.length [r47,r48,r49],List.length (List.map Ab [r47,r48,r49]))]) false (leK leM (leZ)) (Cf rfl (Cf HC rfl)) (λ hg=>GI (BS h85 hg)) (Or.inr trivial) (CP (λ hh=>hh) (CP (λ hh=>hh) (BM))) rfl (pA (ck 2 (bx H λ r51 h86 H=>cG false (leZ) rfl (λ hg=>Co (BS h86 hg)) (Or.inl rfl) (CP (λ hh=>hh) (BM)) rfl (sE (g:=(r45&&r50)) (λ hg=>BE Ab r51) (gc 1 (r45&&r50) (pA (ck 2 (bx H λ r52 h87 H=>cG false (leZ) rfl (λ hg=>Co (BS h87 hg)) (Or.inl rfl) (CP (λ hh=>hh) (BM)) rfl (sE (g:=((r45&&r50)&&(((r51.length:Nat):Int)==8))) (λ hg=>BE Ab r52) (gc 1 ((r45&&r50)&&(((r51.length:Nat):Int)==8)) (pA (ck 1 (en (sr (ck 1 (bx H λ r53 h88 H=>cb (ks:=[0]) (obl:=[(0+List.length [r39],List.length (List.map Ab [r39]))]) false (leK leM (leZ)) (Cf (Sc (Cf rfl (Cf rfl (Cf HC rfl)))) rfl) (BN h88) (Or.inr trivial) rfl (ck 2 (bx H λ r54 h89 H=>cG false (leZ) rfl (λ hg=>BN (BS h89 hg)) (Or.inl rfl) (CP (λ hh=>hh) (BM)) rfl (pA (ck 2 (bx H λ r55 h90 H=>cG false (leZ) rfl (λ hg=>BN (BS h90 hg)) (Or.inl rfl) (CP (λ hh=>hh) (BM)) rfl (gc 1 (r53&&r54) (pA (ck 1 (bx H λ r56 h91 H=>cG false (leZ) rfl (λ hg=>AR (BS h91 hg)) (Or.inl rfl) (BM) rfl (gc 1 ((r53&&r54)&&(!r55)) (bx H λ r57 h92 H=>cG false (leZ) rfl (λ hg=>BN (BS h92 hg)) (Or.inl rfl) (CP (λ hh=>hh) (BM)) rfl (gc 1 ((r53&&r54)&&(!r55)) (pA (ck 1 (bx H λ r58 h93 H=>cG false (leZ) rfl (λ hg=>AR (BS h93 hg)) (Or.inl rfl) (BM) rfl (gc 1 (((r53&&r54)&&(!r55))&&(!r57)) (bx H λ r59 h94 H=>cG false (leZ) rfl (λ hg=>BN (BS h94 hg)) (Or.inl rfl) (CP (λ hh=>hh) (BM)) rfl (gc 1 (((r53&&r54)&&(!r55))&&(!r57)) (pA (ck 1 (bx H λ r60 h95 H=>cG false (leZ) rfl (λ hg=>Av (BS h95 hg)) (Or.inl rfl) (BM) rfl (gc 2 ((((r53&&r54)&&(!r55))&&(!r57))&&(!r59)) (bx H λ r61 h96 H=>cG (ks:=[7]) (obl:=[(0+List.length [r60],List.length (List.map Ab [r60]))]) false (leK leM (leZ)) (Cf (Sc (Cf rfl (Cf rfl (Cf HC rfl)))) rfl) (λ hg=>BN (BS h96 hg)) (Or.inr trivial) (CP (λ hh=>hh) (BM)) rfl (gc 1 ((((r53&&r54)&&(!r55))&&(!r57))&&(!r59)) (pA (ck 1 (en (sr (ck 3 (pA (ck 1 (bx H λ r62 h97 H=>cG false (leZ) rfl (λ hg=>AR (BS h97 hg)) (Or.inl rfl) (BM) rfl (bx H λ r63 h98 H=>cG false (leZ) rfl (λ hg=>Av (BS h98 hg)) (Or.inl rfl) (BM) rfl (bx H λ r64 h99 H=>cG false (leZ) rfl (λ hg=>Bl (BS h99 hg)) (Or.inl rfl) (CP (λ hh=>hh) (CP (λ hh=>hh) (BM))) rfl (pA (ck 1 (bx H λ r65 h100 H=>cG false (leZ) rfl (λ hg=>AR (BS h100 hg)) (Or.inl rfl) (BM) rfl (bx H λ r66 h101 H=>cG false (leZ) rfl (λ hg=>Av (BS h101 hg)) (Or.inl rfl) (BM) rfl (bx H λ r67 h102 H=>cG false (leZ) rfl (λ hg=>Bl (BS h102 hg)) (Or.inl rfl) (CP (λ hh=>hh) (CP (λ hh=>hh) (BM))) rfl (pA (ck 1 (bx H λ r68 h103 H=>cG false (leZ) rfl (λ hg=>AR (BS h103 hg)) (Or.inl rfl) (BM) rfl (bx H λ r69 h104 H=>cG false (leZ) rfl (λ hg=>Av (BS h104 hg)) (Or.inl rfl) (BM) rfl (bx H λ r70 h105 H=>cG false (leZ) rfl (λ hg=>Bl (BS h105 hg)) (Or.inl rfl) (CP (λ hh=>hh) (CP (λ hh=>hh) (BM))) rfl (pA (ck 1 (bx H λ r71 h106 H=>cG false (leZ) rfl (λ hg=>AR (BS h106 hg)) (Or.inl rfl) (BM) rfl (bx H λ r72 h107 H=>cG false (leZ) rfl (λ hg=>Av (BS h107 hg)) (Or.inl rfl) (BM) rfl (bx H λ r73 h108 H=>cG false (leZ) rfl (λ hg=>Bl (BS h108 hg)) (Or.inl rfl) (CP (λ hh=>hh) (CP (λ hh=>hh) (BM))) rfl (gc 1 (((((((r45&&r50)&&(((r51.length:Nat):Int)==8))&&(((r52.length:Nat):Int)==9))&&(((((r53&&r54)&&(!r55))&&(!r57))&&(!r59))&&(!r61)))&&r64)&&r67)&&r70) (pA (ck 1 (bx H λ r74 h109 H=>cG false (leZ) rfl (λ hg=>AR (BS h109 hg)) (Or.inl rfl) (BM) rfl (bx H λ r75 h110 H=>cG false (leZ) rfl (λ hg=>Av (BS h110 hg)) (Or.inl rfl) (BM) rfl (bx H λ r76 h111 H=>cG false (leZ) rfl (λ hg=>Bl (BS h111 hg)) (Or.inl rfl) (CP (λ hh=>hh) (CP (λ hh=>hh) (BM))) rfl (gc 1 ((((((((r45&&r50)&&(((r51.length:Nat):Int)==8))&&(((r52.length:Nat):Int)==9))&&(((((r53&&r54)&&(!r55))&&(!r57))&&(!r59))&&(!r61)))&&r64)&&r67)&&r70)&&(!r73)) (pA (ck 1 (bx H λ r77 h112 H=>cG false (leZ) rfl (λ hg=>Av (BS h112 hg)) (Or.inl rfl) (BM) rfl (bx H λ r78 h113 H=>cG false (leZ) rfl (λ hg=>Bl (BS h113 hg)) (Or.inl rfl) (CP (λ hh=>hh) (BM)) rfl (gc 1 (((((((((r45&&r50)&&(((r51.length:Nat):Int)==8))&&(((r52.length:Nat):Int)==9))&&(((((r53&&r54)&&(!r55))&&(!r57))&&(!r59))&&(!r61)))&&r64)&&r67)&&r70)&&(!r73))&&(!r76)) (pA (ck 1 (bx H λ r79 h114 H=>cG false (leZ) rfl (λ hg=>AR (BS h114 hg)) (Or.inl rfl) (BM) rfl (bx H λ r80 h115 H=>cG false (leZ) rfl (λ hg=>Fz (BS h115 hg)) (Or.inl rfl) (CP (λ hh=>hh) (BM)) rfl (sE (g:=((((((((((r45&&r50)&&(((r51.length:Nat):Int)==8))&&(((r52.length:Nat):Int)==9))&&(((((r53&&r54)&&(!r55))&&(!r57))&&(!r59))&&(!r61)))&&r64)&&r67)&&r70)&&(!r73))&&(!r76))&&(!r78))) (λ hg=>BE Ab r80) (gc 1 ((((((((((r45&&r50)&&(((r51.length:Nat):Int)==8))&&(((r52.length:Nat):Int)==9))&&(((((r53&&r54)&&(!r55))&&(!r57))&&(!r59))&&(!r61)))&&r64)&&r67)&&r70)&&(!r73))&&(!r76))&&(!r78)) (pA (ck 1 (en (re (by cases H;exact pr rd))))))))))))))))))))))))))))))))))))))))))))))))))))))))))))))))))))))))))))))))))))))))))))))))))))))))))))))))))))))))
section
variable (p0_:(List (Pb Int))) (p1_:Int) (out_1:(List Aa)) (i_3:Int) (out_2:(List Aa))
def Un:St:=⟨(0,.d (.sl (p0_.map (EZ eU8))))::(1,.d (.int .i64 p1_))::[],[]⟩
def Uo:St:=⟨(0,.d (.sl (p0_.map (EZ eU8))))::(1,.d (.int .i64 p1_))::(5,.osl 0 2 0 (out_1.length))::(6,.d (.int .i64 i_3))::[],[some (.arr 2 (out_1.map Ab))]⟩
def Up:St:=⟨(5,.osl 0 2 0 (out_2.length))::[],[some (.arr 2 (out_2.map Ab))]⟩
def GJ:(List Aa)->Ex->St->Prop:=xX 0 0 (λ (y:(List Aa))=>Up y)
def DZ:((List Aa)×Int)->St:=(λ (x:((List Aa)×Int))=>Uo p0_ p1_ x.1 x.2)
variable {p0_ p1_ out_1 i_3 out_2}
theorem Gc (x:((List Aa)×Int)) (z:(((List Aa)×Int)⊕(List Aa))) (H:Ct n p0_ p1_ x.1 x.2=some z):WP (cxk 38 0) (AM Try.f28) [1,1,0,1,0,0] (A2 0 (DZ p0_ p1_) (GJ) z) (DZ p0_ p1_ x):=by
 obtain ⟨out_1,i_3⟩:=x
 refine sq (sr (ck 2 (sp (BE (EZ eU8) p0_) (ck 4 (gc 1 (decide (i_3<((p0_.length:Nat):Int))) (pA (en (cn H (λ H=>?_) (λ H=>?_)))))))))
 ·exact sk (qz (sq (bk 1 (rz (ck 3 (bx H λ x18 h116 H=>sp (Bj (EZ eU8) h116) (ck 6 (bx H λ x19 h117 H=>sp (Bj (EZ eU8) h117) (ck 6 (bx H λ l7 h118 H=>sp (HY Ab 0 2 h118) (ck 1 (ae (qN (qz (rz (ck 3 (ae (by cases H;exact og (sg [0,1,5,6])))))))))))))))))))
 ·exact ex 0 (qx (by cases H;exact xo rfl (sg [5])))
theorem HP {z} (H:ES n p0_ p1_=some z):AB Try.prog 28 [.d (.sl (p0_.map (EZ eU8))),.d (.int .i64 p1_)] (.own 2 (z.map Ab)):=by
 exact fO 38 (Un p0_ p1_) Try.func28 (sr (ck 1 (en (sr (ck 2 (en (sq (sr (ck 1 (en (bk 0 (bx H λ y24 h119 H=>lX Gc h119 (sg [0,1,5,6]) rfl λ s hE18=>qH (qs (hE18) (sr (ck 2 (en (re (by cases H;exact pr (rO (v:=.osl 0 2 0 (z.length)) [0] (ao vo))))))))))))))))))))
end
section
variable (p0_:GC) (l_3:(List Aa)) (l_4:(List Aa))
def Uq:St:=⟨(0,.agg [.d (.int .u8 p0_.Kind),.d (.int .u8 p0_.Texture),.d (.sl (p0_.L.map (EZ eU8)))])::[],[]⟩
def Ur:St:=⟨(1,.ptr 0 0)::(2,.ptr 1 0)::(3,.osl 2 2 0 (l_3.length))::[],[some (.box (Sr p0_)),some (.box [.d (.int .i64 0),.d (.int .i64 0),.osl 3 2 0 (List.length ([]:List Aa))]),some (.arr 2 (l_3.map Ab)),some (.arr 2 (List.map Ab ([]:List Aa)))]⟩
def Us:St:=⟨(1,.ptr 0 0)::(2,.ptr 1 0)::(3,.osl 2 2 0 (l_4.length))::[],[some (.box (Sr p0_)),some (.box [.d (.int .i64 0),.d (.int .i64 0),.osl 3 2 0 (List.length ([]:List Aa))]),some (.arr 2 (l_4.map Ab)),some (.arr 2 (List.map Ab ([]:List Aa)))]⟩
def Jf:(List Aa)->Ex->St->Prop:=xX 0 0 (λ (y:(List Aa))=>Us p0_ y)
def FA:(List Aa)->St:=(λ (x:(List Aa))=>Ur p0_ x)
variable {p0_ l_3 l_4}
theorem HQ (x:(List Aa)) (z:((List Aa)⊕(List Aa))) (H:Dv n p0_ x=some z):WP (cxk 50 0) (AM Try.f11) [1,1,0,0,0] (A2 0 (FA p0_) (Jf p0_) z) (FA p0_ x):=by
 revert H
 generalize x=l_3
 intro H
 refine sq (sr (ck 3 (en (cn H (λ H=>?_) (λ H=>?_)))))
 ·exact sk (qz (bk 1 (rz (ck 12 (bx H λ l8 h121 H=>sp (HY Ab 2 2 h121) (ck 1 (ae (qN (by cases H;exact og (sg [1,2,3]))))))))))
 ·exact ex 0 (qx (by cases H;exact xo rfl (sg [1,2,3])))
theorem KX {z} (H:G2 n p0_=some z):AB Try.prog 11 [.agg (Sr p0_)] (.agg [.d (.int .i64 z.Kind),.d (.int .i64 z.Texture),.own 2 (z.P.map Ab)]):=by
 refine fO 50 (Uq p0_) Try.func11 (sr (ck 2 (en (sr (ck 2 (bx H λ r81 h120 H=>cl [List.length r81] (HP h120) (ck 1 (en (sq (bk 0 (bx H λ y25 h122 H=>lX HQ h122 (tr (NV 1 2 2 (by kernel_rfl)) (sg [1,2,3])) rfl λ s hE19=>qH (qs (hE19) (sq (sr (ck 3 (en (bk 2 (sr (ck 2 (en (cn H (λ H=>?_) (λ H=>?_))))))))))))))))))))))
 ·exact sr (ck 1 (bx H λ l9 h123 H=>sp (Qr 2 2 h123) (ck 2 (ae (qs (KM (k:=2) (sz:=2) 1 2 (l9.map Ab) (l9.length) (by kernel_rfl) (NW h123) (Qm (enc:=Ab) h123) (NX h123)) (re (qR (qr (by cases H;exact pr (rO (v:=.agg [.d (.int .i64 1),.d (.int .i64 0),.osl 4 2 0 (l9.length)]) [4] (a1 (c1 vd (c1 vd (c1 vo (c0)))))))))))))))
 ·refine sr (ck 2 (en (cn H (λ H=>?_) (λ H=>?_))))
  ·exact sr (ck 7 (bx H λ gd4 h124 H=>so (GA h124) (ck 1 (bx H λ l10 h125 H=>sp (Qr 2 2 h125) (ck 2 (ae (qs (KM (k:=2) (sz:=2) 1 2 (l10.map Ab) (l10.length) (by kernel_rfl) (NW h125) (Qm (enc:=Ab) h125) (NX h125)) (re (qR (qr (by cases H;exact pr (rO (v:=.agg [.d (.int .i64 2),.d (.int .i64 0),.osl 4 2 0 (l10.length)]) [4] (a1 (c1 vd (c1 vd (c1 vo (c0)))))))))))))))))
  ·exact sk (qN (qz (sr (ck 7 (en (re (by cases H;exact pr (rO (v:=.agg [.d (.int .i64 3),.d (.int .i64 (IntKind.i64.wrap (BL p0_.Texture 4))),.osl 2 2 0 (y25.length)]) [2] (a1 (c1 vd (c1 vd (c1 vo (c0)))))))))))))
end
section
variable (p0_:Int) (p1_:Aa)
def Ut:St:=⟨(0,.d (.int .i64 p0_))::(1,.agg [.d (.int .i64 p1_.X),.d (.int .i64 p1_.Y)])::[],[]⟩
variable {p0_ p1_}
theorem HR {z} (H:Dw n p0_ p1_=some z):AB Try.prog 25 [.d (.int .i64 p0_),.agg [.d (.int .i64 p1_.X),.d (.int .i64 p1_.Y)]] (.d (.bool z)):=by
 exact fO 30 (Ut p0_ p1_) Try.func25 (sr (ck 2 (en (sr (ck 4 (gc 2 (!(p0_==3)) (ck 1 (gc 3 ((!(p0_==3))&&(p0_==2)) (pG (g:=(!(p0_==3))) (v:=.d (.bool ((p0_==2)&&((BL p1_.Y 2)==0)))) (λ hg=>GZ (c:=.gv (!(p0_==3)) (.d (.bool (p0_==2)))) (a:=.gv ((!(p0_==3))&&(p0_==2)) (.d (.bool ((BL p1_.Y 2)==0)))) (b:=.d (.bool false)) rfl rfl rfl ((λ hh=>hh) hg) (λ ht=>by rw [(λ hh=>hh) hg,ht];rfl) trivial) (pO (ck 2 (gc 2 (!((p0_==3)||((p0_==2)&&((BL p1_.Y 2)==0)))) (ck 1 (gc 1 ((!((p0_==3)||((p0_==2)&&((BL p1_.Y 2)==0))))&&(p0_==1)) (ck 1 (gc 4 ((!((p0_==3)||((p0_==2)&&((BL p1_.Y 2)==0))))&&(p0_==1)) (pG (g:=(!((p0_==3)||((p0_==2)&&((BL p1_.Y 2)==0))))) (v:=.d (.bool ((p0_==1)&&((BL (Bm .i64 p1_.X p1_.Y) 2)==0)))) (λ hg=>GZ (c:=.gv (!((p0_==3)||((p0_==2)&&((BL p1_.Y 2)==0)))) (.d (.bool (p0_==1)))) (a:=.gv ((!((p0_==3)||((p0_==2)&&((BL p1_.Y 2)==0))))&&(p0_==1)) (.d (.bool ((BL (Bm .i64 p1_.X p1_.Y) 2)==0)))) (b:=.d (.bool false)) rfl rfl rfl ((λ hh=>hh) hg) (λ ht=>by rw [(λ hh=>hh) hg,ht];rfl) trivial) (pO (ck 1 (en (re (by cases H;exact pr rd))))))))))))))))))))))
end
section
variable (p0_:(List Aa)) (p1_:Aa) (i_12:Int)
def Uu:St:=⟨(0,.d (.sl (p0_.map Ab)))::(1,.agg [.d (.int .i64 p1_.X),.d (.int .i64 p1_.Y)])::[],[]⟩
def Uv:St:=⟨(0,.d (.sl (p0_.map Ab)))::(3,.ptr 0 0)::(5,.d (.int .i64 i_12))::[],[some (.box [.d (.int .i64 p1_.X),.d (.int .i64 p1_.Y)])]⟩
def Uw:St:=⟨[],[]⟩
def JE:(Unit⊕Bool)->Ex->St->Prop:=xS (xX 0 0 (λ (y:Unit)=>Uw)) (xR ty Try.f24 (λ (y:Bool)=>.d (.bool y)))
def FW:Int->St:=(λ (x:Int)=>Uv p0_ p1_ x)
variable {p0_ p1_ i_12}
theorem FB (x:Int) (z:(Int⊕(Unit⊕Bool))) (H:DV n p0_ p1_ x=some z):WP (cxk 18 0) (AM Try.f24) [1,0,1,0,0] (A2 0 (FW p0_ p1_) (JE) z) (FW p0_ p1_ x):=by
 revert H
 generalize x=i_12
 intro H
 refine sq (sr (ck 2 (sp (BE Ab p0_) (ck 1 (en (cn H (λ H=>?_) (λ H=>?_)))))))
 ·refine sk (qz (sq (bk 1 (sr (ck 2 (bx H λ x36 h251 H=>sp (Bj Ab h251) (ck 3 (en (cn H (λ H=>?_) (λ H=>?_))))))))))
  ·exact sr (ck 1 (en (re (qR (qr (by cases H;exact ro rfl rd))))))
  ·exact sk (qN (qz (rz (ck 3 (ae (by cases H;exact og (sg [0,3,5])))))))
 ·exact ex 0 (qx (by cases H;exact xo rfl (sg [])))
theorem Mk {z} (H:I4 n p0_ p1_=some z):AB Try.prog 24 [.d (.sl (p0_.map Ab)),.agg [.d (.int .i64 p1_.X),.d (.int .i64 p1_.Y)]] (.d (.bool z)):=by
 refine fO 18 (Uu p0_ p1_) Try.func24 (sr (ck 2 (en (sq (sr (ck 1 (en (bk 0 (bx H λ y43 h252 H=>?_)))))))))
 rcases y43 with y44|y45
 ·exact lX FB h252 (sg [0,3,5]) rfl λ s hE35=>qH (qs (hE35) (sr (ck 1 (en (re (by cases H;exact pr rd))))))
 ·exact lR FB h252 (sg [0,3,5]) rfl λ s hE36=>qR (qr (by cases H;exact pr hE36))
end
section
variable (p0_:GC) (r152:Bool) (r154:(List Aa)) (f_1:Ag) (k_2:Int) (r155:(List Aa)) (at_1:Int) (n_1:Int) (at_2:Int) (at_3:Int)
def Vv:St:=⟨(0,.agg [.d (.int .u8 p0_.Kind),.d (.int .u8 p0_.Texture),.d (.sl (p0_.L.map (EZ eU8)))])::[],[]⟩
def Vw:St:=⟨(3,.d (.bool r152))::(4,.ptr 0 0)::(5,.d (.sl (r154.map Ab)))::(6,.d (.int .i64 k_2))::[],[some (.box (Cb f_1))]⟩
def Vx:St:=⟨(3,.d (.bool r152))::[],[]⟩
def Vy:St:=⟨(3,.d (.bool r152))::(4,.ptr 0 0)::(5,.d (.sl (r154.map Ab)))::(6,.d (.int .i64 k_2))::(7,.d (.sl (r155.map Ab)))::(8,.d (.int .i64 at_1))::(9,.d (.int .i64 n_1))::[],[some (.box [.d (.int .i64 f_1.Kind),.d (.int .i64 k_2),.d (.sl (f_1.P.map Ab))])]⟩
def Vz:St:=⟨(3,.d (.bool r152))::(4,.ptr 0 0)::(5,.d (.sl (r154.map Ab)))::(6,.d (.int .i64 k_2))::(7,.d (.sl (r155.map Ab)))::(8,.d (.int .i64 at_2))::[],[some (.box [.d (.int .i64 f_1.Kind),.d (.int .i64 k_2),.d (.sl (f_1.P.map Ab))])]⟩
def VA:St:=⟨(3,.d (.bool r152))::(4,.ptr 0 0)::(5,.d (.sl (r154.map Ab)))::(6,.d (.int .i64 k_2))::(7,.d (.sl (r155.map Ab)))::(8,.d (.int .i64 at_3))::(9,.d (.int .i64 n_1))::[],[some (.box [.d (.int .i64 f_1.Kind),.d (.int .i64 k_2),.d (.sl (f_1.P.map Ab))])]⟩
def Em:(Int⊕Bool)->Ex->St->Prop:=xS (xX 0 2 (λ (y:Int)=>Vz r152 r154 f_1 k_2 r155 y)) (xR ty Try.f8 (λ (y:Bool)=>.d (.bool y)))
def CD:(Int×Int)->St:=(λ (x:(Int×Int))=>Vy r152 r154 f_1 k_2 r155 x.1 x.2)
def En:(Unit⊕Bool)->Ex->St->Prop:=xS (xX 0 0 (λ (y:Unit)=>Vx r152)) (xR ty Try.f8 (λ (y:Bool)=>.d (.bool y)))
def CE:(Ag×Int)->St:=(λ (x:(Ag×Int))=>Vw r152 r154 x.1 x.2)
variable {p0_ r152 r154 f_1 k_2 r155 at_1 n_1 at_2 at_3}
theorem Cp (x:(Int×Int)) (z:((Int×Int)⊕(Int⊕Bool))) (H:A9 n r152 r154 f_1 k_2 r155 x.1 x.2=some z):WP (cxk 72 0) (AM Try.f8) [1,1,1,1,1,0,1,0,0,1,0,0,1,1,1,0,1,0,0] (A2 0 (CD r152 r154 f_1 k_2 r155) (Em r152 r154 f_1 k_2 r155) z) (CD r152 r154 f_1 k_2 r155 x):=by
 obtain ⟨at_1,n_1⟩:=x
 refine sq (sr (ck 2 (en (cn H (λ H=>?_) (λ H=>?_)))))
 ·refine sk (qz (sj (λ (x:Int)=>VA r152 r154 f_1 k_2 r155 n_1 x) (λ (x:Int)=>Bs n n_1 x) z ?_ (λ hFL13_ShapeTextures_J1=>?_)))
  ·intro at_3 H
   exact rz (ck 3 (ae (by cases H;exact og (sg [3,4,5,6,7,8,9]))))
  refine bk 3 (sr (ck 4 (bx H λ r156 h257 H=>ca false (Av h257) (ck 2 (en (sr (ck 2 (bx H λ r157 h258 H=>ca false (Mk h258) (ck 3 (bx H λ r158 h259 H=>cG false (leZ) rfl (λ hg=>HR (BS h259 hg)) (Or.inl rfl) (CP (λ hh=>hh) (CP (λ hh=>hh) (BM))) rfl (gc 1 (!r157) (ck 1 (gc 1 ((!r157)&&r158) (ck 1 (bx H λ r159 h260 H=>cG false (leZ) rfl (λ hg=>Bl (BS h260 hg)) (Or.inl rfl) (CP (λ hh=>hh) (CP (λ hh=>hh) (BM))) rfl (pG (g:=(!r157)) (v:=.d (.bool (r158&&r159))) (λ hg=>GZ (c:=.gv (!r157) (.d (.bool r158))) (a:=.gv ((!r157)&&r158) (.d (.bool r159))) (b:=.d (.bool false)) rfl rfl rfl ((λ hh=>hh) hg) (λ ht=>by rw [(λ hh=>hh) hg,ht];rfl) trivial) (pO (ck 1 (en (sq (sr (ck 3 (sp (BE Ab r155) (ck 4 (bx H λ x37 h261 H=>sE (λ hg=>Bj Ab (BS h261 hg)) (gc 1 (decide (at_1<((r155.length:Nat):Int))) (ck 1 (gc 1 (decide (at_1<((r155.length:Nat):Int))) (pA (ck 1 (en (cn H (λ H=>?_) (λ H=>?_)))))))))))))))))))))))))))))))))
  ·exact sr (ck 1 (en (re (qr (qR (qr (by cases H;exact ro rfl rd)))))))
  ·refine sk (qz (sr (ck 1 (en (cn H (λ H=>?_) (λ H=>?_))))))
   ·exact rz (ck 3 (ae (qN (qs (sg [3,4,5,6,7,8,9]) (hFL13_ShapeTextures_J1 (Bm .i64 at_1 1) H)))))
   ·exact sk (qN (qs (sg [3,4,5,6,7,8,9]) (hFL13_ShapeTextures_J1 at_1 H)))
 ·exact ex 2 (qx (by cases H;exact xo rfl (sg [3,4,5,6,7,8])))
theorem Cq (x:(Ag×Int)) (z:((Ag×Int)⊕(Unit⊕Bool))) (H:Bt n r152 r154 x.1 x.2=some z):WP (cxk 72 0) (AM Try.f8) [1,1,1,1,1,0,1,0,0] (A2 0 (CE r152 r154) (En r152) z) (CE r152 r154 x):=by
 obtain ⟨f_1,k_2⟩:=x
 refine sq (sr (ck 2 (en (cn H (λ H=>?_) (λ H=>?_)))))
 ·refine sk (qz (sq (bk 1 (sr (ck 3 (en (sr (ck 1 (bx H λ r155 h256 H=>ca false (Co h256) (ck 1 (en (sr (ck 1 (en (sq (sr (ck 1 (en (bk 2 (bx H λ y46 h262 H=>?_))))))))))))))))))))
  rcases y46 with y47|y48
  ·refine lX Cp h262 (sg [3,4,5,6,7,8,9]) rfl λ s hE37=>qH (qs (hE37) (sr (ck 2 (sp (BE Ab r155) (ck 1 (en (cn H (λ H=>?_) (λ H=>?_))))))))
   ·exact sr (ck 1 (en (re (qR (qr (by cases H;exact ro rfl rd))))))
   ·exact sk (qN (qz (rz (ck 3 (ae (by cases H;exact og (sg [3,4,5,6])))))))
  ·exact lR Cp h262 (sg [3,4,5,6,7,8,9]) rfl λ s hE38=>qR (qr (qR (qr (by cases H;exact ro rfl hE38))))
 ·exact ex 0 (qx (by cases H;exact xo rfl (sg [3])))
theorem Fa {z} (H:CA n p0_=some z):AB Try.prog 8 [.agg (Sr p0_)] (.d (.bool z)):=by
 refine fO 72 (Vv p0_) Try.func8 (sr (ck 2 (en (sr (bx H λ r152 h253 H=>ca true (Je h253) (ck 1 (en (sr (ck 2 (en (sr (ck 1 (bx H λ r153 h254 H=>ca false (KX h254) (ck 2 (en (sr (ck 2 (bx H λ r154 h255 H=>ca false (Fz h255) (ck 1 (en (sq (sr (ck 1 (en (bk 0 (bx H λ y49 h263 H=>?_))))))))))))))))))))))))))
 rcases y49 with y50|y51
 ·exact lX Cq h263 (sg [3,4,5,6]) rfl λ s hE39=>qH (qs (hE39) (sr (ck 2 (en (re (by cases H;exact pr rd))))))
 ·exact lR Cq h263 (sg [3,4,5,6]) rfl λ s hE40=>qR (qr (by cases H;exact pr hE40))
end
end Go.AI
end
section
namespace Go.AI
def CRd (F:Nat->Option Obj) (l:List D) (cs:List Value):Prop:=l.length=cs.length/\∀ (i:Nat) (y:D) (v:Value),l[i]? = some y->cs[i]? = some v->AH F y v
def FX {α:Type} (P:Program) (t:TypeId) (enc:α->List D) (ok:α->Prop):Prop:=
 ∀ (H:Type) (e:TypeId×Value->H) (w:World) (base:Nat) (spare:Nat->Bool) (held:Bool) (fuel:Nat) (cs:List Value) (x:DataW H×List MemPlace),DataW.trod e P w base spare held fuel t cs=some x->∃ a:α,ok a/\CRd (λ b=>w.heap[b]?) (enc a) cs
theorem KY {F:Nat->Option Obj} {y:D} {v:Value} (h:AH F y v):CRd F [y] [v]:=by
 refine ⟨rfl,λ i a b ha hb=>?_⟩
 cases i with
 | zero=>simp at ha hb;subst ha;subst hb;exact h
 | succ i=>simp at ha
theorem Pd {P:Program} {t:TypeId} {k:IntKind} (ht:P.underlying t=some (.int k)):FX P t (λ n=>[.int k n]) (λ n=>(Lit.int k n).wf=true):=by
 intro H e w base spare held fuel cs x h
 obtain ⟨n,rfl,_,hw⟩:=DataW.trod_int ht h
 exact ⟨n,hw,KY (.int k n)⟩
theorem Ml {α:Type} {Q:Nat->α->Prop}:∀ n,(∀ i,i<n->∃ a,Q i a)->∃ l:List α,l.length=n/\∀ i a,l[i]? = some a->Q i a:=by
 intro n
 induction n with
 | zero=>intro _;exact ⟨[],rfl,λ i a h=>by simp at h⟩
 | succ n ih=>
  intro h
  obtain ⟨l,hl,hq⟩:=ih λ i hi=>h i (by omega)
  obtain ⟨a,ha⟩:=h n (by omega)
  refine ⟨l++[a],by simp [hl],λ i b hb=>?_⟩
  rcases WA i l.length with hlt|hge
  ·rw [WQ hlt] at hb;exact hq i b hb
  ·rw [WW hge] at hb
   have:i-l.length=0:=by have:=Ac hb;simp at this;omega
   rw [this] at hb
   simp at hb
   subst hb
   have:i=n:=by omega
   subst this
   exact ha
theorem Mm {α β:Type} {f:α->Option β}:∀ {l:List α} {r:List β},l.mapM f=some r->r.length=l.length/\∀ (i:Nat) (a:α),l[i]? = some a->r[i]? = f a:=by
 intro l
 induction l with
 | nil=>intro r h;simp at h;subst h;exact ⟨rfl,λ i a h=>by simp at h⟩
 | cons a l ih=>
  intro r h
  rw [List.mapM_cons] at h
  simp only [Option.bind_eq_bind,Option.bind_eq_some_iff,Option.pure_def,WR] at h
  obtain ⟨b,hb,r',hr',rfl⟩:=h
  obtain ⟨h1,h2⟩:=ih hr'
  refine ⟨by simp [h1],λ i x hx=>?_⟩
  cases i with
  | zero=>simp at hx;subst hx;simp [hb]
  | succ i=>simpa using h2 i x (by simpa using hx)
theorem Mn {α:Type} {P:Program} {t e:TypeId} {enc:α->List D} {ok:α->Prop} {sz:Nat} (ht:P.underlying t=some (.slice e)) (hsz:P.cellsOf e=sz) (h1:Nat.ble 1 sz=true) (hl:∀ a,(enc a).length=sz) (he:FX P e enc ok):FX P t (eL enc) (λ l=>∀ a∈l,ok a):=by
 intro H en w base spare held fuel cs x h
 have h1:=WV h1
 rcases DataW.trod_slice ht h with ⟨rfl,_⟩|⟨a,len,cap,elems,rest,n,_,rfl,_,_,hcap,_,hel,hget,_,_⟩
 ·exact ⟨[],λ a h=>by simp at h,KY (.sl0 _ _)⟩
 ·rw [hsz] at hget
  have hex:∀ i,i<len->∃ y:α,ok y/\∃ ci,w.cells? base (a.add (i*sz)) sz=some ci/\CRd (λ b=>w.heap[b]?) (enc y) ci:=λ i hi=>by
   have hg:=hget i hi
   rw [WH (show i<elems.length by omega)] at hg
   simp only [Option.bind_eq_some_iff] at hg
   obtain ⟨ci,hc,htr⟩:=hg
   obtain ⟨y,hy,hcr⟩:=he H en w base spare held n ci _ htr
   exact ⟨y,hy,ci,hc,hcr⟩
  obtain ⟨l,hll,hq⟩:=Ml len hex
  refine ⟨l,λ y hy=>?_,KY ?_⟩
  ·obtain ⟨i,hi⟩:=List.mem_iff_getElem?.1 hy
   exact (hq i y hi).1
  ·rcases Nat.eq_zero_or_pos len with h0|hpos
   ·have:l=[]:=List.length_eq_zero_iff.1 (by omega)
    subst this;subst h0
    exact .sl0 _ _
   ·
    have hcell:∀ i y,l[i]? = some y->∀ j,j<sz->∃ v,w.cell? ((a.add (i*sz)).add j)=some v/\∀ d,(enc y)[j]? = some d->AH (λ b=>w.heap[b]?) d v:=λ i y hy j hj=>by
     obtain ⟨_,ci,hc,hcr⟩:=hq i y hy
     unfold World.cells? at hc
     split at hc
     ·obtain ⟨g1,g2⟩:=Mm hc
      have:=g2 j j (by simp [hj])
      have hjc:j<ci.length:=by rw [g1];simpa using hj
      rw [WH hjc] at this
      exact ⟨ci[j],this.symm,λ d hd=>hcr.2 j d _ hd (WH hjc)⟩
     ·cases hc
    have h0:l[0]? = some l[0]:=WH (by omega)
    obtain ⟨v0,hv0,_⟩:=hcell 0 _ h0 0 (by omega)
    have ha0:(a.add (0*sz)).add 0=a:=by simp [Addr.add]
    rw [ha0] at hv0
    obtain ⟨b,off,spot⟩:=a
    unfold World.cell? at hv0
    simp only at hv0
    split at hv0
    ·rename_i c ty fr hblk
     cases spot with
     | some s=>simp at hv0
     | none=>
      have hcell':∀ i y,l[i]? = some y->∀ j d,(enc y)[j]? = some d->∃ v,c[off+i*sz+j]? = some v/\AH (λ b=>w.heap[b]?) d v:=λ i y hy j d hd=>by
       have hj:j<sz:=by rw [← hl y];exact Ac hd
       obtain ⟨v,hv,hr⟩:=hcell i y hy j hj
       rw [A8,A8,Fh hblk] at hv
       exact ⟨v,hv,hr d hd⟩
      have hlen:(l.map enc).length=len:=by simp [hll]
      have:=AH.sl (F:=λ b=>w.heap[b]?) (l.map enc) b off cap sz c ty fr (λ i j=>(c[off+i*sz+j]?).getD undef) hblk (λ e he=>by
        simp only [WC] at he
        obtain ⟨y,_,rfl⟩:=he
        exact hl y) (by omega) (λ i e hi j d hd=>by
        simp only [WL,WK] at hi
        obtain ⟨y,hy,rfl⟩:=hi
        obtain ⟨v,hv,_⟩:=hcell' i y hy j d hd
        simp only [hv,Ww]) (λ i e hi j d hd=>by
        simp only [WL,WK] at hi
        obtain ⟨y,hy,rfl⟩:=hi
        obtain ⟨v,hv,hr⟩:=hcell' i y hy j d hd
        simp only [hv,Ww]
        exact hr)
      rw [hlen] at this
      exact this
    ·cases hv0
theorem FC {F:Nat->Option Obj} {l m:List D} {cs:List Value} {o n:Nat} (h:CRd F l ((cs.drop o).take n)) (hn:Nat.beq l.length n=true) (h':CRd F m (cs.drop (o+n))):CRd F (l++m) (cs.drop o):=by
 have hn:=WO hn
 have e:cs.drop o=(cs.drop o).take n++cs.drop (o+n):=by rw [← List.drop_drop,List.take_append_drop]
 rw [e]
 refine ⟨by simp only [List.length_append,h.1,h'.1],λ i y v hy hv=>?_⟩
 rcases WA i l.length with hlt|hge
 ·rw [WQ hlt] at hy
  rw [WQ (by rw [← h.1];exact hlt)] at hv
  exact h.2 i y v hy hv
 ·rw [WW hge] at hy
  rw [WW (by rw [← h.1];exact hge),← h.1] at hv
  exact h'.2 _ y v hy hv
theorem N5 {F:Nat->Option Obj} {cs:List Value} {o:Nat} (h:cs.length<=o):CRd F [] (cs.drop o):=by
 rw [List.drop_eq_nil_of_le h];exact ⟨rfl,λ i y v hy=>by simp at hy⟩
theorem Nv {H:Type} {enc:TypeId×Value->H} {P:Program} {w:World} {base:Nat} {spare:Nat->Bool} {held:Bool} {fuel:Nat} {t e:TypeId} {n:Nat} {cs:List Value} {x:DataW H×List MemPlace} (ht:P.underlying t=some (.array n e)) (h:DataW.trod enc P w base spare held fuel t cs=some x) :
  ∃ m,cs.length=P.cellsOf t/\∀ i,i<n->∃ y,DataW.trod enc P w base spare held m e ((cs.drop (i*P.cellsOf e)).take (P.cellsOf e))=some y:=by
 cases fuel with
 | zero=>simp [DataW.trod] at h
 | succ m=>
  unfold DataW.trod at h
  rw [ht] at h
  split at h<;>simp_all
  obtain ⟨xs,hp,_⟩:=h.2
  refine ⟨m,λ i hi=>?_⟩
  obtain ⟨g1,g2⟩:=Mm hp
  have:=g2 i i (by simp [hi])
  have hlt:i<xs.length:=by rw [g1];simpa using hi
  rw [WH hlt] at this
  exact ⟨_,_,this.symm⟩
end Go.AI
end
section
namespace Go.AI
open Go.ChangeShapes Go.WideShapes Go.ChangeAt Go.RowKit
variable {P:Program} {H:Type} {en:TypeId×Value->H} {W W':World} {base:Nat} {spare:Nat->Bool} {held:Bool} {t e:TypeId} {v:Value} {d:DataW H} {ps:List MemPlace} {α:Type} {enc:α->List D} {ok:α->Prop}
theorem Ss {cs:Array Value} (hv:v=.agg cs) (hd:DataW.Trod en P W base spare held t v d ps) (hr:FX P t enc ok):∃ a,ok a/\Ad (λ b=>W.heap[b]?) noR (.agg ((enc a).map .d)) v:=by
 subst hv
 obtain ⟨fuel,hf⟩:=hd
 obtain ⟨a,h1,h2,h3⟩:=hr H en W base spare held fuel _ _ hf
 refine ⟨a,h1,.agg _ _ (by simpa [Value.cells] using h2) λ i x u hx hu=>?_⟩
 simp only [WL,WK] at hx
 obtain ⟨y,hy,rfl⟩:=hx
 exact .d _ _ (h3 i y u hy (by simpa [Value.cells] using hu))
theorem Ux {F:Nat->Option Obj} {ρ:Nat->Option Loc}:CR F ρ [] []:=⟨rfl,λ i a v h=>by simp at h⟩
theorem Su {F:Nat->Option Obj} {ρ:Nat->Option Loc} {a:AV} {v:Value} {l:List AV} {vs:List Value} (h:Ad F ρ a v) (h':CR F ρ l vs):CR F ρ (a::l) (v::vs):=by
 refine ⟨by simp [h'.1],λ i x u hx hu=>?_⟩
 cases i with
 | zero=>simp at hx hu;subst hx;subst hu;exact h
 | succ i=>exact h'.2 i x u (by simpa using hx) (by simpa using hu)
theorem fld {w:World} {fuel:Nat} {cs:List Value} {fs:Array Field} {xs:List (DataW H×List MemPlace)} (hg:∀ (i:Nat) (f:Field),fs[i]? = some f->DataW.trod en P w base spare held fuel f.type ((cs.drop f.offset).take (P.cellsOf f.type))=xs[i]?) (hxl:xs.length=fs.size) (i:Nat) {f:Field} (hf:fs[i]? = some f) (u o n:Nat) (hu:f.type=u) (ho:f.offset=o) (hn:P.cellsOf u=n) (hr:FX P u enc ok) :
  ∃ a,ok a/\CRd (λ b=>w.heap[b]?) (enc a) ((cs.drop o).take n):=by
 have:=hg i f hf
 have hi:i<xs.length:=by rw [hxl];exact Af hf
 rw [WH hi,hu,ho,hn] at this
 exact hr H en w base spare held fuel _ _ this
theorem VB {w:World} {fuel:Nat} {cs:List Value} {m:Nat} (hg:∀ i,i<m->∃ y,DataW.trod en P w base spare held fuel e ((cs.drop (i*P.cellsOf e)).take (P.cellsOf e))=some y) (i:Nat) (hi:Nat.ble (i+1) m=true) (o n:Nat) (hn:P.cellsOf e=n) (ho:i*n=o) (hr:FX P e enc ok) :
  ∃ a,ok a/\CRd (λ b=>w.heap[b]?) (enc a) ((cs.drop o).take n):=by
 obtain ⟨y,hy⟩:=hg i (WV hi)
 rw [hn,ho] at hy
 exact hr H en w base spare held fuel _ _ hy
theorem Rg {f:FuncId} {args:List AV} {vs:Array Value} (hc:AB P f args (.d (.bool true))) (hcr:CR (λ b=>W.heap[b]?) noR args vs.toList):Calls P f vs W λ e W'=>e=.returned (.bool true)/\(∀ before:List MemPlace,W.keptBut W' (·∈before))/\∀ b,b<W.heap.size->W'.heap[b]? = W.heap[b]? := by
 refine (hc.2 (λ b=>W.heap[b]?) W vs hcr λ b o h=>h).mono λ e W' h=>?_
 obtain ⟨v,F',ρ,rfl,hS,hr,hmu⟩:=h
 have hv:v=.bool true:=by
  have:(AX true 0 (.d (.bool true))).1=.d (.bool true):=rfl
  rw [this] at hr
  exact hr.bool
 subst hv
 have hold:∀ b,b<W.heap.size->W'.heap[b]? = W.heap[b]? := λ b hb=>hS.old b (by omega)
 refine ⟨rfl,λ before=>World.keptBut_mono (λ p hp=>hp.elim) (?_:W.keptBut W' λ _=>False),hold⟩
 refine ⟨hmu.os,hmu.out,λ i hi=>?_⟩
 rw [hold i hi]
 cases hh:W.heap[i]? with
 | none=>rfl
 | some o=>cases o<;>first|exact ⟨rfl,rfl,rfl,λ _ _=>rfl⟩|exact .inr ⟨rfl,rfl⟩|rfl
theorem Pe {f:Func} {s:ChangeSpec} {apart fresh handsOn again:Bool} {args:Array Value} {ds gs:List (DataW H)} {before pa pv:List MemPlace}
  (hW:DataW.Whole en P f.params.toList s.vars apart W args.toList ds gs before)
  (hres:∀ (b:Nat) (sp:Nat->Bool) (hd:Bool),DataW.TrodAll en P W' b sp hd f.resultTypes.toList (v.resultList f.resultTypes.size) (s.fn H (ds++gs)).results [])
  (hargs:∀ sp:Nat->Bool,(∀ p∈before,sp p.block=true)->DataW.TrodAll en P W' 0 sp true f.params.toList args.toList (s.fn H (ds++gs)).args pa)
  (hvars:∀ sp:Nat->Bool,(∀ p∈before,sp p.block=true)->DataW.TrodVars en P W' sp s.vars (s.fn H (ds++gs)).vars pv)
  (hps:before=pa++pv) (hk:W.keptBut W' (·∈before)) (hold:∀ b,b<W.heap.size->W'.heap[b]? = W.heap[b]?)
  (hok:∀ (j:Nat) (t:TypeId) (r:Value),f.resultTypes[j]? = some t->(v.resultList f.resultTypes.size)[j]? = some r->Value.okWide P W' .any 0 t r) :
  s.post en P f apart fresh handsOn again W args v W':=by
 have hin:∀ p∈before,(λ b=>decide (b<W.heap.size)) p.block=true:=λ p hp=>by simpa using hW.lt p hp
 have hlt:=hW.lt
 refine ⟨ds,gs,before,[],pa,pv,hW,hres _ _ _,hargs _ hin,hvars _ hin,World.keptBut_mono (λ p hp=>⟨hp,?_⟩) hk,λ _=>?_⟩
 ·rw [hps,List.mem_append] at hp
  exact Or.inr hp
 ·obtain ⟨_,_,_,_,_,hz,hn⟩:=hW
  refine ⟨hok,_,_,([]++pa)++pv,⟨[]++pa,pv,trodAll_append (hargs _ (λ _ _=>rfl)) (hres _ _ _),hvars _ (λ _ _=>rfl),rfl,?_,?_⟩,?_⟩
  ·intro b off hp
   have hp:MemPlace.cell b off∈before:=by rw [hps];simpa using hp
   have:=hz b off hp
   simp only [World.frozen?,hold b (hlt _ hp)] at this ⊢
   exact this
  ·intro ha
   have:=hn ha
   rw [hps] at this
   simpa using this
  ·intro p hp _
   rw [hps]
   simpa using hp
theorem VC (hl:laidOutB P=true) (hr:P.readableRec t=true) (hrow:t<P.types.size) (h:DataW.Trod en P W 0 (λ _=>true) true t v d ps) (hb:∀ p∈ps,p.block<W.heap.size) {sp:Nat->Bool} (hs:∀ p∈ps,sp p.block=true) (hold:∀ b,b<W.heap.size->W'.heap[b]? = W.heap[b]?):DataW.Trod en P W' 0 sp true t v d ps:=by
 refine WideElems.Trod_stays hl hr hrow h (λ p hp=>?_) hs
 have:=hb p hp
 cases p with
 | cell b o=>exact World.cell?_of_block (w:=W) (hold b this)
 | map b=>exact hold b this
end Go.AI
end
section
namespace Go.AI
open Go.Proofs Go.ChangeShapes Go.WideShapes Go.ChangeAt Go.RowKit
def okI (k:IntKind) (n:Int):Prop:=(Lit.int k n).wf=true
theorem rd5:FX Try.prog 5 eU8 (okI .u8):=Pd Try.underlying5
theorem Wk:FX Try.prog 25 (EZ eU8) (λ x=>okI .u8 x.a0/\okI .u8 x.a1):=by
 intro H e w base spare held fuel cs x h
 obtain ⟨m,hcl,hg⟩:=Nv Try.underlying25 h
 have hcl:cs.length=2:=hcl.trans (by kernel_rfl)
 obtain ⟨a0,k0,c0⟩:=VB hg 0 rfl 0 1 (by kernel_rfl) rfl rd5
 obtain ⟨a1,k1,c1⟩:=VB hg 1 rfl 1 1 (by kernel_rfl) rfl rd5
 refine ⟨⟨a0,a1⟩,⟨k0,k1⟩,?_⟩
 have:=FC c0 rfl (FC c1 rfl (N5 (Nat.le_of_eq hcl)))
 exact this
theorem Wl:FX Try.prog 22 (eL (EZ eU8)) (λ l=>∀ a∈l,(okI .u8 a.a0/\okI .u8 a.a1)):=Mn (sz:=2) Try.underlying22 (by kernel_rfl) rfl (λ _=>rfl) Wk
def Nw (x:GC):Prop:=okI .u8 x.Kind/\okI .u8 x.Texture/\(∀ a∈x.L,(okI .u8 a.a0/\okI .u8 a.a1))
theorem Wm:FX Try.prog 24 Vu Nw:=by
 intro H e w base spare held fuel cs x h
 obtain ⟨xs,n,_,_,hcl,hxl,hg⟩:=DataW.trod_struct Try.underlying24 h
 have hcl:cs.length=3:=hcl.trans (by kernel_rfl)
 obtain ⟨a0,k0,c0⟩:=fld hg hxl 0 rfl 5 0 1 rfl rfl (by kernel_rfl) rd5
 obtain ⟨a1,k1,c1⟩:=fld hg hxl 1 rfl 5 1 1 rfl rfl (by kernel_rfl) rd5
 obtain ⟨a2,k2,c2⟩:=fld hg hxl 2 rfl 22 2 1 rfl rfl (by kernel_rfl) Wl
 refine ⟨⟨a0,a1,a2⟩,⟨k0,k1,k2⟩,?_⟩
 have:=FC c0 rfl (FC c1 rfl (FC c2 rfl (N5 (Nat.le_of_eq hcl))))
 exact this
end Go.AI
end
section
namespace Go.AI
def Le {α:Type} (a b:Option α):Prop:=∀ z,a=some z->b=some z
theorem Le.refl {α:Type} (a:Option α):Le a a:=λ _ h=>h
theorem Le.bind {α β:Type} {a a':Option α} {f f':α->Option β} (h:Le a a') (hf:∀ x,Le (f x) (f' x)):Le (a.bind f) (a'.bind f'):=by
 intro z hz
 obtain ⟨x,h1,h2⟩:=bind_some hz
 rw [h x h1]
 exact hf x z h2
theorem Le.ite {α:Type} {c:Prop} [Decidable c] {a a' b b':Option α} (h:Le a a') (h':Le b b'):Le (if c then a else b) (if c then a' else b'):=by
 split
 ·exact h
 ·exact h'
theorem Le.whl {σ ρ:Type} {body body':σ->Option (σ⊕ρ)} (hb:∀ x,Le (body x) (body' x)):∀ {n m:Nat},n<=m->∀ x,Le (whl body n x) (whl body' m x):=by
 intro n
 induction n with
 | zero=>intro m _ x z hz;cases hz
 | succ n ih=>
  intro m hm x z hz
  cases m with
  | zero=>omega
  | succ m=>
   simp only [Go.AI.whl] at hz ⊢
   cases hx:body x with
   | none=>rw [hx] at hz;cases hz
   | some y=>
    rw [hb x y hx]
    rw [hx] at hz
    cases y with
    | inl y=>exact ih (by omega) y z hz
    | inr r=>exact hz
def Ev {α:Type} (f:Nat->Option α) (z:α):Prop:=∃ n,∀ m,n<=m->f m=some z
theorem Ev.const {α:Type} {z:α}:Ev (λ _=>some z) z:=⟨0,λ _ _=>rfl⟩
theorem Ev.of {α:Type} {f:Nat->Option α} {z:α} (hm:∀ n m,n<=m->Le (f n) (f m)) {n:Nat} (h:f n=some z):Ev f z:=⟨n,λ m hnm=>hm n m hnm z h⟩
theorem Ev.all {α:Type} {f:Nat->Option α} {z:α} (h:∀ n,f n=some z):Ev f z:=⟨0,λ m _=>h m⟩
theorem Ev.bind {α β:Type} {f:Nat->Option α} {g:Nat->α->Option β} {x:α} {z:β} (h:Ev f x) (hg:Ev (λ n=>g n x) z):Ev (λ n=>(f n).bind (g n)) z:=by
 obtain ⟨n,hn⟩:=h
 obtain ⟨m,hm⟩:=hg
 refine ⟨max n m,λ k hk=>?_⟩
 show (f k).bind (g k)=_
 rw [hn k (by omega)]
 exact hm k (by omega)
theorem Ev.out {α:Type} {f:Nat->Option α} {z:α} (h:Ev f z):∃ n,f n=some z:=by
 obtain ⟨n,hn⟩:=h
 exact ⟨n,hn n (Wz n)⟩
theorem Ev.congr {α:Type} {f g:Nat->Option α} {z:α} (h:Ev f z) (e:∀ n,g n=f n):Ev g z:=by
 obtain ⟨n,hn⟩:=h
 exact ⟨n,λ m hm=>by rw [e m];exact hn m hm⟩
theorem Ev.whl {σ ρ:Type} {body:Nat->σ->Option (σ⊕ρ)} {r:ρ} (I:Nat->σ->Prop) (h:∀ k x,I k x->(∃ y j,j<k/\I j y/\Ev (λ n=>body n x) (.inl y))\/Ev (λ n=>body n x) (.inr r)):∀ (k:Nat) (x:σ),I k x->Ev (λ n=>Go.AI.whl (body n) n x) r:=by
 have key:∀ (k:Nat) (x:σ),I k x->∃ N c,∀ n fuel,N<=n->c<=fuel->Go.AI.whl (body n) fuel x=some r:=by
  intro k
  induction k using Nat.strongRecOn with
  | _ k ih=>
   intro x hx
   rcases h k x hx with ⟨y,j,hj,hy,N1,h1⟩|⟨N1,h1⟩
   ·obtain ⟨N2,c,h2⟩:=ih j hj y hy
    refine ⟨max N1 N2,c+1,λ n fuel hn hf=>?_⟩
    cases fuel with
    | zero=>omega
    | succ fuel=>
     have e:=h1 n (by omega)
     simp only at e
     simp only [Go.AI.whl,e]
     exact h2 n fuel (by omega) (by omega)
   ·refine ⟨N1,1,λ n fuel hn hf=>?_⟩
    cases fuel with
    | zero=>omega
    | succ fuel=>
     have e:=h1 n hn
     simp only at e
     simp only [Go.AI.whl,e]
 intro k x hx
 obtain ⟨N,c,hh⟩:=key k x hx
 exact ⟨max N c,λ m hm=>hh m m (by omega) (by omega)⟩
end Go.AI
end
section
namespace Go.AI
def Tot {α:Type} (f:Nat->Option α) (P:α->Prop):Prop:=∃ z,P z/\Ev f z
def Rd2 {σ ρ:Type} (I:σ->Prop) (P:ρ->Prop):σ⊕ρ->Prop
 | .inl y=>I y
 | .inr r=>P r
variable {α β σ ρ:Type} {P R:α->Prop}
theorem Tot.ev {f:Nat->Option α} {z:α} (h:Tot f (λ x=>x=z)):Ev f z:=by obtain ⟨_,rfl,h⟩:=h;exact h
theorem Ev.tot {f:Nat->Option α} {z:α} (h:Ev f z) (hp:P z):Tot f P:=⟨z,hp,h⟩
theorem Tot.pure {z:α} (h:P z):Tot (λ _=>some z) P:=⟨z,h,Ev.const⟩
theorem Tot.all {f:Nat->Option α} {z:α} (h:∀ n,f n=some z) (hp:P z):Tot f P:=⟨z,hp,Ev.all h⟩
theorem Tot.mono {f:Nat->Option α} (h:Tot f R) (hp:∀ x,R x->P x):Tot f P:=by obtain ⟨z,hz,h⟩:=h;exact ⟨z,hp z hz,h⟩
theorem Tot.bind {f:Nat->Option β} {g:Nat->β->Option α} {R:β->Prop} (h:Tot f R) (k:∀ x,R x->Tot (λ n=>g n x) P):Tot (λ n=>(f n).bind (g n)) P:=by
 obtain ⟨x,hx,h⟩:=h
 obtain ⟨z,hz,h'⟩:=k x hx
 exact ⟨z,hz,Ev.bind h h'⟩
theorem Tot.bindE {f:Nat->Option β} {g:Nat->β->Option α} {x:β} (h:Ev f x) (k:Tot (λ n=>g n x) P):Tot (λ n=>(f n).bind (g n)) P:=by
 obtain ⟨z,hz,h'⟩:=k
 exact ⟨z,hz,Ev.bind h h'⟩
theorem Tot.bindC {x:Option β} {y:β} {g:Nat->β->Option α} (h:x=some y) (k:Tot (λ n=>g n y) P):Tot (λ n=>x.bind (g n)) P:=by subst h;exact k
theorem Tot.bindA {f:Nat->Option β} {y:β} {g:Nat->β->Option α} (h:∀ n,f n=some y) (k:Tot (λ n=>g n y) P):Tot (λ n=>(f n).bind (g n)) P:=Tot.bindE (Ev.all h) k
theorem Tot.ite {c:Bool} {a b:Nat->Option α} (h1:c=true->Tot a P) (h2:c=false->Tot b P):Tot (λ n=>if c=true then a n else b n) P:=by
 cases c with
 | true=>exact h1 rfl
 | false=>exact h2 rfl
theorem Tot.iteT {c:Bool} {a b:Nat->Option α} (h:c=true) (k:Tot a P):Tot (λ n=>if c=true then a n else b n) P:=by subst h;exact k
theorem Tot.iteF {c:Bool} {a b:Nat->Option α} (h:c=false) (k:Tot b P):Tot (λ n=>if c=true then a n else b n) P:=by subst h;exact k
theorem Tot.guard {c:Bool} {f:Nat->Option β} {d:β} {g:Nat->β->Option α} {R:β->Prop} (h:c=true->Tot f R) (k:∀ x,(c=true->R x)->Tot (λ n=>g n x) P):Tot (λ n=>(if c=true then f n else some d).bind (g n)) P:=by
 cases c with
 | true=>exact Tot.bind (h rfl) λ x hx=>k x λ _=>hx
 | false=>exact k d λ h=>by cases h
theorem Tot.congr {f g:Nat->Option α} (h:Tot f P) (e:∀ n,g n=f n):Tot g P:=by obtain ⟨z,hz,h⟩:=h;exact ⟨z,hz,h.congr e⟩
theorem Tot.whl {body:Nat->σ->Option (σ⊕ρ)} {P:ρ->Prop} (I:Nat->σ->Prop) (h:∀ k x,I k x->Tot (λ n=>body n x) (Rd2 (λ y=>∃ j,j<k/\I j y) P)):∀ (k:Nat) (x:σ),I k x->Tot (λ n=>Go.AI.whl (body n) n x) P:=by
 have key:∀ (k:Nat) (x:σ),I k x->∃ r,P r/\∃ N c,∀ n fuel,N<=n->c<=fuel->Go.AI.whl (body n) fuel x=some r:=by
  intro k
  induction k using Nat.strongRecOn with
  | _ k ih=>
   intro x hx
   obtain ⟨z,hz,N1,h1⟩:=h k x hx
   cases z with
   | inl y=>
    obtain ⟨j,hj,hy⟩:=hz
    obtain ⟨r,hr,N2,c,h2⟩:=ih j hj y hy
    refine ⟨r,hr,max N1 N2,c+1,λ n fuel hn hf=>?_⟩
    cases fuel with
    | zero=>omega
    | succ fuel=>
     have e:=h1 n (by omega)
     simp only at e
     simp only [Go.AI.whl,e]
     exact h2 n fuel (by omega) (by omega)
   | inr r=>
    refine ⟨r,hz,N1,1,λ n fuel hn hf=>?_⟩
    cases fuel with
    | zero=>omega
    | succ fuel=>
     have e:=h1 n hn
     simp only at e
     simp only [Go.AI.whl,e]
 intro k x hx
 obtain ⟨r,hr,N,c,hh⟩:=key k x hx
 exact ⟨r,hr,max N c,λ m hm=>hh m m (by omega) (by omega)⟩
theorem Tot.upto {body:Nat->σ->Option (σ⊕ρ)} {P:ρ->Prop} (N:Nat) (I:Nat->σ->Prop)
  (step:∀ i x,i<N->I i x->Tot (λ n=>body n x) (Rd2 (I (i+1)) P))
  (last:∀ x,I N x->Tot (λ n=>body n x) (Rd2 (λ _=>False) P)) (x:σ) (h0:I 0 x):Tot (λ n=>Go.AI.whl (body n) n x) P:=by
 refine Tot.whl (body:=body) (λ k x=>∃ i,i<=N/\k=N-i/\I i x) ?_ N x ⟨0,by omega,by omega,h0⟩
 rintro k x ⟨i,hi,rfl,hx⟩
 rcases WA i N with hlt|hge
 ·refine (step i x hlt hx).mono λ z hz=>?_
  cases z with
  | inl y=>exact ⟨N-(i+1),by omega,i+1,by omega,rfl,hz⟩
  | inr r=>exact hz
 ·have:i=N:=by omega
  subst this
  refine (last x hx).mono λ z hz=>?_
  cases z with
  | inl y=>exact hz.elim
  | inr r=>exact hz
theorem Uy {l:List α} {i:Nat} {x:α} (h:l[i]? = some x):idx l (i:Int)=some x:=by
 unfold idx
 rw [if_pos (by omega)]
 simpa using h
theorem ET {l:List α} {i:Nat} (h:i<l.length):idx l (i:Int)=some l[i]:=Uy (WH h)
theorem KZ {eb:Nat} {xs ys:List α} (h:(xs.length+ys.length)*eb<=70368744177664):app eb xs ys=some (xs++ys):=by
 unfold app;rw [if_pos h]
end Go.AI
end
section
namespace Go.AI
theorem Sv (a:Int):IntKind.i64.wrap a=if decide (a % 18446744073709551616>=9223372036854775808)=true then a % 18446744073709551616-18446744073709551616 else a % 18446744073709551616:=rfl
theorem w64 {a:Int} (h:-9223372036854775808<=a) (h':a<9223372036854775808):IntKind.i64.wrap a=a:=by
 rw [Sv]
 simp only [decide_eq_true_eq]
 split<;>omega
theorem GK {a b:Int} (h:-9223372036854775808<=a+b) (h':a+b<9223372036854775808):Bm .i64 a b=a+b:=w64 h h'
theorem E7 {a b:Int} (h:-9223372036854775808<=a-b) (h':a-b<9223372036854775808):B8 .i64 a b=a-b:=w64 h h'
theorem HE {a b:Int} (h:-9223372036854775808<=a*b) (h':a*b<9223372036854775808):BK .i64 a b=a*b:=w64 h h'
theorem BZ {i:Nat} (h:i<9223372036854775807):Bm .i64 (i:Int) 1=((i+1:Nat):Int):=by rw [GK]<;>omega
theorem BX {a m:Int} (h:0<=a) (hm:0<m):BL a m=a % m/\0<=BL a m/\BL a m<m:=by
 have e:BL a m=a % m:=by unfold BL;rw [Int.tmod_eq_emod_of_nonneg h]
 rw [e];exact ⟨rfl,Int.emod_nonneg _ (by omega),Int.emod_lt_of_pos _ hm⟩
variable {α β σ ρ:Type}
theorem VD [Inhabited α] {l:List α} {i:Int} (h:0<=i) (h':i<l.length):idx l i=some (l.getD i.toNat default):=by
 unfold idx
 rw [if_pos h,List.getD_eq_getElem?_getD,WH (by omega)];rfl
theorem D7 [Inhabited α] {l:List α} {i:Nat} (h:i<l.length):idx l (i:Int)=some (l.getD i default):=by
 rw [VD (by omega) (by omega),Int.toNat_natCast]
theorem VE {l:List α} {a b:Int} (h:0<=a) (h1:a<=b) (h2:b<=l.length):sub l a b=some ((l.take b.toNat).drop a.toNat):=by
 unfold sub;rw [if_pos ⟨h,h1,h2⟩]
theorem N6 {l:List α} {k:Nat} (h:k<=l.length):sub l 0 (k:Int)=some (l.take k):=by
 rw [VE (by omega) (by omega) (by omega)];simp
theorem Rh:Dl true=some ():=rfl
theorem J9 {b:Bool} (h:b=true):Dl b=some ():=by subst h;rfl
theorem Nx {body:σ->Option (σ⊕ρ)} {r:ρ} (st:Nat->σ) (k:Nat) (step:∀ i,i<k->body (st i)=some (.inl (st (i+1)))) (last:body (st k)=some (.inr r)):∀ n,k<n->whl body n (st 0)=some r:=by
 have key:∀ (j n i:Nat),i+j=k->j<n->whl body n (st i)=some r:=by
  intro j
  induction j with
  | zero=>
   intro n i hi hn
   cases n with
   | zero=>omega
   | succ n=>
    have:i=k:=by omega
    subst this;simp only [whl,last]
  | succ j ih=>
   intro n i hi hn
   cases n with
   | zero=>omega
   | succ n=>simp only [whl,step i (by omega)];exact ih n (i+1) (by omega) (by omega)
 intro n hn
 exact key k n 0 (by omega) hn
theorem Ev.to {body:Nat->σ->Option (σ⊕ρ)} {r:ρ} (st:Nat->σ) (k:Nat) (h:∃ N,∀ n,N<=n->(∀ i,i<k->body n (st i)=some (.inl (st (i+1))))/\body n (st k)=some (.inr r)):Ev (λ n=>Go.AI.whl (body n) n (st 0)) r:=by
 obtain ⟨N,h⟩:=h
 exact ⟨max N (k+1),λ n hn=>Nx st k (h n (by omega)).1 (h n (by omega)).2 n (by omega)⟩
def D0 (N:Nat) (stop:Nat->Option ρ) (d:ρ):ρ:=((List.range N).findSome? stop).getD d
theorem Pf {N:Nat} {stop:Nat->Option ρ} {d:ρ} (h:∀ i,i<N->stop i=none):D0 N stop d=d:=by
 unfold D0
 rw [List.findSome?_eq_none_iff.2 λ i hi=>h i (List.mem_range.1 hi)];rfl
theorem Pg {N:Nat} {stop:Nat->Option ρ} {d r:ρ} (k:Nat) (hk:k<N) (hr:stop k=some r) (h:∀ i,i<k->stop i=none):D0 N stop d=r:=by
 unfold D0
 have:(List.range N).findSome? stop=some r:=by
  have e:List.range N=List.range k++(List.range (N-k)).map (k+·):=by rw [← List.range_add];congr 1;omega
  rw [e,List.findSome?_append,List.findSome?_eq_none_iff.2 λ i hi=>h i (List.mem_range.1 hi)]
  have:N-k=(N-k-1)+1:=by omega
  rw [this,List.range_succ_eq_map]
  simp [hr]
 rw [this];rfl
theorem JF (N:Nat) (stop:Nat->Option ρ) (d:ρ):((∀ i,i<N->stop i=none)/\D0 N stop d=d)\/∃ k r,k<N/\stop k=some r/\(∀ i,i<k->stop i=none)/\D0 N stop d=r:=by
 by_cases h:∀ i,i<N->stop i=none
 ·exact .inl ⟨h,Pf h⟩
 ·right
  have hex:∃ k,k<N/\stop k≠none:=by
   apply Classical.byContradiction
   intro hh
   exact h λ i hi=>Classical.byContradiction λ hn=>hh ⟨i,hi,hn⟩
  have key:∀ m,(∃ k,k<m/\k<N/\stop k≠none)->∃ k,k<N/\stop k≠none/\∀ i,i<k->stop i=none:=by
   intro m
   induction m with
   | zero=>rintro ⟨k,hk,_⟩;omega
   | succ m ih=>
    rintro ⟨k,hk,h1,h2⟩
    by_cases hm:∃ k,k<m/\k<N/\stop k≠none
    ·exact ih hm
    ·refine ⟨k,h1,h2,λ i hi=>Classical.byContradiction λ hn=>hm ⟨i,by omega,by omega,hn⟩⟩
  obtain ⟨k0,h1,h2⟩:=hex
  obtain ⟨k,h3,h4,h5⟩:=key (k0+1) ⟨k0,by omega,h1,h2⟩
  obtain ⟨r,hr⟩:=Option.ne_none_iff_exists'.1 h4
  exact ⟨k,r,h3,hr,h5,Pg k h3 hr h5⟩
theorem Ph {body:Int->Option (Int⊕ρ)} {N:Nat} (stop:Nat->Option ρ) {d:ρ} (h1:∀ i,i<N->body (i:Int)=some (match stop i with|some r=>.inr r|none=>.inl ((i+1:Nat):Int))) (h2:body (N:Int)=some (.inr d)):∀ n,N<n->whl body n 0=some (D0 N stop d):=by
 intro n hn
 rcases JF N stop d with ⟨h,e⟩|⟨k,r,hk,hr,h,e⟩
 ·rw [e]
  exact Nx (λ i=>(i:Int)) N (λ i hi=>by rw [h1 i hi,h i hi]) h2 n hn
 ·rw [e]
  exact Nx (λ i=>(i:Int)) k (λ i hi=>by rw [h1 i (by omega),h i hi]) (by rw [h1 k hk,hr]) n (by omega)
theorem Ev.first {body:Nat->Int->Option (Int⊕ρ)} {N:Nat} (stop:Nat->Option ρ) {d:ρ} (h:∃ M,∀ n,M<=n->(∀ i,i<N->body n (i:Int)=some (match stop i with|some r=>.inr r|none=>.inl ((i+1:Nat):Int)))/\body n (N:Int)=some (.inr d)):Ev (λ n=>Go.AI.whl (body n) n 0) (D0 N stop d):=by
 obtain ⟨M,h⟩:=h
 exact ⟨max M (N+1),λ n hn=>Ph stop (h n (by omega)).1 (h n (by omega)).2 n (by omega)⟩
theorem Tot.gE {P:α->Prop} {c:Bool} {f:Nat->Option β} {d x:β} {g:Nat->β->Option α} (hc:c=true) (h:Ev f x) (k:Tot (λ n=>g n x) P):Tot (λ n=>(if c=true then f n else some d).bind (g n)) P:=by
 subst hc;exact Tot.bindE h k
theorem Tot.gF {P:α->Prop} {c:Bool} {f:Nat->Option β} {d:β} {g:Nat->β->Option α} (hc:c=false) (k:Tot (λ n=>g n d) P):Tot (λ n=>(if c=true then f n else some d).bind (g n)) P:=by
 subst hc;exact k
theorem Ev.many {f:Nat->Nat->Option α} {z:Nat->α} (N:Nat) (h:∀ i,i<N->Ev (λ n=>f n i) (z i)):∃ M,∀ n,M<=n->∀ i,i<N->f n i=some (z i):=by
 induction N with
 | zero=>exact ⟨0,λ n _ i hi=>by omega⟩
 | succ N ih=>
  obtain ⟨M1,h1⟩:=ih λ i hi=>h i (by omega)
  obtain ⟨M2,h2⟩:=h N (by omega)
  exact ⟨max M1 M2,λ n hn i hi=>by
   by_cases e:i=N
   ·subst e;exact h2 n (by omega)
   ·exact h1 n (by omega) i (by omega)⟩
end Go.AI
end
section
namespace Go.AI
def Nr (p:Aa):Prop:=(-1000<=p.X/\p.X<=1000)/\-1000<=p.Y/\p.Y<=1000
theorem Sw {a b:Int} (A B:Int) (h1:-A<=a) (h2:a<=A) (h3:-B<=b) (h4:b<=B):-(A*B)<=a*b/\a*b<=A*B:=by
 have hA:a.natAbs<=A.toNat:=by omega
 have hB:b.natAbs<=B.toNat:=by omega
 have h:=Nat.mul_le_mul hA hB
 rw [← Int.natAbs_mul] at h
 have e:((A.toNat*B.toNat:Nat):Int)=A*B:=by
  rw [Int.natCast_mul,Int.toNat_of_nonneg (by omega),Int.toNat_of_nonneg (by omega)]
 omega
theorem Mo (P:List Aa) {i:Nat} (h:i<P.length):P.getD i default∈P:=by
 rw [List.getD_eq_getElem?_getD,WH h]
 exact Wx _
def Eo (a b:Aa):Nat:=max (a.X-b.X).natAbs (a.Y-b.Y).natAbs
def btw (a b:Int) (k n:Nat):Int:=(2*(a*n+k*(b-a))+n) / (2*n)
def ptL (a b:Aa) (k:Nat):Aa:=⟨btw a.X b.X k (Eo a b),btw a.Y b.Y k (Eo a b)⟩
def Dg (a b:Aa):List Aa:=if Eo a b=0 then [a] else (List.range (Eo a b+1)).map (ptL a b)
theorem K0 {a b:Aa} (ha:Nr a) (hb:Nr b):Eo a b<=2000:=by
 unfold Eo;unfold Nr at ha hb;omega
theorem Pi {a d:Int} (hd:0<d):(if decide (BL a d<0)=true then a.tdiv d-1 else a.tdiv d)=a / d:=by
 unfold BL
 have h1:=Int.mul_tdiv_add_tmod a d
 have h2:=Int.mul_ediv_add_emod a d
 have h3:=Int.emod_nonneg a (show d≠0 by omega)
 have h4:=Int.emod_lt_of_pos a hd
 rcases Int.lt_or_le a 0 with ha|ha
 ·have h5:a.tmod d<=0:=by
   have:=Int.tmod_nonneg d (a:=-a) (by omega)
   rw [Int.neg_tmod] at this
   omega
  have h6:-d<a.tmod d:=by
   have:=Int.lt_tmod_of_pos a hd
   omega
  split
  ·rename_i h
   have h:=of_decide_eq_true h
   refine Eq.symm (Int.ediv_eq_iff_of_pos hd |>.2 ?_)
   have:d*(a.tdiv d-1)=d*a.tdiv d-d:=by rw [Int.mul_sub,Int.mul_one]
   constructor
   ·rw [Int.mul_comm];omega
   ·rw [Int.mul_comm];omega
  ·rename_i h
   have h:¬a.tmod d<0:=λ hh=>h (decide_eq_true hh)
   refine Eq.symm (Int.ediv_eq_iff_of_pos hd |>.2 ?_)
   constructor
   ·rw [Int.mul_comm];omega
   ·rw [Int.mul_comm];omega
 ·have h5:=Int.tmod_nonneg d ha
  rw [if_neg (by simpa using h5)]
  exact Int.tdiv_eq_ediv_of_nonneg ha
theorem Uz {a b:Int} {k n:Nat} (ha:-1000<=a) (ha':a<=1000) (hb:-1000<=b) (hb':b<=1000) (hk:k<=2000) (hn:n<=2000) :
  (BK .i64 a n=a*n/\B8 .i64 b a=b-a/\BK .i64 k (b-a)=k*(b-a)/\Bm .i64 (a*n) (k*(b-a))=a*n+k*(b-a) /\
  BK .i64 2 (a*n+k*(b-a))=2*(a*n+k*(b-a))/\Bm .i64 (2*(a*n+k*(b-a))) n=2*(a*n+k*(b-a))+n/\BK .i64 2 n=2*n) /\
  -20000000<=2*(a*n+k*(b-a))+n/\2*(a*n+k*(b-a))+n<=20000000:=by
 have h1:=Sw (a:=a) (b:=n) 1000 2000 ha ha' (by omega) (by omega)
 have h2:=Sw (a:=k) (b:=b-a) 2000 2000 (by omega) (by omega) (by omega) (by omega)
 exact ⟨⟨HE (by omega) (by omega),E7 (by omega) (by omega),HE (by omega) (by omega),GK (by omega) (by omega),HE (by omega) (by omega),GK (by omega) (by omega),HE (by omega) (by omega)⟩,by omega,by omega⟩
theorem UA {a d:Int} (h:-20000000<=a) (h':a<=20000000):-20000000<=a.tdiv d/\a.tdiv d<=20000000:=by
 have:=Int.natAbs_tdiv_le_natAbs a d
 omega
theorem Jg (m:Nat) {a b:Int} {k n:Nat} (ha:-1000<=a) (ha':a<=1000) (hb:-1000<=b) (hb':b<=1000) (hk:k<=2000) (hn:n<=2000) (h0:0<n) :
  De m a b k n=some (btw a b k n):=by
 obtain ⟨⟨e1,e2,e3,e4,e5,e6,e7⟩,l1,l2⟩:=Uz ha ha' hb hb' hk hn
 unfold De CL btw
 rw [e1,e2,e3,e4,e5,e6,e7]
 have hz:(!(2*(n:Int)==0))=true:=by simp;omega
 rw [hz]
 have q:=UA (d:=2*n) l1 l2
 have e8:KG .i64 (2*(a*n+k*(b-a))+n) (2*n)=(2*(a*n+k*(b-a))+n).tdiv (2*n):=w64 (by omega) (by omega)
 rw [e8,E7 (by omega) (by omega)]
 have:=Pi (a:=2*(a*n+k*(b-a))+n) (d:=2*n) (by omega)
 rw [← this]
 simp only [Rh,Option.bind_some]
 split<;>rfl
theorem Ri (m:Nat) {a b:Aa} (ha:Nr a) (hb:Nr b):FI m a b=some ((Eo a b:Nat):Int):=by
 unfold Nr at ha hb
 have ab:∀ x:Int,-2000<=x->x<=2000->GD m x=some ((x.natAbs:Nat):Int):=by
  intro x h h'
  unfold GD US
  rw [w64 (a:=0-x) (by omega) (by omega)]
  split<;>rename_i hx<;>simp at hx<;>congr 1<;>omega
 unfold FI Eo
 rw [E7 (a:=a.X) (by omega) (by omega),E7 (a:=a.Y) (by omega) (by omega),ab _ (by omega) (by omega),ab _ (by omega) (by omega)]
 simp only [Option.bind_some]
 congr 1
 split<;>omega
theorem Sx {l:List Aa} (hl:l.length<=1000) (h:∀ p∈l,Nr p):Ev (λ n=>I1 n l) true:=by
 refine Tot.ev (Tot.bind (R:=λ y=>y=.inl ()) (Tot.upto l.length (λ i (x:Int)=>x=(i:Int)) ?_ ?_ 0 rfl) λ y hy=>by subst hy;exact Tot.pure rfl)
 ·rintro i _ hi rfl
  unfold DQ
  refine Tot.iteT (decide_eq_true (by omega)) (Tot.bindC (D7 hi) (Tot.iteF ?_ (Tot.pure ?_)))
  ·have:=h _ (Mo l hi)
   unfold Nr at this
   simp only [Bool.or_eq_false_iff,decide_eq_false_iff_not]
   omega
  ·exact BZ (by omega)
 ·rintro _ rfl
  unfold DQ
  exact Tot.iteF (decide_eq_false (by omega)) (Tot.pure rfl)
theorem Jh {α:Type} (f:Nat->α) (i:Nat):(List.range (i+1)).map f=(List.range i).map f++[f i]:=by
 rw [List.range_succ,List.map_append];rfl
theorem Sy {a b:Aa} (ha:Nr a) (hb:Nr b):Ev (λ n=>I2 n a b) (Dg a b):=by
 have hf:=K0 ha hb
 have ha':=ha
 have hb':=hb
 unfold Nr at ha' hb'
 refine Tot.ev (Tot.bindE (Sx (l:=[a,b]) (by simp) (by simp [ha,hb])) (Tot.iteF rfl (Tot.bindA (λ n=>Ri n ha hb) ?_)))
 unfold Dg
 by_cases h0:Eo a b=0
 ·rw [if_pos h0,h0]
  exact Tot.iteT rfl (Tot.pure rfl)
 ·rw [if_neg h0]
  refine Tot.iteF (by simpa using h0) ?_
  refine Tot.bindC (y:=[]) ?_ ?_
  ·unfold mkc
   rw [GK (by omega) (by omega),if_pos (by omega)];rfl
  ·refine Tot.bind (R:=λ y=>y=(List.range (Eo a b+1)).map (ptL a b)) (Tot.upto (Eo a b+1) (λ i (x:List Aa×Int)=>x.2=(i:Int)/\x.1=(List.range i).map (ptL a b)) ?_ ?_ _ ⟨rfl,rfl⟩) λ y hy=>Tot.pure hy
   ·rintro i ⟨l,k⟩ hi ⟨hk,hl⟩
    simp only at hk hl
    subst hk hl
    unfold DR
    have e:Bm .i64 ((Eo a b:Nat):Int) 1=((Eo a b+1:Nat):Int):=BZ (by omega)
    refine Tot.iteT (decide_eq_true (by omega)) (Tot.bindA (λ n=>Jg n (by omega) (by omega) (by omega) (by omega) (by omega) hf (by omega)) (Tot.bindA (λ n=>Jg n (by omega) (by omega) (by omega) (by omega) (by omega) hf (by omega)) (Tot.bindC (KZ ?_) (Tot.pure ⟨BZ (by omega),?_⟩))))
    ·simp;omega
    ·rw [Jh];rfl
   ·rintro ⟨l,k⟩ ⟨hk,hl⟩
    simp only at hk hl
    subst hk hl
    unfold DR
    have e:Bm .i64 ((Eo a b:Nat):Int) 1=((Eo a b+1:Nat):Int):=BZ (by omega)
    exact Tot.iteF (decide_eq_false (by omega)) (Tot.pure rfl)
theorem Rj {a b p:Aa}:p∈Dg a b↔(Eo a b=0/\p=a)\/(Eo a b≠0/\∃ k,k<=Eo a b/\p=ptL a b k):=by
 unfold Dg
 split
 ·rename_i h;simp [h]
 ·rename_i h
  simp only [WC,List.mem_range,h,false_and,false_or,ne_eq,not_false_eq_true,true_and]
  constructor
  ·rintro ⟨k,hk,rfl⟩;exact ⟨k,by omega,rfl⟩
  ·rintro ⟨k,hk,rfl⟩;exact ⟨k,by omega,rfl⟩
theorem Rk {a b m:Int} {k n:Nat} (h:0<n) (hk:k<=n) (ha:m<=a) (hb:m<=b):m<=btw a b k n:=by
 unfold btw
 rw [Int.le_ediv_iff_mul_le (by omega)]
 have e:a*n+k*(b-a)=a*(n-k:Nat)+k*b:=by
  have:((n-k:Nat):Int)=n-k:=by omega
  rw [this,Int.mul_sub,Int.mul_sub,Int.mul_comm (k:Int) a];omega
 rw [e]
 have h1:m*(n-k:Nat)<=a*(n-k:Nat):=Int.mul_le_mul_of_nonneg_right ha (by omega)
 have h2:k*m<=k*b:=Int.mul_le_mul_of_nonneg_left hb (by omega)
 have h3:m*(2*(n:Int))=2*(m*(n-k:Nat)+k*m):=by
  have:((n-k:Nat):Int)=n-k:=by omega
  rw [this,Int.mul_sub,Int.mul_comm (k:Int) m,Int.sub_add_cancel,← Int.mul_assoc,Int.mul_comm m 2,Int.mul_assoc]
 omega
theorem Rl {a b m:Int} {k n:Nat} (h:0<n) (hk:k<=n) (ha:a<=m) (hb:b<=m):btw a b k n<=m:=by
 unfold btw
 have:(2*(a*n+k*(b-a))+n) / (2*(n:Int))<m+1:=by
  rw [Int.ediv_lt_iff_lt_mul (by omega)]
  have e:a*n+k*(b-a)=a*(n-k:Nat)+k*b:=by
   have:((n-k:Nat):Int)=n-k:=by omega
   rw [this,Int.mul_sub,Int.mul_sub,Int.mul_comm (k:Int) a];omega
  rw [e]
  have h1:a*(n-k:Nat)<=m*(n-k:Nat):=Int.mul_le_mul_of_nonneg_right ha (by omega)
  have h2:k*b<=k*m:=Int.mul_le_mul_of_nonneg_left hb (by omega)
  have h3:m*(2*(n:Int))=2*(m*(n-k:Nat)+k*m):=by
   have:((n-k:Nat):Int)=n-k:=by omega
   rw [this,Int.mul_sub,Int.mul_comm (k:Int) m,Int.sub_add_cancel,← Int.mul_assoc,Int.mul_comm m 2,Int.mul_assoc]
  rw [Int.add_mul,h3]
  omega
 omega
theorem Mp (a b:Aa):(Dg a b).length=Eo a b+1:=by
 unfold Dg
 split
 ·rename_i h;rw [h];rfl
 ·simp
def In (m n:Aa) (p:Aa):Prop:=(m.X<=p.X/\p.X<=n.X)/\m.Y<=p.Y/\p.Y<=n.Y
theorem Sz {a b p m n:Aa} (h:p∈Dg a b) (ha:In m n a) (hb:In m n b):In m n p:=by
 rw [Rj] at h
 rcases h with ⟨h,rfl⟩|⟨h,k,hk,rfl⟩
 ·exact ha
 ·exact ⟨⟨Rk (by omega) hk ha.1.1 hb.1.1,Rl (by omega) hk ha.1.2 hb.1.2⟩,Rk (by omega) hk ha.2.1 hb.2.1,Rl (by omega) hk ha.2.2 hb.2.2⟩
def mvG (t p:Aa):Aa:=⟨p.X+t.X,p.Y+t.Y⟩
end Go.AI
end
section
namespace Go.AI
def crS (a b q:Aa):Int:=(q.Y-a.Y)*(b.X-a.X)-(q.X-a.X)*(b.Y-a.Y)
def OnP (a b q:Aa):Prop:=crS a b q=0/\(min a.X b.X<=q.X/\q.X<=max a.X b.X)/\min a.Y b.Y<=q.Y/\q.Y<=max a.Y b.Y
instance (a b q:Aa):Decidable (OnP a b q):=by unfold OnP;infer_instance
def psS (a b q:Aa):Bool:=(decide (a.Y<=q.Y) != decide (b.Y<=q.Y))&&(bif decide (a.Y<b.Y) then decide (0<crS a b q) else decide (crS a b q<0))
def sd (P:List Aa) (i:Nat):Aa×Aa:=(P.getD i default,P.getD ((i+1) % P.length) default)
def onB (P:List Aa) (q:Aa) (i:Nat):Bool:=decide (OnP (sd P i).1 (sd P i).2 q)
def psB (P:List Aa) (q:Aa) (i:Nat):Bool:=psS (sd P i).1 (sd P i).2 q
def Mq (P:List Aa) (q:Aa) (i:Nat):Nat:=(List.range i).countP (psB P q)
def Gd (P:List Aa) (q:Aa):Bool:=(List.range P.length).any (onB P q)||decide (Mq P q P.length % 2=1)
theorem N7 (a b q:Aa):crS b a q=-crS a b q:=by
 unfold crS
 have e1:q.Y-b.Y=(q.Y-a.Y)-(b.Y-a.Y):=by omega
 have e2:q.X-b.X=(q.X-a.X)-(b.X-a.X):=by omega
 have e3:a.X-b.X=-(b.X-a.X):=by omega
 have e4:a.Y-b.Y=-(b.Y-a.Y):=by omega
 rw [e1,e2,e3,e4]
 generalize q.Y-a.Y=u
 generalize q.X-a.X=v
 generalize b.X-a.X=s
 generalize b.Y-a.Y=r
 rw [Int.mul_neg,Int.mul_neg,Int.sub_mul,Int.sub_mul,Int.mul_comm r s]
 omega
theorem VF {a b q:Aa} (ha:Nr a) (hb:Nr b) (hq:Nr q) :
  (-4000000<=(q.Y-a.Y)*(b.X-a.X)/\(q.Y-a.Y)*(b.X-a.X)<=4000000)/\-4000000<=(q.X-a.X)*(b.Y-a.Y)/\(q.X-a.X)*(b.Y-a.Y)<=4000000:=by
 unfold Nr at ha hb hq
 have h1:=Sw (a:=q.Y-a.Y) (b:=b.X-a.X) 2000 2000 (by omega) (by omega) (by omega) (by omega)
 have h2:=Sw (a:=q.X-a.X) (b:=b.Y-a.Y) 2000 2000 (by omega) (by omega) (by omega) (by omega)
 omega
theorem ST {a b q:Aa} (ha:Nr a) (hb:Nr b) (hq:Nr q) :
  (B8 .i64 b.X a.X=b.X-a.X/\B8 .i64 b.Y a.Y=b.Y-a.Y/\B8 .i64 q.X a.X=q.X-a.X/\B8 .i64 q.Y a.Y=q.Y-a.Y) /\
  BK .i64 (q.Y-a.Y) (b.X-a.X)=(q.Y-a.Y)*(b.X-a.X)/\BK .i64 (q.X-a.X) (b.Y-a.Y)=(q.X-a.X)*(b.Y-a.Y) /\
  BK .i64 (b.X-a.X) (q.Y-a.Y)=(q.Y-a.Y)*(b.X-a.X)/\BK .i64 (b.Y-a.Y) (q.X-a.X)=(q.X-a.X)*(b.Y-a.Y) /\
  B8 .i64 ((q.Y-a.Y)*(b.X-a.X)) ((q.X-a.X)*(b.Y-a.Y))=crS a b q:=by
 obtain ⟨h1,h2⟩:=VF ha hb hq
 have e1:=Int.mul_comm (q.Y-a.Y) (b.X-a.X)
 have e2:=Int.mul_comm (q.X-a.X) (b.Y-a.Y)
 unfold Nr at ha hb hq
 exact ⟨⟨E7 (by omega) (by omega),E7 (by omega) (by omega),E7 (by omega) (by omega),E7 (by omega) (by omega)⟩,HE (by omega) (by omega),HE (by omega) (by omega),(HE (by omega) (by omega)).trans e1.symm,(HE (by omega) (by omega)).trans e2.symm,E7 (by omega) (by omega)⟩
theorem VG (n:Nat) {a b q:Aa} (ha:Nr a) (hb:Nr b) (hq:Nr q):KT n a b q=some (decide (OnP a b q)):=by
 obtain ⟨⟨e1,e2,e3,e4⟩,e5,e6,e7,e8,e9⟩:=ST ha hb hq
 unfold KT
 rw [e1,e2,e3,e4,e7,e8]
 have hA:(q.Y-a.Y)*(b.X-a.X)=(q.X-a.X)*(b.Y-a.Y)↔crS a b q=0:=by unfold crS;omega
 split
 ·rename_i h
  simp only [Bool.and_true,WX,WI,beq_iff_eq] at h
  congr 1
  symm
  rw [decide_eq_true_eq]
  unfold OnP
  rw [← hA]
  rcases h with ⟨h1,h2⟩|⟨h1,h2⟩
  ·rw [h1,h2]
   refine ⟨by simp,by omega,by omega⟩
  ·rw [h1,h2]
   refine ⟨Int.mul_comm _ _,by omega,by omega⟩
 ·split
  ·rename_i h
   congr 1
   symm
   rw [decide_eq_false_iff_not]
   simp only [bne_iff_ne,ne_eq] at h
   exact λ hh=>h (hA.2 hh.1)
  ·rename_i h
   congr 1
   have h:(q.Y-a.Y)*(b.X-a.X)=(q.X-a.X)*(b.Y-a.Y):=by simpa using h
   rw [Bool.eq_iff_iff,decide_eq_true_eq]
   simp only [WI,decide_eq_true_eq]
   unfold OnP
   have hB:(if b.X<a.X then b.X else a.X)=min a.X b.X:=by split<;>omega
   have hC:(if b.X>a.X then b.X else a.X)=max a.X b.X:=by split<;>omega
   have hD:(if b.Y<a.Y then b.Y else a.Y)=min a.Y b.Y:=by split<;>omega
   have hE:(if b.Y>a.Y then b.Y else a.Y)=max a.Y b.Y:=by split<;>omega
   rw [hB,hC,hD,hE]
   constructor
   ·rintro ⟨⟨⟨h1,h2⟩,h3⟩,h4⟩;exact ⟨hA.1 h,⟨h1,h2⟩,h3,h4⟩
   ·rintro ⟨_,⟨h1,h2⟩,h3,h4⟩;exact ⟨⟨⟨h1,h2⟩,h3⟩,h4⟩
theorem Pj (n:Nat) {a b q:Aa} (ha:Nr a) (hb:Nr b) (hq:Nr q):EN n a b q=some (psS a b q):=by
 obtain ⟨⟨e1,e2,e3,e4⟩,e5,e6,e7,e8,e9⟩:=ST ha hb hq
 unfold EN psS
 rw [e1,e2,e3,e4,e5,e6]
 have h1:decide ((q.Y-a.Y)*(b.X-a.X)>(q.X-a.X)*(b.Y-a.Y))=decide (0<crS a b q):=decide_eq_decide.2 (by unfold crS;omega)
 have h2:decide ((q.Y-a.Y)*(b.X-a.X)<(q.X-a.X)*(b.Y-a.Y))=decide (crS a b q<0):=decide_eq_decide.2 (by unfold crS;omega)
 rw [h1,h2]
 have h3:decide (b.Y>a.Y)=decide (a.Y<b.Y):=rfl
 rw [h3,bne]
 cases (decide (a.Y<=q.Y)==decide (b.Y<=q.Y))<;>cases decide (a.Y<b.Y)<;>rfl
theorem VH {N:Nat} (h:N≠0):(!(((N:Nat):Int)==0))=true:=by
 rw [Bool.not_eq_true'];exact beq_eq_false_iff_ne.2 (by omega)
theorem UB {i N:Nat} (hi:i<N) (hN:N<=1000):BL (Bm .i64 (i:Int) 1) ((N:Nat):Int)=(((i+1) % N:Nat):Int):=by
 rw [BZ (by omega),(BX (by omega) (by omega)).1]
 omega
theorem N8 {P:List Aa} (h:∀ p∈P,Nr p) {i:Nat} (hi:i<P.length):Nr (sd P i).1/\Nr (sd P i).2:=
 ⟨h _ (Mo P hi),h _ (Mo P (Nat.mod_lt _ (by omega)))⟩
theorem Mr (P:List Aa) (q:Aa) (i:Nat):Mq P q (i+1)=Mq P q i+(if psB P q i=true then 1 else 0):=by
 unfold Mq
 rw [List.range_succ,List.countP_append,List.countP_singleton]
theorem Rm {n:Nat}:(!decide (n % 2=1))=decide ((n+1) % 2=1):=by
 rw [Bool.eq_iff_iff];simp;omega
theorem Hb {P:List Aa} {q:Aa} (hl:P.length<=1000) (h:∀ p∈P,Nr p) (hq:Nr q):Ev (λ n=>Bq n P q) (Gd P q):=by
 refine Tot.ev (Tot.bind (R:=λ y=>y=if (List.range P.length).any (onB P q)=true then .inr true else .inl (decide (Mq P q P.length % 2=1)))
  (Tot.upto P.length (λ i (x:Bool×Int)=>x.2=(i:Int)/\x.1=decide (Mq P q i % 2=1)/\∀ j,j<i->onB P q j=false) ?_ ?_ _ ⟨rfl,rfl,λ j hj=>by omega⟩) λ y hy=>?_)
 ·rintro i ⟨o,x⟩ hi ⟨h1,h2,h3⟩
  simp only at h1 h2
  subst h1 h2
  unfold C3
  obtain ⟨n1,n2⟩:=N8 h hi
  have e:idx P (BL (Bm .i64 (i:Int) 1) ((P.length:Nat):Int))=some (sd P i).2:=by
   rw [UB hi hl];exact D7 (Nat.mod_lt _ (by omega))
  refine Tot.iteT (decide_eq_true (by omega)) (Tot.bindC (D7 hi) (Tot.bindC (J9 (VH (by omega))) (Tot.bindC e (Tot.bindA (λ n=>VG n n1 n2 hq) (Tot.ite (λ ho=>Tot.pure ?_) λ ho=>Tot.bindA (λ n=>Pj n n1 n2 hq) ?_)))))
  ·show _=_
   rw [if_pos]
   exact List.any_eq_true.2 ⟨i,List.mem_range.2 hi,ho⟩
  ·have hj:∀ j,j<i+1->onB P q j=false:=λ j hj=>by
    rcases Nat.lt_succ_iff_lt_or_eq.1 hj with hj|rfl
    ·exact h3 j hj
    ·exact ho
   unfold C2
   refine Tot.ite (λ hp=>Tot.pure ⟨BZ (by omega),?_,hj⟩) λ hp=>Tot.pure ⟨BZ (by omega),?_,hj⟩
   ·have hp:psB P q i=true:=hp
    rw [Mr,if_pos hp];exact Rm
   ·have hp:psB P q i=false:=hp
    rw [Mr,hp];rfl
 ·rintro ⟨o,x⟩ ⟨h1,h2,h3⟩
  simp only at h1 h2
  subst h1 h2
  unfold C3
  refine Tot.iteF (decide_eq_false (by omega)) (Tot.pure ?_)
  show _=_
  rw [if_neg]
  intro hh
  obtain ⟨j,hj,hh⟩:=List.any_eq_true.1 hh
  rw [h3 j (List.mem_range.1 hj)] at hh
  cases hh
 ·subst hy
  unfold Gd
  cases (List.range P.length).any (onB P q) with
  | true=>exact Tot.pure rfl
  | false=>exact Tot.pure rfl
theorem VI (x y z:Bool) (c:Nat) (h:c % 2=if (x != y)=true then 1 else 0):(c+if (y != z)=true then 1 else 0) % 2=if (x != z)=true then 1 else 0:=by
 cases x<;>cases y<;>cases z<;>simp at h ⊢<;>omega
theorem VJ (x y:Bool) (c:Nat) (h:c % 2=if (x != y)=true then 1 else 0):(c+if (y != x)=true then 1 else 0) % 2=0:=by
 cases x<;>cases y<;>simp at h ⊢<;>omega
theorem SU (f:Nat->Bool):∀ m:Nat,((List.range m).countP λ i=>f i != f (i+1)) % 2=if (f 0 != f m)=true then 1 else 0
 | 0=>by simp
 | m+1=>by
  rw [List.range_succ,List.countP_append,List.countP_singleton]
  exact VI _ _ _ _ (SU f m)
theorem Pk (f:Nat->Bool) (N:Nat):((List.range N).countP λ i=>f i != f ((i+1) % N)) % 2=0:=by
 cases N with
 | zero=>simp
 | succ m=>
  rw [List.range_succ,List.countP_append,List.countP_singleton]
  have e:(List.range m).countP (λ i=>f i != f ((i+1) % (m+1)))=(List.range m).countP (λ i=>f i != f (i+1)):=by
   refine List.countP_congr λ i hi=>?_
   rw [Nat.mod_eq_of_lt (by have:=List.mem_range.1 hi;omega)]
  rw [e,Nat.mod_self]
  exact VJ _ _ _ (SU f m)
theorem Rn {a b q:Aa} (ha:a.X<q.X) (hb:b.X<q.X):psS a b q=false:=by
 cases h:psS a b q with
 | false=>rfl
 | true=>
  exfalso
  unfold psS at h
  rw [WI] at h
  obtain ⟨h1,h2⟩:=h
  have hm:∀ {u v w z:Int},0<=u->u<=w->0<w->v<z->0<z->u*v<z*w:=by
   intro u v w z h1 h2 h3 h4 h5
   rcases Int.lt_or_le 0 u with hu|hu
   ·have e1:u*v<u*z:=Int.mul_lt_mul_of_pos_left h4 hu
    have e2:u*z<=w*z:=Int.mul_le_mul_of_nonneg_right h2 (by omega)
    rw [Int.mul_comm z w];omega
   ·have:u=0:=by omega
    rw [this,Int.zero_mul];exact Int.mul_pos h5 h3
  rcases Int.lt_or_le a.Y b.Y with hy|hy
  ·rw [decide_eq_true hy,cond_true,decide_eq_true_eq] at h2
   unfold crS at h2
   have hq1:a.Y<=q.Y:=by
    refine Int.le_of_not_gt λ hh=>?_
    rw [decide_eq_false (by omega),decide_eq_false (by omega)] at h1;cases h1
   have hq2:q.Y<b.Y:=by
    refine Int.lt_of_not_ge λ hh=>?_
    rw [decide_eq_true hq1,decide_eq_true (by omega)] at h1;cases h1
   have:=hm (u:=q.Y-a.Y) (v:=b.X-a.X) (w:=b.Y-a.Y) (z:=q.X-a.X) (by omega) (by omega) (by omega) (by omega) (by omega)
   omega
  ·rw [decide_eq_false (by omega),cond_false,decide_eq_true_eq] at h2
   have hs:=N7 a b q
   have hq1:b.Y<=q.Y:=by
    refine Int.le_of_not_gt λ hh=>?_
    rw [decide_eq_false (by omega),decide_eq_false (by omega)] at h1;cases h1
   have hq2:q.Y<a.Y:=by
    refine Int.lt_of_not_ge λ hh=>?_
    rw [decide_eq_true (by omega),decide_eq_true (by omega)] at h1;cases h1
   have:=hm (u:=q.Y-b.Y) (v:=a.X-b.X) (w:=a.Y-b.Y) (z:=q.X-b.X) (by omega) (by omega) (by omega) (by omega) (by omega)
   unfold crS at hs h2
   omega
theorem SA {a b q:Aa} (ha:q.X<a.X) (hb:q.X<b.X):psS a b q=(decide (a.Y<=q.Y) != decide (b.Y<=q.Y)):=by
 unfold psS
 cases h1:(decide (a.Y<=q.Y) != decide (b.Y<=q.Y)) with
 | false=>rfl
 | true=>
  rw [Bool.true_and]
  have hm:∀ {u v w z:Int},0<=u->u<w->-z<v->0<z->0<u*v+z*w:=by
   intro u v w z h1 h2 h3 h4
   have e1:u*(-z)<=u*v:=Int.mul_le_mul_of_nonneg_left (by omega) h1
   have e2:u*z<w*z:=Int.mul_lt_mul_of_pos_right h2 h4
   rw [Int.mul_neg] at e1
   rw [Int.mul_comm z w];omega
  rcases Int.lt_or_le a.Y b.Y with hy|hy
  ·rw [decide_eq_true hy,cond_true,decide_eq_true_eq]
   have hq1:a.Y<=q.Y:=by
    refine Int.le_of_not_gt λ hh=>?_
    rw [decide_eq_false (by omega),decide_eq_false (by omega)] at h1;cases h1
   have hq2:q.Y<b.Y:=by
    refine Int.lt_of_not_ge λ hh=>?_
    rw [decide_eq_true hq1,decide_eq_true (by omega)] at h1;cases h1
   have:=hm (u:=q.Y-a.Y) (v:=b.X-a.X) (w:=b.Y-a.Y) (z:=a.X-q.X) (by omega) (by omega) (by omega) (by omega)
   unfold crS
   have e:q.X-a.X=-(a.X-q.X):=by omega
   rw [e,Int.neg_mul]
   omega
  ·rw [decide_eq_false (by omega),cond_false,decide_eq_true_eq]
   have hs:=N7 a b q
   have hq1:b.Y<=q.Y:=by
    refine Int.le_of_not_gt λ hh=>?_
    rw [decide_eq_false (by omega),decide_eq_false (by omega)] at h1;cases h1
   have hq2:q.Y<a.Y:=by
    refine Int.lt_of_not_ge λ hh=>?_
    rw [decide_eq_true (by omega),decide_eq_true (by omega)] at h1;cases h1
   have:=hm (u:=q.Y-b.Y) (v:=a.X-b.X) (w:=a.Y-b.Y) (z:=b.X-q.X) (by omega) (by omega) (by omega) (by omega)
   have e:crS b a q=(q.Y-b.Y)*(a.X-b.X)+(b.X-q.X)*(a.Y-b.Y):=by
    unfold crS
    have e:q.X-b.X=-(b.X-q.X):=by omega
    rw [e,Int.neg_mul]
    omega
   omega
theorem Ny {P:List Aa} {q m n:Aa} (h:∀ p∈P,In m n p) (hq:Gd P q=true):In m n q:=by
 unfold Gd at hq
 rw [WX,List.any_eq_true,decide_eq_true_eq] at hq
 have hs:∀ i,i<P.length->In m n (sd P i).1/\In m n (sd P i).2:=λ i hi=>⟨h _ (Mo P hi),h _ (Mo P (Nat.mod_lt _ (by omega)))⟩
 rcases hq with ⟨i,hi,hq⟩|hq
 ·have hi:=List.mem_range.1 hi
  obtain ⟨h1,h2⟩:=hs i hi
  have hq:=(of_decide_eq_true hq).2
  unfold In at *
  omega
 ·have hex:∃ i,i<P.length/\psB P q i=true:=by
   refine Classical.byContradiction λ hh=>?_
   have:Mq P q P.length=0:=List.countP_eq_zero.2 λ i hi hp=>hh ⟨i,List.mem_range.1 hi,hp⟩
   omega
  obtain ⟨i,hi,hp⟩:=hex
  obtain ⟨h1,h2⟩:=hs i hi
  have hY:m.Y<=q.Y/\q.Y<=n.Y:=by
   unfold psB psS at hp
   rw [WI] at hp
   have hp:=hp.1
   unfold In at h1 h2
   constructor
   ·refine Int.le_of_not_gt λ hh=>?_
    rw [decide_eq_false (by omega),decide_eq_false (by omega)] at hp;cases hp
   ·refine Int.le_of_not_gt λ hh=>?_
    rw [decide_eq_true (by omega),decide_eq_true (by omega)] at hp;cases hp
  have hX:m.X<=q.X:=by
   refine Int.le_of_not_gt λ hh=>?_
   have e:Mq P q P.length=(List.range P.length).countP λ i=>(λ j=>decide ((P.getD j default).Y<=q.Y)) i != (λ j=>decide ((P.getD j default).Y<=q.Y)) ((i+1) % P.length):=by
    refine List.countP_congr λ i hi=>?_
    obtain ⟨h1,h2⟩:=hs i (List.mem_range.1 hi)
    unfold In at h1 h2
    unfold psB
    rw [SA (by omega) (by omega)]
    exact Iff.rfl
   rw [e,Pk] at hq
   cases hq
  have hX':q.X<=n.X:=by
   refine Int.le_of_not_gt λ hh=>?_
   unfold In at h1 h2
   unfold psB at hp
   rw [Rn (by omega) (by omega)] at hp
   cases hp
  exact ⟨⟨hX,hX'⟩,hY⟩
end Go.AI
end
section
namespace Go.AI
def ltG (p q:Aa):Prop:=p.Y<q.Y\/(p.Y=q.Y/\p.X<q.X)
instance (p q:Aa):Decidable (ltG p q):=by unfold ltG;infer_instance
def ltB (p q:Aa):Bool:=decide (ltG p q)
theorem EU (p:Aa):¬ltG p p:=by unfold ltG;omega
theorem Hc {p q r:Aa} (h:ltG p q) (h':ltG q r):ltG p r:=by unfold ltG at *;omega
theorem K1 {p q:Aa} (h:¬ltG p q) (h':¬ltG q p):p=q:=by
 unfold ltG at *
 cases p;cases q;simp only [Aa.mk.injEq] at *;omega
def Inc (l:List Aa):Prop:=l.Pairwise ltG
theorem Inc.nodup {l:List Aa} (h:Inc l):l.Nodup:=h.imp λ {a b} h e=>by subst e;exact EU _ h
theorem Inc.uniq {l m:List Aa} (h:Inc l) (h':Inc m) (e:∀ p,p∈l↔p∈m):l=m:=
 ((List.perm_ext_iff_of_nodup h.nodup h'.nodup).2 e).eq_of_pairwise (le:=ltG) (λ _ _ _ _ h1 h2=>absurd (Hc h1 h2) (EU _)) h h'
def Pm (a b:Int):Int:=if a<b then -1 else if b<a then 1 else 0
theorem Ji (n:Nat) (a b:Int):BH n a b=some (Pm a b):=by
 unfold BH CM Pm
 simp only [bne_self_eq_false,Option.bind_some,WS,if_false,decide_eq_true_eq]
 split
 ·rfl
 ·split<;>rfl
theorem VK (k:Nat) (a b:Int):DS (k+4) [a,b]=some (if a=0 then b else a):=by
 have s0:Ca (k+4) [a,b] 0=if (a != 0)=true then some (.inr (.inr a)) else some (.inl 1):=rfl
 have s1:Ca (k+4) [a,b] 1=if (b != 0)=true then some (.inr (.inr b)) else some (.inl 2):=rfl
 have s2:Ca (k+4) [a,b] 2=some (.inr (.inl ())):=rfl
 unfold DS
 by_cases ha:a=0
 ·rw [if_neg (by simpa using ha)] at s0
  by_cases hb:b=0
  ·rw [if_neg (by simpa using hb)] at s1
   simp only [Go.AI.whl,s0,s1,s2]
   rw [ha,hb];rfl
  ·rw [if_pos (by simpa using hb)] at s1
   simp only [Go.AI.whl,s0,s1]
   rw [ha];rfl
 ·rw [if_pos (by simpa using ha)] at s0
  simp only [Go.AI.whl,s0]
  rw [if_neg ha];rfl
theorem Ro (k:Nat) (p q:Aa):BC (k+4) p q=some (if Pm p.Y q.Y=0 then Pm p.X q.X else Pm p.Y q.Y):=by
 unfold BC
 rw [Ji,Ji,Option.bind_some,Option.bind_some,VK];rfl
theorem FD (k:Nat):ltC (λ x y=>BC (k+4) x y)=ltB:=by
 funext p q
 have e:BC (k+4) p q=some _:=Ro k p q
 unfold ltC ltB
 simp only [e,Ww]
 refine decide_eq_decide.2 ?_
 unfold Pm ltG
 split<;>split<;>(try split)<;>(try split)<;>omega
theorem Rp (k:Nat):N4 (λ x y=>BC (k+4) x y):={
 tot x y:=by show (BC (k+4) x y).isSome=true;rw [Ro];rfl
 irrefl x:=by rw [FD];exact decide_eq_false (EU x)
 trans x y z:=by rw [FD];exact λ h h'=>decide_eq_true (Hc (of_decide_eq_true h) (of_decide_eq_true h'))
 ntrans x y z:=by
  rw [FD]
  intro h h'
  refine decide_eq_false ?_
  have h:=of_decide_eq_false h
  have h':=of_decide_eq_false h'
  unfold ltG at *;omega
 one x y:=by rw [FD];exact λ h h'=>K1 (of_decide_eq_false h) (of_decide_eq_false h') }
def srt (m:List (Aa×Bool)):List Aa:=EL ltB (m.map Prod.fst)
theorem Rq (x y z:Aa) (h:ltB x y=false) (h':ltB y z=false):ltB x z=false:=(FD 0)▸(Rp 0).ntrans x y z ((FD 0).symm▸h) ((FD 0).symm▸h')
theorem Rr (x y:Aa) (h:ltB x y=true):ltB y x=false:=decide_eq_false λ h'=>EU _ (Hc (of_decide_eq_true h) h')
theorem Nz {l m:List Aa} (h:l.Perm m):EL ltB l=EL ltB m:=
 List.Perm.eq_of_pairwise (le:=λ a b=>ltB b a=false) (λ _ _ _ _ h1 h2=>K1 (of_decide_eq_false h2) (of_decide_eq_false h1)) (Ck Rq Rr l) (Ck Rq Rr m) ((B9 l).trans (h.trans (B9 m).symm))
theorem K2 {m:List (Aa×Bool)} (h:(m.map Prod.fst).Nodup):Inc (srt m):=by
 have h1:(srt m).Nodup:=(B9 (lt:=ltB) (m.map Prod.fst)).nodup_iff.2 h
 have h2:=Ck Rq Rr (m.map Prod.fst)
 refine (List.Pairwise.and h2 h1).imp λ {a b} hh=>?_
 have h3:=of_decide_eq_false hh.1
 rcases Classical.em (ltG a b) with h|h
 ·exact h
 ·exact absurd (K1 h h3) hh.2
theorem K3 {m:List (Aa×Bool)} {p:Aa}:p∈srt m↔p∈m.map Prod.fst:=(B9 (m.map Prod.fst)).mem_iff
theorem H2 (m:List (Aa×Bool)):(srt m).length=m.length:=by
 unfold srt
 rw [(B9 (lt:=ltB) (m.map Prod.fst)).length_eq,WF]
theorem Ka (n:Nat):∀ (ord:List (Aa×Bool)) (x:List Aa),(x.length+ord.length)*16<=70368744177664 ->
  Dm (λ (e:(Aa×Bool)) (x:(List Aa))=>AG n e x) ord x=some (.inl (x++ord.map Prod.fst))
 | [],x,_=>by simp [Dm]
 | e::ord,x,h=>by
  rw [List.length_cons] at h
  have e1:AG n e x=some (.inl (x++[e.1])):=by
   unfold AG EO
   rw [KZ (by simp;omega)];rfl
  unfold Dm
  rw [e1]
  show Dm _ ord (x++[e.1])=_
  rw [Ka n ord _ (by simp;omega)]
  simp
theorem Pn (k:Nat) {m:List (Aa×Bool)} (hl:m.length<=1000000):Cz (k+4) m=some (srt m):=by
 have h1:∃ S,B3 (k+4) m ([]:List Aa)=some S/\(∀ z,S z->z.Perm (m.map Prod.fst))/\S (m.map Prod.fst):=by
  unfold B3
  have hk:∀ a:List (Aa×Bool),a.Perm m->(Dm (λ (e:(Aa×Bool)) (x:(List Aa))=>AG (k+4) e x) a ([]:List Aa))=some (.inl (a.map Prod.fst)):=λ a ha=>by
   have:=ha.length_eq
   rw [Ka _ _ _ (by simp;omega)];rfl
  refine ⟨_,KP λ a ha=>⟨Jx (a.map Prod.fst),by rw [hk a ha];rfl⟩,?_,?_⟩
  ·rintro z ⟨a,Z,ha,hZ,hz⟩
   rw [hk a ha] at hZ
   obtain rfl:Jx (a.map Prod.fst)=Z:=by simpa using hZ
   rw [show z=a.map Prod.fst from hz]
   exact ha.map _
  ·exact ⟨m,Jx (m.map Prod.fst),.refl _,by rw [hk m (.refl _)];rfl,rfl⟩
 obtain ⟨S1,e1,p1,q1⟩:=h1
 have h2:∃ S,EP (k+4) m=some S/\(∀ z,S z->z.Perm (m.map Prod.fst))/\S (m.map Prod.fst):=by
  unfold EP
  rw [e1]
  refine ⟨_,KP (S:=S1) λ a _=>⟨Jx a,rfl⟩,?_,?_⟩
  ·rintro z ⟨a,Z,ha,hZ,hz⟩
   obtain rfl:Jx a=Z:=by simpa using hZ
   rw [show z=a from hz]
   exact p1 a ha
  ·exact ⟨m.map Prod.fst,_,q1,rfl,rfl⟩
 obtain ⟨S2,e2,p2,q2⟩:=h2
 have h3:∃ S,DT (k+4) m=some S/\(∀ z,S z->z.Perm (m.map Prod.fst))/\S (m.map Prod.fst):=by
  unfold DT
  rw [e2]
  refine ⟨_,KP (S:=S2) λ a _=>⟨Jx a,rfl⟩,?_,?_⟩
  ·rintro z ⟨a,Z,ha,hZ,hz⟩
   obtain rfl:Jx a=Z:=by simpa using hZ
   rw [show z=a from hz]
   exact p2 a ha
  ·exact ⟨m.map Prod.fst,_,q2,rfl,rfl⟩
 obtain ⟨S3,e3,p3,q3⟩:=h3
 have h4:Dt (k+4) m=some (srt m):=by
  unfold Dt
  rw [e3]
  refine Tx (S:=S3) ⟨_,q3⟩ λ r hr=>?_
  have hp:=p3 r hr
  have hlen:=hp.length_eq
  rw [WF] at hlen
  unfold I3
  rw [QI (Rp k) r (by omega),FD,Nz hp]
  have:decide (r.length=(srt m).length)=true:=decide_eq_true (by rw [H2];exact hlen)
  show (Dl (decide (r.length=(srt m).length))).bind _=_
  rw [this];rfl
 unfold Cz Dn
 rw [Option.bind_some,h4];rfl
theorem Hd {m:List (Aa×Bool)} (hl:m.length<=1000000):Ev (λ n=>Cz n m) (srt m):=
 ⟨4,λ n hn=>by obtain ⟨k,rfl⟩:∃ k,n=k+4:=⟨n-4,by omega⟩;exact Pn k hl⟩
structure KS (m:List (Aa×Bool)) (N:Nat) (S:Aa->Prop):Prop where
 nd:(m.map Prod.fst).Nodup
 len:m.length<=N
 mem:∀ p,p∈m.map Prod.fst↔S p
theorem Jj (k:Aa):∀ (m:List (Aa×Bool)) (p:Aa),p∈(E9 k true m).map Prod.fst↔p∈m.map Prod.fst\/p=k
 | [],p=>by simp [E9]
 | e::m,p=>by
  unfold E9
  split
  ·rename_i h
   simp only [WG,List.mem_cons]
   rw [← h]
   constructor
   ·rintro (h|h)
    ·exact .inr h
    ·exact .inl (.inr h)
   ·rintro ((h|h)|h)
    ·exact .inl h
    ·exact .inr h
    ·exact .inl h
  ·simp only [WG,List.mem_cons]
   rw [Jj k m p,or_assoc]
theorem N9 (k:Aa):∀ (m:List (Aa×Bool)),(m.map Prod.fst).Nodup->((E9 k true m).map Prod.fst).Nodup
 | [],_=>by simp [E9]
 | e::m,h=>by
  rw [WG,List.nodup_cons] at h
  unfold E9
  split
  ·rename_i h1
   rw [WG,List.nodup_cons,h1];exact h
  ·rename_i h1
   rw [WG,List.nodup_cons]
   refine ⟨λ hh=>?_,N9 k m h.2⟩
   rcases (Jj k m _).1 hh with hh|hh
   ·exact h.1 hh
   ·exact h1 hh.symm
theorem Ms (k:Aa):∀ (m:List (Aa×Bool)),(E9 k true m).length<=m.length+1
 | []=>by simp [E9]
 | e::m=>by
  unfold E9
  split
  ·simp
  ·have:=Ms k m
   rw [List.length_cons,List.length_cons];omega
theorem KS.nil {S:Aa->Prop} (h:∀ p,¬S p):KS [] 0 S:=⟨by simp,by simp,λ p=>by simp [h p]⟩
theorem KS.put {m:List (Aa×Bool)} {N:Nat} {S T:Aa->Prop} (h:KS m N S) (k:Aa) (hT:∀ p,T p↔S p\/p=k):KS (E9 k true m) (N+1) T:=
 ⟨N9 k m h.nd,by have:=Ms k m;have:=h.len;omega,λ p=>by rw [Jj,h.mem,hT]⟩
theorem KS.to {m:List (Aa×Bool)} {N M:Nat} {S T:Aa->Prop} (h:KS m N S) (hM:N<=M) (hT:∀ p,T p↔S p):KS m M T:=
 ⟨h.nd,by have:=h.len;omega,λ p=>by rw [h.mem,hT]⟩
theorem Rs {a b:Aa} (ha:Nr a) (hb:Nr b) {m:List (Aa×Bool)} {N:Nat} {S:Aa->Prop} (hm:KS m N S) :
  Tot (λ n=>H1 n a b m) (λ z=>KS z (N+(Dg a b).length) (λ p=>S p\/p∈Dg a b)):=by
 have hlen:(Dg a b).length<=2001:=by rw [Mp];have:=K0 ha hb;omega
 refine Tot.bindE (Sy ha hb) (Tot.bind (R:=λ z=>KS z (N+(Dg a b).length) (λ p=>S p\/p∈Dg a b)) ?_ λ y hy=>Tot.pure hy)
 generalize Dg a b=L at *
 refine Tot.upto L.length (λ i (x:List (Aa×Bool)×Int)=>x.2=(i:Int)/\KS x.1 (N+i) (λ p=>S p\/p∈L.take i)) ?_ ?_ _ ⟨rfl,hm.to (by omega) (by simp)⟩
 ·rintro i ⟨m1,x⟩ hi ⟨h1,h2⟩
  simp only at h1 h2
  subst h1
  unfold EM
  refine Tot.iteT (decide_eq_true (by omega)) (Tot.bindC (ET hi) (Tot.pure ⟨BZ (by omega),h2.put _ λ p=>?_⟩))
  rw [List.take_succ_eq_append_getElem hi,List.mem_append,List.mem_singleton,or_assoc]
 ·rintro ⟨m1,x⟩ ⟨h1,h2⟩
  simp only at h1 h2
  subst h1
  unfold EM
  exact Tot.iteF (decide_eq_false (by omega)) (Tot.pure (h2.to (by omega) (by simp)))
def lnS (P:List Aa) (i:Nat) (p:Aa):Prop:=∃ j,j<i/\p∈Dg (sd P j).1 (sd P j).2
theorem Mt {P:List Aa} {i:Nat} {p:Aa}:lnS P (i+1) p↔lnS P i p\/p∈Dg (sd P i).1 (sd P i).2:=by
 constructor
 ·rintro ⟨j,hj,h⟩
  rcases Nat.lt_succ_iff_lt_or_eq.1 hj with hj|rfl
  ·exact .inl ⟨j,hj,h⟩
  ·exact .inr h
 ·rintro (⟨j,hj,h⟩|h)
  ·exact ⟨j,by omega,h⟩
  ·exact ⟨i,by omega,h⟩
def lnN (P:List Aa):Nat->Nat
 | 0=>0
 | i+1=>lnN P i+(Dg (sd P i).1 (sd P i).2).length
theorem Jk {P:List Aa} (h:∀ p∈P,Nr p):∀ {i:Nat},i<=P.length->lnN P i<=2001*i
 | 0,_=>by simp [lnN]
 | i+1,hi=>by
  have h1:=Jk h (i:=i) (by omega)
  obtain ⟨h2,h3⟩:=N8 h (show i<P.length by omega)
  have:=K0 h2 h3
  unfold lnN
  rw [Mp];omega
theorem Mv {P:List Aa} (hl:P.length<=400) (h:∀ p∈P,Nr p):Tot (λ n=>FJ n P) (λ z=>KS z (lnN P (P.length-1)) (lnS P (P.length-1))):=by
 refine Tot.bind (R:=λ z=>KS z (lnN P (P.length-1)) (lnS P (P.length-1))) ?_ λ y hy=>Tot.pure hy
 refine Tot.upto (P.length-1) (λ i (x:List (Aa×Bool)×Int)=>x.2=((i+1:Nat):Int)/\KS x.1 (lnN P i) (lnS P i)) ?_ ?_ _ ⟨rfl,KS.nil λ p ⟨j,hj,_⟩=>by omega⟩
 ·rintro i ⟨m1,x⟩ hi ⟨h1,h2⟩
  simp only at h1 h2
  subst h1
  unfold Ds
  have e:B8 .i64 ((i+1:Nat):Int) 1=((i:Nat):Int):=(E7 (by omega) (by omega)).trans (by omega)
  obtain ⟨n1,n2⟩:=N8 h (show i<P.length by omega)
  have e2:(sd P i).2=P.getD (i+1) default:=by
   show P.getD ((i+1) % P.length) default=_
   rw [Nat.mod_eq_of_lt (by omega)]
  refine Tot.iteT (decide_eq_true (by omega)) (Tot.bindC (y:=(sd P i).1) (by rw [e];exact D7 (by omega)) (Tot.bindC (y:=(sd P i).2) (by rw [e2];exact D7 (by omega)) (Tot.bind (Rs n1 n2 h2) λ y hy=>Tot.pure ⟨BZ (by omega),hy.to (Wz _) λ p=>Mt⟩)))
 ·rintro ⟨m1,x⟩ ⟨h1,h2⟩
  simp only at h1 h2
  subst h1
  unfold Ds
  exact Tot.iteF (decide_eq_false (by omega)) (Tot.pure h2)
theorem Kb {P:List Aa} (hl:P.length<=400) (h:∀ p∈P,Nr p):Tot (λ n=>EQ n P) (λ z=>KS z (lnN P P.length) (lnS P P.length)):=by
 refine Tot.bind (Mv hl h) λ m hm=>?_
 cases hP:P with
 | nil=>subst hP;exact Tot.iteF rfl (Tot.pure hm)
 | cons a r=>
  rw [← hP]
  obtain ⟨N,hN⟩:∃ N,P.length=N+1:=⟨P.length-1,by rw [hP];simp⟩
  have e:B8 .i64 ((P.length:Nat):Int) 1=((N:Nat):Int):=(E7 (by omega) (by omega)).trans (by omega)
  obtain ⟨n1,n2⟩:=N8 h (show N<P.length by omega)
  have e2:(sd P N).2=P.getD 0 default:=by
   show P.getD ((N+1) % P.length) default=_
   rw [hN,Nat.mod_self]
  have e3:P.length-1=N:=by omega
  rw [e3] at hm
  refine Tot.iteT (decide_eq_true (by omega)) (Tot.bindC (y:=(sd P N).1) (by rw [e];exact D7 (by omega)) (Tot.bindC (y:=(sd P N).2) (by rw [e2];exact D7 (i:=0) (by omega)) (Tot.bind (Rs n1 n2 hm) λ y hy=>Tot.pure ?_)))
  rw [hN]
  exact hy.to (Wz _) λ p=>Mt
end Go.AI
end
section
namespace Go.AI
def Bx (p:Aa):Prop:=(0<=p.X/\p.X<60)/\0<=p.Y/\p.Y<60
theorem Bx.nr {p:Aa} (h:Bx p):Nr p:=by unfold Bx at h;unfold Nr;omega
theorem NA (a b:Aa):((a.X==b.X)&&((a.Y==b.Y)&&true))=decide (a=b):=by
 cases a;cases b
 rw [Bool.eq_iff_iff]
 simp
theorem SB {a b:List Aa} (ha:a.length<=1000000):Ev (λ n=>Ei n a b) (decide (a=b)):=by
 refine Tot.ev (Tot.ite (λ h=>Tot.pure ?_) λ h=>?_)
 ·symm
  refine decide_eq_false λ e=>?_
  subst e
  simp at h
 ·have hlen:a.length=b.length:=by
   simp only [bne_eq_false_iff_eq] at h
   omega
  refine Tot.bind (R:=λ y=>y=if a=b then .inl () else .inr false) ?_ λ y hy=>?_
  ·refine Tot.upto a.length (λ i (x:Int)=>x=(i:Int)/\∀ j,j<i->a[j]? = b[j]?) ?_ ?_ _ ⟨rfl,λ j hj=>by omega⟩
   ·rintro i _ hi ⟨rfl,hj⟩
    unfold Du
    refine Tot.iteT (decide_eq_true (by omega)) (Tot.bindC (ET hi) (Tot.bindC (ET (show i<b.length by omega)) ?_))
    rw [NA]
    refine Tot.ite (λ hb=>Tot.pure ?_) λ hb=>Tot.pure ⟨BZ (by omega),λ j hj'=>?_⟩
    ·show _=_
     rw [if_neg]
     intro e
     subst e
     simp at hb
    ·rcases Nat.lt_succ_iff_lt_or_eq.1 hj' with h|rfl
     ·exact hj j h
     ·simp at hb
      rw [WH hi,WH (show j<b.length by omega),hb]
   ·rintro _ ⟨rfl,hj⟩
    unfold Du
    refine Tot.iteF (decide_eq_false (by omega)) (Tot.pure ?_)
    show _=_
    rw [if_pos]
    refine List.ext_getElem? λ j=>?_
    rcases WA j a.length with h|h
    ·exact hj j h
    ·rw [List.getElem?_eq_none h,List.getElem?_eq_none (by omega)]
  ·subst hy
   split
   ·rename_i heq
    split at heq
    ·rename_i e;exact Tot.pure (by rw [decide_eq_true e])
    ·cases heq
   ·rename_i heq
    split at heq
    ·cases heq
    ·rename_i e;cases heq;exact Tot.pure (by rw [decide_eq_false e])
theorem UC {l:List Aa} (q:Aa) (hl:l.length<=1000000):Ev (λ n=>I4 n l q) (decide (q∈l)):=by
 refine Tot.ev (Tot.bind (R:=λ y=>y=if q∈l then .inr true else .inl ()) ?_ λ y hy=>?_)
 ·refine Tot.upto l.length (λ i (x:Int)=>x=(i:Int)/\q ∉ l.take i) ?_ ?_ _ ⟨rfl,by simp⟩
  ·rintro i _ hi ⟨rfl,hj⟩
   unfold DV
   refine Tot.iteT (decide_eq_true (by omega)) (Tot.bindC (ET hi) ?_)
   rw [NA]
   refine Tot.ite (λ hb=>Tot.pure ?_) λ hb=>Tot.pure ⟨BZ (by omega),?_⟩
   ·show _=_
    rw [if_pos]
    rw [← of_decide_eq_true hb]
    exact Wx _
   ·rw [List.take_succ_eq_append_getElem hi,List.mem_append,List.mem_singleton]
    rintro (h|h)
    ·exact hj h
    ·exact of_decide_eq_false hb h.symm
  ·rintro _ ⟨rfl,hj⟩
   unfold DV
   refine Tot.iteF (decide_eq_false (by omega)) (Tot.pure ?_)
   show _=_
   rw [if_neg]
   rw [List.take_length] at hj
   exact hj
 ·subst hy
  split
  ·rename_i heq
   split at heq
   ·cases heq
   ·rename_i e;exact Tot.pure (by rw [decide_eq_false e])
  ·rename_i heq
   split at heq
   ·rename_i e;cases heq;exact Tot.pure (by rw [decide_eq_true e])
   ·cases heq
end Go.AI
end
section
namespace Go.AI
instance (p:Aa):Decidable (Bx p):=by unfold Bx;infer_instance
def FY (f:Ag):Bool:=
 if (f.Kind==1)=true then decide (f.P.length=1)&&(f.Texture==0)
 else if (f.Kind==2)=true then decide (f.P.length>=2)&&(f.Texture==0)
 else if (f.Kind==3)=true then (decide (f.P.length>=3)&&decide (f.Texture>=0))&&decide (f.Texture<=3)
 else false
def HS (f:Ag):Bool:=if (∀ p∈f.P,Bx p)/\f.P.length<=12 then FY f else false
theorem SV {f:Ag} (h:(∀ p∈f.P,Bx p)/\f.P.length<=12):HS f=FY f:=if_pos h
theorem VL {f:Ag} (h:¬((∀ p∈f.P,Bx p)/\f.P.length<=12)):HS f=false:=if_neg h
theorem Kc {f:Ag} (h:f.P.length=0):FY f=false:=by
 unfold FY
 rw [h]
 split
 ·rfl
 ·split
  ·rfl
  ·split<;>rfl
theorem Po {f:Ag}:Tot (λ _=>if (f.Kind==1)=true then
    some ((((f.P.length:Nat):Int)==1)&&(f.Texture==0))
   else
    if (f.Kind==2)=true then
     some ((decide (((f.P.length:Nat):Int)>=2))&&(f.Texture==0))
    else
     if (f.Kind==3)=true then
      some (((decide (((f.P.length:Nat):Int)>=3))&&(decide (f.Texture>=0)))&&(decide (f.Texture<=3)))
     else
      some false) (λ y=>y=FY f):=by
 have e1:(((f.P.length:Nat):Int)==1)=decide (f.P.length=1):=by rw [Bool.eq_iff_iff];simp;omega
 have e2:decide (((f.P.length:Nat):Int)>=2)=decide (f.P.length>=2):=decide_eq_decide.2 (by omega)
 have e3:decide (((f.P.length:Nat):Int)>=3)=decide (f.P.length>=3):=decide_eq_decide.2 (by omega)
 rw [e1,e2,e3]
 unfold FY
 cases (f.Kind==1) with
 | true=>exact Tot.pure rfl
 | false=>
  cases (f.Kind==2) with
  | true=>exact Tot.pure rfl
  | false=>
   cases (f.Kind==3) with
   | true=>exact Tot.pure rfl
   | false=>exact Tot.pure rfl
theorem GL (f:Ag):Ev (λ n=>BW n f) (HS f):=by
 refine Tot.ev (Tot.ite (λ h=>Tot.pure ?_) λ h=>?_)
 ·rw [WX,decide_eq_true_eq,decide_eq_true_eq] at h
  unfold HS
  split
  ·rw [Kc (by omega)]
  ·rfl
 ·rw [Bool.or_eq_false_iff,decide_eq_false_iff_not,decide_eq_false_iff_not] at h
  refine Tot.bind (R:=λ y=>y=if (∀ p∈f.P,Bx p) then .inl () else .inr false) ?_ λ y hy=>?_
  ·refine Tot.upto f.P.length (λ i (x:Int)=>x=(i:Int)/\∀ p∈f.P.take i,Bx p) ?_ ?_ _ ⟨rfl,by simp⟩
   ·rintro i _ hi ⟨rfl,hj⟩
    unfold Dr
    refine Tot.iteT (decide_eq_true (by omega)) (Tot.bindC (ET hi) (Tot.ite (λ hb=>Tot.pure ?_) λ hb=>Tot.pure ⟨BZ (by omega),?_⟩))
    ·show _=_
     rw [if_neg]
     intro hh
     have:=hh _ (Wx hi)
     simp only [WX,decide_eq_true_eq] at hb
     unfold Bx at this
     omega
    ·rw [List.take_succ_eq_append_getElem hi]
     intro p hp
     rw [List.mem_append,List.mem_singleton] at hp
     rcases hp with hp|rfl
     ·exact hj p hp
     ·simp only [Bool.or_eq_false_iff,decide_eq_false_iff_not] at hb
      unfold Bx;omega
   ·rintro _ ⟨rfl,hj⟩
    unfold Dr
    refine Tot.iteF (decide_eq_false (by omega)) (Tot.pure ?_)
    show _=_
    rw [List.take_length] at hj
    rw [if_pos hj]
  ·subst hy
   by_cases hh:∀ p∈f.P,Bx p
   ·rw [if_pos hh,SV ⟨hh,by omega⟩]
    exact Po
   ·rw [if_neg hh,VL (λ h=>hh h.1)]
    exact Tot.pure rfl
def Fb (k:Int) (p:Aa):Bool:=((k==3)||((k==2)&&(p.Y % 2==0)))||((k==1)&&((p.X+p.Y) % 2==0))
theorem Rt (n:Nat) (k:Int) {p:Aa} (h:Bx p):Dw n k p=some (Fb k p):=by
 unfold Bx at h
 unfold Dw Fb
 rw [GK (by omega) (by omega),(BX (a:=p.Y) (by omega) (by omega)).1,(BX (a:=p.X+p.Y) (by omega) (by omega)).1]
theorem UD (n:Nat) {k:Int} (h:0<=k) (h':k<=3):DU n k=some (46+k.toNat):=by
 unfold DU
 rcases (by omega:k=0\/k=1\/k=2\/k=3) with rfl|rfl|rfl|rfl<;>rfl
theorem SC (n:Nat) {k:Int} (h:0<=k) (h':k<=3) {p:Aa} (hp:Bx p):GE n (46+k.toNat) p=some (Fb k p):=by
 unfold Bx at hp
 have e1:Cl n p=some ((p.X+p.Y) % 2==0):=by
  unfold Cl
  rw [GK (by omega) (by omega),(BX (a:=p.X+p.Y) (by omega) (by omega)).1]
 have e2:Cm n p=some (p.Y % 2==0):=by
  unfold Cm
  rw [(BX (a:=p.Y) (by omega) (by omega)).1]
 rcases (by omega:k=0\/k=1\/k=2\/k=3) with rfl|rfl|rfl|rfl
 ·rfl
 ·show Cl n p=_
  rw [e1];rfl
 ·show Cm n p=_
  rw [e2];unfold Fb;simp
 ·rfl
def arS (P:List Aa) (k:Int) (p:Aa):Prop:=lnS P P.length p\/(Fb k p=true/\Gd P p=true)
theorem UE {P:List Aa} {i:Nat} {p m n:Aa} (hi:i<=P.length) (h:∀ p∈P,In m n p) (hp:lnS P i p):In m n p:=by
 obtain ⟨j,hj,hp⟩:=hp
 exact Sz hp (h _ (Mo P (by omega))) (h _ (Mo P (Nat.mod_lt _ (by omega))))
theorem UF {f:Ag} {d:List (Aa×Bool)} (h:∀ p∈f.P,Bx p) (hl:f.P.length<=12) (h0:0<f.P.length) :
  Tot (λ n=>whl (λ (x:(Aa×Aa×Int))=>Cn n f d x.1 x.2.1 x.2.2) n (f.P.getD 0 default,f.P.getD 0 default,0)) (λ y=>(Bx y.1/\Bx y.2)/\∀ p∈f.P,In y.1 y.2 p):=by
 have hb:=h _ (Mo f.P h0)
 refine Tot.upto f.P.length (λ i (x:Aa×Aa×Int)=>x.2.2=(i:Int)/\(Bx x.1/\Bx x.2.1)/\∀ p∈f.P.take i,In x.1 x.2.1 p) ?_ ?_ _ ⟨rfl,⟨hb,hb⟩,by simp⟩
 ·rintro i ⟨lo,hi,x⟩ hi' ⟨h1,h2,h3⟩
  simp only at h1 h2 h3
  subst h1
  unfold Cn
  refine Tot.iteT (decide_eq_true (by show (i:Int)<(f.P.length:Int);omega)) (Tot.bindC (ET hi') (Tot.pure ⟨BZ (by omega),?_,?_⟩))
  ·have:=h _ (Wx hi')
   unfold Bx at h2 this ⊢
   simp only
   omega
  ·rw [List.take_succ_eq_append_getElem hi']
   intro p hp
   rw [List.mem_append,List.mem_singleton] at hp
   rcases hp with hp|rfl
   ·have:=h3 p hp
    unfold In at this ⊢
    simp only
    omega
   ·unfold In;simp only;omega
 ·rintro ⟨lo,hi,x⟩ ⟨h1,h2,h3⟩
  simp only at h1 h2 h3
  subst h1
  unfold Cn
  refine Tot.iteF (decide_eq_false (by show ¬((f.P.length:Int)<(f.P.length:Int));omega)) (Tot.pure ⟨h2,?_⟩)
  rw [List.take_length] at h3
  exact h3
theorem SD {f:Ag} (hv:HS f=true) (hk:f.Kind=1):Ev (λ n=>Bb n f) [f.P.getD 0 default]:=by
 refine Tot.ev (Tot.bindE (GL f) (Tot.iteF (by rw [hv];rfl) (Tot.iteT (by rw [hk];rfl) (Tot.bindC (y:=f.P.getD 0 default) ?_ (Tot.pure rfl)))))
 refine D7 (i:=0) ?_
 unfold HS at hv
 split at hv
 ·exact Nat.pos_of_ne_zero λ h=>by rw [Kc h] at hv;cases hv
 ·cases hv
theorem Ru {f:Ag} (hv:HS f=true):(∀ p∈f.P,Bx p)/\f.P.length<=12/\FY f=true:=by
 unfold HS at hv
 split at hv
 ·rename_i h;exact ⟨h.1,h.2,hv⟩
 ·cases hv
theorem SE {f:Ag} (hv:HS f=true) (hk:f.Kind=2) :
  Tot (λ n=>Bb n f) (λ r=>Inc r/\r.length<=lnN f.P (f.P.length-1)/\∀ p,p∈r↔lnS f.P (f.P.length-1) p):=by
 obtain ⟨hb,hl,_⟩:=Ru hv
 refine Tot.bindE (GL f) (Tot.iteF (by rw [hv];rfl) (Tot.iteF (by rw [hk];rfl) (Tot.iteT (by rw [hk];rfl) (Tot.bind (Mv (by omega) (λ p hp=>(hb p hp).nr)) λ m hm=>?_))))
 have h1:=Jk (λ p hp=>(hb p hp).nr) (i:=f.P.length-1) (by omega)
 have h2:=hm.len
 refine Tot.bindE (Hd (by omega)) (Tot.pure ⟨K2 hm.nd,by rw [H2];exact h2,λ p=>by rw [K3,hm.mem]⟩)
theorem Jl {P:List Aa} (hl:P.length<=12) (hb:∀ p∈P,Nr p):Tot (λ n=>Df n P) (λ r=>Inc r/\r.length<=lnN P P.length/\∀ p,p∈r↔lnS P P.length p):=by
 refine Tot.bind (Kb (by omega) hb) λ m hm=>?_
 have h1:=Jk hb (i:=P.length) (by omega)
 have h2:=hm.len
 exact Tot.bindE (Hd (by omega)) (Tot.pure ⟨K2 hm.nd,by rw [H2];exact h2,λ p=>by rw [K3,hm.mem]⟩)
theorem K4 {f:Ag} (hv:HS f=true) (hk:f.Kind=3) :
  Tot (λ n=>Bb n f) (λ r=>Inc r/\r.length<=100000/\∀ p,p∈r↔arS f.P f.Texture p):=by
 obtain ⟨hb,hl,hK⟩:=Ru hv
 have hK:3<=f.P.length/\0<=f.Texture/\f.Texture<=3:=by
  unfold FY at hK
  rw [hk] at hK
  simp only [show ((3:Int)==1)=false from rfl,show ((3:Int)==2)=false from rfl,show ((3:Int)==3)=true from rfl,WS,if_false,if_true,WI,decide_eq_true_eq] at hK
  omega
 obtain ⟨hK,t1,t2⟩:=hK
 refine Tot.bindE (GL f) (Tot.iteF (by rw [hv];rfl) (Tot.iteF (by rw [hk];rfl) (Tot.iteF (by rw [hk];rfl) (Tot.bind (Kb (by omega) (λ p hp=>(hb p hp).nr)) λ m hm=>?_))))
 refine Tot.bindC (D7 (i:=0) (by omega)) (Tot.bindC (D7 (i:=0) (by omega)) (Tot.bind (UF hb hl (by omega)) ?_))
 rintro ⟨lo,hi⟩ ⟨⟨b1,b2⟩,hin⟩
 simp only at b1 b2 hin
 refine Tot.bindA (λ n=>UD n t1 t2) ?_
 have h1:=Jk (λ p hp=>(hb p hp).nr) (i:=f.P.length) (by omega)
 generalize lnN f.P f.P.length=N at hm h1
 have hD:∀ p,In lo hi p->∀ (n:Nat),GE n (46+f.Texture.toNat) p=some (Fb f.Texture p):=λ p hp n=>SC n t1 t2 (by unfold In at hp;unfold Bx at *;omega)
 refine Tot.bind (R:=λ z=>KS z (N+60*60) (λ p=>arS f.P f.Texture p)) ?_ λ z hz=>?_
 ·refine (Tot.upto (hi.Y-lo.Y+1).toNat (λ i (x:List (Aa×Bool)×Int)=>x.2=lo.Y+(i:Int)/\KS x.1 (N+60*i) (λ p=>lnS f.P f.P.length p\/((In lo hi p/\p.Y<lo.Y+(i:Int))/\Fb f.Texture p=true/\Gd f.P p=true))) (P:=λ z=>KS z (N+60*60) (λ p=>arS f.P f.Texture p)) ?_ ?_ _ ⟨by show lo.Y=_;omega,hm.to (by omega) λ p=>⟨λ h=>?_,.inl⟩⟩)
  ·rintro i ⟨d,x⟩ hi' ⟨h1,h2⟩
   simp only at h1 h2
   subst h1
   unfold C6
   refine Tot.iteT (decide_eq_true (by show lo.Y+(i:Int)<=hi.Y;omega)) (Tot.bind (R:=λ z=>KS z (N+60*(i+1)) (λ p=>lnS f.P f.P.length p\/((In lo hi p/\p.Y<lo.Y+((i+1:Nat):Int))/\Fb f.Texture p=true/\Gd f.P p=true))) ?_ λ z hz=>Tot.pure ⟨?_,hz⟩)
   ·refine Tot.upto (hi.X-lo.X+1).toNat (λ j (x:List (Aa×Bool)×Int)=>x.2=lo.X+(j:Int)/\KS x.1 (N+60*i+j) (λ p=>lnS f.P f.P.length p\/((In lo hi p/\ltG p ⟨lo.X+(j:Int),lo.Y+(i:Int)⟩)/\Fb f.Texture p=true/\Gd f.P p=true))) ?_ ?_ _ ⟨by show lo.X=_;omega,h2.to (by omega) λ p=>?_⟩
    ·rintro j ⟨d,x⟩ hj ⟨h1,h2⟩
     simp only at h1 h2
     subst h1
     unfold C5 C4
     have hq:In lo hi ⟨lo.X+(j:Int),lo.Y+(i:Int)⟩:=by unfold In;simp only;omega
     have hqb:Bx ⟨lo.X+(j:Int),lo.Y+(i:Int)⟩:=by unfold Bx at b1 b2;unfold In at hq;unfold Bx;simp only at *;omega
     have hst:∀ p:Aa,ltG p ⟨lo.X+((j+1:Nat):Int),lo.Y+(i:Int)⟩↔ltG p ⟨lo.X+(j:Int),lo.Y+(i:Int)⟩\/p=⟨lo.X+(j:Int),lo.Y+(i:Int)⟩:=λ p=>by
      cases p;unfold ltG;simp only [Aa.mk.injEq];omega
     have e64:Bm .i64 (lo.X+(j:Int)) 1=lo.X+((j+1:Nat):Int):=by unfold Bx at b1 b2;rw [GK (by omega) (by omega)];omega
     refine Tot.iteT (decide_eq_true (by show lo.X+(j:Int)<=hi.X;omega)) (Tot.bindA (hD _ hq) ?_)
     refine Tot.bind (R:=λ b=>b=(Fb f.Texture ⟨lo.X+(j:Int),lo.Y+(i:Int)⟩&&Gd f.P ⟨lo.X+(j:Int),lo.Y+(i:Int)⟩)) ?_ λ b hbb=>?_
     ·cases Fb f.Texture ⟨lo.X+(j:Int),lo.Y+(i:Int)⟩ with
      | true=>exact Tot.iteT rfl ((Hb (by omega) (λ p hp=>(hb p hp).nr) hqb.nr).tot rfl)
      | false=>exact Tot.iteF rfl (Tot.pure rfl)
     ·subst hbb
      rw [show (Fb f.Texture ⟨lo.X+(j:Int),lo.Y+(i:Int)⟩&&(Fb f.Texture ⟨lo.X+(j:Int),lo.Y+(i:Int)⟩&&Gd f.P ⟨lo.X+(j:Int),lo.Y+(i:Int)⟩))=(Fb f.Texture ⟨lo.X+(j:Int),lo.Y+(i:Int)⟩&&Gd f.P ⟨lo.X+(j:Int),lo.Y+(i:Int)⟩) from by cases Fb f.Texture ⟨lo.X+(j:Int),lo.Y+(i:Int)⟩<;>rfl]
      refine Tot.ite (λ hc=>Tot.pure ⟨e64,h2.put _ λ p=>?_⟩) λ hc=>Tot.pure ⟨e64,h2.to (by omega) λ p=>?_⟩
      ·rw [WI] at hc
       rw [hst]
       constructor
       ·rintro (h|⟨⟨h,h'|h'⟩,h''⟩)
        ·exact .inl (.inl h)
        ·exact .inl (.inr ⟨⟨h,h'⟩,h''⟩)
        ·exact .inr h'
       ·rintro ((h|⟨⟨h,h'⟩,h''⟩)|rfl)
        ·exact .inl h
        ·exact .inr ⟨⟨h,.inl h'⟩,h''⟩
        ·exact .inr ⟨⟨hq,.inr rfl⟩,hc⟩
      ·rw [hst]
       constructor
       ·rintro (h|⟨⟨h,h'|rfl⟩,h''⟩)
        ·exact .inl h
        ·exact .inr ⟨⟨h,h'⟩,h''⟩
        ·rw [h''.1,h''.2] at hc;cases hc
       ·rintro (h|⟨⟨h,h'⟩,h''⟩)
        ·exact .inl h
        ·exact .inr ⟨⟨h,.inl h'⟩,h''⟩
    ·rintro ⟨d,x⟩ ⟨h1,h2⟩
     simp only at h1 h2
     subst h1
     unfold C5
     refine Tot.iteF (decide_eq_false (by show ¬(lo.X+((hi.X-lo.X+1).toNat:Int)<=hi.X);omega)) (Tot.pure (h2.to (by unfold Bx at b1 b2;omega) λ p=>?_))
     have:In lo hi p->(ltG p ⟨lo.X+((hi.X-lo.X+1).toNat:Int),lo.Y+(i:Int)⟩↔p.Y<lo.Y+((i+1:Nat):Int)):=λ h=>by
      unfold In at h;unfold ltG;simp only;omega
     constructor
     ·rintro (h|⟨⟨h,h'⟩,h''⟩)
      ·exact .inl h
      ·exact .inr ⟨⟨h,(this h).2 h'⟩,h''⟩
     ·rintro (h|⟨⟨h,h'⟩,h''⟩)
      ·exact .inl h
      ·exact .inr ⟨⟨h,(this h).1 h'⟩,h''⟩
    ·have:In lo hi p->(ltG p ⟨lo.X+((0:Nat):Int),lo.Y+(i:Int)⟩↔p.Y<lo.Y+(i:Int)):=λ h=>by
      unfold In at h;unfold ltG;simp only;omega
     constructor
     ·rintro (h|⟨⟨h,h'⟩,h''⟩)
      ·exact .inl h
      ·exact .inr ⟨⟨h,(this h).1 h'⟩,h''⟩
     ·rintro (h|⟨⟨h,h'⟩,h''⟩)
      ·exact .inl h
      ·exact .inr ⟨⟨h,(this h).2 h'⟩,h''⟩
   ·show Bm .i64 (lo.Y+(i:Int)) 1=_
    unfold Bx at b1 b2
    rw [GK (by omega) (by omega)];omega
  ·rintro ⟨d,x⟩ ⟨h1,h2⟩
   simp only at h1 h2
   subst h1
   unfold C6
   refine Tot.iteF (decide_eq_false (by show ¬(lo.Y+((hi.Y-lo.Y+1).toNat:Int)<=hi.Y);omega)) (Tot.pure (h2.to (by unfold Bx at b1 b2;omega) λ p=>?_))
   constructor
   ·rintro (h|⟨h',h''⟩)
    ·exact .inl h
    ·have h:=Ny hin h''
     exact .inr ⟨⟨h,by unfold In at h;omega⟩,h',h''⟩
   ·rintro (h|⟨_,h''⟩)
    ·exact .inl h
    ·exact .inr h''
  ·rcases h with h|⟨⟨h,h'⟩,_⟩
   ·exact h
   ·unfold In at h;omega
 ·have:=hz.len
  exact Tot.bindE (Hd (by omega)) (Tot.pure ⟨K2 hz.nd,by rw [H2];omega,λ p=>by rw [K3,hz.mem]⟩)
end Go.AI
end
section
namespace Go.AI
def U8 (n:Int):Prop:=0<=n/\n<256
structure Rv (r:GC):Prop where
 k:U8 r.Kind
 t:U8 r.Texture
 l:∀ a∈r.L,U8 a.a0/\U8 a.a1
def Sm (p:Aa):Prop:=(0<=p.X/\p.X<24)/\0<=p.Y/\p.Y<24
theorem Sm.bx {p:Aa} (h:Sm p):Bx p:=by unfold Sm at h;unfold Bx;omega
structure UG (f:Ag):Prop where
 kind:f.Kind=1\/f.Kind=2\/f.Kind=3
 sm:∀ p∈f.P,Sm p
 len:f.P.length<=6
 spot:f.Kind=1->f.P.length=1/\f.Texture=0
 path:f.Kind=2->2<=f.P.length/\f.Texture=0
 area:f.Kind=3->3<=f.P.length/\0<=f.Texture/\f.Texture<=3
theorem UG.bx {f:Ag} (h:UG f):∀ p∈f.P,Bx p:=λ p hp=>(h.sm p hp).bx
theorem UH {f:Ag} (h:f.Kind=3):FY f=((decide (f.P.length>=3)&&decide (f.Texture>=0))&&decide (f.Texture<=3)):=by unfold FY;rw [h];rfl
theorem SW {a:Int} (h:U8 a):0<=IntKind.i64.wrap (BL a 24)/\IntKind.i64.wrap (BL a 24)<24:=by
 unfold U8 at h
 obtain ⟨h1,h2,h3⟩:=BX (a:=a) (m:=24) (by omega) (by omega)
 rw [w64 (by omega) (by omega)]
 exact ⟨h2,h3⟩
theorem NB {L:List (Pb Int)} (h:∀ a∈L,U8 a.a0/\U8 a.a1):Tot (λ n=>ES n L 6) (λ z=>z.length<=6/\∀ p∈z,Sm p):=by
 refine Tot.bind (R:=λ z=>z.length<=6/\∀ p∈z,Sm p) ?_ λ y hy=>Tot.pure hy
 refine Tot.upto (min L.length 6) (λ i (x:List Aa×Int)=>x.2=(i:Int)/\x.1.length=i/\∀ p∈x.1,Sm p) ?_ ?_ _ ⟨rfl,rfl,by simp⟩
 ·rintro i ⟨l,x⟩ hi ⟨h1,h2,h3⟩
  simp only at h1 h2 h3
  subst h1
  unfold Ct
  have hlt:i<L.length:=by omega
  have hm:=h _ (Wx hlt)
  refine Tot.iteT (by rw [WI,decide_eq_true_eq,decide_eq_true_eq];omega) (Tot.bindC (ET hlt) (Tot.bindC (ET hlt) (Tot.bindC (KZ (by simp;omega)) (Tot.pure ⟨BZ (by omega),by simp;omega,λ p hp=>?_⟩))))
  rw [List.mem_append,List.mem_singleton] at hp
  rcases hp with hp|rfl
  ·exact h3 p hp
  ·exact ⟨SW hm.1,SW hm.2⟩
 ·rintro ⟨l,x⟩ ⟨h1,h2,h3⟩
  simp only at h1 h2 h3
  subst h1
  unfold Ct
  exact Tot.iteF (by rw [Bool.and_eq_false_iff,decide_eq_false_iff_not,decide_eq_false_iff_not];omega) (Tot.pure ⟨by show l.length<=6;omega,h3⟩)
theorem SF {r:GC} (h:Rv r):Tot (λ n=>G2 n r) (λ f=>UG f/\(r.Kind=1->f.Kind=2)/\(r.Kind=2->f.Kind=3)):=by
 refine Tot.bind (NB h.l) λ c hc=>?_
 refine Tot.bind (R:=λ l=>(3<=l.length/\l.length<=6)/\∀ p∈l,Sm p) ?_ λ l hl=>?_
 ·refine Tot.upto (3-c.length) (λ i (l:List Aa)=>l.length=c.length+i/\∀ p∈l,Sm p) ?_ ?_ _ ⟨by omega,hc.2⟩
  ·rintro i l hi ⟨h1,h2⟩
   unfold Dv
   have hlen:l.length=0\/l.length=1\/l.length=2:=by omega
   refine Tot.iteT (decide_eq_true (by omega)) (Tot.bindC (KZ (by simp;omega)) (Tot.pure ⟨by simp;omega,λ p hp=>?_⟩))
   rw [List.mem_append,List.mem_singleton] at hp
   rcases hp with hp|rfl
   ·exact h2 p hp
   ·rcases hlen with e|e|e<;>rw [e]<;>exact ⟨⟨by decide,by decide⟩,by decide,by decide⟩
  ·rintro l ⟨h1,h2⟩
   unfold Dv
   exact Tot.iteF (decide_eq_false (by omega)) (Tot.pure ⟨by omega,h2⟩)
 ·have hk:=h.k
  have ht:=h.t
  unfold U8 at hk ht
  obtain ⟨k1,k2,k3⟩:=BX (a:=r.Kind) (m:=3) (by omega) (by omega)
  refine Tot.ite (λ hb=>?_) λ hb=>Tot.ite (λ hb'=>?_) λ hb'=>?_
  ·rw [beq_iff_eq,k1] at hb
   refine Tot.bindC (N6 (k:=1) (by omega)) (Tot.pure ⟨⟨.inl rfl,λ p hp=>hl.2 p (List.mem_of_mem_take hp),?_,λ _=>⟨?_,rfl⟩,λ h=>?_,λ h=>?_⟩,λ h=>by omega,λ h=>by omega⟩)
   ·simp only [List.length_take];omega
   ·simp only [List.length_take];omega
   ·cases h
   ·cases h
  ·rw [beq_iff_eq,k1] at hb'
   have e1:B8 .i64 ((l.length:Nat):Int) 1=((l.length-1:Nat):Int):=(E7 (by omega) (by omega)).trans (by omega)
   obtain ⟨t1,t2,t3⟩:=BX (a:=r.Texture) (m:=((l.length-1:Nat):Int)) (by omega) (by omega)
   have e2:Bm .i64 2 (BL (IntKind.i64.wrap r.Texture) ((l.length-1:Nat):Int))=(((2+BL r.Texture ((l.length-1:Nat):Int)).toNat:Nat):Int):=by
    rw [w64 (by omega) (by omega),GK (by omega) (by omega)];omega
   rw [e1,e2]
   refine Tot.bindC (J9 (VH (by omega))) (Tot.bindC (N6 (by omega)) (Tot.pure ⟨⟨.inr (.inl rfl),λ p hp=>hl.2 p (List.mem_of_mem_take hp),?_,λ h=>?_,λ _=>⟨?_,rfl⟩,λ h=>?_⟩,λ _=>rfl,λ h=>by omega⟩))
   ·simp only [List.length_take];omega
   ·cases h
   ·simp only [List.length_take];omega
   ·cases h
  ·rw [beq_eq_false_iff_ne,k1] at hb hb'
   obtain ⟨t1,t2,t3⟩:=BX (a:=r.Texture) (m:=4) (by omega) (by omega)
   refine Tot.pure ⟨⟨.inr (.inr rfl),hl.2,hl.1.2,λ h=>?_,λ h=>?_,λ _=>⟨hl.1.1,?_⟩⟩,λ h=>by omega,λ _=>rfl⟩
   ·cases h
   ·cases h
   ·show 0<=IntKind.i64.wrap _/\IntKind.i64.wrap _<=3
    rw [w64 (by omega) (by omega)];omega
theorem Mw {P:List Aa} {i:Nat} {p:Aa}:lnS P i p↔p∈(List.range i).flatMap λ j=>Dg (sd P j).1 (sd P j).2:=by
 rw [List.mem_flatMap]
 constructor
 ·rintro ⟨j,hj,h⟩;exact ⟨j,List.mem_range.2 hj,h⟩
 ·rintro ⟨j,hj,h⟩;exact ⟨j,List.mem_range.1 hj,h⟩
theorem Oa {l m:List Aa} (h1:∀ p∈l,p∈m) (h2:∀ p∈m,p∈l) {p:Aa}:p∈l↔p∈m:=⟨h1 p,h2 p⟩
instance (p q r:Aa):Decidable (In p q r):=by unfold In;infer_instance
def sqP:List Aa:=[⟨0,0⟩,⟨2,0⟩,⟨2,2⟩,⟨0,2⟩]
def sq8:List Aa:=[⟨0,0⟩,⟨1,0⟩,⟨2,0⟩,⟨0,1⟩,⟨2,1⟩,⟨0,2⟩,⟨1,2⟩,⟨2,2⟩]
def sq9:List Aa:=[⟨0,0⟩,⟨1,0⟩,⟨2,0⟩,⟨0,1⟩,⟨1,1⟩,⟨2,1⟩,⟨0,2⟩,⟨1,2⟩,⟨2,2⟩]
theorem Mx {p:Aa}:lnS sqP 4 p↔p∈sq8:=by
 rw [Mw]
 exact Oa (by decide) (by decide)
theorem VM:∀ p∈sq8,p∈sq9:=by decide
theorem VN:∀ p∈sqP,In ⟨0,0⟩ ⟨2,2⟩ p:=by decide
theorem NC:Ev (λ n=>Df n sqP) sq8:=
 Tot.ev ((Jl (P:=sqP) (by decide) (λ p hp=>Bx.nr (by revert p;decide))).mono λ r hr=>hr.1.uniq (by unfold Inc;decide) λ p=>by rw [hr.2.2];exact Mx)
theorem Rw:Ev (λ n=>Bb n ({ Kind:=3,Texture:=0,P:=sqP }:Ag)) sq8:=
 Tot.ev ((K4 (f:={ Kind:=3,Texture:=0,P:=sqP }) (by decide) rfl).mono λ r hr=>hr.1.uniq (by unfold Inc;decide) λ p=>by
  rw [hr.2.2]
  constructor
  ·rintro (h|⟨h,_⟩)
   ·exact Mx.1 h
   ·cases h
  ·exact λ h=>.inl (Mx.2 h))
theorem Rx:Ev (λ n=>Bb n ({ Kind:=3,Texture:=3,P:=sqP }:Ag)) sq9:=
 Tot.ev ((K4 (f:={ Kind:=3,Texture:=3,P:=sqP }) (by decide) rfl).mono λ r hr=>hr.1.uniq (by unfold Inc;decide) λ p=>by
  rw [hr.2.2]
  constructor
  ·rintro (h|⟨_,h⟩)
   ·exact VM p (Mx.1 h)
   ·have:=Ny VN h
    obtain ⟨X,Y⟩:=p
    unfold In at this
    simp only at this
    rcases (by omega:X=0\/X=1\/X=2) with rfl|rfl|rfl<;>rcases (by omega:Y=0\/Y=1\/Y=2) with rfl|rfl|rfl<;>decide
  ·intro h
   rcases (by revert p;decide:p∈sq8\/Gd sqP p=true) with h|h
   ·exact .inl (Mx.2 h)
   ·exact .inr ⟨rfl,h⟩)
theorem VO:Ev (λ n=>Bb n ({ Kind:=1,Texture:=0,P:=[⟨3,4⟩] }:Ag)) [⟨3,4⟩]:=SD (f:={ Kind:=1,Texture:=0,P:=[⟨3,4⟩] }) (by decide) rfl
theorem VP:Ev (λ n=>Bb n ({ Kind:=2,Texture:=0,P:=[⟨0,0⟩,⟨2,0⟩] }:Ag)) [⟨0,0⟩,⟨1,0⟩,⟨2,0⟩]:=
 Tot.ev ((SE (f:={ Kind:=2,Texture:=0,P:=[⟨0,0⟩,⟨2,0⟩] }) (by decide) rfl).mono λ r hr=>hr.1.uniq (by unfold Inc;decide) λ p=>by
  rw [hr.2.2,Mw]
  exact Oa (by decide) (by decide))
theorem Ry {a b:List Aa} (ha:a.length<=1000000) (h:a=b):Ev (λ n=>Ei n a b) true:=by
 have:=SB (b:=b) ha
 rw [decide_eq_true h] at this
 exact this
theorem He {f:Ag} {b:Bool} (h:HS f=b):Ev (λ n=>BW n f) b:=h▸GL f
theorem Hf {P:List Aa} {q:Aa} {b:Bool} (h:Gd P q=b) (h1:P.length<=1000) (h2:∀ p∈P,Nr p) (h3:Nr q):Ev (λ n=>Bq n P q) b:=h▸Hb h1 h2 h3
instance (p:Aa):Decidable (Nr p):=by unfold Nr;infer_instance
theorem Pp:Ev (λ n=>Fs n) true:=by
 refine Tot.ev ?_
 refine Tot.bindA (λ n=>rfl) (Tot.bindA (λ n=>rfl) (Tot.bindA (λ n=>rfl) (Tot.bindA (λ n=>rfl) (Tot.bindA (λ n=>rfl) ?_))))
 refine Tot.bindE VO (Tot.bindE (Ry (by decide) rfl) (Tot.gE rfl VP (Tot.gE rfl (Ev.all λ n=>rfl) (Tot.gE rfl (Ev.all λ n=>rfl) (Tot.gE rfl (Ev.all λ n=>rfl) (Tot.gE rfl (Ry (by decide) rfl) ?_))))))
 refine Tot.gE rfl Rw (Tot.gE rfl Rx ?_)
 refine Tot.bindE (He (b:=true) (by decide)) (Tot.gE rfl (He (b:=true) (by decide)) (Tot.gE rfl (He (b:=false) (by decide)) (Tot.gE rfl (Ev.all λ n=>rfl) (Tot.gE rfl (He (b:=false) (by decide)) (Tot.gE rfl (Ev.all λ n=>rfl) (Tot.gE rfl (He (b:=false) (by decide)) (Tot.gE rfl (Ev.all λ n=>rfl) (Tot.gE rfl (He (b:=false) (by decide)) ?_))))))))
 refine Tot.gE rfl (Ev.all λ n=>rfl) (Tot.gE rfl (Ev.all λ n=>rfl) (Tot.gE rfl (Hf (b:=true) (by decide) (by decide) (by decide) (by decide)) ?_))
 refine Tot.gE rfl (Ev.all λ n=>rfl) (Tot.gE rfl (Ev.all λ n=>rfl) (Tot.gE rfl (Hf (b:=true) (by decide) (by decide) (by decide) (by decide)) ?_))
 refine Tot.gE rfl (Ev.all λ n=>rfl) (Tot.gE rfl (Ev.all λ n=>rfl) (Tot.gE rfl (Hf (b:=true) (by decide) (by decide) (by decide) (by decide)) ?_))
 refine Tot.gE rfl (Ev.all λ n=>rfl) (Tot.gE rfl (Ev.all λ n=>rfl) (Tot.gE rfl (Hf (b:=false) (by decide) (by decide) (by decide) (by decide)) ?_))
 refine Tot.gE rfl (Ev.all λ n=>rfl) (Tot.gE rfl (Ev.all λ n=>rfl) (Tot.gE rfl (Hf (b:=false) (by decide) (by decide) (by decide) (by decide)) ?_))
 refine Tot.gE rfl (Ev.all λ n=>rfl) (Tot.gE rfl (Hf (b:=false) (by decide) (by decide) (by decide) (by decide)) ?_)
 exact Tot.gE rfl (Ev.all λ n=>rfl) (Tot.gE rfl NC (Tot.pure rfl))
end Go.AI
end
section
namespace Go.AI
theorem UI {t p q:Aa}:ltG (mvG t p) (mvG t q)↔ltG p q:=by unfold ltG mvG;simp only;omega
theorem Inc.mv {l:List Aa} (h:Inc l) (t:Aa):Inc (l.map (mvG t)):=List.pairwise_map.2 (h.imp λ h=>UI.2 h)
def wP (n:Nat):Aa:=⟨((n % 25:Nat):Int),((n / 25:Nat):Int)⟩
def key (p:Aa):Int:=25*p.Y+p.X
theorem UJ {p q:Aa} (hp:Sm p) (hq:Sm q):ltG p q↔key p<key q:=by unfold Sm at hp hq;unfold ltG key;omega
theorem Rz {p:Aa} (hp:Sm p) (n:Nat):p=wP n↔key p=n:=by
 cases p;unfold Sm at hp;unfold wP key;simp only [Aa.mk.injEq] at *;omega
theorem RB {p:Aa}:Sm p↔In ⟨0,0⟩ ⟨23,23⟩ p:=by unfold Sm In;simp only;omega
theorem UK {P:List Aa} {k:Int} {p:Aa} (h:∀ p∈P,Sm p) (hp:arS P k p):Sm p:=by
 have h:=λ p hp=>RB.1 (h p hp)
 rcases hp with hp|hp
 ·exact RB.2 (UE (Wz _) h hp)
 ·exact RB.2 (Ny h hp.2)
theorem RC {P O r:List Aa} {f:Ag} {k:Nat} {z:Bool} (hf:f.P=P) (hl:P.length<=6) (hs:∀ p∈P,Sm p) (hO:∀ p,p∈O↔lnS P P.length p) (hOl:O.length<=1000000) (hr:Inc r) (hrl:r.length<=100000) (hm:∀ p,p∈r↔arS P k p) :
  Tot (λ n=>whl (λ (x:(Int×Int))=>A9 n z O f (k:Int) r x.1 x.2) n (0,0)) (λ y=>y=.inl ((r.length:Nat):Int)):=by
 have sm:∀ j (h:j<r.length),Sm r[j]:=λ j h=>UK hs ((hm _).1 (Wx h))
 have inc:∀ i j (hi:i<r.length) (hj:j<r.length),i<j->key r[i]<key r[j]:=λ i j hi hj hij=>(UJ (sm i hi) (sm j hj)).1 (List.pairwise_iff_getElem.1 hr i j hi hj hij)
 have hn:∀ p∈P,Nr p:=λ p hp=>(hs p hp).bx.nr
 refine Tot.upto 600 (λ i (x:Int×Int)=>x.2=(i:Int)/\∃ a:Nat,x.1=a/\a<=r.length/\∀ j (h:j<r.length),key r[j]<i↔j<a) ?_ ?_ _ ⟨rfl,0,rfl,by omega,λ j h=>?_⟩
 ·rintro i ⟨x,y⟩ hi ⟨h1,a,h2,h3,h4⟩
  simp only at h1 h2
  subst h1 h2
  unfold A9 Bs
  have e1:BL (i:Int) 25=((i % 25:Nat):Int):=by rw [(BX (by omega) (by omega)).1];omega
  have e2:KG .i64 (i:Int) 25=((i / 25:Nat):Int):=by
   unfold KG
   rw [Int.tdiv_eq_ediv_of_nonneg (by omega),w64 (by omega) (by omega)];omega
  have hw:Bx (wP i):=by unfold Bx wP;simp only;omega
  refine Tot.iteT (decide_eq_true (by show (i:Int)<600;omega)) (Tot.bindA (y:=wP i) (λ n=>by show AE n (BL (i:Int) 25) (KG .i64 (i:Int) 25)=_;rw [e1,e2];rfl) (Tot.bindE (UC _ hOl) ?_))
  refine Tot.guard (R:=λ b=>b=Fb k (wP i)) (λ _=>(Ev.all λ n=>Rt n _ hw).tot rfl) λ b2 hb2=>?_
  refine Tot.guard (R:=λ b=>b=Gd P (wP i)) (λ _=>by rw [hf];exact (Hb (by omega) hn hw.nr).tot rfl) λ b3 hb3=>?_
  refine Tot.guard (R:=λ q=>r[a]? = some q) (λ hc=>?_) λ q hq=>?_
  ·have:(a:Int)<(r.length:Int):=of_decide_eq_true hc
   have hlt:a<r.length:=by omega
   exact (Ev.all λ n=>ET hlt).tot (WH hlt)
  ·have hc:(decide (wP i∈O)||(b2&&b3))=decide (wP i∈r):=by
    have hd:decide (wP i∈r)=(decide (wP i∈O)||(Fb k (wP i)&&Gd P (wP i))):=by
     rw [Bool.eq_iff_iff,decide_eq_true_eq,hm,WX,decide_eq_true_eq,hO,WI];rfl
    rw [hd]
    cases hO':decide (wP i∈O) with
    | true=>rfl
    | false=>
     have:=hb2 (by rw [hO'];rfl)
     subst this
     cases ht:Fb k (wP i) with
     | false=>rfl
     | true=>rw [hb3 (by rw [hO',ht];rfl)]
   have hd:(decide (((a:Nat):Int)<((r.length:Nat):Int))&&decide (q=wP i))=decide (wP i∈r):=by
    rw [Bool.eq_iff_iff,WI,decide_eq_true_eq,decide_eq_true_eq,decide_eq_true_eq]
    constructor
    ·rintro ⟨h,rfl⟩
     exact WJ (hq (decide_eq_true h))
    ·intro h
     obtain ⟨j,hj,e⟩:=List.getElem_of_mem h
     have k1:=(Rz (sm j hj) i).1 e
     have k2:=h4 j hj
     have:a<r.length:=by omega
     have k3:=h4 a this
     have:a=j:=by
      rcases Nat.lt_trichotomy a j with h|h|h
      ·have:=inc a j this hj h;omega
      ·exact h
      ·omega
     subst this
     refine ⟨by omega,?_⟩
     have:=hq (decide_eq_true (by show (a:Int)<(r.length:Int);omega))
     rw [WH hj] at this
     rw [← Option.some.inj this,e]
   rw [NA,hc]
   show Tot (λ n=>if (!(decide (wP i∈r)==(decide (((a:Nat):Int)<((r.length:Nat):Int))&&decide (q=wP i))))=true then _ else _) _
   rw [hd,beq_self_eq_true]
   refine Tot.iteF rfl (Tot.ite (λ hw=>Tot.pure ⟨BZ (by omega),a+1,BZ (by omega),?_,λ j hj=>?_⟩) λ hw=>Tot.pure ⟨BZ (by omega),a,rfl,h3,λ j hj=>?_⟩)
   ·rw [hw,WI,decide_eq_true_eq] at hd
    omega
   ·rw [hw,WI,decide_eq_true_eq,decide_eq_true_eq] at hd
    have ha:a<r.length:=by omega
    have hq:=hq (decide_eq_true (by show (a:Int)<(r.length:Int);omega))
    rw [WH ha] at hq
    have ka:=(Rz (sm a ha) i).1 ((Option.some.inj hq).trans hd.2)
    have k2:=h4 j hj
    rcases Nat.lt_trichotomy a j with h|h|h
    ·have:=inc a j ha hj h;omega
    ·subst h;omega
    ·have:=inc j a hj ha h;omega
   ·have hne:key r[j]≠i:=λ e=>by
     have:=(Rz (sm j hj) i).2 e
     rw [decide_eq_false_iff_not] at hw
     exact hw (this▸Wx hj)
    have:=h4 j hj
    omega
 ·rintro ⟨x,y⟩ ⟨h1,a,h2,h3,h4⟩
  simp only at h1 h2
  subst h1 h2
  unfold A9
  refine Tot.iteF (decide_eq_false (by show ¬((600:Nat):Int)<600;omega)) (Tot.pure ?_)
  show _=_
  rcases WA a r.length with h|h
  ·have:=h4 a h
   have:=sm a h
   unfold Sm at this
   unfold key at *
   omega
  ·rw [show r.length=a from by omega]
 ·have:=sm j h
  unfold Sm at this
  unfold key
  omega
theorem Wn {r:GC} (hr:Rv r):Tot (λ n=>CA n r) (λ y=>y=true):=by
 refine Tot.bindE Pp (Tot.bind (SF (r:={ Kind:=2,Texture:=r.Texture,L:=r.L }) ⟨show U8 2 from by unfold U8;omega,hr.t,hr.l⟩) λ f hm=>?_)
 have hk3:=hm.2.2 rfl
 have hm:=hm.1
 have hb:=hm.bx
 have hl:=hm.len
 obtain ⟨h3,t1,t2⟩:=hm.area hk3
 have hn:∀ p∈f.P,Nr p:=λ p hp=>(hb p hp).nr
 have h1:=Jk hn (i:=f.P.length) (by omega)
 refine Tot.bind (Jl (by omega) hn) λ O hO=>?_
 refine Tot.bind (R:=λ y=>y=.inl ()) ?_ λ y hy=>by subst hy;exact Tot.pure rfl
 refine Tot.upto 4 (λ i (x:Ag×Int)=>x.2=(i:Int)/\x.1.Kind=3/\x.1.P=f.P) ?_ ?_ _ ⟨rfl,hk3,rfl⟩
 ·rintro i ⟨g,x⟩ hi ⟨e1,e2,e3⟩
  simp only at e1 e2 e3
  subst e1
  unfold Bt
  have vg:HS ({ Kind:=g.Kind,Texture:=(i:Int),P:=g.P }:Ag)=true:=by
   rw [SV ⟨by rw [show ({ Kind:=g.Kind,Texture:=(i:Int),P:=g.P }:Ag).P=f.P from e3];exact hb,by show g.P.length<=12;rw [e3];omega⟩,UH (f:={ Kind:=g.Kind,Texture:=(i:Int),P:=g.P }) e2]
   show ((decide (g.P.length>=3)&&decide ((i:Int)>=0))&&decide ((i:Int)<=3))=true
   rw [e3,decide_eq_true h3,decide_eq_true (by omega),decide_eq_true (by omega)];rfl
  refine Tot.iteT (decide_eq_true (by show (i:Int)<=3;omega)) (Tot.bind (K4 vg e2) λ q hq=>?_)
  refine Tot.bind (RC (P:=f.P) (k:=i) e3 hl hm.sm hO.2.2 (by have:=hO.2.1;omega) hq.1 hq.2.1 λ p=>?_) λ y hy=>?_
  ·rw [hq.2.2]
   show arS g.P _ p↔_
   rw [e3]
  ·subst hy
   refine Tot.iteF (by simp) (Tot.pure ⟨BZ (by omega),e2,e3⟩)
 ·rintro ⟨g,x⟩ ⟨e1,e2,e3⟩
  simp only at e1 e2 e3
  subst e1
  unfold Bt
  exact Tot.iteF (decide_eq_false (by show ¬((4:Nat):Int)<=3;omega)) (Tot.pure rfl)
end Go.AI
end
section
namespace Go.AI
def Mi (p:Aa):Prop:=(0<=p.X/\p.X<64)/\0<=p.Y/\p.Y<64
theorem Mi.nr {p:Aa} (h:Mi p):Nr p:=by unfold Mi at h;unfold Nr;omega
end Go.AI
end
section
namespace Go.AI
def cnT (d:List Bool):Nat:=d.countP λ b=>b
structure Ps (r:List Aa) (d0:List Bool) (dn:Nat->Nat->Prop) (d:List Bool) (c:Int):Prop where
 len:d.length=r.length
 cnt:c=(cnT d:Nat)
 ge:cnT d0<=cnT d
 eq:cnT d=cnT d0->d=d0/\∀ i k,i<r.length->k<r.length->dn i k->d0.getD i false=true->Eo (r.getD i default) (r.getD k default)<=1->d0.getD k false=true
theorem Ps.to {r:List Aa} {d0:List Bool} {A B:Nat->Nat->Prop} {d:List Bool} {c:Int} (h:Ps r d0 A d c) (hAB:∀ i k,i<r.length->k<r.length->B i k->A i k):Ps r d0 B d c:=
 ⟨h.len,h.cnt,h.ge,λ e=>⟨(h.eq e).1,λ i k hi hk hb=>(h.eq e).2 i k hi hk (hAB i k hi hk hb)⟩⟩
end Go.AI
end
section
namespace Go.AI
theorem K5 {n:Int} (h:okI .u8 n):U8 n:=by
 unfold okI Lit.wf at h
 have:IntKind.u8.min=0/\IntKind.u8.max=255:=by decide
 unfold U8
 simp only [WI,decide_eq_true_eq] at h
 omega
theorem Pq {r:GC} (h:Nw r):Rv r:=⟨K5 h.1,K5 h.2.1,λ a ha=>⟨K5 (h.2.2 a ha).1,K5 (h.2.2 a ha).2⟩⟩
theorem Tot.out {f:Nat->Option Bool} (h:Tot f (λ y=>y=true)):∃ n,f n=some true:=by
 obtain ⟨z,rfl,N,h⟩:=h
 exact ⟨N,h N (Wz _)⟩
theorem VQ:∀ (r:GC),Nw r->∃ n,CA n r=some true:=λ _ h=>(Wn (Pq h)).out
end Go.AI
end
section
namespace Go.Proofs.Ytfoknlpndaekdaa
open Go.AI Go.ChangeShapes Go.WideShapes Go.ChangeAt Go.RowKit
theorem own:ownKnob Try.prog.godebug=none:=by kernel_rfl
set_option maxRecDepth 100000 in
theorem UL (os:Os) (started:os.Started) (H:Type) (enc:TypeId×Value->H) :
  ReturnsInHanded {} Try.checked os 8 .any (Rows.shapeTexturesSpec.pre6 enc Try.prog Try.f8 Rows.shapeTexturesRow.domain false) (Rows.shapeTexturesSpec.post enc Try.prog Try.f8 false true false false):=by
 refine returnsInHanded_of_change (C:=Try.checked) own started (by kernel_rfl) Try.func8
  (ChangeSpec.witness6 (enc:=enc) (C:=Try.checked) false ⟨#[],#[.agg #[.int .u8 0,.int .u8 0,.slice none 0 0]],[]⟩ 8 (by kernel_rfl) (by kernel_rfl) (by kernel_rfl) (by kernel_rfl)) ?_
 intro W base args ds gs before hval0 hW hcnd _
 have hval:∀ (j:Nat) t v,Try.f8.params[j]? = some t->args[j]? = some v->Value.okWide Try.prog W .any base t v:=hval0
 have hW':=hW
 obtain ⟨p,q,hA0,hV,rfl,hfz,hnd⟩:=hW
 have hA:DataW.TrodAll enc Try.prog W 0 (λ _=>true) true Try.f8.params.toList args.toList ds p:=hA0
 have hlt:=hA.lt
 rw [Try.params8] at hA hval
 obtain ⟨v0,vs0,d0,ds0,p0,q0,hargs,rfl,rfl,h0,r0⟩:=trodAll_cons hA
 obtain ⟨rfl,rfl,rfl⟩:=trodAll_nil r0
 obtain rfl:args=#[v0]:=by cases args;simp_all
 obtain ⟨rfl,rfl⟩:=trodVars_none hV
 obtain ⟨cs0,hc0,_⟩:=okWide_struct Try.underlying24 (hval 0 24 v0 rfl rfl)
 obtain ⟨a0,k0,rep0⟩:=Ss hc0 h0 Wm
 clear hA0 hval0
 simp only [List.append_nil] at hW' hlt
 obtain ⟨n,hn⟩:=VQ a0 k0
 refine (Rg (Fa hn) (Su rep0 Ux)).mono λ e W' ⟨he,hg,hold⟩=>?_
 subst he
 exact ⟨_,rfl,Pe (pv:=[]) hW' (λ _ _ _=>(trodAll_cons_mk (shut_bool Try.underlying4 _) trodAll_mk0)) (λ sp hsp=>trodAll_cons_mk (VC (by kernel_rfl) (by kernel_rfl) (of_decide_eq_true (by kernel_rfl)) h0 (λ p hp=>hlt p (by simp [hp])) (λ p hp=>hsp p (by simp [hp])) hold) trodAll_mk0) (λ _ _=>rfl) (by simp) (hg _) hold (ok_one (by kernel_rfl) rfl (okWide_bool_mk Try.underlying4 _))⟩
theorem Wo:Rows.shapeTexturesRow.holds Try.pinned (OpenSpec.ofChange Rows.shapeTexturesSpec):=
 OpenClaim.holds_of_wide 8 Try.f8 rfl rfl rfl rfl rfl rfl rfl ⟨rfl,rfl,rfl,rfl,rfl⟩ rfl rfl rfl rfl rfl (by kernel_rfl) Try.func8 (by kernel_rfl)
  (of_decide_eq_true (by kernel_rfl)) (by unfold Func.isWrapper;first|(rw [if_pos (by decide +kernel)];kernel_rfl)|(rw [if_neg (by decide +kernel)];exact ⟨rfl,rfl⟩))
  (λ os started H enc _=>UL os started H enc)
theorem shapeTextures_holds:Rows.ShapeTexturesSaid:=Wo
end Go.Proofs.Ytfoknlpndaekdaa
end
