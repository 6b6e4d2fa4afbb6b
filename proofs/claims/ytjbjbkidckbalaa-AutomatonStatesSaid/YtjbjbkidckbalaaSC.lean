/- Part 3 of 6 of the proof: lemmas about the model and the program's functions, with no condition beyond those that each states. -/
import Derived.Test.YtjbjbkidckbalaaSB
import Derived.ChangeArms
import Derived.WalkKit
import Derived.ProofKit
import Derived.OpenShut
import Derived.Carry
import Derived.WideKeyArgs
import Derived.Test.YtjbjbkidckbalaaProg
import Derived.KernelRfl
section
namespace Go.AI
def leAll : List (Nat × Nat) → Prop
  | [] => True
  | (a, b) :: r => a ≤ b ∧ leAll r
theorem leZ : leAll [] := trivial
theorem leK {a b : Nat} {r : List (Nat × Nat)} (h : a ≤ b) (hr : leAll r) : leAll ((a, b) :: r) := ⟨h, hr⟩
theorem leAll_append {l m : List (Nat × Nat)} (h : leAll (l ++ m)) : leAll l ∧ leAll m := by
  induction l with
  | nil => exact ⟨trivial, h⟩
  | cons a l ih => exact ⟨⟨h.1, (ih h.2).1⟩, (ih h.2).2⟩
def xD (objs : List (Option Ob)) : AV → Option (D × List Nat × List (Nat × Nat))
  | .d .nil => some (.sl [], [], [])
  | .d x => some (x, [], [])
  | .osl k sz lo n => match obA objs k with
    | some (.arr sz' es) => bif Nat.beq sz sz' then some (.sl ((es.drop lo).take n), [k], [(lo + n, es.length)]) else none
    | _ => none
  | _ => none
def xDs (objs : List (Option Ob)) : List AV → Option (List D × List Nat × List (Nat × Nat))
  | [] => some ([], [], [])
  | v :: vs => match xD objs v, xDs objs vs with
    | some (x, k, o), some (xs, ks, os) => some (x :: xs, k ++ ks, o ++ os)
    | _, _ => none
def xA (objs : List (Option Ob)) : AV → Option (AV × List Nat × List (Nat × Nat))
  | .agg l => match xDs objs l with
    | some (x, k, o) => some (.agg (x.map .d), k, o)
    | none => none
  | v => match xD objs v with
    | some (x, k, o) => some (.d x, k, o)
    | none => none
def xAs (objs : List (Option Ob)) : List AV → Option (List AV × List Nat × List (Nat × Nat))
  | [] => some ([], [], [])
  | v :: vs => match xA objs v, xAs objs vs with
    | some (x, k, o), some (xs, ks, os) => some (x :: xs, k ++ ks, o ++ os)
    | _, _ => none
theorem xD_ok {objs : List (Option Ob)} {v : AV} {x : D} {ks : List Nat} {o : List (Nat × Nat)} (h : xD objs v = some (x, ks, o)) (ho : leAll o) : ∃ ob, expD objs v = some ⟨x, ks, ob⟩ ∧ ob := by
  unfold xD at h
  split at h
  · cases h; exact ⟨_, rfl, trivial⟩
  · rename_i y hy
    cases h
    refine ⟨True, ?_, trivial⟩
    unfold expD
    split
    · rename_i e; cases e; exact absurd rfl hy
    · rename_i e; cases e; rfl
    · rename_i e; cases e
    · rename_i e1 _; exact absurd rfl (e1 _)
  · rename_i k sz lo n
    split at h
    · rename_i sz' es hob
      obtain ⟨hb, h⟩ := bif_some h
      cases h
      refine ⟨_, ?_, ho.1⟩
      simp only [expD, hob, hb, cond_true]
    · cases h
  · cases h
theorem xDs_ok {objs : List (Option Ob)} : ∀ {l : List AV} {x : List D} {ks : List Nat} {o : List (Nat × Nat)}, xDs objs l = some (x, ks, o) → leAll o → ∃ ob, expDs objs l = some ⟨x, ks, ob⟩ ∧ ob := by
  intro l
  induction l with
  | nil => intro x ks o h _; cases h; exact ⟨_, rfl, trivial⟩
  | cons v l ih =>
    intro x ks o h ho
    simp only [xDs] at h
    split at h
    · rename_i a b c a' b' c' h1 h2
      cases h
      obtain ⟨o1, o2⟩ := leAll_append ho
      obtain ⟨p1, e1, q1⟩ := xD_ok h1 o1
      obtain ⟨p2, e2, q2⟩ := ih h2 o2
      exact ⟨p1 ∧ p2, by simp only [expDs, e1, e2], q1, q2⟩
    · cases h
theorem xA_ok {objs : List (Option Ob)} {v x : AV} {ks : List Nat} {o : List (Nat × Nat)} (h : xA objs v = some (x, ks, o)) (ho : leAll o) : ∃ ob, expA objs v = some ⟨x, ks, ob⟩ ∧ ob := by
  unfold xA at h
  split at h
  · split at h
    · rename_i h1
      cases h
      obtain ⟨p1, e1, q1⟩ := xDs_ok h1 ho
      exact ⟨_, by simp only [expA, e1], q1⟩
    · cases h
  · rename_i hn
    split at h
    · rename_i h1
      cases h
      obtain ⟨p1, e1, q1⟩ := xD_ok h1 ho
      refine ⟨p1, ?_, q1⟩
      unfold expA
      split
      · exact absurd rfl (hn _)
      · rw [e1]
    · cases h
theorem xAs_ok {objs : List (Option Ob)} : ∀ {l : List AV} {x : List AV} {ks : List Nat} {o : List (Nat × Nat)}, xAs objs l = some (x, ks, o) → leAll o → ∃ ob, expAs objs l = some ⟨x, ks, ob⟩ ∧ ob := by
  intro l
  induction l with
  | nil => intro x ks o h _; cases h; exact ⟨_, rfl, trivial⟩
  | cons v l ih =>
    intro x ks o h ho
    simp only [xAs] at h
    split at h
    · rename_i a b c a' b' c' h1 h2
      cases h
      obtain ⟨o1, o2⟩ := leAll_append ho
      obtain ⟨p1, e1, q1⟩ := xA_ok h1 o1
      obtain ⟨p2, e2, q2⟩ := ih h2 o2
      exact ⟨p1 ∧ p2, by simp only [expAs, e1, e2], q1, q2⟩
    · cases h
def callAt (c : Code) (i : Nat) (s : St) : Option (FuncId × List AV × List Nat × List (Nat × Nat)) :=
  match (opsIn c)[i]? with
  | some o => match o.op with
    | .call ⟨.value (.func f), args, _⟩ => match xAs s.objs (args.toList.map fun x => unG (evalA s.env x)) with
      | some (x, ks, os) => some (f, x, ks, os)
      | none => none
    | _ => none
  | none => none
def lensC : List AV → List Nat
  | [] => []
  | .own _ es :: r => es.length :: lensC r
  | _ :: r => lensC r
def lensA : AV → List Nat
  | .own _ es => [es.length]
  | .agg l => lensC l
  | _ => []
def lensT : List AV → List Nat
  | [] => []
  | v :: r => lensA v ++ lensT r
def lensR : AV → List Nat
  | .tup l => lensT l
  | v => lensA v
def ilC (m : Bool) (n : Nat) : List Nat → List AV → List AV × List Nat
  | ls, [] => ([], ls)
  | ls, .own sz es :: r => bif m then (.osl n sz 0 (ls.headD 0) :: (ilC m (n + 1) ls.tail r).1, (ilC m (n + 1) ls.tail r).2) else (.d (.sl es) :: (ilC m n ls.tail r).1, (ilC m n ls.tail r).2)
  | ls, .d x :: r => (.d x :: (ilC m n ls r).1, (ilC m n ls r).2)
  | ls, _ :: r => (.top :: (ilC m n ls r).1, (ilC m n ls r).2)
def ilA (m : Bool) (n : Nat) (ls : List Nat) : AV → AV × List Nat
  | .own sz es => bif m then (.osl n sz 0 (ls.headD 0), ls.tail) else (.d (.sl es), ls.tail)
  | .agg l => (.agg (ilC m n ls l).1, (ilC m n ls l).2)
  | .d x => (.d x, ls)
  | _ => (.top, ls)
def ilT (m : Bool) (n : Nat) : List Nat → List AV → List AV
  | _, [] => []
  | ls, v :: r => (ilA m n ls v).1 :: ilT m (n + (impA m n v).2.length) (ilA m n ls v).2 r
def ilR (m : Bool) (n : Nat) (ls : List Nat) : AV → AV
  | .tup l => .tup (ilT m n ls l)
  | v => (ilA m n ls v).1
theorem ilC_ok (m : Bool) : ∀ (l : List AV) (n : Nat) (rest : List Nat), ilC m n (lensC l ++ rest) l = ((impC m n l).1, rest) := by
  intro l
  induction l with
  | nil => intro n rest; rfl
  | cons v l ih =>
    intro n rest
    cases v <;> simp only [lensC, List.cons_append, ilC, impC, List.headD_cons, List.tail_cons, ih] <;> try rfl
    cases m <;> simp only [cond_true, cond_false]
theorem ilA_ok (m : Bool) (v : AV) (n : Nat) (rest : List Nat) : ilA m n (lensA v ++ rest) v = ((impA m n v).1, rest) := by
  cases v with
  | own sz es => cases m <;> rfl
  | agg l => simp only [lensA, ilA, impA, ilC_ok]
  | _ => rfl
theorem ilT_ok (m : Bool) : ∀ (l : List AV) (n : Nat), ilT m n (lensT l) l = (impT m n l).1 := by
  intro l
  induction l with
  | nil => intro n; rfl
  | cons v l ih => intro n; simp only [lensT, ilT, impT, ilA_ok, ih]
theorem ilR_ok (m : Bool) (n : Nat) (r : AV) {ls : List Nat} (h : lensR r = ls) : ilR m n ls r = (impR m n r).1 := by
  subst h
  cases r with
  | tup l => simp only [lensR, ilR, impR, ilT_ok]
  | own sz es => have := ilA_ok m (.own sz es) n []; simp only [List.append_nil] at this; simp only [lensR, ilR, impR, this]
  | agg l => have := ilA_ok m (.agg l) n []; simp only [List.append_nil] at this; simp only [lensR, ilR, impR, this]
  | _ => rfl
def nextC (Γ : Cx) (c : Code) (i : Nat) (m : Bool) (ls : List Nat) (r : AV) (s : St) : Option St :=
  match (opsIn c)[i]? with
  | some o => bif o.guard.isNone && dstOk Γ.nt o.dst && (o.op.operands.toList.map (evalA s.env)).all notGv then some ⟨putA o.dst false true (ilR m s.objs.length ls r) s.env, s.objs ++ (impR m s.objs.length r).2.map some⟩ else none
  | none => none
def nextCG (Γ : Cx) (c : Code) (i : Nat) (g m : Bool) (ls : List Nat) (r : AV) (s : St) : Option St :=
  match (opsIn c)[i]? with
  | some o => bif o.guard.isSome && dstOk Γ.nt o.dst then some ⟨putA o.dst true g (ilR m s.objs.length ls r) s.env, s.objs ++ (impR m s.objs.length r).2.map some⟩ else none
  | none => none
variable {Γ : Cx} {C : Code} {p p0 p1 : List Nat} {Q : Ex → St → Prop} {s s' : St} {K : St → Prop} {i : Nat}
theorem args_gv {o : Oper} {f : FuncId} {args : Array Operand} {ts : Array TypeId} (hop : o.op = .call ⟨.value (.func f), args, ts⟩) {env : List (Nat × AV)} (h : (o.op.operands.toList.map (evalA env)).all notGv = true) : (args.toList.map (evalA env)).all notGv = true := by
  rw [hop] at h
  simp only [Op.operands, Call.operands] at h
  simp only [Array.toList_append, List.map_append, List.all_append, Bool.and_eq_true] at h
  exact h.2
theorem callS (j : Nat) (m : Bool) {f : FuncId} {xs ys : List AV} {ks : List Nat} {obl : List (Nat × Nat)} {r : AV} (hc : callAt (nav p C) i s = some (f, xs, ks, obl)) (hob : leAll obl) (hxs : xs = ys) (hr : Γ.calls f ys r) (hf : ks = [] ∨ flatR r) {ls : List Nat} (hls : lensR r = ls) (hn : nextC Γ (nav p C) i m ls r s = some s') (hj : i + 1 = j) (hk : runFrom Γ C p j K s') : runFrom Γ C p i K s := by
  subst hj
  subst hxs
  unfold runFrom at hk ⊢
  unfold callAt at hc
  unfold nextC at hn
  rw [ilR_ok m _ r hls] at hn
  split at hn
  · rename_i o hi
    rw [hi] at hc
    simp only at hc
    obtain ⟨hcc, hn⟩ := bif_some hn
    simp only [Bool.and_eq_true] at hcc
    obtain ⟨⟨h1, h2⟩, h3⟩ := hcc
    cases hn
    rw [drop_cons hi]
    show stepA _ _ _ _ _ _
    have hgN : o.guard = none := by simpa using h1
    split at hc
    · rename_i f' args ts hop
      split at hc
      · rename_i x ks' os hx
        cases hc
        obtain ⟨ob, e1, q1⟩ := xAs_ok hx hob
        unfold stepA
        rw [hgN]
        simp only [guardA, h2, Bool.not_true, cond_false]
        refine ⟨fun _ => .inl ?_, fun h => by cases h⟩
        unfold stepG
        rw [hop]
        refine ⟨gobA_of (args_gv hop h3), ?_⟩
        unfold callA
        rw [e1]
        refine ⟨fun _ => q1, m, r, fun _ => hr, ?_, ?_⟩
        · rcases hf with rfl | hf
          · trivial
          · cases ks.isEmpty <;> first | trivial | exact hf
        · rw [hgN]; exact hk
      · cases hc
    · cases hc
  · cases hn
theorem callG {g : Bool} {gs : List Bool} (j : Nat) (m : Bool) {f : FuncId} {xs ys : List AV} {ks : List Nat} {obl : List (Nat × Nat)} {r : AV} (hg : gAt (nav p C) i s = some g) (hc : callAt (nav p C) i s = some (f, xs, ks, obl)) (hob : leAll obl) (hxs : xs = ys) (hr : g = true → Γ.calls f ys r) (hf : ks = [] ∨ flatR r) (hgs : gvsAt (nav p C) i s = gs) (hi : impAll g gs) {ls : List Nat} (hls : lensR r = ls) (hn : nextCG Γ (nav p C) i g m ls r s = some s') (hj : i + 1 = j) (hk : runFrom Γ C p j K s') : runFrom Γ C p i K s := by
  subst hj
  subst hxs
  unfold runFrom at hk ⊢
  unfold callAt at hc
  unfold gAt at hg
  unfold gvsAt at hgs
  unfold nextCG at hn
  rw [ilR_ok m _ r hls] at hn
  split at hn
  · rename_i o hii
    rw [hii] at hc hg hgs
    simp only at hc hg hgs
    obtain ⟨hcc, hn⟩ := bif_some hn
    simp only [Bool.and_eq_true] at hcc
    obtain ⟨h1, h2⟩ := hcc
    cases hn
    rw [drop_cons hii]
    show stepA _ _ _ _ _ _
    cases hgo : o.guard with
    | none => rw [hgo] at h1; cases h1
    | some y =>
      rw [hgo] at hg
      simp only at hg
      split at hc
      · rename_i f' args ts hop
        split at hc
        · rename_i x ks' os hx
          cases hc
          obtain ⟨ob, e1, q1⟩ := xAs_ok hx hob
          unfold stepA
          rw [hgo]
          simp only [hg, h2, Bool.not_true, cond_false]
          refine ⟨fun hgt => .inl ?_, fun hgf => ⟨(impR m s.objs.length r).1, (impR m s.objs.length r).2, (fun hm => by rw [hop] at hm; cases hm), ?_⟩⟩
          · unfold stepG
            rw [hop]
            refine ⟨?_, ?_⟩
            · have := gobA_imp (g := g) (l := o.op.operands.toList.map (evalA s.env)) (by rw [hgs]; exact hi)
              rw [hop] at this
              simp only [Op.operands, Call.operands, Array.toList_append, List.map_append] at this
              exact this
            · unfold callA
              rw [e1]
              refine ⟨fun _ => q1, m, r, hr, ?_, ?_⟩
              · rcases hf with rfl | hf
                · trivial
                · cases ks.isEmpty <;> first | trivial | exact hf
              · rw [hgo]; exact hk
          · subst hgf; exact hk
        · cases hc
      · cases hc
  · cases hn
def resB1 (ty : Nat → Ty) (s : St) : ResultVar → Option AV
  | .tmp t => some (lkA s.env t)
  | .cell a t => match lkA s.env a with
    | .ptr k off => match obA s.objs k with
      | some (.box cells) => bif (ty t).ok && Nat.ble (off + (ty t).size) cells.length then ldCells cells off (ty t) else none
      | _ => none
    | _ => none
def resB (ty : Nat → Ty) (s : St) : List ResultVar → Option (List AV)
  | [] => some []
  | r :: rs => match resB1 ty s r, resB ty s rs with
    | some v, some vs => some (v :: vs)
    | _, _ => none
theorem resB1_ok {ty : Nat → Ty} {r : ResultVar} {v : AV} (h : resB1 ty s r = some v) : ∃ q, resV ty s r = some (v, q) ∧ q := by
  cases r with
  | tmp t => cases h; exact ⟨_, rfl, trivial⟩
  | cell a t =>
    simp only [resB1] at h
    split at h
    · rename_i k off ha
      split at h
      · rename_i cells hc
        obtain ⟨hb, h⟩ := bif_some h
        simp only [Bool.and_eq_true] at hb
        refine ⟨_, ?_, Nat.le_of_ble_eq_true hb.2⟩
        simp only [resV, hb.1, cond_true, ha, loadA, hc, h, valOb]
      · cases h
    · cases h
theorem resB_ok {ty : Nat → Ty} : ∀ {rs : List ResultVar} {vs : List AV}, resB ty s rs = some vs → ∃ q, resVs ty s rs = some (vs, q) ∧ q := by
  intro rs
  induction rs with
  | nil => intro vs h; cases h; exact ⟨_, rfl, trivial⟩
  | cons r rs ih =>
    intro vs h
    simp only [resB] at h
    split at h
    · rename_i v vs' h1 h2
      cases h
      obtain ⟨p1, e1, q1⟩ := resB1_ok h1
      obtain ⟨p2, e2, q2⟩ := ih h2
      exact ⟨p1 ∧ p2, by simp only [resVs, e1, e2], q1, q2⟩
    · cases h
theorem ret1 {ty : Nat → Ty} {rs : List ResultVar} {v r : AV} (ks : List Nat) (h : resB ty s rs = some [v]) (ho : outA s.objs v r) (hks : ksE (entA v r) = ks) (hnd : ks.Nodup) : retA ty rs r s := by
  have hn : (ksE (entA v r)).Nodup := by rw [hks]; exact hnd
  obtain ⟨q, e, hq⟩ := resB_ok h
  unfold retA
  rw [e]
  exact ⟨hq, ho, hn⟩
theorem retT {ty : Nat → Ty} {rs : List ResultVar} {vs l : List AV} (h : resB ty s rs = some vs) (hl : Nat.beq vs.length 1 = false) (ho : outT s.objs vs l) (ks : List Nat) (hks : ksE (entT vs l) = ks) (hnd : ks.Nodup) : retA ty rs (.tup l) s := by
  have hn : (ksE (entT vs l)).Nodup := by rw [hks]; exact hnd
  obtain ⟨q, e, hq⟩ := resB_ok h
  unfold retA
  rw [e]
  split
  · rename_i heq
    simp only [Option.some.injEq, Prod.mk.injEq] at heq
    obtain ⟨rfl, _⟩ := heq
    cases hl
  · rename_i heq
    simp only [Option.some.injEq, Prod.mk.injEq] at heq
    obtain ⟨rfl, rfl⟩ := heq
    exact ⟨hq, ho, hn⟩
  · rename_i heq; cases heq
theorem outC_nil {objs : List (Option Ob)} : outC objs [] [] := trivial
theorem outC_cons {objs : List (Option Ob)} {a r : AV} {l m : List AV} (h : outV objs a r) (h' : outC objs l m) : outC objs (a :: l) (r :: m) := ⟨h, h'⟩
theorem outA_agg {objs : List (Option Ob)} {l m : List AV} (h : outC objs l m) : outA objs (.agg l) (.agg m) := h
theorem outA_d {objs : List (Option Ob)} {x : D} {r : AV} (h : outV objs (.d x) r) : outA objs (.d x) r := h
theorem outA_o {objs : List (Option Ob)} {k sz lo n : Nat} {r : AV} (h : outV objs (.osl k sz lo n) r) : outA objs (.osl k sz lo n) r := h
theorem outT_nil {objs : List (Option Ob)} : outT objs [] [] := trivial
theorem outT_cons {objs : List (Option Ob)} {a r : AV} {l m : List AV} (h : outA objs a r) (h' : outT objs l m) : outT objs (a :: l) (r :: m) := ⟨h, h'⟩
theorem outV_d {objs : List (Option Ob)} {x : D} : outV objs (.d x) (.d x) := by
  cases x <;> first | rfl | exact .inl rfl
theorem outV_nilD {objs : List (Option Ob)} : outV objs (.d .nil) (.d (.sl [])) := .inr rfl
theorem outV_nilO {objs : List (Option Ob)} {sz : Nat} : outV objs (.d .nil) (.own sz []) := rfl
theorem outV_own {α : Type} {enc : α → List D} {xs : List α} {objs : List (Option Ob)} {k sz : Nat} (h : obA objs k = some (.arr sz (xs.map enc))) : outV objs (.osl k sz 0 xs.length) (.own sz (xs.map enc)) := by
  have hb : Nat.beq sz sz = true := Nat.beq_refl sz
  simp only [outV, h, hb, cond_true, List.length_map, Nat.zero_add, Nat.le_refl, List.drop_zero, true_and]
  exact (List.take_of_length_le (by simp)).symm
theorem post_ret {ty : Nat → Ty} {rs : List ResultVar} {r : AV} (h : retA ty rs r s) : postA ty rs r .ret s := h
theorem post_end {ty : Nat → Ty} {rs : List ResultVar} {r : AV} (h : retA ty rs r s) : postA ty rs r .normal s := h
theorem fn_ok {P : Program} (hfol : P.follows .mixedOrders = true) (hΓ : CxOK P Γ) {f : FuncId} {fn : Func} {args : List AV} {r : AV} (hf : P.funcs[f]? = some fn) (hb : fn.body = some (bodyOf fn)) (hnm : (fn.name == "runtime.NumGoroutine") = false)
    (hnt : Γ.nt = fn.ntmps) (hlen : Nat.ble args.length fn.ntmps = true) (hd : drawsB (bodyOf fn) = true) (hs : (⟨(List.range args.length).zip args, []⟩ : St) = s) (h : wpA Γ (nav [] (bodyOf fn)) (postA Γ.ty fn.results.toList r) s) : CallOK P f args r :=
  callOK_of hfol hΓ hf hb hnm hnt (Nat.le_of_ble_eq_true hlen) hd (by rw [hs]; exact h)
theorem sh_gc (ts : List Nat) (h : gcA ts s = s') : Shift s s' := by subst h; exact .gc ts
theorem sh_nil (t sz : Nat) (h : lkA s.env t = .d .nil) (h' : (⟨(t, .osl s.objs.length sz 0 0) :: s.env, s.objs ++ [some (.arr sz [])]⟩ : St) = s') : Shift s s' := by subst h'; exact .nilo t sz h
theorem sh_refl : Shift s s := .refl s
theorem sh_eq (h : s = s') : Shift s s' := by subst h; exact .refl _
def boxAt (s : St) (k : Nat) : List AV :=
  match obA s.objs k with
  | some (.box cells) => cells
  | _ => []
def isBox (s : St) (k : Nat) : Bool :=
  match obA s.objs k with
  | some (.box _) => true
  | _ => false
theorem boxAt_ok {k : Nat} (h : isBox s k = true) : obA s.objs k = some (.box (boxAt s k)) := by
  unfold isBox at h
  unfold boxAt
  split at h
  · rename_i hh; rw [hh]
  · cases h
theorem sh_nilc (k i sz : Nat) (h : (isBox s k, (boxAt s k)[i]?) = (true, some (.d .nil))) : Shift s ⟨s.env, s.objs.set k (some (.box ((boxAt s k).set i (.osl s.objs.length sz 0 0)))) ++ [some (.arr sz [])]⟩ := by
  simp only [Prod.mk.injEq] at h
  exact .nilc k i sz _ (boxAt_ok h.1) h.2
theorem sh_nilDc (k i : Nat) (h : (isBox s k, (boxAt s k)[i]?) = (true, some (.d .nil))) : Shift s ⟨s.env, s.objs.set k (some (.box ((boxAt s k).set i (.d (.sl [])))))⟩ := by
  simp only [Prod.mk.injEq] at h
  exact .nilDc k i _ (boxAt_ok h.1) h.2
def arrOf (s : St) : AV → Option (Nat × Nat × Nat × Nat × List (List D))
  | .osl k sz lo n => match obA s.objs k with
    | some (.arr sz' es) => bif Nat.beq sz sz' then some (k, sz, lo, n, es) else none
    | _ => none
  | _ => none
theorem arrOf_ok {v : AV} {k sz lo n : Nat} {es : List (List D)} (h : arrOf s v = some (k, sz, lo, n, es)) : v = .osl k sz lo n ∧ obA s.objs k = some (.arr sz es) := by
  unfold arrOf at h
  split at h
  · split at h
    · rename_i hob
      obtain ⟨hb, h1⟩ := bif_some h
      clear h
      have h := h1
      have := Nat.eq_of_beq_eq_true hb
      subst this
      simp only [Option.some.injEq, Prod.mk.injEq] at h
      obtain ⟨rfl, rfl, rfl, rfl, rfl⟩ := h
      exact ⟨rfl, hob⟩
    · cases h
  · cases h
theorem sh_frz (t : Nat) (E : List (List D)) {k sz lo n : Nat} {es : List (List D)} (h : arrOf s (lkA s.env t) = some (k, sz, lo, n, es)) (hE : (es.drop lo).take n = E) (hn : lo + n ≤ es.length) : Shift s ⟨(t, .d (.sl E)) :: s.env, s.objs.set k none⟩ := by
  subst hE
  obtain ⟨h1, h2⟩ := arrOf_ok h
  exact .frzA t k sz lo n es h1 h2 hn
theorem sh_sub (t : Nat) (E : List (List D)) (M : Nat) {k sz lo n : Nat} {es : List (List D)} (h : arrOf s (lkA s.env t) = some (k, sz, lo, n, es)) (hE : (es.drop lo).take n = E) (hn : lo + n ≤ es.length) (hM : n = M) : Shift s ⟨(t, .osl s.objs.length sz 0 M) :: s.env, s.objs.set k none ++ [some (.arr sz E)]⟩ := by
  subst hE
  subst hM
  obtain ⟨h1, h2⟩ := arrOf_ok h
  exact .sub t k sz lo n es h1 h2 hn
theorem sh_frzc (kb i : Nat) (E : List (List D)) {k sz lo n : Nat} {es : List (List D)} (h : (isBox s kb, ((boxAt s kb)[i]?).bind (arrOf s)) = (true, some (k, sz, lo, n, es))) (hE : (es.drop lo).take n = E) (hn : lo + n ≤ es.length) : Shift s ⟨s.env, (s.objs.set k none).set kb (some (.box ((boxAt s kb).set i (.d (.sl E)))))⟩ := by
  subst hE
  simp only [Prod.mk.injEq, Option.bind_eq_some_iff] at h
  obtain ⟨h0, v, hv, h⟩ := h
  obtain ⟨h1, h2⟩ := arrOf_ok h
  subst h1
  exact .frzC kb i k sz lo n _ es (boxAt_ok h0) hv h2 hn
theorem sh_subc (kb i : Nat) (E : List (List D)) (M : Nat) {k sz lo n : Nat} {es : List (List D)} (h : (isBox s kb, ((boxAt s kb)[i]?).bind (arrOf s)) = (true, some (k, sz, lo, n, es))) (hE : (es.drop lo).take n = E) (hn : lo + n ≤ es.length) (hM : n = M) : Shift s ⟨s.env, (s.objs.set k none).set kb (some (.box ((boxAt s kb).set i (.osl s.objs.length sz 0 M)))) ++ [some (.arr sz E)]⟩ := by
  subst hE
  subst hM
  simp only [Prod.mk.injEq, Option.bind_eq_some_iff] at h
  obtain ⟨h0, v, hv, h⟩ := h
  obtain ⟨h1, h2⟩ := arrOf_ok h
  subst h1
  exact .subC kb i k sz lo n _ es (boxAt_ok h0) hv h2 hn
theorem sh_len (t k sz lo n m : Nat) (h : lkA s.env t = .osl k sz lo n) (e : n = m) : Shift s ⟨(t, .osl k sz lo m) :: s.env, s.objs⟩ := by
  subst e
  have := Shift.dup (st := s) t
  rwa [h] at this
theorem take_all {α : Type} {enc : α → List D} {xs : List α} : ((xs.map enc).drop 0).take xs.length = xs.map enc := by
  rw [List.drop_zero]; exact List.take_of_length_le (by simp)
theorem takeE {α : Type} {enc : α → List D} {xs : List α} : AV.d (.sl (((xs.map enc).drop 0).take xs.length)) = AV.d (.sl (xs.map enc)) := by rw [take_all]
theorem consE {a b : AV} {l m : List AV} (h : a = b) (h' : l = m) : a :: l = b :: m := by rw [h, h']
theorem aggE {l m : List AV} (h : l = m) : AV.agg l = AV.agg m := by rw [h]
def freshOf (Γ : Cx) (c : Code) (i : Nat) (s : St) : Option (List (List D)) :=
  match (opsIn c)[i]? with
  | some o => opF Γ.ty (fun x => unG (evalA s.env x)) o.op
  | none => none
def nextF (Γ : Cx) (c : Code) (i : Nat) (es : List (List D)) (s : St) : Option St :=
  match (opsIn c)[i]? with
  | some o => bif o.guard.isNone && dstOk Γ.nt o.dst && (o.op.operands.toList.map (evalA s.env)).all notGv then some ⟨putA o.dst false true (.d (.sl es)) s.env, s.objs⟩ else none
  | none => none
theorem specF (j : Nat) (es : List (List D)) (hx : freshOf Γ (nav p C) i s = some es) (hn : nextF Γ (nav p C) i es s = some s') (hj : i + 1 = j) (hk : runFrom Γ C p j K s') : runFrom Γ C p i K s := by
  subst hj
  unfold runFrom at hk ⊢
  unfold freshOf at hx
  unfold nextF at hn
  split at hn
  · rename_i o hi
    rw [hi] at hx
    simp only at hx
    obtain ⟨hc, hn⟩ := bif_some hn
    simp only [Bool.and_eq_true] at hc
    obtain ⟨⟨h1, h2⟩, h3⟩ := hc
    cases hn
    rw [drop_cons hi]
    show stepA _ _ _ _ _ _
    have hgN : o.guard = none := by simpa using h1
    unfold stepA
    rw [hgN]
    simp only [guardA, h2, Bool.not_true, cond_false]
    refine ⟨fun _ => .inr (.inl ?_), fun h => by cases h⟩
    unfold stepF
    rw [hx]
    refine ⟨gobA_of h3, ?_⟩
    rw [hgN]
    exact hk
  · cases hn
def opPl (Γ : Cx) (c : Code) (i : Nat) (s : St) : Option (AV × List Ob) :=
  match (opsIn c)[i]? with
  | some o => bif obOK Γ.ty (fun x => unG (evalA s.env x)) s.objs o.op then (match opA Γ.ty (fun x => unG (evalA s.env x)) s.objs o.op with
    | some ⟨v, obs, [], none, _⟩ => some (v, obs)
    | _ => none) else none
  | none => none
theorem is_pl {v : AV} {obs : List Ob} (h : opPl Γ (nav p C) i s = some (v, obs)) : OpIs (opOf Γ (nav p C) i s) v obs [] none := by
  unfold opPl at h
  unfold opOf
  split at h
  · rename_i o hi
    rw [hi]
    obtain ⟨hb, h⟩ := bif_some h
    split at h
    · rename_i he
      cases h
      exact ⟨_, he, obOK_sound hb he⟩
    · cases h
  · cases h
theorem andL {a b : Bool} (h : (a && b) = true) : a = true := by cases a <;> first | rfl | cases h
theorem gimp {α : Type} {g : Bool} {x y : Option α} {z : α} (h : (if g = true then x else y) = some z) : g = true → x = some z := fun e => by rw [if_pos e] at h; exact h
theorem at_condT (t : Bool) (h : nav p C = .cond (condOp (nav p C)) (nav p0 C) (nav p1 C)) (hc : evalA s.env (condOp (nav p C)) = .d (.bool t)) (ht : t = true) (hw : wpA Γ (nav p0 C) Q s) : wpA Γ (nav p C) Q s :=
  at_cond t h hc (fun _ => hw) fun e => by rw [ht] at e; cases e
theorem at_condF (t : Bool) (h : nav p C = .cond (condOp (nav p C)) (nav p0 C) (nav p1 C)) (hc : evalA s.env (condOp (nav p C)) = .d (.bool t)) (ht : t = false) (hw : wpA Γ (nav p1 C) Q s) : wpA Γ (nav p C) Q s :=
  at_cond t h hc (fun e => by rw [ht] at e; cases e) fun _ => hw
theorem at_seqJ {σ ζ : Type} (sJ : σ → St) (F : σ → Option ζ) (z : ζ) (h : nav p C = .seq (nav p0 C) (nav p1 C)) (hb : ∀ x, F x = some z → wpA Γ (nav p1 C) Q (sJ x)) (ha : (∀ x, F x = some z → wpA Γ (nav p1 C) Q (sJ x)) → wpA Γ (nav p0 C) (seqQ (wpA Γ (nav p1 C) Q) Q) s) : wpA Γ (nav p C) Q s :=
  at_seq h (ha hb)
end Go.AI
end
section
namespace Go.AI
def eI64 (n : Int) : List D := [.int .i64 n]
def eI32 (n : Int) : List D := [.int .i32 n]
def eI16 (n : Int) : List D := [.int .i16 n]
def eI8 (n : Int) : List D := [.int .i8 n]
def eU64 (n : Int) : List D := [.int .u64 n]
def eU32 (n : Int) : List D := [.int .u32 n]
def eU16 (n : Int) : List D := [.int .u16 n]
def eU8 (n : Int) : List D := [.int .u8 n]
def eB (b : Bool) : List D := [.bool b]
def eS (s : List UInt8) : List D := [.str s]
def eL {α : Type} (e : α → List D) (l : List α) : List D := [.sl (l.map e)]
variable {α κ : Type} {enc : α → List D} {objs : List (Option Ob)}
theorem OpIs.of {x : Option Eff} {v : AV} {obs : List Ob} {rm : List Nat} {upd : Option (Nat × Ob)} {ob : Prop} (h : x = some ⟨v, obs, rm, upd, ob⟩) (ho : ob) : OpIs x v obs rm upd := ⟨ob, h, ho⟩
theorem map_idx {xs : List α} {i : Int} {x : α} (h : idx xs i = some x) : (xs.map enc)[i.toNat]? = some (enc x) := by
  rw [List.getElem?_map, (idx_some h).2.2]; rfl
theorem is_idxD {xs : List α} {i : Int} {x : α} {esz eb : Nat} {ez : List D} (h : idx xs i = some x) (hl : Nat.beq (enc x).length esz = true) : OpIs (idxA (.slice esz eb ez) (.d (.sl (xs.map enc))) i) (.dptr (enc x) 0) [] [] none := by
  obtain ⟨h0, h1, _⟩ := idx_some h
  refine .of (ob := 0 ≤ i ∧ i < (xs.map enc).length ∧ (enc x).length = esz) ?_ ⟨h0, by simpa using h1, Nat.eq_of_beq_eq_true hl⟩
  simp only [idxA, valOb, map_idx (enc := enc) h, Option.getD_some]
theorem is_idxO {xs : List α} {i : Int} {x : α} {esz eb k : Nat} {ez : List D} (h : idx xs i = some x) : OpIs (idxA (.slice esz eb ez) (.osl k esz 0 xs.length) i) (.eptr k esz (0 + i.toNat) 0) [] [] none := by
  obtain ⟨h0, h1, _⟩ := idx_some h
  exact .of rfl ⟨h0, h1, rfl⟩
theorem is_ldA {xs : List α} {i : Int} {x : α} {k sz off : Nat} {t : Ty} {v : AV} (hk : obA objs k = some (.arr sz (xs.map enc))) (h : idx xs i = some x) (hv : ldCells ((enc x).map .d) off t = some v) (hl : Nat.ble (off + t.size) (enc x).length = true) :
    OpIs (loadA t objs (.eptr k sz (0 + i.toNat) off)) v [] [] none := by
  obtain ⟨h0, h1, _⟩ := idx_some h
  have e := map_idx (enc := enc) h
  refine .of (ob := sz = sz ∧ 0 + i.toNat < (xs.map enc).length ∧ off + t.size ≤ (enc x).length) ?_ ⟨rfl, ?_, Nat.le_of_ble_eq_true hl⟩
  · simp only [loadA, hk, Nat.zero_add, e, Option.getD_some, hv, valOb]
  · have := getElem?_lt e; omega
theorem is_stA {xs zs : List α} {i : Int} {x y : α} {k sz off : Nat} {t : Ty} {v : AV} {r : List D} {ks : List Nat} {obl : List (Nat × Nat)} (hk : obA objs k = some (.arr sz (xs.map enc))) (h : idx xs i = some x) (hz : put xs i y = some zs) (hx : xDs objs (cellsA v) = some (r, ks, obl)) (hob : leAll obl)
    (hc : (cellsOk v && (cellsA v).all solid && !ks.contains k) = true) (hy : spliceD (enc x) off r = enc y) (hl : (Nat.beq r.length t.size && Nat.ble (off + t.size) sz) = true) :
    OpIs (storeA t objs (.eptr k sz (0 + i.toNat) off) v) .top [] ks (some (k, .arr sz (zs.map enc))) := by
  obtain ⟨h0, h1, _⟩ := idx_some h
  have e := map_idx (enc := enc) h
  obtain ⟨ob, e1, q1⟩ := xDs_ok hx hob
  simp only [Bool.and_eq_true] at hl
  have hzz : zs = xs.set i.toNat y := by
    unfold put at hz
    split at hz
    · cases hz; rfl
    · cases hz
  refine .of (ob := sz = sz ∧ r.length = t.size ∧ 0 + i.toNat < (xs.map enc).length ∧ off + t.size ≤ sz ∧ ob) ?_ ⟨rfl, Nat.eq_of_beq_eq_true hl.1, ?_, Nat.le_of_ble_eq_true hl.2, q1⟩
  · simp only [storeA, hk, e1, hc, cond_true, Nat.zero_add, e, Option.getD_some, hy, hzz, List.map_set]
  · have := getElem?_lt e; omega
theorem app_ob {xs ys zs : List α} {eb : Nat} (h : app eb xs ys = some zs) : (xs.length + (ys.map enc).length) * eb ≤ 70368744177664 ∧ xs.length + (ys.map enc).length = zs.length ∧ zs = xs ++ ys := by
  obtain ⟨h1, h2⟩ := app_some h
  subst h2
  exact ⟨by simpa using h1, by simp, rfl⟩
theorem is_app0 {ys zs : List α} {esz eb : Nat} {E : List (List D)} {ob : Prop} (hE : E = ys.map enc) (hl : ∀ y, (enc y).length = esz) (ho : ob) (h : app eb [] ys = some zs) :
    OpIs (appendA esz eb objs (.d .nil) E ob) (.osl objs.length esz 0 zs.length) [.arr esz (zs.map enc)] [] none := by
  subst hE
  obtain ⟨h1, h2, h3⟩ := app_ob (enc := enc) h
  simp only [List.nil_append] at h3
  subst h3
  refine .of (ob := (∀ e ∈ zs.map enc, e.length = esz) ∧ (zs.map enc).length * eb ≤ 70368744177664 ∧ ob) ?_ ⟨?_, by simpa using h1, ho⟩
  · simp only [appendA, List.length_map]
  · intro e he
    simp only [List.mem_map] at he
    obtain ⟨y, _, rfl⟩ := he
    exact hl y
theorem is_app {xs ys zs : List α} {esz eb k : Nat} {E : List (List D)} {ob : Prop} (hk : obA objs k = some (.arr esz (xs.map enc))) (hE : E = ys.map enc) (hl : ∀ y, (enc y).length = esz) (ho : ob) (h : app eb xs ys = some zs) :
    OpIs (appendA esz eb objs (.osl k esz 0 xs.length) E ob) (.osl objs.length esz 0 zs.length) [.arr esz (zs.map enc)] [k] none := by
  subst hE
  obtain ⟨h1, h2, h3⟩ := app_ob (enc := enc) h
  subst h3
  have hb : Nat.beq esz esz = true := Nat.beq_refl esz
  refine .of (ob := 0 + xs.length ≤ (xs.map enc).length ∧ (∀ e ∈ ys.map enc, e.length = esz) ∧ (xs.length + (ys.map enc).length) * eb ≤ 70368744177664 ∧ ob) ?_ ⟨by simp, ?_, h1, ho⟩
  · simp only [appendA, hk, hb, Bool.true_or, Bool.and_self, cond_true, List.drop_zero, h2]
    have e1 : List.take xs.length (List.map enc xs) = List.map enc xs := List.take_of_length_le (by simp)
    simp only [e1, List.map_append]
  · intro e he
    simp only [List.mem_map] at he
    obtain ⟨y, _, rfl⟩ := he
    exact hl y
theorem is_cat {x y z : List UInt8} (h : cat x y = some z) : OpIs (strA .add x y) (.d (.str z)) [] [] none := by
  unfold cat at h
  split at h
  · rename_i h0
    cases h
    exact .of rfl (by show ((x.length + y.length : Nat) : Int) ≤ 9223372036854775807; omega)
  · cases h
theorem is_sidx {s : List UInt8} {i b : Int} (h : sidx s i = some b) : OpIs (valOb (.d (.int .u8 (s[i.toNat]?.getD 0).toNat)) (0 ≤ i ∧ i < s.length)) (.d (.int .u8 b)) [] [] none := by
  unfold sidx at h
  split at h
  · rename_i h0
    cases h
    exact .of rfl h0
  · cases h
theorem is_ssub {s z : List UInt8} {l h : Int} (hz : sub s l h = some z) : OpIs (valOb (.d (.str ((s.take h.toNat).drop l.toNat))) (0 ≤ l ∧ l ≤ h ∧ h ≤ s.length)) (.d (.str z)) [] [] none := by
  unfold sub at hz
  split at hz
  · rename_i h0
    cases hz
    exact .of rfl h0
  · cases hz
theorem is_sub {xs zs : List α} {l h : Int} {esz : Nat} (hz : sub xs l h = some zs) (hl : ∀ y, (enc y).length = esz) : OpIs (valOb (.d (.sl (((xs.map enc).take h.toNat).drop l.toNat))) (0 ≤ l ∧ l ≤ h ∧ h ≤ (xs.map enc).length ∧ ∀ e ∈ xs.map enc, e.length = esz)) (.d (.sl (zs.map enc))) [] [] none := by
  unfold sub at hz
  split at hz
  · rename_i h0
    cases hz
    refine .of (ob := 0 ≤ l ∧ l ≤ h ∧ h ≤ (xs.map enc).length ∧ ∀ e ∈ xs.map enc, e.length = esz) ?_ ⟨h0.1, h0.2.1, by simpa using h0.2.2, ?_⟩
    · simp only [valOb, List.map_drop, List.map_take]
    · intro e he
      simp only [List.mem_map] at he
      obtain ⟨y, _, rfl⟩ := he
      exact hl y
  · cases hz
theorem is_mk {zs : List α} {n : Int} {z : α} {esz eb : Nat} {ez : List D} (h : mkl eb n z = some zs) (he : enc z = ez) : OpIs (some ⟨.osl objs.length esz 0 n.toNat, [.arr esz (List.replicate n.toNat ez)], [], none, 0 ≤ n ∧ n = n ∧ n.toNat * eb ≤ 70368744177664⟩) (.osl objs.length esz 0 zs.length) [.arr esz (zs.map enc)] [] none := by
  unfold mkl at h
  split at h
  · rename_i h0
    cases h
    refine .of (ob := 0 ≤ n ∧ n = n ∧ n.toNat * eb ≤ 70368744177664) ?_ ⟨h0.1, rfl, h0.2⟩
    simp [he]
  · cases h
theorem is_bstr {bs : List Int} {z : List UInt8} (h : bstr bs = some z) {eb : Nat} : OpIs (convA (.slice 1 eb [.int .u8 0]) .string (.d (.sl (bs.map fun n => [.int .u8 n])))) (.d (.str z)) [] [] none := by
  unfold bstr at h
  split at h
  · rename_i h0
    cases h
    simp only [List.all_eq_true, Bool.and_eq_true, decide_eq_true_eq] at h0
    refine .of (ob := True ∧ ∀ e ∈ bs.map fun n => [D.int .u8 n], isByte e) ?_ ⟨trivial, ?_⟩
    · simp only [convA, elemsA, valOb, List.map_map]
      rfl
    · intro e he
      simp only [List.mem_map] at he
      obtain ⟨n, hn, rfl⟩ := he
      obtain ⟨h1, h2⟩ := h0 n hn
      refine ⟨UInt8.ofNat n.toNat, ?_⟩
      have : (UInt8.ofNat n.toNat).toNat = n.toNat := by simp; omega
      rw [this]
      congr 2
      omega
  · cases h
theorem is_len {xs : List α} {esz eb : Nat} {ez : List D} : OpIs (lenA (.slice esz eb ez) (.d (.sl (xs.map enc)))) (.d (.int .i64 xs.length)) [] [] none := by
  refine .of (ob := True) ?_ trivial
  simp only [lenA, val, List.length_map]
theorem is_slO {xs zs : List α} {l h : Int} {esz eb k : Nat} {ez : List D} (hz : sub xs l h = some zs) : OpIs (valOb (.osl k esz (0 + l.toNat) (h.toNat - l.toNat)) (0 ≤ l ∧ l ≤ h ∧ h ≤ (xs.length : Int) ∧ esz = esz)) (.osl k esz (0 + l.toNat) (h.toNat - l.toNat)) [] [] none := by
  unfold sub at hz
  split at hz
  · rename_i h0
    exact .of rfl ⟨h0.1, h0.2.1, h0.2.2, rfl⟩
  · cases hz
theorem sub_cut {xs zs : List α} {l h : Int} (hz : sub xs l h = some zs) : ((xs.map enc).drop (0 + l.toNat)).take (h.toNat - l.toNat) = zs.map enc := by
  unfold sub at hz
  split at hz
  · cases hz
    rw [Nat.zero_add, List.map_drop, List.map_take, List.take_drop]
    by_cases hh : l.toNat ≤ h.toNat
    · rw [Nat.add_sub_cancel' hh]
    · rename_i h0; omega
  · cases hz
theorem sub_le {xs zs : List α} {l h : Int} (hz : sub xs l h = some zs) : (0 + l.toNat) + (h.toNat - l.toNat) ≤ (xs.map enc).length := by
  unfold sub at hz
  split at hz
  · rename_i h0; simp; omega
  · cases hz
theorem sub_len {xs zs : List α} {l h : Int} (hz : sub xs l h = some zs) : h.toNat - l.toNat = zs.length := by
  unfold sub at hz
  split at hz
  · rename_i h0; cases hz; simp; omega
  · cases hz
theorem put_len {xs zs : List α} {i : Int} {y : α} (hz : put xs i y = some zs) : xs.length = zs.length := by
  unfold put at hz
  split at hz
  · cases hz; simp
  · cases hz
theorem cut_put {xs zs : List α} (h : xs.length = zs.length) : ((zs.map enc).drop 0).take xs.length = zs.map enc := by
  rw [h]; exact take_all
theorem le_put {xs zs : List α} (h : xs.length = zs.length) : 0 + xs.length ≤ (zs.map enc).length := by simp [h]
theorem bytes_map {s : List UInt8} : (s.map fun b => [D.int .u8 b.toNat]) = (bytesOf s).map fun n => [D.int .u8 n] := by
  simp only [bytesOf, List.map_map]; rfl
theorem guard_t {b : Bool} {u : Unit} (h : guardB b = some u) : b = true := by
  unfold guardB at h
  split at h
  · assumption
  · cases h
theorem guard_nz {b : Int} {u : Unit} (h : guardB (!(b == 0)) = some u) : b ≠ 0 := by
  have := guard_t h
  simpa using this
theorem guard_ge {b : Int} {u : Unit} (h : guardB (decide (0 ≤ b)) = some u) : 0 ≤ b := by
  have := guard_t h
  simpa using this
theorem is_ob {v : AV} {ob : Prop} (h : ob) : OpIs (valOb v ob) v [] [] none := .of rfl h
theorem pick_and {t x y : Bool} : OpIs (pickA (.d (.bool t)) (.gv t (.d (.bool x))) (.d (.bool y))) (.d (.bool (bif t then x else y))) [] [] none := .of rfl ⟨trivial, fun h => h, trivial⟩
theorem pick_or {t x y : Bool} : OpIs (pickA (.d (.bool t)) (.d (.bool x)) (.gv (!t) (.d (.bool y)))) (.d (.bool (bif t then x else y))) [] [] none := .of rfl ⟨trivial, trivial, fun h => h⟩
theorem pick_gen {c a b : AV} {t x y : Bool} {r q q' : Prop} (hc : condB c = some (t, r)) (ha : unP t a = some (x, q)) (hb : unP (!t) b = some (y, q')) (hr : r) (hq : q) (hq' : q') : OpIs (pickA c a b) (.d (.bool (bif t then x else y))) [] [] none := by
  refine .of (ob := r ∧ q ∧ q') ?_ ⟨hr, hq, hq'⟩
  simp only [pickA, hc, ha, hb, valOb]
variable {encK : κ → List D} [DecidableEq κ]
def encM (encK : κ → List D) (enc : α → List D) (m : List (κ × α)) : List (List D × List D) := m.map fun p => (encK p.1, enc p.2)
theorem get_m {ks : List TK} (heq : ∀ a b, eqCells ks ((encK a).map .d) ((encK b).map .d) = some (decide (a = b))) (k : κ) (m : List (κ × α)) : getM ks (encK k) (encM encK enc m) = (mget k m).map enc := by
  induction m with
  | nil => rfl
  | cons p m ih =>
    have : eqK ks (encK k) (encK p.1) = decide (k = p.1) := by simp only [eqK, heq, Option.getD_some]
    simp only [encM, List.map_cons, getM, this, mget]
    by_cases h : k = p.1
    · simp only [h, decide_true, cond_true, if_true, Option.map_some]
    · simp only [h, decide_false, cond_false, if_false]; exact ih
theorem put_m {ks : List TK} (heq : ∀ a b, eqCells ks ((encK a).map .d) ((encK b).map .d) = some (decide (a = b))) (k : κ) (v : α) (m : List (κ × α)) : putM ks (encK k) (enc v) (encM encK enc m) = encM encK enc (mput k v m) := by
  induction m with
  | nil => rfl
  | cons p m ih =>
    have : eqK ks (encK k) (encK p.1) = decide (k = p.1) := by simp only [eqK, heq, Option.getD_some]
    simp only [encM, List.map_cons, putM, this, mput]
    by_cases h : k = p.1
    · simp only [h, decide_true, cond_true, if_true, List.map_cons]
    · simp only [h, decide_false, cond_false, if_false, List.map_cons]
      congr 1
theorem keys_m {ks : List TK} (heq : ∀ a b, eqCells ks ((encK a).map .d) ((encK b).map .d) = some (decide (a = b))) (k : κ) (m : List (κ × α)) : keysOk ks (encK k) (encM encK enc m) := by
  refine ⟨by rw [heq]; rfl, fun p hp => ?_⟩
  simp only [encM, List.mem_map] at hp
  obtain ⟨q, _, rfl⟩ := hp
  simp only [heq, Option.isSome_some]
theorem is_look1 {ks : List TK} {k : Nat} {m : List (κ × α)} {key : κ} {l : List AV} {z : α} {vz : List D} {e1 : α → D} (heq : ∀ a b, eqCells ks ((encK a).map .d) ((encK b).map .d) = some (decide (a = b))) (he : ∀ x, enc x = [e1 x]) (hz : vz = [e1 z]) (hk : obA objs k = some (.map true false (encM encK enc m))) (hx : xDs objs l = some (encK key, [], [])) (ok : Bool) :
    OpIs (lookA (.map ks true false vz) objs (.mp k) (.agg l) ok) (bif ok then .tup [.d (e1 ((mget key m).getD z)), .d (.bool (mget key m).isSome)] else .d (e1 ((mget key m).getD z))) [] [] none := by
  obtain ⟨ob, e2, q⟩ := xDs_ok hx leZ
  have hv : kvV false ((getM ks (encK key) (encM encK enc m)).getD vz) = .d (e1 ((mget key m).getD z)) := by
    rw [get_m heq, hz]
    cases mget key m with
    | none => rfl
    | some x => simp only [Option.map_some, Option.getD_some, he]; rfl
  have hs : (getM ks (encK key) (encM encK enc m)).isSome = (mget key m).isSome := by rw [get_m heq]; cases mget key m <;> rfl
  refine .of (ob := ob ∧ keysOk ks (encK key) (encM encK enc m)) ?_ ⟨q, keys_m heq key m⟩
  simp only [lookA, hk, kvA, cond_true, e2, List.isEmpty_nil, beq_self_eq_true, Bool.and_self, valOb, hv, hs]
theorem is_put1 {ks : List TK} {k : Nat} {m : List (κ × α)} {key : κ} {l : List AV} {v : AV} {y : α} {vz : List D} {e1 : α → D} (heq : ∀ a b, eqCells ks ((encK a).map .d) ((encK b).map .d) = some (decide (a = b))) (he : ∀ x, enc x = [e1 x]) (hz : Nat.beq vz.length 1 = true) (hk : obA objs k = some (.map true false (encM encK enc m))) (hx : xDs objs l = some (encK key, [], [])) (hv : v = .d (e1 y)) (hvx : xDs objs [v] = some (enc y, [], [])) :
    OpIs (mputA (.map ks true false vz) objs (.mp k) (.agg l) v) .top [] [] (some (k, .map true false (encM encK enc (mput key y m)))) := by
  obtain ⟨ob, e2, q⟩ := xDs_ok hx leZ
  obtain ⟨ob', e3, q'⟩ := xDs_ok hvx leZ
  have hkv : kvA objs false v = some ⟨enc y, [], ob'⟩ := by subst hv; exact e3
  refine .of (ob := ob ∧ ob' ∧ keysOk ks (encK key) (encM encK enc m) ∧ k ∉ ([] : List Nat) ∧ (enc y).length = vz.length) ?_ ⟨q, q', keys_m heq key m, by simp, by rw [he, Nat.eq_of_beq_eq_true hz]; rfl⟩
  simp only [mputA, hk, kvA, cond_true, e2]
  simp only [kvA] at hkv
  rw [hkv]
  simp only [put_m heq]
  rfl
end Go.AI
end
section
namespace Go.AI
variable {Γ : Cx} {C : Code} {p p0 p1 : List Nat} {Q : Ex → St → Prop} {s s' : St} {K : St → Prop} {i : Nat}
variable {α β : Type} {enc : β → List D} {encN : α → List AV} {objs : List (Option Ob)}
def nL {γ : Type} (sz : Nat) (e : γ → List D) (l : List γ) : List AV := [.own sz (l.map e)]
def keepOf (Γ : Cx) (c : Code) (i : Nat) (s : St) : Option (Nat × List (List D)) :=
  match (opsIn c)[i]? with
  | some o => opK Γ.ty (fun x => unG (evalA s.env x)) o.op
  | none => none
def nextK (Γ : Cx) (c : Code) (i : Nat) (obj : Bool) (esz : Nat) (es : List (List D)) (s : St) : Option St :=
  match (opsIn c)[i]? with
  | some o => bif !drIn c && o.guard.isNone && dstOk Γ.nt o.dst && (o.op.operands.toList.map (evalA s.env)).all notGv then (bif obj then some ⟨putA o.dst false true (.osl s.objs.length esz 0 es.length) s.env, s.objs ++ [some (.arr esz es)]⟩ else some ⟨putA o.dst false true (.d (.sl es)) s.env, s.objs⟩) else none
  | none => none
theorem specK (j : Nat) (obj : Bool) {esz : Nat} (es : List (List D)) (hx : keepOf Γ (nav p C) i s = some (esz, es)) (hn : nextK Γ (nav p C) i obj esz es s = some s') (hj : i + 1 = j) (hk : runFrom Γ C p j K s') : runFrom Γ C p i K s := by
  subst hj
  unfold runFrom at hk ⊢
  unfold keepOf at hx
  unfold nextK at hn
  split at hn
  · rename_i o hi
    rw [hi] at hx
    simp only at hx
    obtain ⟨hc, hn⟩ := bif_some hn
    simp only [Bool.and_eq_true, Bool.not_eq_true'] at hc
    obtain ⟨⟨⟨h0, h1⟩, h2⟩, h3⟩ := hc
    rw [drop_cons hi]
    show stepA _ _ _ _ _ _
    have hgN : o.guard = none := by simpa using h1
    unfold stepA
    rw [hgN]
    simp only [guardA, h2, Bool.not_true, cond_false]
    refine ⟨fun _ => .inr (.inr ⟨h0, hgN, ?_⟩), fun h => by cases h⟩
    rw [hx]
    refine ⟨gobA_of h3, ?_⟩
    cases obj with
    | true => rw [cond_true] at hn; cases hn; exact .inr hk
    | false => rw [cond_false] at hn; cases hn; exact .inl hk
  · cases hn
def arrAt (s : St) (k : Nat) : Option (Nat × List (List D)) :=
  match obA s.objs k with
  | some (.arr sz es) => some (sz, es)
  | _ => none
def narrAt (s : St) (k : Nat) : Option (Nat × List (List AV)) :=
  match obA s.objs k with
  | some (.narr sz es) => some (sz, es)
  | _ => none
theorem arrAt_ok {k sz : Nat} {es : List (List D)} (h : arrAt s k = some (sz, es)) : obA s.objs k = some (.arr sz es) := by
  unfold arrAt at h
  split at h
  · rename_i hh; cases h; exact hh
  · cases h
theorem narrAt_ok {k sz : Nat} {es : List (List AV)} (h : narrAt s k = some (sz, es)) : obA s.objs k = some (.narr sz es) := by
  unfold narrAt at h
  split at h
  · rename_i hh; cases h; exact hh
  · cases h
def nilB : AV → AV → Bool
  | .own 0 [], .own _ [] => true
  | _, _ => false
def nilBs : List AV → List AV → Bool
  | [], [] => true
  | a :: l, b :: m => nilB a b && nilBs l m
  | _, _ => false
def nilBss : List (List AV) → List (List AV) → Bool
  | [], [] => true
  | a :: l, b :: m => nilBs a b && nilBss l m
  | _, _ => false
theorem nilB_ok {a b : AV} (h : nilB a b = true) : a = .own 0 [] ∧ ∃ s, b = .own s [] := by
  unfold nilB at h
  split at h
  · exact ⟨rfl, _, rfl⟩
  · cases h
theorem nilBs_ok : ∀ {l m : List AV}, nilBs l m = true → l.length = m.length ∧ ∀ (j : Nat) (a a' : AV), l[j]? = some a → m[j]? = some a' → a = a' ∨ (a = .own 0 [] ∧ ∃ s, a' = .own s []) := by
  intro l
  induction l with
  | nil => intro m h; cases m with | nil => exact ⟨rfl, fun j a a' h => by simp at h⟩ | cons => cases h
  | cons a l ih =>
    intro m h
    cases m with
    | nil => cases h
    | cons b m =>
      simp only [nilBs, Bool.and_eq_true] at h
      obtain ⟨h1, h2⟩ := ih h.2
      refine ⟨by simp [h1], fun j x y hx hy => ?_⟩
      cases j with
      | zero => simp at hx hy; subst hx; subst hy; exact .inr (nilB_ok h.1)
      | succ j => exact h2 j x y (by simpa using hx) (by simpa using hy)
theorem nilBss_ok : ∀ {l m : List (List AV)}, nilBss l m = true → l.length = m.length ∧ ∀ (i : Nat) (e e' : List AV), l[i]? = some e → m[i]? = some e' → e.length = e'.length ∧ ∀ (j : Nat) (a a' : AV), e[j]? = some a → e'[j]? = some a' → a = a' ∨ (a = .own 0 [] ∧ ∃ s, a' = .own s []) := by
  intro l
  induction l with
  | nil => intro m h; cases m with | nil => exact ⟨rfl, fun j a a' h => by simp at h⟩ | cons => cases h
  | cons a l ih =>
    intro m h
    cases m with
    | nil => cases h
    | cons b m =>
      simp only [nilBss, Bool.and_eq_true] at h
      obtain ⟨h1, h2⟩ := ih h.2
      refine ⟨by simp [h1], fun j x y hx hy => ?_⟩
      cases j with
      | zero => simp at hx hy; subst hx; subst hy; exact nilBs_ok h.1
      | succ j => exact h2 j x y (by simpa using hx) (by simpa using hy)
theorem sh_toN (k : Nat) (E : List (List AV)) {sz : Nat} {es : List (List D)} (h : arrAt s k = some (sz, es)) (hb : nilBss (es.map fun e => e.map toN) E = true) : Shift s ⟨s.env, s.objs.set k (some (.narr sz E))⟩ := by
  have ho := arrAt_ok h
  obtain ⟨h1, h2⟩ := nilBss_ok hb
  have a := Shift.toN (st := s) k sz es ho
  have b := Shift.reown (st := ⟨s.env, s.objs.set k (some (.narr sz (es.map fun e => e.map toN)))⟩) k sz (es.map fun e => e.map toN) E (obA_set_same ho) h1 h2
  have := Shift.trans a b
  simpa using this
theorem sh_reN (k : Nat) {sz : Nat} {xss yss : List α} {row : List AV} {y : α} (h : narrAt s k = some (sz, xss.map encN ++ [row])) (hy : yss = xss ++ [y]) (hb : nilBs row (encN y) = true) : Shift s ⟨s.env, s.objs.set k (some (.narr sz (yss.map encN)))⟩ := by
  have ho := narrAt_ok h
  subst hy
  refine Shift.reown k sz _ _ ho (by simp) fun i e e' hi hi' => ?_
  rw [List.map_append] at hi'
  by_cases hlt : i < (xss.map encN).length
  · rw [List.getElem?_append_left hlt] at hi hi'
    rw [hi] at hi'
    cases hi'
    exact ⟨rfl, fun j a a' ha ha' => .inl (by rw [ha] at ha'; exact Option.some.inj ha')⟩
  · rw [List.getElem?_append_right (by omega)] at hi hi'
    have : i - (xss.map encN).length = 0 := by have := getElem?_lt hi; simp at this; simp at *; omega
    rw [this] at hi hi'
    simp at hi hi'
    subst hi; subst hi'
    exact nilBs_ok hb
theorem app_one {eb : Nat} {xss yss : List α} {y : α} (h : app eb xss [y] = some yss) : yss = xss ++ [y] := (app_some h).2
theorem is_appN {xss yss : List α} {y : α} {esz eb k : Nat} {e : List D} {ob : Prop} (hk : obA objs k = some (.narr esz (xss.map encN))) (hl : Nat.beq e.length esz = true) (ho : ob) (h : app eb xss [y] = some yss) :
    OpIs (appendA esz eb objs (.osl k esz 0 xss.length) [e] ob) (.osl objs.length esz 0 yss.length) [.narr esz (xss.map encN ++ [e.map toN])] [k] none := by
  obtain ⟨h1, h2⟩ := app_some h
  subst h2
  have hb : Nat.beq esz esz = true := Nat.beq_refl esz
  have h0 : Nat.beq 0 0 = true := rfl
  refine .of (ob := xss.length ≤ (xss.map encN).length ∧ (∀ e' ∈ [e], e'.length = esz) ∧ (xss.length + [e].length) * eb ≤ 70368744177664 ∧ ob) ?_ ⟨by simp, ?_, by simpa using h1, ho⟩
  · simp only [appendA, hk, hb, h0, Bool.and_self, cond_true]
    have e1 : List.take xss.length (List.map encN xss) = List.map encN xss := List.take_of_length_le (by simp)
    simp [e1]
  · intro e' he
    simp at he
    subst he
    exact Nat.eq_of_beq_eq_true hl
theorem sh_out (k j isz : Nat) {sz : Nat} {xss : List α} {x : α} {ys : List β} {n : Int} (h : narrAt s k = some (sz, xss.map encN)) (hx : idx xss n = some x) (hj : (encN x)[j]? = some (.own isz (ys.map enc))) :
    Shift s ⟨s.env, s.objs.set k (some (.narr sz ((xss.map encN).set n.toNat ((encN x).set j (.osl s.objs.length isz 0 ys.length))))) ++ [some (.arr isz (ys.map enc))]⟩ := by
  have ho := narrAt_ok h
  have hi : (xss.map encN)[n.toNat]? = some (encN x) := by rw [List.getElem?_map, (idx_some hx).2.2]; rfl
  have := Shift.out (st := s) k sz n.toNat j isz _ _ _ ho hi hj
  simpa using this
theorem sh_inn (k j m isz : Nat) {sz : Nat} {xss yss : List α} {x y : α} {row : List AV} {zs : List β} {n : Int} (h : (narrAt s k, arrAt s m) = (some (sz, (xss.map encN).set n.toNat row), some (isz, zs.map enc))) (hx : idx xss n = some x) (hr : row[j]? = some (.osl m isz 0 zs.length)) (hy : row.set j (.own isz (zs.map enc)) = encN y) (hp : xss.set n.toNat y = yss) :
    Shift s ⟨s.env, (s.objs.set m none).set k (some (.narr sz (yss.map encN)))⟩ := by
  simp only [Prod.mk.injEq] at h
  have ho := narrAt_ok h.1
  have hm := arrAt_ok h.2
  obtain ⟨h0, h1, _⟩ := idx_some hx
  have hlt : n.toNat < (xss.map encN).length := by simp; omega
  have hi : ((xss.map encN).set n.toNat row)[n.toNat]? = some row := List.getElem?_set_self hlt
  have hlen : zs.length = (zs.map enc).length := by simp
  rw [hlen] at hr
  have := Shift.inn (st := s) k sz n.toNat j m isz _ row (zs.map enc) ho hi hr hm
  rw [hy, List.set_set] at this
  rw [← hp, List.map_set]
  exact this
theorem is_ldN {xss : List α} {x : α} {row : List AV} {n : Int} {k sz off : Nat} {t : Ty} {v : AV} (hk : obA objs k = some (.narr sz ((xss.map encN).set n.toNat row))) (h : idx xss n = some x) (hv : ldCells row off t = some v) (hs : (cellsA v).all solid = true) (hl : Nat.ble (off + t.size) row.length = true) :
    OpIs (loadA t objs (.eptr k sz (0 + n.toNat) off)) v [] [] none := by
  obtain ⟨h0, h1, _⟩ := idx_some h
  have hlt : n.toNat < (xss.map encN).length := by simp; omega
  have hi : ((xss.map encN).set n.toNat row)[n.toNat]? = some row := List.getElem?_set_self hlt
  refine .of (ob := sz = sz ∧ 0 + n.toNat < ((xss.map encN).set n.toNat row).length ∧ off + t.size ≤ row.length ∧ (cellsA v).all solid = true) ?_ ⟨rfl, ?_, Nat.le_of_ble_eq_true hl, hs⟩
  · simp only [loadA, hk, Nat.zero_add, hi, Option.getD_some, hv, valOb]
  · simp only [List.length_set, Nat.zero_add]; exact hlt
theorem is_stN {xss : List α} {x : α} {row row' : List AV} {n : Int} {k sz off : Nat} {t : Ty} {v : AV} (hk : obA objs k = some (.narr sz ((xss.map encN).set n.toNat row))) (h : idx xss n = some x) (hc : (cellsOk v && (cellsA v).all solid) = true) (hy : splice row off (cellsA v) = row') (hl : (Nat.beq (cellsA v).length t.size && Nat.ble (off + t.size) sz) = true) :
    OpIs (storeA t objs (.eptr k sz (0 + n.toNat) off) v) .top [] [] (some (k, .narr sz ((xss.map encN).set n.toNat row'))) := by
  obtain ⟨h0, h1, _⟩ := idx_some h
  have hlt : n.toNat < (xss.map encN).length := by simp; omega
  have hi : ((xss.map encN).set n.toNat row)[n.toNat]? = some row := List.getElem?_set_self hlt
  simp only [Bool.and_eq_true] at hl
  refine .of (ob := sz = sz ∧ (cellsA v).length = t.size ∧ 0 + n.toNat < ((xss.map encN).set n.toNat row).length ∧ off + t.size ≤ sz) ?_ ⟨rfl, Nat.eq_of_beq_eq_true hl.1, ?_, Nat.le_of_ble_eq_true hl.2⟩
  · simp only [storeA, hk, hc, cond_true, Nat.zero_add, hi, Option.getD_some, hy, List.set_set]
  · simp only [List.length_set, Nat.zero_add]; exact hlt
theorem sh_frzN (t : Nat) {k sz : Nat} {xss : List α} {encD : α → List D} (h : (lkA s.env t, narrAt s k) = (.osl k sz 0 xss.length, some (sz, xss.map encN))) (hd : ∀ x, (encN x).map ofN = encD x) (hn : ∀ x, (encN x).all isN = true) : Shift s ⟨(t, .d (.sl (xss.map encD))) :: s.env, s.objs.set k none⟩ := by
  simp only [Prod.mk.injEq] at h
  have ho := narrAt_ok h.2
  have hlen : xss.length = (xss.map encN).length := by simp
  have ht := h.1
  rw [hlen] at ht
  have := Shift.frz (st := s) t k sz _ ht ho (fun e he a ha => by
    simp only [List.mem_map] at he
    obtain ⟨x, _, rfl⟩ := he
    exact List.all_eq_true.1 (hn x) a ha)
  have e1 : (List.map (fun e => List.map ofN e) (List.map encN xss)) = xss.map encD := by
    rw [List.map_map]
    exact List.map_congr_left fun x _ => hd x
  rw [e1] at this
  exact this
def clrAt (s : St) (k : Nat) : St :=
  match obA s.objs k with
  | some (.narr sz es) => ⟨s.env, s.objs.set k (some (.narr sz (es.map fun e => e.map clrA)))⟩
  | _ => s
theorem set_self {O : List (Option Ob)} {k : Nat} {ob : Ob} (h : obA O k = some ob) : O.set k (some ob) = O := by
  unfold obA at h
  split at h
  · rename_i hk
    cases h
    apply List.ext_getElem?
    intro i
    rw [List.getElem?_set]
    split
    · rename_i e; subst e
      split
      · exact hk.symm
      · rename_i hl; have := getElem?_lt hk; omega
    · rfl
  · cases h
theorem sh_gcN (ts : List Nat) (k : Nat) {sz : Nat} {xss : List α} (h : gcA ts s = clrAt s' k) (hn : narrAt s' k = some (sz, xss.map encN)) (hc : ∀ x, (encN x).map clrA = encN x) : Shift s s' := by
  have ho := narrAt_ok hn
  have e1 : clrAt s' k = s' := by
    unfold clrAt
    rw [ho]
    have e2 : (List.map (fun e => List.map clrA e) (List.map encN xss)) = xss.map encN := by
      rw [List.map_map]
      exact List.map_congr_left fun x _ => hc x
    simp only [e2, set_self ho]
  rw [e1] at h
  exact sh_gc ts h
def pe (s : St) (l : List (Nat × AV)) : St := ⟨l ++ s.env, s.objs⟩
def po (s : St) (l : List (Nat × AV)) (f : List (Option Ob) → List (Option Ob)) : St := ⟨l ++ s.env, f s.objs⟩
end Go.AI
end
section
namespace Go.AI
def CRd (F : Nat → Option Obj) (l : List D) (cs : List Value) : Prop := l.length = cs.length ∧ ∀ (i : Nat) (y : D) (v : Value), l[i]? = some y → cs[i]? = some v → DRep F y v
def Reads {α : Type} (P : Program) (t : TypeId) (enc : α → List D) (ok : α → Prop) : Prop :=
  ∀ (H : Type) (e : TypeId × Value → H) (w : World) (base : Nat) (spare : Nat → Bool) (held : Bool) (fuel : Nat) (cs : List Value) (x : DataW H × List MemPlace), DataW.trod e P w base spare held fuel t cs = some x → ∃ a : α, ok a ∧ CRd (fun b => w.heap[b]?) (enc a) cs
theorem crd_one {F : Nat → Option Obj} {y : D} {v : Value} (h : DRep F y v) : CRd F [y] [v] := by
  refine ⟨rfl, fun i a b ha hb => ?_⟩
  cases i with
  | zero => simp at ha hb; subst ha; subst hb; exact h
  | succ i => simp at ha
theorem reads_int {P : Program} {t : TypeId} {k : IntKind} (ht : P.underlying t = some (.int k)) : Reads P t (fun n => [.int k n]) (fun n => (Lit.int k n).wf = true) := by
  intro H e w base spare held fuel cs x h
  obtain ⟨n, rfl, _, hw⟩ := DataW.trod_int ht h
  exact ⟨n, hw, crd_one (.int k n)⟩
theorem reads_bool {P : Program} {t : TypeId} (ht : P.underlying t = some .bool) : Reads P t eB (fun _ => True) := by
  intro H e w base spare held fuel cs x h
  obtain ⟨b, rfl, _⟩ := DataW.trod_bool ht h
  exact ⟨b, trivial, crd_one (.bool b)⟩
theorem reads_string {P : Program} {t : TypeId} (ht : P.underlying t = some .string) : Reads P t eS (fun _ => True) := by
  intro H e w base spare held fuel cs x h
  obtain ⟨s, rfl, _, _⟩ := DataW.trod_string ht h
  exact ⟨s.data.toList, trivial, crd_one (.str s.data.toList)⟩
theorem list_choose {α : Type} {Q : Nat → α → Prop} : ∀ n, (∀ i, i < n → ∃ a, Q i a) → ∃ l : List α, l.length = n ∧ ∀ i a, l[i]? = some a → Q i a := by
  intro n
  induction n with
  | zero => intro _; exact ⟨[], rfl, fun i a h => by simp at h⟩
  | succ n ih =>
    intro h
    obtain ⟨l, hl, hq⟩ := ih fun i hi => h i (by omega)
    obtain ⟨a, ha⟩ := h n (by omega)
    refine ⟨l ++ [a], by simp [hl], fun i b hb => ?_⟩
    rcases Nat.lt_or_ge i l.length with hlt | hge
    · rw [List.getElem?_append_left hlt] at hb; exact hq i b hb
    · rw [List.getElem?_append_right hge] at hb
      have : i - l.length = 0 := by have := getElem?_lt hb; simp at this; omega
      rw [this] at hb
      simp at hb
      subst hb
      have : i = n := by omega
      subst this
      exact ha
theorem mapM_get {α β : Type} {f : α → Option β} : ∀ {l : List α} {r : List β}, l.mapM f = some r → r.length = l.length ∧ ∀ (i : Nat) (a : α), l[i]? = some a → r[i]? = f a := by
  intro l
  induction l with
  | nil => intro r h; simp at h; subst h; exact ⟨rfl, fun i a h => by simp at h⟩
  | cons a l ih =>
    intro r h
    rw [List.mapM_cons] at h
    simp only [Option.bind_eq_bind, Option.bind_eq_some_iff, Option.pure_def, Option.some.injEq] at h
    obtain ⟨b, hb, r', hr', rfl⟩ := h
    obtain ⟨h1, h2⟩ := ih hr'
    refine ⟨by simp [h1], fun i x hx => ?_⟩
    cases i with
    | zero => simp at hx; subst hx; simp [hb]
    | succ i => simpa using h2 i x (by simpa using hx)
theorem reads_slice {α : Type} {P : Program} {t e : TypeId} {enc : α → List D} {ok : α → Prop} {sz : Nat} (ht : P.underlying t = some (.slice e)) (hsz : P.cellsOf e = sz) (h1 : Nat.ble 1 sz = true) (hl : ∀ a, (enc a).length = sz) (he : Reads P e enc ok) : Reads P t (eL enc) (fun l => ∀ a ∈ l, ok a) := by
  intro H en w base spare held fuel cs x h
  have h1 := Nat.le_of_ble_eq_true h1
  rcases DataW.trod_slice ht h with ⟨rfl, _⟩ | ⟨a, len, cap, elems, rest, n, _, rfl, _, _, hcap, _, hel, hget, _, _⟩
  · exact ⟨[], fun a h => by simp at h, crd_one (.sl0 _ _)⟩
  · rw [hsz] at hget
    have hex : ∀ i, i < len → ∃ y : α, ok y ∧ ∃ ci, w.cells? base (a.add (i * sz)) sz = some ci ∧ CRd (fun b => w.heap[b]?) (enc y) ci := fun i hi => by
      have hg := hget i hi
      rw [List.getElem?_eq_getElem (show i < elems.length by omega)] at hg
      simp only [Option.bind_eq_some_iff] at hg
      obtain ⟨ci, hc, htr⟩ := hg
      obtain ⟨y, hy, hcr⟩ := he H en w base spare held n ci _ htr
      exact ⟨y, hy, ci, hc, hcr⟩
    obtain ⟨l, hll, hq⟩ := list_choose len hex
    refine ⟨l, fun y hy => ?_, crd_one ?_⟩
    · obtain ⟨i, hi⟩ := List.mem_iff_getElem?.1 hy
      exact (hq i y hi).1
    · rcases Nat.eq_zero_or_pos len with h0 | hpos
      · have : l = [] := List.length_eq_zero_iff.1 (by omega)
        subst this; subst h0
        exact .sl0 _ _
      · -- the block
        have hcell : ∀ i y, l[i]? = some y → ∀ j, j < sz → ∃ v, w.cell? ((a.add (i * sz)).add j) = some v ∧ ∀ d, (enc y)[j]? = some d → DRep (fun b => w.heap[b]?) d v := fun i y hy j hj => by
          obtain ⟨_, ci, hc, hcr⟩ := hq i y hy
          unfold World.cells? at hc
          split at hc
          · obtain ⟨g1, g2⟩ := mapM_get hc
            have := g2 j j (by simp [hj])
            have hjc : j < ci.length := by rw [g1]; simpa using hj
            rw [List.getElem?_eq_getElem hjc] at this
            exact ⟨ci[j], this.symm, fun d hd => hcr.2 j d _ hd (List.getElem?_eq_getElem hjc)⟩
          · cases hc
        have h0 : l[0]? = some l[0] := List.getElem?_eq_getElem (by omega)
        obtain ⟨v0, hv0, _⟩ := hcell 0 _ h0 0 (by omega)
        have ha0 : (a.add (0 * sz)).add 0 = a := by simp [Addr.add]
        rw [ha0] at hv0
        obtain ⟨b, off, spot⟩ := a
        unfold World.cell? at hv0
        simp only at hv0
        split at hv0
        · rename_i c ty fr hblk
          cases spot with
          | some s => simp at hv0
          | none =>
            have hcell' : ∀ i y, l[i]? = some y → ∀ j d, (enc y)[j]? = some d → ∃ v, c[off + i * sz + j]? = some v ∧ DRep (fun b => w.heap[b]?) d v := fun i y hy j d hd => by
              have hj : j < sz := by rw [← hl y]; exact getElem?_lt hd
              obtain ⟨v, hv, hr⟩ := hcell i y hy j hj
              rw [add_none, add_none, cell_blk hblk] at hv
              exact ⟨v, hv, hr d hd⟩
            have hlen : (l.map enc).length = len := by simp [hll]
            have := DRep.sl (F := fun b => w.heap[b]?) (l.map enc) b off cap sz c ty fr (fun i j => (c[off + i * sz + j]?).getD undef) hblk (fun e he => by
                simp only [List.mem_map] at he
                obtain ⟨y, _, rfl⟩ := he
                exact hl y) (by omega) (fun i e hi j d hd => by
                simp only [List.getElem?_map, Option.map_eq_some_iff] at hi
                obtain ⟨y, hy, rfl⟩ := hi
                obtain ⟨v, hv, _⟩ := hcell' i y hy j d hd
                simp only [hv, Option.getD_some]) (fun i e hi j d hd => by
                simp only [List.getElem?_map, Option.map_eq_some_iff] at hi
                obtain ⟨y, hy, rfl⟩ := hi
                obtain ⟨v, hv, hr⟩ := hcell' i y hy j d hd
                simp only [hv, Option.getD_some]
                exact hr)
            rw [hlen] at this
            exact this
        · cases hv0
theorem crd_part {F : Nat → Option Obj} {l m : List D} {cs : List Value} {o n : Nat} (h : CRd F l ((cs.drop o).take n)) (hn : Nat.beq l.length n = true) (h' : CRd F m (cs.drop (o + n))) : CRd F (l ++ m) (cs.drop o) := by
  have hn := Nat.eq_of_beq_eq_true hn
  have e : cs.drop o = (cs.drop o).take n ++ cs.drop (o + n) := by rw [← List.drop_drop, List.take_append_drop]
  rw [e]
  refine ⟨by simp only [List.length_append, h.1, h'.1], fun i y v hy hv => ?_⟩
  rcases Nat.lt_or_ge i l.length with hlt | hge
  · rw [List.getElem?_append_left hlt] at hy
    rw [List.getElem?_append_left (by rw [← h.1]; exact hlt)] at hv
    exact h.2 i y v hy hv
  · rw [List.getElem?_append_right hge] at hy
    rw [List.getElem?_append_right (by rw [← h.1]; exact hge), ← h.1] at hv
    exact h'.2 _ y v hy hv
theorem crd_end {F : Nat → Option Obj} {cs : List Value} {o : Nat} (h : cs.length ≤ o) : CRd F [] (cs.drop o) := by
  rw [List.drop_eq_nil_of_le h]; exact ⟨rfl, fun i y v hy => by simp at hy⟩
theorem trod_array {H : Type} {enc : TypeId × Value → H} {P : Program} {w : World} {base : Nat} {spare : Nat → Bool} {held : Bool} {fuel : Nat} {t e : TypeId} {n : Nat} {cs : List Value} {x : DataW H × List MemPlace} (ht : P.underlying t = some (.array n e)) (h : DataW.trod enc P w base spare held fuel t cs = some x) :
    ∃ m, cs.length = P.cellsOf t ∧ ∀ i, i < n → ∃ y, DataW.trod enc P w base spare held m e ((cs.drop (i * P.cellsOf e)).take (P.cellsOf e)) = some y := by
  cases fuel with
  | zero => simp [DataW.trod] at h
  | succ m =>
    unfold DataW.trod at h
    rw [ht] at h
    split at h <;> simp_all
    obtain ⟨xs, hp, _⟩ := h.2
    refine ⟨m, fun i hi => ?_⟩
    obtain ⟨g1, g2⟩ := mapM_get hp
    have := g2 i i (by simp [hi])
    have hlt : i < xs.length := by rw [g1]; simpa using hi
    rw [List.getElem?_eq_getElem hlt] at this
    exact ⟨_, _, this.symm⟩
end Go.AI
end
section
namespace Go.AI
open Go.ChangeShapes Go.WideShapes Go.ChangeAt Go.RowKit
variable {P : Program} {H : Type} {en : TypeId × Value → H} {W W' : World} {base : Nat} {spare : Nat → Bool} {held : Bool} {t e : TypeId} {v : Value} {d : DataW H} {ps : List MemPlace} {α : Type} {enc : α → List D} {ok : α → Prop}
theorem arg_agg {cs : Array Value} (hv : v = .agg cs) (hd : DataW.Trod en P W base spare held t v d ps) (hr : Reads P t enc ok) : ∃ a, ok a ∧ ARep (fun b => W.heap[b]?) noR (.agg ((enc a).map .d)) v := by
  subst hv
  obtain ⟨fuel, hf⟩ := hd
  obtain ⟨a, h1, h2, h3⟩ := hr H en W base spare held fuel _ _ hf
  refine ⟨a, h1, .agg _ _ (by simpa [Value.cells] using h2) fun i x u hx hu => ?_⟩
  simp only [List.getElem?_map, Option.map_eq_some_iff] at hx
  obtain ⟨y, hy, rfl⟩ := hx
  exact .d _ _ (h3 i y u hy (by simpa [Value.cells] using hu))
theorem arg_one {y : α → D} (hc : v.cells = #[v]) (hd : DataW.Trod en P W base spare held t v d ps) (hr : Reads P t enc ok) (he : ∀ a, enc a = [y a]) : ∃ a, ok a ∧ ARep (fun b => W.heap[b]?) noR (.d (y a)) v := by
  obtain ⟨fuel, hf⟩ := hd
  obtain ⟨a, h1, h2, h3⟩ := hr H en W base spare held fuel _ _ hf
  refine ⟨a, h1, .d _ _ (h3 0 (y a) v (by rw [he]; rfl) (by rw [hc]; rfl))⟩
theorem cr_nil {F : Nat → Option Obj} {ρ : Nat → Option Loc} : CR F ρ [] [] := ⟨rfl, fun i a v h => by simp at h⟩
theorem cr_cons {F : Nat → Option Obj} {ρ : Nat → Option Loc} {a : AV} {v : Value} {l : List AV} {vs : List Value} (h : ARep F ρ a v) (h' : CR F ρ l vs) : CR F ρ (a :: l) (v :: vs) := by
  refine ⟨by simp [h'.1], fun i x u hx hu => ?_⟩
  cases i with
  | zero => simp at hx hu; subst hx; subst hu; exact h
  | succ i => exact h'.2 i x u (by simpa using hx) (by simpa using hu)
theorem fld {w : World} {fuel : Nat} {cs : List Value} {fs : Array Field} {xs : List (DataW H × List MemPlace)} (hg : ∀ (i : Nat) (f : Field), fs[i]? = some f → DataW.trod en P w base spare held fuel f.type ((cs.drop f.offset).take (P.cellsOf f.type)) = xs[i]?) (hxl : xs.length = fs.size) (i : Nat) {f : Field} (hf : fs[i]? = some f) (u o n : Nat) (hu : f.type = u) (ho : f.offset = o) (hn : P.cellsOf u = n) (hr : Reads P u enc ok) :
    ∃ a, ok a ∧ CRd (fun b => w.heap[b]?) (enc a) ((cs.drop o).take n) := by
  have := hg i f hf
  have hi : i < xs.length := by rw [hxl]; exact getElem?_ltA hf
  rw [List.getElem?_eq_getElem hi, hu, ho, hn] at this
  exact hr H en w base spare held fuel _ _ this
theorem fldA {w : World} {fuel : Nat} {cs : List Value} {m : Nat} (hg : ∀ i, i < m → ∃ y, DataW.trod en P w base spare held fuel e ((cs.drop (i * P.cellsOf e)).take (P.cellsOf e)) = some y) (i : Nat) (hi : Nat.ble (i + 1) m = true) (o n : Nat) (hn : P.cellsOf e = n) (ho : i * n = o) (hr : Reads P e enc ok) :
    ∃ a, ok a ∧ CRd (fun b => w.heap[b]?) (enc a) ((cs.drop o).take n) := by
  obtain ⟨y, hy⟩ := hg i (Nat.le_of_ble_eq_true hi)
  rw [hn, ho] at hy
  exact hr H en w base spare held fuel _ _ hy
theorem law_walk {f : FuncId} {args : List AV} {vs : Array Value} (hc : CallOK P f args (.d (.bool true))) (hcr : CR (fun b => W.heap[b]?) noR args vs.toList) : Calls P f vs W fun e W' => e = .returned (.bool true) ∧ Grown W W' ∧ ∀ b, b < W.heap.size → W'.heap[b]? = W.heap[b]? := by
  refine (hc.2 (fun b => W.heap[b]?) W vs hcr fun b o h => h).mono fun e W' h => ?_
  obtain ⟨v, F', ρ, rfl, hS, hr, hmu⟩ := h
  have hv : v = .bool true := by
    have : (impR true 0 (.d (.bool true))).1 = .d (.bool true) := rfl
    rw [this] at hr
    exact hr.bool
  subst hv
  have hold : ∀ b, b < W.heap.size → W'.heap[b]? = W.heap[b]? := fun b hb => hS.old b hb
  refine ⟨rfl, ⟨⟨hmu.1, hmu.2.1, fun i hi => ?_⟩, fun a => ?_, hS.size⟩, hold⟩
  · rw [hold i hi]
    cases hh : W.heap[i]? with
    | none => rfl
    | some o => cases o <;> first | exact ⟨rfl, rfl, rfl, fun _ _ => rfl⟩ | exact .inr ⟨rfl, rfl⟩ | rfl
  · by_cases hlt : a.block < W.heap.size
    · simp only [World.frozen?, hold _ hlt]
    · have h1 : W.frozen? a = false := by
        have : W.heap[a.block]? = none := by rw [Array.getElem?_eq_none_iff]; omega
        simp only [World.frozen?, this]
      rw [h1]
      cases hz : W'.frozen? a with
      | false => rfl
      | true => rw [hmu.2.2 a hz] at h1; cases h1
theorem stays (hl : laidOutB P = true) (hr : P.readableRec t = true) (hrow : t < P.types.size) (h : DataW.Trod en P W 0 (fun _ => true) true t v d ps) (hb : ∀ p ∈ ps, p.block < W.heap.size) {sp : Nat → Bool} (hs : ∀ p ∈ ps, sp p.block = true) (hold : ∀ b, b < W.heap.size → W'.heap[b]? = W.heap[b]?) : DataW.Trod en P W' 0 sp true t v d ps := by
  refine WideElems.Trod_stays hl hr hrow h (fun p hp => ?_) hs
  have := hb p hp
  cases p with
  | cell b o => exact World.cell?_of_block (w := W) (hold b this)
  | map b => exact hold b this
end Go.AI
end
section
namespace Go.AI
open Go.Proofs
theorem inf3 : ∃ i, Try.prog.info? 3 = some i ∧ i.size = 1 ∧ i.bytes = 8 ∧ i.zero = some (.int .i64 0) := info_of (by kernel_rfl)
theorem inf4 : ∃ i, Try.prog.info? 4 = some i ∧ i.size = 1 ∧ i.bytes = 1 ∧ i.zero = some (.bool false) := info_of (by kernel_rfl)
theorem inf5 : ∃ i, Try.prog.info? 5 = some i ∧ i.size = 1 ∧ i.bytes = 1 ∧ i.zero = some (.int .u8 0) := info_of (by kernel_rfl)
theorem inf9 : ∃ i, Try.prog.info? 9 = some i ∧ i.size = 1 ∧ i.bytes = 16 ∧ i.zero = some (.string ⟨#[]⟩) := info_of (by kernel_rfl)
theorem inf22 : ∃ i, Try.prog.info? 22 = some i ∧ i.size = 1 ∧ i.bytes = 24 ∧ i.zero = some (.slice none 0 0) := info_of (by kernel_rfl)
theorem inf24 : ∃ i, Try.prog.info? 24 = some i ∧ i.size = 3 ∧ i.bytes = 32 ∧ i.zero = some (.agg #[.int .u8 0, .int .u8 0, .slice none 0 0]) := info_of (by kernel_rfl)
theorem inf26 : ∃ i, Try.prog.info? 26 = some i ∧ i.size = 3 ∧ i.bytes = 24 ∧ i.zero = some (.agg #[.int .i64 0, .int .i64 0, .int .u8 0]) := info_of (by kernel_rfl)
theorem inf27 : ∃ i, Try.prog.info? 27 = some i ∧ i.size = 1 ∧ i.bytes = 24 ∧ i.zero = some (.slice none 0 0) := info_of (by kernel_rfl)
theorem inf29 : ∃ i, Try.prog.info? 29 = some i ∧ i.size = 1 ∧ i.bytes = 24 ∧ i.zero = some (.slice none 0 0) := info_of (by kernel_rfl)
theorem inf31 : ∃ i, Try.prog.info? 31 = some i ∧ i.size = 3 ∧ i.bytes = 40 ∧ i.zero = some (.agg #[.int .i64 0, .int .u8 0, .slice none 0 0]) := info_of (by kernel_rfl)
theorem inf33 : ∃ i, Try.prog.info? 33 = some i ∧ i.size = 1 ∧ i.bytes = 24 ∧ i.zero = some (.slice none 0 0) := info_of (by kernel_rfl)
theorem inf34 : ∃ i, Try.prog.info? 34 = some i ∧ i.size = 1 ∧ i.bytes = 1 ∧ i.zero = some (.int .i8 0) := info_of (by kernel_rfl)
theorem inf39 : ∃ i, Try.prog.info? 39 = some i ∧ i.size = 1 ∧ i.bytes = 24 ∧ i.zero = some (.slice none 0 0) := info_of (by kernel_rfl)
theorem inf41 : ∃ i, Try.prog.info? 41 = some i ∧ i.size = 7 ∧ i.bytes = 80 ∧ i.zero = some (.agg #[.string ⟨#[]⟩, .slice none 0 0, .int .i64 0, .int .i64 0, .int .i64 0, .int .u8 0, .bool false]) := info_of (by kernel_rfl)
theorem inf44 : ∃ i, Try.prog.info? 44 = some i ∧ i.size = 1 ∧ i.bytes = 24 ∧ i.zero = some (.slice none 0 0) := info_of (by kernel_rfl)
theorem inf47 : ∃ i, Try.prog.info? 47 = some i ∧ i.size = 1 ∧ i.bytes = 24 ∧ i.zero = some (.slice none 0 0) := info_of (by kernel_rfl)
theorem inf50 : ∃ i, Try.prog.info? 50 = some i ∧ i.size = 1 ∧ i.bytes = 24 ∧ i.zero = some (.slice none 0 0) := info_of (by kernel_rfl)
theorem inf55 : ∃ i, Try.prog.info? 55 = some i ∧ i.size = 6 ∧ i.bytes = 64 ∧ i.zero = some (.agg #[.string ⟨#[]⟩, .slice none 0 0, .int .u8 0, .int .u8 0, .int .i64 0, .int .i64 0]) := info_of (by kernel_rfl)
theorem inf57 : ∃ i, Try.prog.info? 57 = some i ∧ i.size = 2 ∧ i.bytes = 48 ∧ i.zero = some (.agg #[.slice none 0 0, .slice none 0 0]) := info_of (by kernel_rfl)
theorem inf64 : ∃ i, Try.prog.info? 64 = some i ∧ i.size = 1 ∧ i.bytes = 1 ∧ i.zero = some (.int .u8 0) := info_of (by kernel_rfl)
theorem inf67 : ∃ i, Try.prog.info? 67 = some i ∧ i.size = 2 ∧ i.bytes = 2 ∧ i.zero = some (.agg #[.int .u8 0, .int .u8 0]) := info_of (by kernel_rfl)
theorem inf69 : ∃ i, Try.prog.info? 69 = some i ∧ i.size = 6 ∧ i.bytes = 56 ∧ i.zero = some (.agg #[.slice none 0 0, .slice none 0 0, .int .u8 0, .int .u8 0, .int .u8 0, .int .u8 0]) := info_of (by kernel_rfl)
theorem inf74 : ∃ i, Try.prog.info? 74 = some i ∧ i.size = 1 ∧ i.bytes = 8 ∧ i.zero = some (.int .i64 0) := info_of (by kernel_rfl)
theorem inf77 : ∃ i, Try.prog.info? 77 = some i ∧ i.size = 1 ∧ i.bytes = 24 ∧ i.zero = some (.slice none 0 0) := info_of (by kernel_rfl)
theorem inf84 : ∃ i, Try.prog.info? 84 = some i ∧ i.size = 3 ∧ i.bytes = 24 ∧ i.zero = some (.agg #[.int .i64 0, .int .i64 0, .int .i64 0]) := info_of (by kernel_rfl)
theorem inf87 : ∃ i, Try.prog.info? 87 = some i ∧ i.size = 1 ∧ i.bytes = 24 ∧ i.zero = some (.slice none 0 0) := info_of (by kernel_rfl)
theorem inf95 : ∃ i, Try.prog.info? 95 = some i ∧ i.size = 1 ∧ i.bytes = 8 ∧ i.zero = some (.pointer none) := info_of (by kernel_rfl)
theorem inf102 : ∃ i, Try.prog.info? 102 = some i ∧ i.size = 1 ∧ i.bytes = 8 ∧ i.zero = some (.pointer none) := info_of (by kernel_rfl)
theorem inf107 : ∃ i, Try.prog.info? 107 = some i ∧ i.size = 2 ∧ i.bytes = 16 ∧ i.zero = some (.agg #[.int .i64 0, .int .i64 0]) := info_of (by kernel_rfl)
theorem inf110 : ∃ i, Try.prog.info? 110 = some i ∧ i.size = 1 ∧ i.bytes = 8 ∧ i.zero = some (.map none) := info_of (by kernel_rfl)
theorem inf114 : ∃ i, Try.prog.info? 114 = some i ∧ i.size = 1 ∧ i.bytes = 8 ∧ i.zero = some (.map none) := info_of (by kernel_rfl)
theorem inf116 : ∃ i, Try.prog.info? 116 = some i ∧ i.size = 3 ∧ i.bytes = 40 ∧ i.zero = some (.agg #[.pointer none, .slice none 0 0, .map none]) := info_of (by kernel_rfl)
theorem inf118 : ∃ i, Try.prog.info? 118 = some i ∧ i.size = 2 ∧ i.bytes = 16 ∧ i.zero = some (.agg #[.int .i64 0, .int .i64 0]) := info_of (by kernel_rfl)
theorem inf119 : ∃ i, Try.prog.info? 119 = some i ∧ i.size = 1 ∧ i.bytes = 24 ∧ i.zero = some (.slice none 0 0) := info_of (by kernel_rfl)
theorem inf121 : ∃ i, Try.prog.info? 121 = some i ∧ i.size = 3 ∧ i.bytes = 72 ∧ i.zero = some (.agg #[.slice none 0 0, .slice none 0 0, .slice none 0 0]) := info_of (by kernel_rfl)
theorem inf124 : ∃ i, Try.prog.info? 124 = some i ∧ i.size = 1 ∧ i.bytes = 24 ∧ i.zero = some (.slice none 0 0) := info_of (by kernel_rfl)
theorem inf128 : ∃ i, Try.prog.info? 128 = some i ∧ i.size = 3 ∧ i.bytes = 32 ∧ i.zero = some (.agg #[.int .i64 0, .int .i64 0, .string ⟨#[]⟩]) := info_of (by kernel_rfl)
theorem inf130 : ∃ i, Try.prog.info? 130 = some i ∧ i.size = 2 ∧ i.bytes = 32 ∧ i.zero = some (.agg #[.slice none 0 0, .int .i64 0]) := info_of (by kernel_rfl)
theorem inf131 : ∃ i, Try.prog.info? 131 = some i ∧ i.size = 1 ∧ i.bytes = 24 ∧ i.zero = some (.slice none 0 0) := info_of (by kernel_rfl)
theorem inf132 : ∃ i, Try.prog.info? 132 = some i ∧ i.size = 1 ∧ i.bytes = 8 ∧ i.zero = some (.pointer none) := info_of (by kernel_rfl)
theorem inf135 : ∃ i, Try.prog.info? 135 = some i ∧ i.size = 1 ∧ i.bytes = 8 ∧ i.zero = some (.pointer none) := info_of (by kernel_rfl)
theorem inf137 : ∃ i, Try.prog.info? 137 = some i ∧ i.size = 4 ∧ i.bytes = 64 ∧ i.zero = some (.agg #[.int .i64 0, .int .u8 0, .slice none 0 0, .slice none 0 0]) := info_of (by kernel_rfl)
theorem inf139 : ∃ i, Try.prog.info? 139 = some i ∧ i.size = 1 ∧ i.bytes = 24 ∧ i.zero = some (.slice none 0 0) := info_of (by kernel_rfl)
theorem inf141 : ∃ i, Try.prog.info? 141 = some i ∧ i.size = 3 ∧ i.bytes = 48 ∧ i.zero = some (.agg #[.string ⟨#[]⟩, .slice none 0 0, .int .i64 0]) := info_of (by kernel_rfl)
def ty : Nat → Ty
  | 3 => ⟨true, [], 1, false, [.int .i64 0], .int .i64⟩
  | 4 => ⟨true, [], 1, false, [.bool false], .bool⟩
  | 5 => ⟨true, [], 1, false, [.int .u8 0], .int .u8⟩
  | 9 => ⟨true, [], 1, false, [.str []], .string⟩
  | 22 => ⟨true, [], 1, false, [.nil], .slice 6 56 [.nil, .nil, .int .u8 0, .int .u8 0, .int .u8 0, .int .u8 0]⟩
  | 24 => ⟨true, [], 3, true, [.int .u8 0, .int .u8 0, .nil], .struct [(0, 1), (1, 1), (2, 1)]⟩
  | 26 => ⟨true, [.int .i64, .int .i64, .int .u8], 3, true, [.int .i64 0, .int .i64 0, .int .u8 0], .struct [(0, 1), (1, 1), (2, 1)]⟩
  | 27 => ⟨true, [], 1, false, [.nil], .slice 1 1 [.int .i8 0]⟩
  | 29 => ⟨true, [], 1, false, [.nil], .slice 6 64 [.str [], .nil, .int .u8 0, .int .u8 0, .int .i64 0, .int .i64 0]⟩
  | 31 => ⟨true, [], 3, true, [.int .i64 0, .int .u8 0, .nil], .struct [(0, 1), (1, 1), (2, 1)]⟩
  | 33 => ⟨true, [], 1, false, [.nil], .slice 1 8 [.int .i64 0]⟩
  | 34 => ⟨true, [], 1, false, [.int .i8 0], .int .i8⟩
  | 39 => ⟨true, [], 1, false, [.nil], .slice 1 1 [.int .u8 0]⟩
  | 41 => ⟨true, [], 7, true, [.str [], .nil, .int .i64 0, .int .i64 0, .int .i64 0, .int .u8 0, .bool false], .struct [(0, 1), (1, 1), (2, 1), (3, 3), (6, 1)]⟩
  | 44 => ⟨true, [], 1, false, [.nil], .slice 3 24 [.int .i64 0, .int .i64 0, .int .u8 0]⟩
  | 47 => ⟨true, [], 1, false, [.nil], .slice 1 1 [.bool false]⟩
  | 50 => ⟨true, [], 1, false, [.nil], .slice 1 1 [.int .u8 0]⟩
  | 55 => ⟨true, [], 6, true, [.str [], .nil, .int .u8 0, .int .u8 0, .int .i64 0, .int .i64 0], .struct [(0, 1), (1, 1), (2, 1), (3, 1), (4, 1), (5, 1)]⟩
  | 57 => ⟨true, [], 2, true, [.nil, .nil], .array 2 1⟩
  | 64 => ⟨true, [], 1, false, [.int .u8 0], .int .u8⟩
  | 67 => ⟨true, [], 2, true, [.int .u8 0, .int .u8 0], .array 2 1⟩
  | 69 => ⟨true, [], 6, true, [.nil, .nil, .int .u8 0, .int .u8 0, .int .u8 0, .int .u8 0], .struct [(0, 1), (1, 1), (2, 1), (3, 1), (4, 2)]⟩
  | 74 => ⟨true, [], 1, false, [.int .i64 0], .int .i64⟩
  | 77 => ⟨true, [], 1, false, [.nil], .slice 1 16 [.str []]⟩
  | 84 => ⟨true, [], 3, true, [.int .i64 0, .int .i64 0, .int .i64 0], .array 3 1⟩
  | 87 => ⟨true, [], 1, false, [.nil], .slice 1 24 [.nil]⟩
  | 95 => ⟨true, [], 1, false, [.nilp], .other⟩
  | 102 => ⟨true, [], 1, false, [.nilp], .other⟩
  | 107 => ⟨true, [], 2, true, [.int .i64 0, .int .i64 0], .array 2 1⟩
  | 110 => ⟨true, [], 1, false, [.nilm], .map [.int .i64, .int .i64, .int .u8] true false [.int .i64 0]⟩
  | 114 => ⟨true, [], 1, false, [.nilm], .map [.int .i64, .int .i64] true false [.bool false]⟩
  | 116 => ⟨true, [], 3, true, [.nilp, .nil, .nilm], .struct [(0, 1), (1, 1), (2, 1)]⟩
  | 118 => ⟨true, [.int .i64, .int .i64], 2, true, [.int .i64 0, .int .i64 0], .struct [(0, 1), (1, 1)]⟩
  | 119 => ⟨true, [], 1, false, [.nil], .slice 1 24 [.nil]⟩
  | 121 => ⟨true, [], 3, true, [.nil, .nil, .nil], .struct [(0, 1), (1, 1), (2, 1)]⟩
  | 124 => ⟨true, [], 1, false, [.nil], .slice 3 32 [.int .i64 0, .int .i64 0, .str []]⟩
  | 128 => ⟨true, [], 3, true, [.int .i64 0, .int .i64 0, .str []], .struct [(0, 2), (2, 1)]⟩
  | 130 => ⟨true, [], 2, true, [.nil, .int .i64 0], .struct [(0, 1), (1, 1)]⟩
  | 131 => ⟨true, [], 1, false, [.nil], .slice 2 32 [.nil, .int .i64 0]⟩
  | 132 => ⟨true, [], 1, false, [.nilp], .other⟩
  | 135 => ⟨true, [], 1, false, [.nilp], .other⟩
  | 137 => ⟨true, [], 4, true, [.int .i64 0, .int .u8 0, .nil, .nil], .struct [(0, 3), (3, 1)]⟩
  | 139 => ⟨true, [], 1, false, [.nil], .slice 3 48 [.str [], .nil, .int .i64 0]⟩
  | 141 => ⟨true, [], 3, true, [.str [], .nil, .int .i64 0], .struct [(0, 1), (1, 1), (2, 1)]⟩
  | _ => ⟨false, [], 0, false, [], .other⟩
theorem ty3 : ty 3 = ⟨true, [], 1, false, [.int .i64 0], .int .i64⟩ := rfl
theorem ty4 : ty 4 = ⟨true, [], 1, false, [.bool false], .bool⟩ := rfl
theorem ty5 : ty 5 = ⟨true, [], 1, false, [.int .u8 0], .int .u8⟩ := rfl
theorem ty9 : ty 9 = ⟨true, [], 1, false, [.str []], .string⟩ := rfl
theorem ty22 : ty 22 = ⟨true, [], 1, false, [.nil], .slice 6 56 [.nil, .nil, .int .u8 0, .int .u8 0, .int .u8 0, .int .u8 0]⟩ := rfl
theorem ty24 : ty 24 = ⟨true, [], 3, true, [.int .u8 0, .int .u8 0, .nil], .struct [(0, 1), (1, 1), (2, 1)]⟩ := rfl
theorem ty26 : ty 26 = ⟨true, [.int .i64, .int .i64, .int .u8], 3, true, [.int .i64 0, .int .i64 0, .int .u8 0], .struct [(0, 1), (1, 1), (2, 1)]⟩ := rfl
theorem ty27 : ty 27 = ⟨true, [], 1, false, [.nil], .slice 1 1 [.int .i8 0]⟩ := rfl
theorem ty29 : ty 29 = ⟨true, [], 1, false, [.nil], .slice 6 64 [.str [], .nil, .int .u8 0, .int .u8 0, .int .i64 0, .int .i64 0]⟩ := rfl
theorem ty31 : ty 31 = ⟨true, [], 3, true, [.int .i64 0, .int .u8 0, .nil], .struct [(0, 1), (1, 1), (2, 1)]⟩ := rfl
theorem ty33 : ty 33 = ⟨true, [], 1, false, [.nil], .slice 1 8 [.int .i64 0]⟩ := rfl
theorem ty34 : ty 34 = ⟨true, [], 1, false, [.int .i8 0], .int .i8⟩ := rfl
theorem ty39 : ty 39 = ⟨true, [], 1, false, [.nil], .slice 1 1 [.int .u8 0]⟩ := rfl
theorem ty41 : ty 41 = ⟨true, [], 7, true, [.str [], .nil, .int .i64 0, .int .i64 0, .int .i64 0, .int .u8 0, .bool false], .struct [(0, 1), (1, 1), (2, 1), (3, 3), (6, 1)]⟩ := rfl
theorem ty44 : ty 44 = ⟨true, [], 1, false, [.nil], .slice 3 24 [.int .i64 0, .int .i64 0, .int .u8 0]⟩ := rfl
theorem ty47 : ty 47 = ⟨true, [], 1, false, [.nil], .slice 1 1 [.bool false]⟩ := rfl
theorem ty50 : ty 50 = ⟨true, [], 1, false, [.nil], .slice 1 1 [.int .u8 0]⟩ := rfl
theorem ty55 : ty 55 = ⟨true, [], 6, true, [.str [], .nil, .int .u8 0, .int .u8 0, .int .i64 0, .int .i64 0], .struct [(0, 1), (1, 1), (2, 1), (3, 1), (4, 1), (5, 1)]⟩ := rfl
theorem ty57 : ty 57 = ⟨true, [], 2, true, [.nil, .nil], .array 2 1⟩ := rfl
theorem ty64 : ty 64 = ⟨true, [], 1, false, [.int .u8 0], .int .u8⟩ := rfl
theorem ty67 : ty 67 = ⟨true, [], 2, true, [.int .u8 0, .int .u8 0], .array 2 1⟩ := rfl
theorem ty69 : ty 69 = ⟨true, [], 6, true, [.nil, .nil, .int .u8 0, .int .u8 0, .int .u8 0, .int .u8 0], .struct [(0, 1), (1, 1), (2, 1), (3, 1), (4, 2)]⟩ := rfl
theorem ty74 : ty 74 = ⟨true, [], 1, false, [.int .i64 0], .int .i64⟩ := rfl
theorem ty77 : ty 77 = ⟨true, [], 1, false, [.nil], .slice 1 16 [.str []]⟩ := rfl
theorem ty84 : ty 84 = ⟨true, [], 3, true, [.int .i64 0, .int .i64 0, .int .i64 0], .array 3 1⟩ := rfl
theorem ty87 : ty 87 = ⟨true, [], 1, false, [.nil], .slice 1 24 [.nil]⟩ := rfl
theorem ty95 : ty 95 = ⟨true, [], 1, false, [.nilp], .other⟩ := rfl
theorem ty102 : ty 102 = ⟨true, [], 1, false, [.nilp], .other⟩ := rfl
theorem ty107 : ty 107 = ⟨true, [], 2, true, [.int .i64 0, .int .i64 0], .array 2 1⟩ := rfl
theorem ty110 : ty 110 = ⟨true, [], 1, false, [.nilm], .map [.int .i64, .int .i64, .int .u8] true false [.int .i64 0]⟩ := rfl
theorem ty114 : ty 114 = ⟨true, [], 1, false, [.nilm], .map [.int .i64, .int .i64] true false [.bool false]⟩ := rfl
theorem ty116 : ty 116 = ⟨true, [], 3, true, [.nilp, .nil, .nilm], .struct [(0, 1), (1, 1), (2, 1)]⟩ := rfl
theorem ty118 : ty 118 = ⟨true, [.int .i64, .int .i64], 2, true, [.int .i64 0, .int .i64 0], .struct [(0, 1), (1, 1)]⟩ := rfl
theorem ty119 : ty 119 = ⟨true, [], 1, false, [.nil], .slice 1 24 [.nil]⟩ := rfl
theorem ty121 : ty 121 = ⟨true, [], 3, true, [.nil, .nil, .nil], .struct [(0, 1), (1, 1), (2, 1)]⟩ := rfl
theorem ty124 : ty 124 = ⟨true, [], 1, false, [.nil], .slice 3 32 [.int .i64 0, .int .i64 0, .str []]⟩ := rfl
theorem ty128 : ty 128 = ⟨true, [], 3, true, [.int .i64 0, .int .i64 0, .str []], .struct [(0, 2), (2, 1)]⟩ := rfl
theorem ty130 : ty 130 = ⟨true, [], 2, true, [.nil, .int .i64 0], .struct [(0, 1), (1, 1)]⟩ := rfl
theorem ty131 : ty 131 = ⟨true, [], 1, false, [.nil], .slice 2 32 [.nil, .int .i64 0]⟩ := rfl
theorem ty132 : ty 132 = ⟨true, [], 1, false, [.nilp], .other⟩ := rfl
theorem ty135 : ty 135 = ⟨true, [], 1, false, [.nilp], .other⟩ := rfl
theorem ty137 : ty 137 = ⟨true, [], 4, true, [.int .i64 0, .int .u8 0, .nil, .nil], .struct [(0, 3), (3, 1)]⟩ := rfl
theorem ty139 : ty 139 = ⟨true, [], 1, false, [.nil], .slice 3 48 [.str [], .nil, .int .i64 0]⟩ := rfl
theorem ty141 : ty 141 = ⟨true, [], 3, true, [.str [], .nil, .int .i64 0], .struct [(0, 1), (1, 1), (2, 1)]⟩ := rfl
theorem tf3 : TyFacts Try.prog 3 (ty 3) where
  info := by obtain ⟨i, h1, h2, _, h4⟩ := inf3; exact ⟨i, _, h1, h2, h4, rfl⟩
  plain := rfl
  desc := ⟨_, Try.underlying3, rfl, rfl⟩
  one := fun h => by first | rfl | cases h
  pos := by decide
  eq := fun h => absurd rfl h
theorem tf4 : TyFacts Try.prog 4 (ty 4) where
  info := by obtain ⟨i, h1, h2, _, h4⟩ := inf4; exact ⟨i, _, h1, h2, h4, rfl⟩
  plain := rfl
  desc := ⟨_, Try.underlying4, rfl, rfl⟩
  one := fun h => by first | rfl | cases h
  pos := by decide
  eq := fun h => absurd rfl h
theorem tf5 : TyFacts Try.prog 5 (ty 5) where
  info := by obtain ⟨i, h1, h2, _, h4⟩ := inf5; exact ⟨i, _, h1, h2, h4, rfl⟩
  plain := rfl
  desc := ⟨_, Try.underlying5, rfl, rfl⟩
  one := fun h => by first | rfl | cases h
  pos := by decide
  eq := fun h => absurd rfl h
theorem tf9 : TyFacts Try.prog 9 (ty 9) where
  info := by obtain ⟨i, h1, h2, _, h4⟩ := inf9; exact ⟨i, _, h1, h2, h4, rfl⟩
  plain := rfl
  desc := ⟨_, Try.underlying9, rfl, rfl⟩
  one := fun h => by first | rfl | cases h
  pos := by decide
  eq := fun h => absurd rfl h
theorem tf22 : TyFacts Try.prog 22 (ty 22) where
  info := by obtain ⟨i, h1, h2, _, h4⟩ := inf22; exact ⟨i, _, h1, h2, h4, rfl⟩
  plain := rfl
  desc := ⟨_, Try.underlying22, rfl, (by obtain ⟨j, h1, h2, h3, h4⟩ := inf69; exact ⟨_, j, _, rfl, h1, h2, h3, h4, rfl, rfl, rfl, fun h => by cases h⟩)⟩
  one := fun h => by first | rfl | cases h
  pos := by decide
  eq := fun h => absurd rfl h
theorem tf24 : TyFacts Try.prog 24 (ty 24) where
  info := by obtain ⟨i, h1, h2, _, h4⟩ := inf24; exact ⟨i, _, h1, h2, h4, rfl⟩
  plain := rfl
  desc := ⟨_, Try.underlying24, rfl, ⟨_, rfl, rfl, fun i o s h => match i, h with | 0, h => (by cases h; exact (by obtain ⟨j, h1, h2, _⟩ := inf5; exact ⟨_, j, rfl, rfl, h1, h2, by decide⟩)) | 1, h => (by cases h; exact (by obtain ⟨j, h1, h2, _⟩ := inf5; exact ⟨_, j, rfl, rfl, h1, h2, by decide⟩)) | 2, h => (by cases h; exact (by obtain ⟨j, h1, h2, _⟩ := inf22; exact ⟨_, j, rfl, rfl, h1, h2, by decide⟩)) | n + 3, h => by simp at h⟩⟩
  one := fun h => by first | rfl | cases h
  pos := by decide
  eq := fun h => absurd rfl h
theorem tf26 : TyFacts Try.prog 26 (ty 26) where
  info := by obtain ⟨i, h1, h2, _, h4⟩ := inf26; exact ⟨i, _, h1, h2, h4, rfl⟩
  plain := rfl
  desc := ⟨_, Try.underlying26, rfl, ⟨_, rfl, rfl, fun i o s h => match i, h with | 0, h => (by cases h; exact (by obtain ⟨j, h1, h2, _⟩ := inf3; exact ⟨_, j, rfl, rfl, h1, h2, by decide⟩)) | 1, h => (by cases h; exact (by obtain ⟨j, h1, h2, _⟩ := inf3; exact ⟨_, j, rfl, rfl, h1, h2, by decide⟩)) | 2, h => (by cases h; exact (by obtain ⟨j, h1, h2, _⟩ := inf5; exact ⟨_, j, rfl, rfl, h1, h2, by decide⟩)) | n + 3, h => by simp at h⟩⟩
  one := fun h => by first | rfl | cases h
  pos := by decide
  eq := fun _ => eq_flat Try.underlying26 (by kernel_rfl) (by kernel_rfl) rfl fun j f k h1 h2 => match j, h1, h2 with | 0, h1, h2 => (by cases h1; cases h2; exact ⟨by decide, rfl, ⟨_, Try.underlying3⟩⟩) | 1, h1, h2 => (by cases h1; cases h2; exact ⟨by decide, rfl, ⟨_, Try.underlying3⟩⟩) | 2, h1, h2 => (by cases h1; cases h2; exact ⟨by decide, rfl, ⟨_, Try.underlying5⟩⟩) | n + 3, h1, _ => by simp at h1
theorem tf27 : TyFacts Try.prog 27 (ty 27) where
  info := by obtain ⟨i, h1, h2, _, h4⟩ := inf27; exact ⟨i, _, h1, h2, h4, rfl⟩
  plain := rfl
  desc := ⟨_, Try.underlying27, rfl, (by obtain ⟨j, h1, h2, h3, h4⟩ := inf34; exact ⟨_, j, _, rfl, h1, h2, h3, h4, rfl, rfl, rfl, fun h => by cases h⟩)⟩
  one := fun h => by first | rfl | cases h
  pos := by decide
  eq := fun h => absurd rfl h
theorem tf29 : TyFacts Try.prog 29 (ty 29) where
  info := by obtain ⟨i, h1, h2, _, h4⟩ := inf29; exact ⟨i, _, h1, h2, h4, rfl⟩
  plain := rfl
  desc := ⟨_, Try.underlying29, rfl, (by obtain ⟨j, h1, h2, h3, h4⟩ := inf55; exact ⟨_, j, _, rfl, h1, h2, h3, h4, rfl, rfl, rfl, fun h => by cases h⟩)⟩
  one := fun h => by first | rfl | cases h
  pos := by decide
  eq := fun h => absurd rfl h
theorem tf31 : TyFacts Try.prog 31 (ty 31) where
  info := by obtain ⟨i, h1, h2, _, h4⟩ := inf31; exact ⟨i, _, h1, h2, h4, rfl⟩
  plain := rfl
  desc := ⟨_, Try.underlying31, rfl, ⟨_, rfl, rfl, fun i o s h => match i, h with | 0, h => (by cases h; exact (by obtain ⟨j, h1, h2, _⟩ := inf3; exact ⟨_, j, rfl, rfl, h1, h2, by decide⟩)) | 1, h => (by cases h; exact (by obtain ⟨j, h1, h2, _⟩ := inf5; exact ⟨_, j, rfl, rfl, h1, h2, by decide⟩)) | 2, h => (by cases h; exact (by obtain ⟨j, h1, h2, _⟩ := inf29; exact ⟨_, j, rfl, rfl, h1, h2, by decide⟩)) | n + 3, h => by simp at h⟩⟩
  one := fun h => by first | rfl | cases h
  pos := by decide
  eq := fun h => absurd rfl h
theorem tf33 : TyFacts Try.prog 33 (ty 33) where
  info := by obtain ⟨i, h1, h2, _, h4⟩ := inf33; exact ⟨i, _, h1, h2, h4, rfl⟩
  plain := rfl
  desc := ⟨_, Try.underlying33, rfl, (by obtain ⟨j, h1, h2, h3, h4⟩ := inf3; exact ⟨_, j, _, rfl, h1, h2, h3, h4, rfl, rfl, rfl, fun h => by cases h⟩)⟩
  one := fun h => by first | rfl | cases h
  pos := by decide
  eq := fun h => absurd rfl h
theorem tf34 : TyFacts Try.prog 34 (ty 34) where
  info := by obtain ⟨i, h1, h2, _, h4⟩ := inf34; exact ⟨i, _, h1, h2, h4, rfl⟩
  plain := rfl
  desc := ⟨_, Try.underlying34, rfl, rfl⟩
  one := fun h => by first | rfl | cases h
  pos := by decide
  eq := fun h => absurd rfl h
theorem tf39 : TyFacts Try.prog 39 (ty 39) where
  info := by obtain ⟨i, h1, h2, _, h4⟩ := inf39; exact ⟨i, _, h1, h2, h4, rfl⟩
  plain := rfl
  desc := ⟨_, Try.underlying39, rfl, (by obtain ⟨j, h1, h2, h3, h4⟩ := inf64; exact ⟨_, j, _, rfl, h1, h2, h3, h4, rfl, rfl, rfl, fun _ => Try.underlying64⟩)⟩
  one := fun h => by first | rfl | cases h
  pos := by decide
  eq := fun h => absurd rfl h
theorem tf41 : TyFacts Try.prog 41 (ty 41) where
  info := by obtain ⟨i, h1, h2, _, h4⟩ := inf41; exact ⟨i, _, h1, h2, h4, rfl⟩
  plain := rfl
  desc := ⟨_, Try.underlying41, rfl, ⟨_, rfl, rfl, fun i o s h => match i, h with | 0, h => (by cases h; exact (by obtain ⟨j, h1, h2, _⟩ := inf9; exact ⟨_, j, rfl, rfl, h1, h2, by decide⟩)) | 1, h => (by cases h; exact (by obtain ⟨j, h1, h2, _⟩ := inf39; exact ⟨_, j, rfl, rfl, h1, h2, by decide⟩)) | 2, h => (by cases h; exact (by obtain ⟨j, h1, h2, _⟩ := inf3; exact ⟨_, j, rfl, rfl, h1, h2, by decide⟩)) | 3, h => (by cases h; exact (by obtain ⟨j, h1, h2, _⟩ := inf26; exact ⟨_, j, rfl, rfl, h1, h2, by decide⟩)) | 4, h => (by cases h; exact (by obtain ⟨j, h1, h2, _⟩ := inf4; exact ⟨_, j, rfl, rfl, h1, h2, by decide⟩)) | n + 5, h => by simp at h⟩⟩
  one := fun h => by first | rfl | cases h
  pos := by decide
  eq := fun h => absurd rfl h
theorem tf44 : TyFacts Try.prog 44 (ty 44) where
  info := by obtain ⟨i, h1, h2, _, h4⟩ := inf44; exact ⟨i, _, h1, h2, h4, rfl⟩
  plain := rfl
  desc := ⟨_, Try.underlying44, rfl, (by obtain ⟨j, h1, h2, h3, h4⟩ := inf26; exact ⟨_, j, _, rfl, h1, h2, h3, h4, rfl, rfl, rfl, fun h => by cases h⟩)⟩
  one := fun h => by first | rfl | cases h
  pos := by decide
  eq := fun h => absurd rfl h
theorem tf47 : TyFacts Try.prog 47 (ty 47) where
  info := by obtain ⟨i, h1, h2, _, h4⟩ := inf47; exact ⟨i, _, h1, h2, h4, rfl⟩
  plain := rfl
  desc := ⟨_, Try.underlying47, rfl, (by obtain ⟨j, h1, h2, h3, h4⟩ := inf4; exact ⟨_, j, _, rfl, h1, h2, h3, h4, rfl, rfl, rfl, fun h => by cases h⟩)⟩
  one := fun h => by first | rfl | cases h
  pos := by decide
  eq := fun h => absurd rfl h
theorem tf50 : TyFacts Try.prog 50 (ty 50) where
  info := by obtain ⟨i, h1, h2, _, h4⟩ := inf50; exact ⟨i, _, h1, h2, h4, rfl⟩
  plain := rfl
  desc := ⟨_, Try.underlying50, rfl, (by obtain ⟨j, h1, h2, h3, h4⟩ := inf5; exact ⟨_, j, _, rfl, h1, h2, h3, h4, rfl, rfl, rfl, fun _ => Try.underlying5⟩)⟩
  one := fun h => by first | rfl | cases h
  pos := by decide
  eq := fun h => absurd rfl h
theorem tf55 : TyFacts Try.prog 55 (ty 55) where
  info := by obtain ⟨i, h1, h2, _, h4⟩ := inf55; exact ⟨i, _, h1, h2, h4, rfl⟩
  plain := rfl
  desc := ⟨_, Try.underlying55, rfl, ⟨_, rfl, rfl, fun i o s h => match i, h with | 0, h => (by cases h; exact (by obtain ⟨j, h1, h2, _⟩ := inf9; exact ⟨_, j, rfl, rfl, h1, h2, by decide⟩)) | 1, h => (by cases h; exact (by obtain ⟨j, h1, h2, _⟩ := inf39; exact ⟨_, j, rfl, rfl, h1, h2, by decide⟩)) | 2, h => (by cases h; exact (by obtain ⟨j, h1, h2, _⟩ := inf5; exact ⟨_, j, rfl, rfl, h1, h2, by decide⟩)) | 3, h => (by cases h; exact (by obtain ⟨j, h1, h2, _⟩ := inf5; exact ⟨_, j, rfl, rfl, h1, h2, by decide⟩)) | 4, h => (by cases h; exact (by obtain ⟨j, h1, h2, _⟩ := inf3; exact ⟨_, j, rfl, rfl, h1, h2, by decide⟩)) | 5, h => (by cases h; exact (by obtain ⟨j, h1, h2, _⟩ := inf3; exact ⟨_, j, rfl, rfl, h1, h2, by decide⟩)) | n + 6, h => by simp at h⟩⟩
  one := fun h => by first | rfl | cases h
  pos := by decide
  eq := fun h => absurd rfl h
theorem tf57 : TyFacts Try.prog 57 (ty 57) where
  info := by obtain ⟨i, h1, h2, _, h4⟩ := inf57; exact ⟨i, _, h1, h2, h4, rfl⟩
  plain := rfl
  desc := ⟨_, Try.underlying57, rfl, (by obtain ⟨j, h1, h2, _⟩ := inf33; exact ⟨_, j, rfl, h1, h2⟩)⟩
  one := fun h => by first | rfl | cases h
  pos := by decide
  eq := fun h => absurd rfl h
theorem tf64 : TyFacts Try.prog 64 (ty 64) where
  info := by obtain ⟨i, h1, h2, _, h4⟩ := inf64; exact ⟨i, _, h1, h2, h4, rfl⟩
  plain := rfl
  desc := ⟨_, Try.underlying64, rfl, rfl⟩
  one := fun h => by first | rfl | cases h
  pos := by decide
  eq := fun h => absurd rfl h
theorem tf67 : TyFacts Try.prog 67 (ty 67) where
  info := by obtain ⟨i, h1, h2, _, h4⟩ := inf67; exact ⟨i, _, h1, h2, h4, rfl⟩
  plain := rfl
  desc := ⟨_, Try.underlying67, rfl, (by obtain ⟨j, h1, h2, _⟩ := inf5; exact ⟨_, j, rfl, h1, h2⟩)⟩
  one := fun h => by first | rfl | cases h
  pos := by decide
  eq := fun h => absurd rfl h
theorem tf69 : TyFacts Try.prog 69 (ty 69) where
  info := by obtain ⟨i, h1, h2, _, h4⟩ := inf69; exact ⟨i, _, h1, h2, h4, rfl⟩
  plain := rfl
  desc := ⟨_, Try.underlying69, rfl, ⟨_, rfl, rfl, fun i o s h => match i, h with | 0, h => (by cases h; exact (by obtain ⟨j, h1, h2, _⟩ := inf50; exact ⟨_, j, rfl, rfl, h1, h2, by decide⟩)) | 1, h => (by cases h; exact (by obtain ⟨j, h1, h2, _⟩ := inf50; exact ⟨_, j, rfl, rfl, h1, h2, by decide⟩)) | 2, h => (by cases h; exact (by obtain ⟨j, h1, h2, _⟩ := inf5; exact ⟨_, j, rfl, rfl, h1, h2, by decide⟩)) | 3, h => (by cases h; exact (by obtain ⟨j, h1, h2, _⟩ := inf5; exact ⟨_, j, rfl, rfl, h1, h2, by decide⟩)) | 4, h => (by cases h; exact (by obtain ⟨j, h1, h2, _⟩ := inf67; exact ⟨_, j, rfl, rfl, h1, h2, by decide⟩)) | n + 5, h => by simp at h⟩⟩
  one := fun h => by first | rfl | cases h
  pos := by decide
  eq := fun h => absurd rfl h
theorem tf74 : TyFacts Try.prog 74 (ty 74) where
  info := by obtain ⟨i, h1, h2, _, h4⟩ := inf74; exact ⟨i, _, h1, h2, h4, rfl⟩
  plain := rfl
  desc := ⟨_, Try.underlying74, rfl, rfl⟩
  one := fun h => by first | rfl | cases h
  pos := by decide
  eq := fun h => absurd rfl h
theorem tf77 : TyFacts Try.prog 77 (ty 77) where
  info := by obtain ⟨i, h1, h2, _, h4⟩ := inf77; exact ⟨i, _, h1, h2, h4, rfl⟩
  plain := rfl
  desc := ⟨_, Try.underlying77, rfl, (by obtain ⟨j, h1, h2, h3, h4⟩ := inf9; exact ⟨_, j, _, rfl, h1, h2, h3, h4, rfl, rfl, rfl, fun h => by cases h⟩)⟩
  one := fun h => by first | rfl | cases h
  pos := by decide
  eq := fun h => absurd rfl h
theorem tf84 : TyFacts Try.prog 84 (ty 84) where
  info := by obtain ⟨i, h1, h2, _, h4⟩ := inf84; exact ⟨i, _, h1, h2, h4, rfl⟩
  plain := rfl
  desc := ⟨_, Try.underlying84, rfl, (by obtain ⟨j, h1, h2, _⟩ := inf3; exact ⟨_, j, rfl, h1, h2⟩)⟩
  one := fun h => by first | rfl | cases h
  pos := by decide
  eq := fun h => absurd rfl h
theorem tf87 : TyFacts Try.prog 87 (ty 87) where
  info := by obtain ⟨i, h1, h2, _, h4⟩ := inf87; exact ⟨i, _, h1, h2, h4, rfl⟩
  plain := rfl
  desc := ⟨_, Try.underlying87, rfl, (by obtain ⟨j, h1, h2, h3, h4⟩ := inf33; exact ⟨_, j, _, rfl, h1, h2, h3, h4, rfl, rfl, rfl, fun h => by cases h⟩)⟩
  one := fun h => by first | rfl | cases h
  pos := by decide
  eq := fun h => absurd rfl h
theorem tf95 : TyFacts Try.prog 95 (ty 95) where
  info := by obtain ⟨i, h1, h2, _, h4⟩ := inf95; exact ⟨i, _, h1, h2, h4, rfl⟩
  plain := rfl
  desc := ⟨_, Try.underlying95, rfl, trivial⟩
  one := fun h => by first | rfl | cases h
  pos := by decide
  eq := fun h => absurd rfl h
theorem tf102 : TyFacts Try.prog 102 (ty 102) where
  info := by obtain ⟨i, h1, h2, _, h4⟩ := inf102; exact ⟨i, _, h1, h2, h4, rfl⟩
  plain := rfl
  desc := ⟨_, Try.underlying102, rfl, trivial⟩
  one := fun h => by first | rfl | cases h
  pos := by decide
  eq := fun h => absurd rfl h
theorem tf107 : TyFacts Try.prog 107 (ty 107) where
  info := by obtain ⟨i, h1, h2, _, h4⟩ := inf107; exact ⟨i, _, h1, h2, h4, rfl⟩
  plain := rfl
  desc := ⟨_, Try.underlying107, rfl, (by obtain ⟨j, h1, h2, _⟩ := inf3; exact ⟨_, j, rfl, h1, h2⟩)⟩
  one := fun h => by first | rfl | cases h
  pos := by decide
  eq := fun h => absurd rfl h
theorem tf110 : TyFacts Try.prog 110 (ty 110) where
  info := by obtain ⟨i, h1, h2, _, h4⟩ := inf110; exact ⟨i, _, h1, h2, h4, rfl⟩
  plain := rfl
  desc := ⟨_, Try.underlying110, rfl, (by obtain ⟨j, h1, h2, h3, h4⟩ := inf3; exact ⟨_, _, j, _, rfl, (keyFacts_flat Try.underlying26 (by kernel_rfl) rfl fun j f k h1 h2 => match j, h1, h2 with | 0, h1, h2 => (by cases h1; cases h2; exact ⟨by decide, rfl, ⟨_, Try.underlying3⟩⟩) | 1, h1, h2 => (by cases h1; cases h2; exact ⟨by decide, rfl, ⟨_, Try.underlying3⟩⟩) | 2, h1, h2 => (by cases h1; cases h2; exact ⟨by decide, rfl, ⟨_, Try.underlying5⟩⟩) | n + 3, h1, _ => by simp at h1), h1, h4, rfl, (fun h => by cases h), (fun _ => ⟨_, rfl, rfl⟩)⟩)⟩
  one := fun h => by first | rfl | cases h
  pos := by decide
  eq := fun h => absurd rfl h
theorem tf114 : TyFacts Try.prog 114 (ty 114) where
  info := by obtain ⟨i, h1, h2, _, h4⟩ := inf114; exact ⟨i, _, h1, h2, h4, rfl⟩
  plain := rfl
  desc := ⟨_, Try.underlying114, rfl, (by obtain ⟨j, h1, h2, h3, h4⟩ := inf4; exact ⟨_, _, j, _, rfl, (keyFacts_flat Try.underlying118 (by kernel_rfl) rfl fun j f k h1 h2 => match j, h1, h2 with | 0, h1, h2 => (by cases h1; cases h2; exact ⟨by decide, rfl, ⟨_, Try.underlying3⟩⟩) | 1, h1, h2 => (by cases h1; cases h2; exact ⟨by decide, rfl, ⟨_, Try.underlying3⟩⟩) | n + 2, h1, _ => by simp at h1), h1, h4, rfl, (fun h => by cases h), (fun _ => ⟨_, rfl, rfl⟩)⟩)⟩
  one := fun h => by first | rfl | cases h
  pos := by decide
  eq := fun h => absurd rfl h
theorem tf116 : TyFacts Try.prog 116 (ty 116) where
  info := by obtain ⟨i, h1, h2, _, h4⟩ := inf116; exact ⟨i, _, h1, h2, h4, rfl⟩
  plain := rfl
  desc := ⟨_, Try.underlying116, rfl, ⟨_, rfl, rfl, fun i o s h => match i, h with | 0, h => (by cases h; exact (by obtain ⟨j, h1, h2, _⟩ := inf102; exact ⟨_, j, rfl, rfl, h1, h2, by decide⟩)) | 1, h => (by cases h; exact (by obtain ⟨j, h1, h2, _⟩ := inf39; exact ⟨_, j, rfl, rfl, h1, h2, by decide⟩)) | 2, h => (by cases h; exact (by obtain ⟨j, h1, h2, _⟩ := inf114; exact ⟨_, j, rfl, rfl, h1, h2, by decide⟩)) | n + 3, h => by simp at h⟩⟩
  one := fun h => by first | rfl | cases h
  pos := by decide
  eq := fun h => absurd rfl h
theorem tf118 : TyFacts Try.prog 118 (ty 118) where
  info := by obtain ⟨i, h1, h2, _, h4⟩ := inf118; exact ⟨i, _, h1, h2, h4, rfl⟩
  plain := rfl
  desc := ⟨_, Try.underlying118, rfl, ⟨_, rfl, rfl, fun i o s h => match i, h with | 0, h => (by cases h; exact (by obtain ⟨j, h1, h2, _⟩ := inf3; exact ⟨_, j, rfl, rfl, h1, h2, by decide⟩)) | 1, h => (by cases h; exact (by obtain ⟨j, h1, h2, _⟩ := inf3; exact ⟨_, j, rfl, rfl, h1, h2, by decide⟩)) | n + 2, h => by simp at h⟩⟩
  one := fun h => by first | rfl | cases h
  pos := by decide
  eq := fun _ => eq_flat Try.underlying118 (by kernel_rfl) (by kernel_rfl) rfl fun j f k h1 h2 => match j, h1, h2 with | 0, h1, h2 => (by cases h1; cases h2; exact ⟨by decide, rfl, ⟨_, Try.underlying3⟩⟩) | 1, h1, h2 => (by cases h1; cases h2; exact ⟨by decide, rfl, ⟨_, Try.underlying3⟩⟩) | n + 2, h1, _ => by simp at h1
theorem tf119 : TyFacts Try.prog 119 (ty 119) where
  info := by obtain ⟨i, h1, h2, _, h4⟩ := inf119; exact ⟨i, _, h1, h2, h4, rfl⟩
  plain := rfl
  desc := ⟨_, Try.underlying119, rfl, (by obtain ⟨j, h1, h2, h3, h4⟩ := inf139; exact ⟨_, j, _, rfl, h1, h2, h3, h4, rfl, rfl, rfl, fun h => by cases h⟩)⟩
  one := fun h => by first | rfl | cases h
  pos := by decide
  eq := fun h => absurd rfl h
theorem tf121 : TyFacts Try.prog 121 (ty 121) where
  info := by obtain ⟨i, h1, h2, _, h4⟩ := inf121; exact ⟨i, _, h1, h2, h4, rfl⟩
  plain := rfl
  desc := ⟨_, Try.underlying121, rfl, ⟨_, rfl, rfl, fun i o s h => match i, h with | 0, h => (by cases h; exact (by obtain ⟨j, h1, h2, _⟩ := inf119; exact ⟨_, j, rfl, rfl, h1, h2, by decide⟩)) | 1, h => (by cases h; exact (by obtain ⟨j, h1, h2, _⟩ := inf47; exact ⟨_, j, rfl, rfl, h1, h2, by decide⟩)) | 2, h => (by cases h; exact (by obtain ⟨j, h1, h2, _⟩ := inf47; exact ⟨_, j, rfl, rfl, h1, h2, by decide⟩)) | n + 3, h => by simp at h⟩⟩
  one := fun h => by first | rfl | cases h
  pos := by decide
  eq := fun h => absurd rfl h
theorem tf124 : TyFacts Try.prog 124 (ty 124) where
  info := by obtain ⟨i, h1, h2, _, h4⟩ := inf124; exact ⟨i, _, h1, h2, h4, rfl⟩
  plain := rfl
  desc := ⟨_, Try.underlying124, rfl, (by obtain ⟨j, h1, h2, h3, h4⟩ := inf128; exact ⟨_, j, _, rfl, h1, h2, h3, h4, rfl, rfl, rfl, fun h => by cases h⟩)⟩
  one := fun h => by first | rfl | cases h
  pos := by decide
  eq := fun h => absurd rfl h
theorem tf128 : TyFacts Try.prog 128 (ty 128) where
  info := by obtain ⟨i, h1, h2, _, h4⟩ := inf128; exact ⟨i, _, h1, h2, h4, rfl⟩
  plain := rfl
  desc := ⟨_, Try.underlying128, rfl, ⟨_, rfl, rfl, fun i o s h => match i, h with | 0, h => (by cases h; exact (by obtain ⟨j, h1, h2, _⟩ := inf118; exact ⟨_, j, rfl, rfl, h1, h2, by decide⟩)) | 1, h => (by cases h; exact (by obtain ⟨j, h1, h2, _⟩ := inf9; exact ⟨_, j, rfl, rfl, h1, h2, by decide⟩)) | n + 2, h => by simp at h⟩⟩
  one := fun h => by first | rfl | cases h
  pos := by decide
  eq := fun h => absurd rfl h
theorem tf130 : TyFacts Try.prog 130 (ty 130) where
  info := by obtain ⟨i, h1, h2, _, h4⟩ := inf130; exact ⟨i, _, h1, h2, h4, rfl⟩
  plain := rfl
  desc := ⟨_, Try.underlying130, rfl, ⟨_, rfl, rfl, fun i o s h => match i, h with | 0, h => (by cases h; exact (by obtain ⟨j, h1, h2, _⟩ := inf124; exact ⟨_, j, rfl, rfl, h1, h2, by decide⟩)) | 1, h => (by cases h; exact (by obtain ⟨j, h1, h2, _⟩ := inf3; exact ⟨_, j, rfl, rfl, h1, h2, by decide⟩)) | n + 2, h => by simp at h⟩⟩
  one := fun h => by first | rfl | cases h
  pos := by decide
  eq := fun h => absurd rfl h
theorem tf131 : TyFacts Try.prog 131 (ty 131) where
  info := by obtain ⟨i, h1, h2, _, h4⟩ := inf131; exact ⟨i, _, h1, h2, h4, rfl⟩
  plain := rfl
  desc := ⟨_, Try.underlying131, rfl, (by obtain ⟨j, h1, h2, h3, h4⟩ := inf130; exact ⟨_, j, _, rfl, h1, h2, h3, h4, rfl, rfl, rfl, fun h => by cases h⟩)⟩
  one := fun h => by first | rfl | cases h
  pos := by decide
  eq := fun h => absurd rfl h
theorem tf132 : TyFacts Try.prog 132 (ty 132) where
  info := by obtain ⟨i, h1, h2, _, h4⟩ := inf132; exact ⟨i, _, h1, h2, h4, rfl⟩
  plain := rfl
  desc := ⟨_, Try.underlying132, rfl, trivial⟩
  one := fun h => by first | rfl | cases h
  pos := by decide
  eq := fun h => absurd rfl h
theorem tf135 : TyFacts Try.prog 135 (ty 135) where
  info := by obtain ⟨i, h1, h2, _, h4⟩ := inf135; exact ⟨i, _, h1, h2, h4, rfl⟩
  plain := rfl
  desc := ⟨_, Try.underlying135, rfl, trivial⟩
  one := fun h => by first | rfl | cases h
  pos := by decide
  eq := fun h => absurd rfl h
theorem tf137 : TyFacts Try.prog 137 (ty 137) where
  info := by obtain ⟨i, h1, h2, _, h4⟩ := inf137; exact ⟨i, _, h1, h2, h4, rfl⟩
  plain := rfl
  desc := ⟨_, Try.underlying137, rfl, ⟨_, rfl, rfl, fun i o s h => match i, h with | 0, h => (by cases h; exact (by obtain ⟨j, h1, h2, _⟩ := inf31; exact ⟨_, j, rfl, rfl, h1, h2, by decide⟩)) | 1, h => (by cases h; exact (by obtain ⟨j, h1, h2, _⟩ := inf77; exact ⟨_, j, rfl, rfl, h1, h2, by decide⟩)) | n + 2, h => by simp at h⟩⟩
  one := fun h => by first | rfl | cases h
  pos := by decide
  eq := fun h => absurd rfl h
theorem tf139 : TyFacts Try.prog 139 (ty 139) where
  info := by obtain ⟨i, h1, h2, _, h4⟩ := inf139; exact ⟨i, _, h1, h2, h4, rfl⟩
  plain := rfl
  desc := ⟨_, Try.underlying139, rfl, (by obtain ⟨j, h1, h2, h3, h4⟩ := inf141; exact ⟨_, j, _, rfl, h1, h2, h3, h4, rfl, rfl, rfl, fun h => by cases h⟩)⟩
  one := fun h => by first | rfl | cases h
  pos := by decide
  eq := fun h => absurd rfl h
theorem tf141 : TyFacts Try.prog 141 (ty 141) where
  info := by obtain ⟨i, h1, h2, _, h4⟩ := inf141; exact ⟨i, _, h1, h2, h4, rfl⟩
  plain := rfl
  desc := ⟨_, Try.underlying141, rfl, ⟨_, rfl, rfl, fun i o s h => match i, h with | 0, h => (by cases h; exact (by obtain ⟨j, h1, h2, _⟩ := inf9; exact ⟨_, j, rfl, rfl, h1, h2, by decide⟩)) | 1, h => (by cases h; exact (by obtain ⟨j, h1, h2, _⟩ := inf39; exact ⟨_, j, rfl, rfl, h1, h2, by decide⟩)) | 2, h => (by cases h; exact (by obtain ⟨j, h1, h2, _⟩ := inf3; exact ⟨_, j, rfl, rfl, h1, h2, by decide⟩)) | n + 3, h => by simp at h⟩⟩
  one := fun h => by first | rfl | cases h
  pos := by decide
  eq := fun h => absurd rfl h
theorem tyOK : TyOK Try.prog ty := by
  intro t h
  unfold ty at h
  split at h
  · exact tf3
  · exact tf4
  · exact tf5
  · exact tf9
  · exact tf22
  · exact tf24
  · exact tf26
  · exact tf27
  · exact tf29
  · exact tf31
  · exact tf33
  · exact tf34
  · exact tf39
  · exact tf41
  · exact tf44
  · exact tf47
  · exact tf50
  · exact tf55
  · exact tf57
  · exact tf64
  · exact tf67
  · exact tf69
  · exact tf74
  · exact tf77
  · exact tf84
  · exact tf87
  · exact tf95
  · exact tf102
  · exact tf107
  · exact tf110
  · exact tf114
  · exact tf116
  · exact tf118
  · exact tf119
  · exact tf121
  · exact tf124
  · exact tf128
  · exact tf130
  · exact tf131
  · exact tf132
  · exact tf135
  · exact tf137
  · exact tf139
  · exact tf141
  · cases h
theorem follows : Try.prog.follows .mixedOrders = true := by kernel_rfl
def cx (n : Nat) : Cx := ⟨ty, n, CallOK Try.prog⟩
theorem cxOK (n : Nat) : CxOK Try.prog (cx n) := ⟨tyOK, fun _ _ _ h => h⟩
end Go.AI
end
section
namespace Go.AI
structure Arr3 (α : Type) where
  a0 : α
  a1 : α
  a2 : α
  deriving DecidableEq, Inhabited
structure GRule where
  Print : (List UInt8)
  Cells : (List Int)
  Left : Int
  Right : Int
  From : Int
  To : Int
  deriving DecidableEq, Inhabited
structure GState where
  Mode : Int
  Last : Int
  Need : Int
  deriving DecidableEq, Inhabited
structure GTable where
  Modes : Int
  Accept : Int
  Rules : (List GRule)
  deriving DecidableEq, Inhabited
structure GTrace where
  Text : (List UInt8)
  Cells : (List Int)
  At : Int
  End : GState
  Ok : Bool
  deriving DecidableEq, Inhabited
structure Arr2 (α : Type) where
  a0 : α
  a1 : α
  deriving DecidableEq, Inhabited
structure GRawRule where
  P : (List Int)
  C : (List Int)
  L : Int
  R : Int
  W : (Arr2 Int)
  deriving DecidableEq, Inhabited
structure GRaw where
  Base : Int
  Drop : Int
  More : (List GRawRule)
  deriving DecidableEq, Inhabited
def FSixdotlaw03_rule (n : Nat) (p0_ : (List UInt8)) (p1_ : Int) (p2_ : (Arr3 Int)) : Option GRule :=
  some ({ Print := p0_, Cells := [p1_], Left := 63, Right := IntKind.u8.wrap p2_.a0, From := p2_.a1, To := p2_.a2 } : GRule)
def FAutomaton_Start (n : Nat)  : Option GState :=
  some ({ Mode := 0, Last := 0, Need := 63 } : GState)
def FAutomaton_has (n : Nat) (p0_ : Int) (p1_ : Int) : Option Bool :=
  (if ((decide (0 ≤ p1_)) && (decide (p1_ < 8))) = true then guardB (decide (0 ≤ p1_)) else some default).bind fun (u1 : Unit) =>
  some (((decide (0 ≤ p1_)) && (decide (p1_ < 8))) && ((iand .u8 (ishr .u8 p0_ p1_) 1) == 1))
def FTable_Class (n : Nat) (p0_ : Int) : Option Int :=
  if ((decide (97 ≤ iand .u8 p0_ 127)) && (decide (iand .u8 p0_ 127 ≤ 122))) = true then
    some 1
  else
    if ((decide (65 ≤ iand .u8 p0_ 127)) && (decide (iand .u8 p0_ 127 ≤ 90))) = true then
      some 2
    else
      if ((decide (48 ≤ iand .u8 p0_ 127)) && (decide (iand .u8 p0_ 127 ≤ 57))) = true then
        some 3
      else
        if ((iand .u8 p0_ 127) == 32) = true then
          some 4
        else
          some 5
def FAutomaton_Step (n : Nat) (p0_ : GTable) (p1_ : GState) (p2_ : Int) : Option (GState × Bool) :=
  if ((decide (p2_ < 0)) || (decide (p2_ ≥ ((List.length p0_.Rules : Nat) : Int)))) = true then
    some (({ Mode := 0, Last := 0, Need := 0 } : GState), false)
  else
    (idx p0_.Rules p2_).bind fun (x1 : GRule) =>
    (if (!(x1.From != p1_.Mode)) = true then FAutomaton_has n x1.Left p1_.Last else some default).bind fun (r1 : Bool) =>
    if ((x1.From != p1_.Mode) || (!r1)) = true then
      some (({ Mode := 0, Last := 0, Need := 0 } : GState), false)
    else
      if (x1.Print == []) = true then
        if ((iand .u8 p1_.Need x1.Right) == 0) = true then
          some (({ Mode := 0, Last := 0, Need := 0 } : GState), false)
        else
          some (({ Mode := x1.To, Last := p1_.Last, Need := iand .u8 p1_.Need x1.Right } : GState), true)
      else
        (sidx x1.Print 0).bind fun (b1 : Int) =>
        (FTable_Class n b1).bind fun (r2 : Int) =>
        (FAutomaton_has n p1_.Need r2).bind fun (r3 : Bool) =>
        if (!r3) = true then
          some (({ Mode := 0, Last := 0, Need := 0 } : GState), false)
        else
          (sidx x1.Print (isub .i64 ((List.length x1.Print : Nat) : Int) 1)).bind fun (b2 : Int) =>
          (FTable_Class n b2).bind fun (r4 : Int) =>
          some (({ Mode := x1.To, Last := r4, Need := x1.Right } : GState), true)
def FAutomaton_Accepts (n : Nat) (p0_ : GTable) (p1_ : GState) : Option Bool :=
  (if decide (p1_.Mode < p0_.Modes) = true then FAutomaton_has n p0_.Accept p1_.Mode else some default).bind fun (r5 : Bool) =>
  (if ((decide (p1_.Mode < p0_.Modes)) && r5) = true then FAutomaton_has n p1_.Need 0 else some default).bind fun (r6 : Bool) =>
  some (((decide (p1_.Mode < p0_.Modes)) && r5) && r6)
def f22_L1 (n : Nat) (p0_ : GTable) (p1_ : (List Int)) (text_1 : (List Int)) (cells_1 : (List Int)) (s_1 : GState) (at_1 : Int) (x_1 : Int) : Option (((List Int) × (List Int) × GState × Int × Int) ⊕ ((List Int) × (List Int) × GState × Int)) :=
  if decide (x_1 < ((List.length p1_ : Nat) : Int)) = true then
    (idx p1_ x_1).bind fun (x2 : Int) =>
    (FAutomaton_Step n p0_ s_1 x2).bind fun (r8 : (GState × Bool)) =>
    if (!r8.2) = true then
      some (Sum.inr (text_1, cells_1, s_1, at_1))
    else
      (idx p0_.Rules x2).bind fun (x3 : GRule) =>
      (app 1 text_1 (bytesOf x3.Print)).bind fun (l1 : (List Int)) =>
      (idx p0_.Rules x2).bind fun (x4 : GRule) =>
      (app 1 cells_1 x4.Cells).bind fun (l2 : (List Int)) =>
      some (Sum.inl (l1, l2, r8.1, (iadd .i64 at_1 1), (iadd .i64 x_1 1)))
  else
    some (Sum.inr (text_1, cells_1, s_1, at_1))
def FAutomaton_Run (n : Nat) (p0_ : GTable) (p1_ : (List Int)) : Option GTrace :=
  (FAutomaton_Start n).bind fun (r7 : GState) =>
  (whl (fun (x : ((List Int) × (List Int) × GState × Int × Int)) => f22_L1 n p0_ p1_ x.1 x.2.1 x.2.2.1 x.2.2.2.1 x.2.2.2.2) n (([] : List Int), ([] : List Int), r7, 0, 0)).bind fun (y1 : ((List Int) × (List Int) × GState × Int)) =>
  (bstr y1.1).bind fun (s1 : (List UInt8)) =>
  (if (y1.2.2.2 == ((List.length p1_ : Nat) : Int)) = true then FAutomaton_Accepts n p0_ y1.2.2.1 else some default).bind fun (r9 : Bool) =>
  some ({ Text := s1, Cells := y1.2.1, At := y1.2.2.2, End := y1.2.2.1, Ok := ((y1.2.2.2 == ((List.length p1_ : Nat) : Int)) && r9) } : GTrace)
def f54_J1 (n : Nat) (x_2 : Int) (states_5 : (List GState)) (from_5 : (List (List Int))) (number_4 : (List (GState × Int))) : Option (((List GState) × (List (List Int)) × (List (GState × Int)) × Int) ⊕ ((List GState) × (List (List Int)) × (List (GState × Int)))) :=
  some (Sum.inl (states_5, from_5, number_4, (iadd .i64 x_2 1)))
def f54_J2 (n : Nat) (k_1 : Int) (x_2 : Int) (states_6 : (List GState)) (from_6 : (List (List Int))) (number_5 : (List (GState × Int))) (n_1 : Int) : Option (((List GState) × (List (List Int)) × (List (GState × Int)) × Int) ⊕ ((List GState) × (List (List Int)) × (List (GState × Int)))) :=
  (idx from_6 n_1).bind fun (x6 : (List Int)) =>
  (app 8 x6 [k_1]).bind fun (l3 : (List Int)) =>
  f54_J1 n x_2 states_6 (List.set from_6 (Int.toNat n_1) l3) number_5
def f54_L2 (n : Nat) (p0_ : GTable) (k_1 : Int) (states_3 : (List GState)) (from_3 : (List (List Int))) (number_2 : (List (GState × Int))) (x_2 : Int) : Option (((List GState) × (List (List Int)) × (List (GState × Int)) × Int) ⊕ ((List GState) × (List (List Int)) × (List (GState × Int)))) :=
  if decide (x_2 < ((List.length p0_.Rules : Nat) : Int)) = true then
    (idx states_3 k_1).bind fun (x5 : GState) =>
    (FAutomaton_Step n p0_ x5 x_2).bind fun (r11 : (GState × Bool)) =>
    if (!r11.2) = true then
      f54_J1 n x_2 states_3 from_3 number_2
    else
      if (!(Option.isSome (mget r11.1 number_2))) = true then
        (app 24 states_3 [r11.1]).bind fun (l4 : (List GState)) =>
        (app 24 from_3 [([] : (List Int))]).bind fun (l5 : (List (List Int))) =>
        f54_J2 n k_1 x_2 l4 l5 (mput r11.1 ((List.length states_3 : Nat) : Int) number_2) ((List.length states_3 : Nat) : Int)
      else
        f54_J2 n k_1 x_2 states_3 from_3 number_2 (Option.getD (mget r11.1 number_2) 0)
  else
    some (Sum.inr (states_3, from_3, number_2))
def f54_L1 (n : Nat) (p0_ : GTable) (states_1 : (List GState)) (from_1 : (List (List Int))) (number_1 : (List (GState × Int))) (k_1 : Int) : Option (((List GState) × (List (List Int)) × (List (GState × Int)) × Int) ⊕ ((List GState) × (List (List Int)))) :=
  if decide (k_1 < ((List.length states_1 : Nat) : Int)) = true then
    (whl (fun (x : ((List GState) × (List (List Int)) × (List (GState × Int)) × Int)) => f54_L2 n p0_ k_1 x.1 x.2.1 x.2.2.1 x.2.2.2) n (states_1, from_1, number_1, 0)).bind fun (y2 : ((List GState) × (List (List Int)) × (List (GState × Int)))) =>
    some (Sum.inl (y2.1, y2.2.1, y2.2.2, (iadd .i64 k_1 1)))
  else
    some (Sum.inr (states_1, from_1))
def FAutomaton_explore (n : Nat) (p0_ : GTable) : Option ((List GState) × (List (List Int))) :=
  (FAutomaton_Start n).bind fun (r10 : GState) =>
  (whl (fun (x : ((List GState) × (List (List Int)) × (List (GState × Int)) × Int)) => f54_L1 n p0_ x.1 x.2.1 x.2.2.1 x.2.2.2) n ([r10], ([[]] : List (List Int)), (mput r10 0 []), 0)).bind fun (y3 : ((List GState) × (List (List Int)))) =>
  some (y3.1, y3.2)
def FAutomaton_States (n : Nat) (p0_ : GTable) : Option (List GState) :=
  (FAutomaton_explore n p0_).bind fun (r12 : ((List GState) × (List (List Int)))) =>
  some r12.1
def f28_J1 (n : Nat) (x_3 : Int) (alive_3 : (List Bool)) (open_3 : (List Int)) : Option (((List Bool) × (List Int) × Int) ⊕ ((List Bool) × (List Int))) :=
  some (Sum.inl (alive_3, open_3, (iadd .i64 x_3 1)))
def f28_L1 (n : Nat) (p0_ : GTable) (r13 : ((List GState) × (List (List Int)))) (alive_1 : (List Bool)) (open_1 : (List Int)) (x_3 : Int) : Option (((List Bool) × (List Int) × Int) ⊕ ((List Bool) × (List Int))) :=
  if decide (x_3 < ((List.length r13.1 : Nat) : Int)) = true then
    (idx r13.1 x_3).bind fun (x7 : GState) =>
    (FAutomaton_Accepts n p0_ x7).bind fun (r14 : Bool) =>
    if r14 = true then
      (idx alive_1 x_3).bind fun (x8 : Bool) =>
      (put alive_1 x_3 true).bind fun (l7 : (List Bool)) =>
      (app 8 open_1 [x_3]).bind fun (l8 : (List Int)) =>
      f28_J1 n x_3 l7 l8
    else
      f28_J1 n x_3 alive_1 open_1
  else
    some (Sum.inr (alive_1, open_1))
def f28_J2 (n : Nat) (x_4 : Int) (alive_8 : (List Bool)) (open_7 : (List Int)) : Option (((List Bool) × (List Int) × Int) ⊕ ((List Bool) × (List Int))) :=
  some (Sum.inl (alive_8, open_7, (iadd .i64 x_4 1)))
def f28_L3 (n : Nat) (r13 : ((List GState) × (List (List Int)))) (x10 : (List Int)) (alive_6 : (List Bool)) (open_5 : (List Int)) (x_4 : Int) : Option (((List Bool) × (List Int) × Int) ⊕ ((List Bool) × (List Int))) :=
  if decide (x_4 < ((List.length x10 : Nat) : Int)) = true then
    (idx x10 x_4).bind fun (x11 : Int) =>
    (idx alive_6 x11).bind fun (x12 : Bool) =>
    if (!x12) = true then
      (idx alive_6 x11).bind fun (x13 : Bool) =>
      (put alive_6 x11 true).bind fun (l10 : (List Bool)) =>
      (app 8 open_5 [x11]).bind fun (l11 : (List Int)) =>
      f28_J2 n x_4 l10 l11
    else
      f28_J2 n x_4 alive_6 open_5
  else
    some (Sum.inr (alive_6, open_5))
def f28_L2 (n : Nat) (r13 : ((List GState) × (List (List Int)))) (alive_4 : (List Bool)) (open_4 : (List Int)) : Option (((List Bool) × (List Int)) ⊕ (List Bool)) :=
  if decide (((List.length open_4 : Nat) : Int) > 0) = true then
    (idx open_4 (isub .i64 ((List.length open_4 : Nat) : Int) 1)).bind fun (x9 : Int) =>
    (sub open_4 0 (isub .i64 ((List.length open_4 : Nat) : Int) 1)).bind fun (l9 : (List Int)) =>
    (idx r13.2 x9).bind fun (x10 : (List Int)) =>
    (whl (fun (x : ((List Bool) × (List Int) × Int)) => f28_L3 n r13 x10 x.1 x.2.1 x.2.2) n (alive_4, l9, 0)).bind fun (y5 : ((List Bool) × (List Int))) =>
    some (Sum.inl (y5.1, y5.2))
  else
    some (Sum.inr alive_4)
def FAutomaton_Alive (n : Nat) (p0_ : GTable) : Option (List Bool) :=
  (FAutomaton_explore n p0_).bind fun (r13 : ((List GState) × (List (List Int)))) =>
  (mkl 1 ((List.length r13.1 : Nat) : Int) (false : Bool)).bind fun (l6 : (List Bool)) =>
  (whl (fun (x : ((List Bool) × (List Int) × Int)) => f28_L1 n p0_ r13 x.1 x.2.1 x.2.2) n (l6, ([] : List Int), 0)).bind fun (y4 : ((List Bool) × (List Int))) =>
  (whl (fun (x : ((List Bool) × (List Int))) => f28_L2 n r13 x.1 x.2) n (y4.1, y4.2)).bind fun (y6 : (List Bool)) =>
  some y6
def f49_L1 (n : Nat) (p0_ : (List Int)) (p1_ : (List Int)) (i_1 : Int) : Option (Int ⊕ (Unit ⊕ Bool)) :=
  if decide (i_1 < ((List.length p0_ : Nat) : Int)) = true then
    (idx p0_ i_1).bind fun (x14 : Int) =>
    (idx p1_ i_1).bind fun (x15 : Int) =>
    if (x14 != x15) = true then
      some (Sum.inr (Sum.inr false))
    else
      some (Sum.inl (iadd .i64 i_1 1))
  else
    some (Sum.inr (Sum.inl ()))
def FSixdotref02_SameCells (n : Nat) (p0_ : (List Int)) (p1_ : (List Int)) : Option Bool :=
  if (((List.length p0_ : Nat) : Int) != ((List.length p1_ : Nat) : Int)) = true then
    some false
  else
    (whl (fun (x : Int) => f49_L1 n p0_ p1_ x) n 0).bind fun (y7 : (Unit ⊕ Bool)) =>
    match y7 with
    | Sum.inl y8 =>
      some true
    | Sum.inr y9 =>
      some y9
def f15_L1 (n : Nat) (r15 : GRule) (r16 : GRule) (r17 : GRule) (r18 : GRule) (r20 : (GState × Bool)) (r21 : (GState × Bool)) (r22 : (GState × Bool)) (r23 : GTrace) (r24 : GTrace) (r25 : GTrace) (r26 : (List GState)) (r27 : (List Bool)) (i_2 : Int) : Option (Int ⊕ (Unit ⊕ Bool)) :=
  if decide (i_2 < ((List.length r26 : Nat) : Int)) = true then
    (idx r26 i_2).bind fun (x16 : GState) =>
    (idx [({ Mode := 0, Last := 0, Need := 63 } : GState), ({ Mode := 0, Last := 1, Need := 63 } : GState), ({ Mode := 1, Last := 0, Need := 8 } : GState), ({ Mode := 1, Last := 1, Need := 8 } : GState), ({ Mode := 1, Last := 3, Need := 63 } : GState), ({ Mode := 0, Last := 4, Need := 63 } : GState), ({ Mode := 1, Last := 4, Need := 8 } : GState)] i_2).bind fun (x17 : GState) =>
    (if (!(!((x16.Mode == x17.Mode) && ((x16.Last == x17.Last) && ((x16.Need == x17.Need) && true))))) = true then idx r27 i_2 else some default).bind fun (x18 : Bool) =>
    if ((!((x16.Mode == x17.Mode) && ((x16.Last == x17.Last) && ((x16.Need == x17.Need) && true)))) || (!x18)) = true then
      some (Sum.inr (Sum.inr false))
    else
      some (Sum.inl (iadd .i64 i_2 1))
  else
    some (Sum.inr (Sum.inl ()))
def FSixdotlaw03_sanity (n : Nat)  : Option Bool :=
  (FSixdotlaw03_rule n [97] 1 ({ a0 := 63, a1 := 0, a2 := 0 } : (Arr3 Int))).bind fun (r15 : GRule) =>
  (FSixdotlaw03_rule n [] 60 ({ a0 := 8, a1 := 0, a2 := 1 } : (Arr3 Int))).bind fun (r16 : GRule) =>
  (FSixdotlaw03_rule n [49] 1 ({ a0 := 63, a1 := 1, a2 := 1 } : (Arr3 Int))).bind fun (r17 : GRule) =>
  (FSixdotlaw03_rule n [32] 0 ({ a0 := 63, a1 := 1, a2 := 0 } : (Arr3 Int))).bind fun (r18 : GRule) =>
  (FAutomaton_Start n).bind fun (r19 : GState) =>
  (FAutomaton_Step n ({ Modes := 2, Accept := 3, Rules := [r15, r16, r17, r18] } : GTable) r19 1).bind fun (r20 : (GState × Bool)) =>
  (FAutomaton_Step n ({ Modes := 2, Accept := 3, Rules := [r15, r16, r17, r18] } : GTable) r20.1 0).bind fun (r21 : (GState × Bool)) =>
  (FAutomaton_Step n ({ Modes := 2, Accept := 3, Rules := [r15, r16, r17, r18] } : GTable) r20.1 4).bind fun (r22 : (GState × Bool)) =>
  (FAutomaton_Run n ({ Modes := 2, Accept := 3, Rules := [r15, r16, r17, r18] } : GTable) [1, 2, 3, 0]).bind fun (r23 : GTrace) =>
  (FAutomaton_Run n ({ Modes := 2, Accept := 3, Rules := [r15, r16, r17, r18] } : GTable) [1, 0]).bind fun (r24 : GTrace) =>
  (FAutomaton_Run n ({ Modes := 2, Accept := 3, Rules := [r15, r16, r17, r18] } : GTable) [1]).bind fun (r25 : GTrace) =>
  (FAutomaton_States n ({ Modes := 2, Accept := 3, Rules := [r15, r16, r17, r18] } : GTable)).bind fun (r26 : (List GState)) =>
  (FAutomaton_Alive n ({ Modes := 2, Accept := 3, Rules := [r15, r16, r17, r18] } : GTable)).bind fun (r27 : (List Bool)) =>
  if ((((List.length r26 : Nat) : Int) != ((List.length [({ Mode := 0, Last := 0, Need := 63 } : GState), ({ Mode := 0, Last := 1, Need := 63 } : GState), ({ Mode := 1, Last := 0, Need := 8 } : GState), ({ Mode := 1, Last := 1, Need := 8 } : GState), ({ Mode := 1, Last := 3, Need := 63 } : GState), ({ Mode := 0, Last := 4, Need := 63 } : GState), ({ Mode := 1, Last := 4, Need := 8 } : GState)] : Nat) : Int)) || (((List.length r27 : Nat) : Int) != ((List.length [({ Mode := 0, Last := 0, Need := 63 } : GState), ({ Mode := 0, Last := 1, Need := 63 } : GState), ({ Mode := 1, Last := 0, Need := 8 } : GState), ({ Mode := 1, Last := 1, Need := 8 } : GState), ({ Mode := 1, Last := 3, Need := 63 } : GState), ({ Mode := 0, Last := 4, Need := 63 } : GState), ({ Mode := 1, Last := 4, Need := 8 } : GState)] : Nat) : Int))) = true then
    some false
  else
    (whl (fun (x : Int) => f15_L1 n r15 r16 r17 r18 r20 r21 r22 r23 r24 r25 r26 r27 x) n 0).bind fun (y10 : (Unit ⊕ Bool)) =>
    match y10 with
    | Sum.inl y11 =>
      (if (((r20.2 && ((r20.1.Mode == 1) && ((r20.1.Last == 0) && ((r20.1.Need == 8) && true)))) && (!r21.2)) && (!r22.2)) = true then FAutomaton_Start n else some default).bind fun (r28 : GState) =>
      (if (r23.Ok && (r23.Text == [49, 32, 97])) = true then FSixdotref02_SameCells n r23.Cells [60, 1, 0, 1] else some default).bind fun (r29 : Bool) =>
      (if (((((r20.2 && ((r20.1.Mode == 1) && ((r20.1.Last == 0) && ((r20.1.Need == 8) && true)))) && (!r21.2)) && (!r22.2)) && ((r28.Mode == 0) && ((r28.Last == 0) && ((r28.Need == 63) && true)))) && (((((((r23.Ok && (r23.Text == [49, 32, 97])) && r29) && (r23.At == 4)) && (r24.At == 1)) && (!r24.Ok)) && (r25.At == 1)) && (!r25.Ok))) = true then idx r26 1 else some default).bind fun (x19 : GState) =>
      (if (((((r20.2 && ((r20.1.Mode == 1) && ((r20.1.Last == 0) && ((r20.1.Need == 8) && true)))) && (!r21.2)) && (!r22.2)) && ((r28.Mode == 0) && ((r28.Last == 0) && ((r28.Need == 63) && true)))) && (((((((r23.Ok && (r23.Text == [49, 32, 97])) && r29) && (r23.At == 4)) && (r24.At == 1)) && (!r24.Ok)) && (r25.At == 1)) && (!r25.Ok))) = true then FAutomaton_Accepts n ({ Modes := 2, Accept := 3, Rules := [r15, r16, r17, r18] } : GTable) x19 else some default).bind fun (r30 : Bool) =>
      (if ((((((r20.2 && ((r20.1.Mode == 1) && ((r20.1.Last == 0) && ((r20.1.Need == 8) && true)))) && (!r21.2)) && (!r22.2)) && ((r28.Mode == 0) && ((r28.Last == 0) && ((r28.Need == 63) && true)))) && (((((((r23.Ok && (r23.Text == [49, 32, 97])) && r29) && (r23.At == 4)) && (r24.At == 1)) && (!r24.Ok)) && (r25.At == 1)) && (!r25.Ok))) && r30) = true then FAutomaton_Accepts n ({ Modes := 2, Accept := 3, Rules := [r15, r16, r17, r18] } : GTable) r20.1 else some default).bind fun (r31 : Bool) =>
      (if (((((((r20.2 && ((r20.1.Mode == 1) && ((r20.1.Last == 0) && ((r20.1.Need == 8) && true)))) && (!r21.2)) && (!r22.2)) && ((r28.Mode == 0) && ((r28.Last == 0) && ((r28.Need == 63) && true)))) && (((((((r23.Ok && (r23.Text == [49, 32, 97])) && r29) && (r23.At == 4)) && (r24.At == 1)) && (!r24.Ok)) && (r25.At == 1)) && (!r25.Ok))) && r30) && (!r31)) = true then FAutomaton_Accepts n ({ Modes := 2, Accept := 3, Rules := [r15, r16, r17, r18] } : GTable) ({ Mode := 2, Last := 0, Need := 63 } : GState) else some default).bind fun (r32 : Bool) =>
      some ((((((((r20.2 && ((r20.1.Mode == 1) && ((r20.1.Last == 0) && ((r20.1.Need == 8) && true)))) && (!r21.2)) && (!r22.2)) && ((r28.Mode == 0) && ((r28.Last == 0) && ((r28.Need == 63) && true)))) && (((((((r23.Ok && (r23.Text == [49, 32, 97])) && r29) && (r23.At == 4)) && (r24.At == 1)) && (!r24.Ok)) && (r25.At == 1)) && (!r25.Ok))) && r30) && (!r31)) && (!r32))
    | Sum.inr y12 =>
      some y12
def FSixdotref02_simple (n : Nat) (p0_ : (List UInt8)) (p1_ : (List Int)) (p2_ : (Arr2 Int)) : Option GRule :=
  some ({ Print := p0_, Cells := p1_, Left := 63, Right := 63, From := p2_.a0, To := p2_.a1 } : GRule)
def FSixdotref02_letters (n : Nat)  : Option (List GRule) :=
  (FSixdotref02_simple n [97] [1] ({ a0 := 0, a1 := 0 } : (Arr2 Int))).bind fun (r33 : GRule) =>
  (FSixdotref02_simple n [98] [3] ({ a0 := 0, a1 := 0 } : (Arr2 Int))).bind fun (r34 : GRule) =>
  (FSixdotref02_simple n [99] [9] ({ a0 := 0, a1 := 0 } : (Arr2 Int))).bind fun (r35 : GRule) =>
  (FSixdotref02_simple n [32] [0] ({ a0 := 0, a1 := 0 } : (Arr2 Int))).bind fun (r36 : GRule) =>
  some [r33, r34, r35, r36]
def FSixdotref02_indicator (n : Nat) (p0_ : Int) (p1_ : Int) (p2_ : (Arr2 Int)) : Option GRule :=
  (FSixdotref02_simple n [] [p0_] p2_).bind fun (r37 : GRule) =>
  (guardB (decide (0 ≤ p1_))).bind fun (u2 : Unit) =>
  some ({ Print := r37.Print, Cells := r37.Cells, Left := r37.Left, Right := ishl .u8 1 p1_, From := r37.From, To := r37.To } : GRule)
def f50_J1 (n : Nat) (l_1 : (List GRule)) : Option GTable :=
  some ({ Modes := 1, Accept := 1, Rules := l_1 } : GTable)
def FSixdotref02_Base (n : Nat) (p0_ : Int) : Option GTable :=
  (FSixdotref02_letters n).bind fun (r38 : (List GRule)) =>
  if ((irem p0_ 8) == 1) = true then
    (FSixdotref02_indicator n 60 3 ({ a0 := 0, a1 := 1 } : (Arr2 Int))).bind fun (r39 : GRule) =>
    (FSixdotref02_simple n [49] [1] ({ a0 := 1, a1 := 1 } : (Arr2 Int))).bind fun (r40 : GRule) =>
    (FSixdotref02_simple n [50] [3] ({ a0 := 1, a1 := 1 } : (Arr2 Int))).bind fun (r41 : GRule) =>
    (FSixdotref02_simple n [32] [0] ({ a0 := 1, a1 := 0 } : (Arr2 Int))).bind fun (r42 : GRule) =>
    (app 64 r38 [r39, r40, r41, r42]).bind fun (l12 : (List GRule)) =>
    some ({ Modes := 2, Accept := 3, Rules := l12 } : GTable)
  else
    if ((irem p0_ 8) == 2) = true then
      (FSixdotref02_indicator n 32 2 ({ a0 := 0, a1 := 1 } : (Arr2 Int))).bind fun (r43 : GRule) =>
      (FSixdotref02_simple n [65] [1] ({ a0 := 1, a1 := 0 } : (Arr2 Int))).bind fun (r44 : GRule) =>
      (FSixdotref02_simple n [66] [3] ({ a0 := 1, a1 := 0 } : (Arr2 Int))).bind fun (r45 : GRule) =>
      (app 64 r38 [r43, r44, r45]).bind fun (l13 : (List GRule)) =>
      some ({ Modes := 2, Accept := 1, Rules := l13 } : GTable)
    else
      if ((irem p0_ 8) == 3) = true then
        (FSixdotref02_simple n [97, 98] [7] ({ a0 := 0, a1 := 0 } : (Arr2 Int))).bind fun (r46 : GRule) =>
        (FSixdotref02_simple n [97, 98, 99] [15] ({ a0 := 0, a1 := 0 } : (Arr2 Int))).bind fun (r47 : GRule) =>
        (FSixdotref02_simple n [99, 97] [4, 4] ({ a0 := 0, a1 := 0 } : (Arr2 Int))).bind fun (r48 : GRule) =>
        (app 64 r38 [r46, r47, r48]).bind fun (l14 : (List GRule)) =>
        f50_J1 n l14
      else
        if ((irem p0_ 8) == 4) = true then
          (FSixdotref02_simple n [45] [1, 3] ({ a0 := 0, a1 := 0 } : (Arr2 Int))).bind fun (r49 : GRule) =>
          (app 64 r38 [r49]).bind fun (l15 : (List GRule)) =>
          f50_J1 n l15
        else
          if ((irem p0_ 8) == 5) = true then
            (FSixdotref02_simple n [98] [44] ({ a0 := 0, a1 := 0 } : (Arr2 Int))).bind fun (r50 : GRule) =>
            (FSixdotref02_simple n [99, 97, 98] [44] ({ a0 := 0, a1 := 0 } : (Arr2 Int))).bind fun (r51 : GRule) =>
            (FSixdotref02_simple n [45] [36] ({ a0 := 0, a1 := 0 } : (Arr2 Int))).bind fun (r52 : GRule) =>
            (app 64 r38 [({ Print := r50.Print, Cells := r50.Cells, Left := 17, Right := r50.Right, From := r50.From, To := r50.To } : GRule), ({ Print := r51.Print, Cells := r51.Cells, Left := 2, Right := r51.Right, From := r51.From, To := r51.To } : GRule), r52]).bind fun (l16 : (List GRule)) =>
            f50_J1 n l16
          else
            if ((irem p0_ 8) == 6) = true then
              (FSixdotref02_indicator n 40 1 ({ a0 := 0, a1 := 1 } : (Arr2 Int))).bind fun (r53 : GRule) =>
              (FSixdotref02_simple n [225] [1] ({ a0 := 1, a1 := 0 } : (Arr2 Int))).bind fun (r54 : GRule) =>
              (FSixdotref02_simple n [226] [3] ({ a0 := 1, a1 := 0 } : (Arr2 Int))).bind fun (r55 : GRule) =>
              (app 64 r38 [r53, r54, r55]).bind fun (l17 : (List GRule)) =>
              some ({ Modes := 2, Accept := 1, Rules := l17 } : GTable)
            else
              if ((irem p0_ 8) == 7) = true then
                (FSixdotref02_simple n [45] [1, 5] ({ a0 := 0, a1 := 0 } : (Arr2 Int))).bind fun (r56 : GRule) =>
                (FSixdotref02_simple n [49] [5, 5] ({ a0 := 0, a1 := 0 } : (Arr2 Int))).bind fun (r57 : GRule) =>
                (FSixdotref02_simple n [50] [5, 9] ({ a0 := 0, a1 := 0 } : (Arr2 Int))).bind fun (r58 : GRule) =>
                (app 64 r38 [r56, r57, r58]).bind fun (l18 : (List GRule)) =>
                f50_J1 n l18
              else
                f50_J1 n r38
def f37_L1 (n : Nat) (p0_ : GRawRule) (p1_ : Int) (x20 : Int) (x21 : Int) (out_1 : (List UInt8)) (i_3 : Int) : Option (((List UInt8) × Int) ⊕ (List UInt8)) :=
  if ((decide (i_3 < ((List.length p0_.P : Nat) : Int))) && (decide (i_3 < 3))) = true then
    (idx p0_.P i_3).bind fun (x22 : Int) =>
    (sub [97, 98, 99, 65, 66, 49, 50, 45, 46] (IntKind.i64.wrap (irem x22 9)) (iadd .i64 (IntKind.i64.wrap (irem x22 9)) 1)).bind fun (s2 : (List UInt8)) =>
    (cat out_1 s2).bind fun (s3 : (List UInt8)) =>
    some (Sum.inl (s3, (iadd .i64 i_3 1)))
  else
    some (Sum.inr out_1)
def f37_L2 (n : Nat) (p0_ : GRawRule) (p1_ : Int) (x20 : Int) (x21 : Int) (y13 : (List UInt8)) (out_3 : (List Int)) (i_4 : Int) : Option (((List Int) × Int) ⊕ (List Int)) :=
  if ((decide (i_4 < ((List.length p0_.C : Nat) : Int))) && (decide (i_4 < 2))) = true then
    (idx p0_.C i_4).bind fun (x24 : Int) =>
    (idx [1, 3, 9, 5, 7, 32, 44, 60] (irem x24 8)).bind fun (x25 : Int) =>
    (app 1 out_3 [x25]).bind fun (l19 : (List Int)) =>
    some (Sum.inl (l19, (iadd .i64 i_4 1)))
  else
    some (Sum.inr out_3)
def FSixdotref02_Rule (n : Nat) (p0_ : GRawRule) (p1_ : Int) : Option GRule :=
  (idx [63, 63, 2, 8, 17, 62, 4, 1] (irem p0_.L 8)).bind fun (x20 : Int) =>
  (idx [63, 63, 2, 8, 17, 62, 4, 1] (irem p0_.R 8)).bind fun (x21 : Int) =>
  (guardB (!(p1_ == 0))).bind fun (u3 : Unit) =>
  (guardB (!(p1_ == 0))).bind fun (u4 : Unit) =>
  (whl (fun (x : ((List UInt8) × Int)) => f37_L1 n p0_ p1_ x20 x21 x.1 x.2) n ([], 0)).bind fun (y13 : (List UInt8)) =>
  (idx [1, 3, 9, 5, 7, 32, 44, 60] (irem (iquo .u8 p0_.L 8) 8)).bind fun (x23 : Int) =>
  (whl (fun (x : ((List Int) × Int)) => f37_L2 n p0_ p1_ x20 x21 y13 x.1 x.2) n ([x23], 0)).bind fun (y14 : (List Int)) =>
  some ({ Print := y13, Cells := y14, Left := x20, Right := x21, From := irem (IntKind.i64.wrap p0_.W.a0) p1_, To := irem (IntKind.i64.wrap p0_.W.a1) p1_ } : GRule)
def FSixdotref02_Character (n : Nat) (p0_ : Int) : Option Bool :=
  some ((decide (iand .u8 p0_ 127 ≥ 32)) && (decide (iand .u8 p0_ 127 ≤ 126)))
def f56_L1 (n : Nat) (p0_ : (List UInt8)) (i_5 : Int) : Option (Int ⊕ (Unit ⊕ (Int × Int))) :=
  if decide (i_5 < ((List.length p0_ : Nat) : Int)) = true then
    (sidx p0_ i_5).bind fun (b3 : Int) =>
    (FSixdotref02_Character n b3).bind fun (r59 : Bool) =>
    if (!r59) = true then
      some (Sum.inr (Sum.inr (i_5, 60)))
    else
      some (Sum.inl (iadd .i64 i_5 1))
  else
    some (Sum.inr (Sum.inl ()))
def FSixdotref02_Text (n : Nat) (p0_ : (List UInt8)) : Option (Int × Int) :=
  (whl (fun (x : Int) => f56_L1 n p0_ x) n 0).bind fun (y15 : (Unit ⊕ (Int × Int))) =>
  match y15 with
  | Sum.inl y16 =>
    some (((List.length p0_ : Nat) : Int), 0)
  | Sum.inr y17 =>
    some y17
def FSixdotref02_IsText (n : Nat) (p0_ : (List UInt8)) : Option Bool :=
  (FSixdotref02_Text n p0_).bind fun (r60 : (Int × Int)) =>
  some (r60.2 == 0)
def FSixdotref02_Space (n : Nat) (p0_ : Int) : Option Bool :=
  some ((iand .u8 p0_ 127) == 32)
def f70_L1 (n : Nat) (p0_ : GRule) (space_1 : Bool) (i_6 : Int) : Option ((Bool × Int) ⊕ Bool) :=
  if decide (i_6 < ((List.length p0_.Print : Nat) : Int)) = true then
    (if (!space_1) = true then sidx p0_.Print i_6 else some default).bind fun (b4 : Int) =>
    (if (!space_1) = true then FSixdotref02_Space n b4 else some default).bind fun (r62 : Bool) =>
    some (Sum.inl ((space_1 || r62), (iadd .i64 i_6 1)))
  else
    some (Sum.inr space_1)
def f70_L2 (n : Nat) (p0_ : GRule) (y18 : Bool) (blank_1 : Bool) (i_7 : Int) : Option ((Bool × Int) ⊕ (Bool ⊕ Bool)) :=
  if decide (i_7 < ((List.length p0_.Cells : Nat) : Int)) = true then
    (idx p0_.Cells i_7).bind fun (x26 : Int) =>
    if decide (x26 ≥ 63) = true then
      some (Sum.inr (Sum.inr false))
    else
      (if (!blank_1) = true then idx p0_.Cells i_7 else some default).bind fun (x27 : Int) =>
      some (Sum.inl ((blank_1 || (x27 == 0)), (iadd .i64 i_7 1)))
  else
    some (Sum.inr (Sum.inl blank_1))
def FSixdotref02_Sound (n : Nat) (p0_ : GRule) (p1_ : Int) : Option Bool :=
  (FSixdotref02_IsText n p0_.Print).bind fun (r61 : Bool) =>
  if ((((!r61) || (decide (((List.length p0_.Print : Nat) : Int) > 4))) || (decide (((List.length p0_.Cells : Nat) : Int) < 1))) || (decide (((List.length p0_.Cells : Nat) : Int) > 4))) = true then
    some false
  else
    if ((((((((decide (p0_.Left < 1)) || (decide (p0_.Left > 63))) || (decide (p0_.Right < 1))) || (decide (p0_.Right > 63))) || (decide (p0_.From < 0))) || (decide (p0_.From ≥ p1_))) || (decide (p0_.To < 0))) || (decide (p0_.To ≥ p1_))) = true then
      some false
    else
      (whl (fun (x : (Bool × Int)) => f70_L1 n p0_ x.1 x.2) n (false, 0)).bind fun (y18 : Bool) =>
      (whl (fun (x : (Bool × Int)) => f70_L2 n p0_ y18 x.1 x.2) n (false, 0)).bind fun (y19 : (Bool ⊕ Bool)) =>
      match y19 with
      | Sum.inl y20 =>
        if (!y18) = true then
          some (!y20)
        else
          some (((((List.length p0_.Print : Nat) : Int) == 1) && (((List.length p0_.Cells : Nat) : Int) == 1)) && y20)
      | Sum.inr y21 =>
        some y21
def FSixdotref02_SameRule (n : Nat) (p0_ : GRule) (p1_ : GRule) : Option Bool :=
  (if (p0_.Print == p1_.Print) = true then FSixdotref02_SameCells n p0_.Cells p1_.Cells else some default).bind fun (r63 : Bool) =>
  some ((((((p0_.Print == p1_.Print) && r63) && (p0_.Left == p1_.Left)) && (p0_.Right == p1_.Right)) && (p0_.From == p1_.From)) && (p0_.To == p1_.To))
def f57_L2 (n : Nat) (p0_ : GTable) (i_8 : Int) (k_2 : Int) : Option (Int ⊕ (Unit ⊕ (Int × Int))) :=
  if decide (k_2 < i_8) = true then
    (idx p0_.Rules k_2).bind fun (x29 : GRule) =>
    (idx p0_.Rules i_8).bind fun (x30 : GRule) =>
    (FSixdotref02_SameRule n x29 x30).bind fun (r65 : Bool) =>
    if r65 = true then
      some (Sum.inr (Sum.inr (i_8, 20)))
    else
      some (Sum.inl (iadd .i64 k_2 1))
  else
    some (Sum.inr (Sum.inl ()))
def f57_L1 (n : Nat) (p0_ : GTable) (i_8 : Int) : Option (Int ⊕ (Unit ⊕ (Int × Int))) :=
  if decide (i_8 < ((List.length p0_.Rules : Nat) : Int)) = true then
    (idx p0_.Rules i_8).bind fun (x28 : GRule) =>
    (FSixdotref02_Sound n x28 p0_.Modes).bind fun (r64 : Bool) =>
    if (!r64) = true then
      some (Sum.inr (Sum.inr (i_8, 20)))
    else
      (whl (fun (x : Int) => f57_L2 n p0_ i_8 x) n 0).bind fun (y22 : (Unit ⊕ (Int × Int))) =>
      match y22 with
      | Sum.inl y23 =>
        some (Sum.inl (iadd .i64 i_8 1))
      | Sum.inr y24 =>
        some (Sum.inr (Sum.inr y24))
  else
    some (Sum.inr (Sum.inl ()))
def FSixdotref02_Check (n : Nat) (p0_ : GTable) : Option (Int × Int) :=
  (if (!(((decide (p0_.Modes < 1)) || (decide (p0_.Modes > 8))) || (p0_.Accept == 0))) = true then guardB (decide (0 ≤ p0_.Modes)) else some default).bind fun (u5 : Unit) =>
  if ((((((decide (p0_.Modes < 1)) || (decide (p0_.Modes > 8))) || (p0_.Accept == 0)) || (decide (IntKind.i64.wrap p0_.Accept ≥ ishl .i64 1 p0_.Modes))) || (decide (((List.length p0_.Rules : Nat) : Int) < 1))) || (decide (((List.length p0_.Rules : Nat) : Int) > 64))) = true then
    some ((-1), 1)
  else
    (whl (fun (x : Int) => f57_L1 n p0_ x) n 0).bind fun (y25 : (Unit ⊕ (Int × Int))) =>
    match y25 with
    | Sum.inl y26 =>
      some (0, 0)
    | Sum.inr y27 =>
      some y27
def FSixdotref02_Valid (n : Nat) (p0_ : GTable) : Option Bool :=
  (FSixdotref02_Check n p0_).bind fun (r66 : (Int × Int)) =>
  some (r66.2 == 0)
def f16_J1 (n : Nat) (i_9 : Int) (t_3 : (List GRule)) : Option (((List GRule) × Int) ⊕ (List GRule)) :=
  some (Sum.inl (t_3, (iadd .i64 i_9 1)))
def f16_L1 (n : Nat) (p0_ : GRaw) (r67 : GTable) (t_1 : (List GRule)) (i_9 : Int) : Option (((List GRule) × Int) ⊕ (List GRule)) :=
  if decide (i_9 < ((List.length r67.Rules : Nat) : Int)) = true then
    (guardB (decide (0 ≤ i_9))).bind fun (u6 : Unit) =>
    if ((iand .u8 (ishr .u8 p0_.Drop i_9) 1) == 0) = true then
      (idx r67.Rules i_9).bind fun (x31 : GRule) =>
      (app 64 t_1 [x31]).bind fun (l20 : (List GRule)) =>
      f16_J1 n i_9 l20
    else
      f16_J1 n i_9 t_1
  else
    some (Sum.inr t_1)
def f16_J2 (n : Nat) (i_10 : Int) (t_6 : (List GRule)) : Option (((List GRule) × Int) ⊕ (List GRule)) :=
  some (Sum.inl (t_6, (iadd .i64 i_10 1)))
def f16_L2 (n : Nat) (p0_ : GRaw) (r67 : GTable) (t_4 : (List GRule)) (i_10 : Int) : Option (((List GRule) × Int) ⊕ (List GRule)) :=
  if ((decide (i_10 < ((List.length p0_.More : Nat) : Int))) && (decide (i_10 < 2))) = true then
    (idx p0_.More i_10).bind fun (x32 : GRawRule) =>
    (FSixdotref02_Rule n x32 r67.Modes).bind fun (r68 : GRule) =>
    (app 64 t_4 [r68]).bind fun (l21 : (List GRule)) =>
    (FSixdotref02_Valid n ({ Modes := r67.Modes, Accept := r67.Accept, Rules := l21 } : GTable)).bind fun (r69 : Bool) =>
    if (!r69) = true then
      (sub l21 0 (isub .i64 ((List.length l21 : Nat) : Int) 1)).bind fun (l22 : (List GRule)) =>
      f16_J2 n i_10 l22
    else
      f16_J2 n i_10 l21
  else
    some (Sum.inr t_4)
def f16_J3 (n : Nat) (t_7 : GTable) : Option GTable :=
  some t_7
def FSixdotref02_Made (n : Nat) (p0_ : GRaw) : Option GTable :=
  (FSixdotref02_Base n p0_.Base).bind fun (r67 : GTable) =>
  (whl (fun (x : ((List GRule) × Int)) => f16_L1 n p0_ r67 x.1 x.2) n (([] : List GRule), 0)).bind fun (y28 : (List GRule)) =>
  (whl (fun (x : ((List GRule) × Int)) => f16_L2 n p0_ r67 x.1 x.2) n (y28, 0)).bind fun (y29 : (List GRule)) =>
  if (((List.length y29 : Nat) : Int) == 0) = true then
    f16_J3 n r67
  else
    f16_J3 n ({ Modes := r67.Modes, Accept := r67.Accept, Rules := y29 } : GTable)
def FSixdotref03_Bit (n : Nat) (p0_ : Int) (p1_ : Int) : Option Bool :=
  (if ((decide (p1_ ≥ 0)) && (decide (p1_ < 8))) = true then guardB (decide (0 ≤ p1_)) else some default).bind fun (u7 : Unit) =>
  some (((decide (p1_ ≥ 0)) && (decide (p1_ < 8))) && ((iand .u8 (ishr .u8 p0_ p1_) 1) == 1))
def FSixdotref02_Class (n : Nat) (p0_ : Int) : Option Int :=
  if ((decide (iand .u8 p0_ 127 ≥ 97)) && (decide (iand .u8 p0_ 127 ≤ 122))) = true then
    some 1
  else
    if ((decide (iand .u8 p0_ 127 ≥ 65)) && (decide (iand .u8 p0_ 127 ≤ 90))) = true then
      some 2
    else
      if ((decide (iand .u8 p0_ 127 ≥ 48)) && (decide (iand .u8 p0_ 127 ≤ 57))) = true then
        some 3
      else
        if ((iand .u8 p0_ 127) == 32) = true then
          some 4
        else
          some 5
def FSixdotref03_Step (n : Nat) (p0_ : GTable) (p1_ : GState) (p2_ : Int) : Option (GState × Bool) :=
  if ((decide (p2_ < 0)) || (decide (p2_ ≥ ((List.length p0_.Rules : Nat) : Int)))) = true then
    some (({ Mode := 0, Last := 0, Need := 0 } : GState), false)
  else
    (idx p0_.Rules p2_).bind fun (x33 : GRule) =>
    (if (!(x33.From != p1_.Mode)) = true then FSixdotref03_Bit n x33.Left p1_.Last else some default).bind fun (r70 : Bool) =>
    if ((x33.From != p1_.Mode) || (!r70)) = true then
      some (({ Mode := 0, Last := 0, Need := 0 } : GState), false)
    else
      if ((((List.length x33.Print : Nat) : Int) == 0) && ((iand .u8 p1_.Need x33.Right) == 0)) = true then
        some (({ Mode := 0, Last := 0, Need := 0 } : GState), false)
      else
        if (((List.length x33.Print : Nat) : Int) == 0) = true then
          some (({ Mode := x33.To, Last := p1_.Last, Need := iand .u8 p1_.Need x33.Right } : GState), true)
        else
          (sidx x33.Print 0).bind fun (b5 : Int) =>
          (FSixdotref02_Class n b5).bind fun (r71 : Int) =>
          (FSixdotref03_Bit n p1_.Need r71).bind fun (r72 : Bool) =>
          if (!r72) = true then
            some (({ Mode := 0, Last := 0, Need := 0 } : GState), false)
          else
            (sidx x33.Print (isub .i64 ((List.length x33.Print : Nat) : Int) 1)).bind fun (b6 : Int) =>
            (FSixdotref02_Class n b6).bind fun (r73 : Int) =>
            some (({ Mode := x33.To, Last := r73, Need := x33.Right } : GState), true)
def FSixdotref03_Accepts (n : Nat) (p0_ : GTable) (p1_ : GState) : Option Bool :=
  (if ((decide (p1_.Mode ≥ 0)) && (decide (p1_.Mode < p0_.Modes))) = true then FSixdotref03_Bit n p0_.Accept p1_.Mode else some default).bind fun (r74 : Bool) =>
  (if (((decide (p1_.Mode ≥ 0)) && (decide (p1_.Mode < p0_.Modes))) && r74) = true then FSixdotref03_Bit n p1_.Need 0 else some default).bind fun (r75 : Bool) =>
  some ((((decide (p1_.Mode ≥ 0)) && (decide (p1_.Mode < p0_.Modes))) && r74) && r75)
def FSixdotref03_Start (n : Nat)  : Option GState :=
  some ({ Mode := 0, Last := 0, Need := 63 } : GState)
def f23_L1 (n : Nat) (p0_ : GTable) (p1_ : (List Int)) (out_5 : (List UInt8)) (out_6 : Int) (out_7 : Int) (out_8 : Int) (out_9 : Int) (out_10 : (List Int)) (i_11 : Int) : Option (((List UInt8) × Int × Int × Int × Int × (List Int) × Int) ⊕ (((List UInt8) × Int × Int × Int × Int × (List Int)) ⊕ GTrace)) :=
  if decide (i_11 < ((List.length p1_ : Nat) : Int)) = true then
    (idx p1_ i_11).bind fun (x34 : Int) =>
    (FSixdotref03_Step n p0_ ({ Mode := out_7, Last := out_8, Need := out_9 } : GState) x34).bind fun (r77 : (GState × Bool)) =>
    if (!r77.2) = true then
      some (Sum.inr (Sum.inr ({ Text := out_5, Cells := out_10, At := out_6, End := ({ Mode := out_7, Last := out_8, Need := out_9 } : GState), Ok := false } : GTrace)))
    else
      (idx p1_ i_11).bind fun (x35 : Int) =>
      (idx p0_.Rules x35).bind fun (x36 : GRule) =>
      (cat out_5 x36.Print).bind fun (s4 : (List UInt8)) =>
      (idx p1_ i_11).bind fun (x37 : Int) =>
      (idx p0_.Rules x37).bind fun (x38 : GRule) =>
      (app 1 out_10 x38.Cells).bind fun (l23 : (List Int)) =>
      some (Sum.inl (s4, (iadd .i64 out_6 1), r77.1.Mode, r77.1.Last, r77.1.Need, l23, (iadd .i64 i_11 1)))
  else
    some (Sum.inr (Sum.inl (out_5, out_6, out_7, out_8, out_9, out_10)))
def FSixdotref03_Run (n : Nat) (p0_ : GTable) (p1_ : (List Int)) : Option GTrace :=
  (FSixdotref03_Start n).bind fun (r76 : GState) =>
  (whl (fun (x : ((List UInt8) × Int × Int × Int × Int × (List Int) × Int)) => f23_L1 n p0_ p1_ x.1 x.2.1 x.2.2.1 x.2.2.2.1 x.2.2.2.2.1 x.2.2.2.2.2.1 x.2.2.2.2.2.2) n ([], 0, r76.Mode, r76.Last, r76.Need, ([] : List Int), 0)).bind fun (y30 : (((List UInt8) × Int × Int × Int × Int × (List Int)) ⊕ GTrace)) =>
  match y30 with
  | Sum.inl y31 =>
    (FSixdotref03_Accepts n p0_ ({ Mode := y31.2.2.1, Last := y31.2.2.2.1, Need := y31.2.2.2.2.1 } : GState)).bind fun (r78 : Bool) =>
    some ({ Text := y31.1, Cells := y31.2.2.2.2.2, At := y31.2.1, End := ({ Mode := y31.2.2.1, Last := y31.2.2.2.1, Need := y31.2.2.2.2.1 } : GState), Ok := r78 } : GTrace)
  | Sum.inr y32 =>
    some y32
def FSixdotref03_Same (n : Nat) (p0_ : GTrace) (p1_ : GTrace) : Option Bool :=
  (if (p0_.Text == p1_.Text) = true then FSixdotref02_SameCells n p0_.Cells p1_.Cells else some default).bind fun (r79 : Bool) =>
  some (((((p0_.Text == p1_.Text) && r79) && (p0_.At == p1_.At)) && ((p0_.End.Mode == p1_.End.Mode) && ((p0_.End.Last == p1_.End.Last) && ((p0_.End.Need == p1_.End.Need) && true)))) && (p0_.Ok == p1_.Ok))
def f34_L1 (n : Nat) (p0_ : (List GState)) (p1_ : GState) (i_12 : Int) : Option (Int ⊕ (Unit ⊕ Int)) :=
  if decide (i_12 < ((List.length p0_ : Nat) : Int)) = true then
    (idx p0_ i_12).bind fun (x39 : GState) =>
    if ((x39.Mode == p1_.Mode) && ((x39.Last == p1_.Last) && ((x39.Need == p1_.Need) && true))) = true then
      some (Sum.inr (Sum.inr i_12))
    else
      some (Sum.inl (iadd .i64 i_12 1))
  else
    some (Sum.inr (Sum.inl ()))
def FSixdotref03_Index (n : Nat) (p0_ : (List GState)) (p1_ : GState) : Option Int :=
  (whl (fun (x : Int) => f34_L1 n p0_ p1_ x) n 0).bind fun (y33 : (Unit ⊕ Int)) =>
  match y33 with
  | Sum.inl y34 =>
    some (-1)
  | Sum.inr y35 =>
    some y35
def f26_J1 (n : Nat) (k_3 : Int) (out_21 : (List GState)) : Option (((List GState) × Int) ⊕ (List GState)) :=
  some (Sum.inl (out_21, (iadd .i64 k_3 1)))
def f26_L2 (n : Nat) (p0_ : GTable) (i_13 : Int) (out_19 : (List GState)) (k_3 : Int) : Option (((List GState) × Int) ⊕ (List GState)) :=
  if decide (k_3 < ((List.length p0_.Rules : Nat) : Int)) = true then
    (idx out_19 i_13).bind fun (x40 : GState) =>
    (FSixdotref03_Step n p0_ x40 k_3).bind fun (r81 : (GState × Bool)) =>
    (if r81.2 = true then FSixdotref03_Index n out_19 r81.1 else some default).bind fun (r82 : Int) =>
    if (r81.2 && (decide (r82 < 0))) = true then
      (app 24 out_19 [r81.1]).bind fun (l24 : (List GState)) =>
      f26_J1 n k_3 l24
    else
      f26_J1 n k_3 out_19
  else
    some (Sum.inr out_19)
def f26_L1 (n : Nat) (p0_ : GTable) (out_17 : (List GState)) (i_13 : Int) : Option (((List GState) × Int) ⊕ (List GState)) :=
  if decide (i_13 < ((List.length out_17 : Nat) : Int)) = true then
    (whl (fun (x : ((List GState) × Int)) => f26_L2 n p0_ i_13 x.1 x.2) n (out_17, 0)).bind fun (y36 : (List GState)) =>
    some (Sum.inl (y36, (iadd .i64 i_13 1)))
  else
    some (Sum.inr out_17)
def FSixdotref03_States (n : Nat) (p0_ : GTable) : Option (List GState) :=
  (FSixdotref03_Start n).bind fun (r80 : GState) =>
  (whl (fun (x : ((List GState) × Int)) => f26_L1 n p0_ x.1 x.2) n ([r80], 0)).bind fun (y37 : (List GState)) =>
  some y37
def f24_L1 (n : Nat) (p0_ : (List GState)) (p1_ : (List GState)) (i_14 : Int) : Option (Int ⊕ (Unit ⊕ Bool)) :=
  if decide (i_14 < ((List.length p0_ : Nat) : Int)) = true then
    (idx p0_ i_14).bind fun (x41 : GState) =>
    (idx p1_ i_14).bind fun (x42 : GState) =>
    if (!((x41.Mode == x42.Mode) && ((x41.Last == x42.Last) && ((x41.Need == x42.Need) && true)))) = true then
      some (Sum.inr (Sum.inr false))
    else
      some (Sum.inl (iadd .i64 i_14 1))
  else
    some (Sum.inr (Sum.inl ()))
def FSixdotlaw03_states (n : Nat) (p0_ : (List GState)) (p1_ : (List GState)) : Option Bool :=
  if (((List.length p0_ : Nat) : Int) != ((List.length p1_ : Nat) : Int)) = true then
    some false
  else
    (whl (fun (x : Int) => f24_L1 n p0_ p1_ x) n 0).bind fun (y38 : (Unit ⊕ Bool)) =>
    match y38 with
    | Sum.inl y39 =>
      some true
    | Sum.inr y40 =>
      some y40
def f29_L1 (n : Nat) (p0_ : GTable) (r83 : (List GState)) (out_22 : (List Bool)) (i_15 : Int) : Option (((List Bool) × Int) ⊕ (List Bool)) :=
  if decide (i_15 < ((List.length r83 : Nat) : Int)) = true then
    (idx r83 i_15).bind fun (x43 : GState) =>
    (FSixdotref03_Accepts n p0_ x43).bind fun (r84 : Bool) =>
    (app 1 out_22 [r84]).bind fun (l25 : (List Bool)) =>
    some (Sum.inl (l25, (iadd .i64 i_15 1)))
  else
    some (Sum.inr out_22)
def f29_J1 (n : Nat) (k_4 : Int) (out_30 : (List Bool)) (grown_6 : Bool) : Option (((List Bool) × Bool × Int) ⊕ ((List Bool) × Bool)) :=
  some (Sum.inl (out_30, grown_6, (iadd .i64 k_4 1)))
def f29_L4 (n : Nat) (p0_ : GTable) (r83 : (List GState)) (i_16 : Int) (out_28 : (List Bool)) (grown_4 : Bool) (k_4 : Int) : Option (((List Bool) × Bool × Int) ⊕ ((List Bool) × Bool)) :=
  (if decide (k_4 < ((List.length p0_.Rules : Nat) : Int)) = true then idx out_28 i_16 else some default).bind fun (x44 : Bool) =>
  if ((decide (k_4 < ((List.length p0_.Rules : Nat) : Int))) && (!x44)) = true then
    (idx r83 i_16).bind fun (x45 : GState) =>
    (FSixdotref03_Step n p0_ x45 k_4).bind fun (r85 : (GState × Bool)) =>
    (if r85.2 = true then FSixdotref03_Index n r83 r85.1 else some default).bind fun (r86 : Int) =>
    (if r85.2 = true then idx out_28 r86 else some default).bind fun (x46 : Bool) =>
    if (r85.2 && x46) = true then
      (idx out_28 i_16).bind fun (x47 : Bool) =>
      (put out_28 i_16 true).bind fun (l26 : (List Bool)) =>
      f29_J1 n k_4 l26 true
    else
      f29_J1 n k_4 out_28 grown_4
  else
    some (Sum.inr (out_28, grown_4))
def f29_L3 (n : Nat) (p0_ : GTable) (r83 : (List GState)) (out_26 : (List Bool)) (grown_2 : Bool) (i_16 : Int) : Option (((List Bool) × Bool × Int) ⊕ ((List Bool) × Bool)) :=
  if decide (i_16 < ((List.length r83 : Nat) : Int)) = true then
    (whl (fun (x : ((List Bool) × Bool × Int)) => f29_L4 n p0_ r83 i_16 x.1 x.2.1 x.2.2) n (out_26, grown_2, 0)).bind fun (y42 : ((List Bool) × Bool)) =>
    some (Sum.inl (y42.1, y42.2, (iadd .i64 i_16 1)))
  else
    some (Sum.inr (out_26, grown_2))
def f29_L2 (n : Nat) (p0_ : GTable) (r83 : (List GState)) (out_24 : (List Bool)) (grown_1 : Bool) : Option (((List Bool) × Bool) ⊕ (List Bool)) :=
  if grown_1 = true then
    (whl (fun (x : ((List Bool) × Bool × Int)) => f29_L3 n p0_ r83 x.1 x.2.1 x.2.2) n (out_24, false, 0)).bind fun (y43 : ((List Bool) × Bool)) =>
    some (Sum.inl (y43.1, y43.2))
  else
    some (Sum.inr out_24)
def FSixdotref03_Alive (n : Nat) (p0_ : GTable) : Option (List Bool) :=
  (FSixdotref03_States n p0_).bind fun (r83 : (List GState)) =>
  (whl (fun (x : ((List Bool) × Int)) => f29_L1 n p0_ r83 x.1 x.2) n (([] : List Bool), 0)).bind fun (y41 : (List Bool)) =>
  (whl (fun (x : ((List Bool) × Bool)) => f29_L2 n p0_ r83 x.1 x.2) n (y41, true)).bind fun (y44 : (List Bool)) =>
  some y44
def f27_L1 (n : Nat) (p0_ : (List Bool)) (p1_ : (List Bool)) (i_17 : Int) : Option (Int ⊕ (Unit ⊕ Bool)) :=
  if decide (i_17 < ((List.length p0_ : Nat) : Int)) = true then
    (idx p0_ i_17).bind fun (x48 : Bool) =>
    (idx p1_ i_17).bind fun (x49 : Bool) =>
    if (!(x48 == x49)) = true then
      some (Sum.inr (Sum.inr false))
    else
      some (Sum.inl (iadd .i64 i_17 1))
  else
    some (Sum.inr (Sum.inl ()))
def FSixdotlaw03_bools (n : Nat) (p0_ : (List Bool)) (p1_ : (List Bool)) : Option Bool :=
  if (((List.length p0_ : Nat) : Int) != ((List.length p1_ : Nat) : Int)) = true then
    some false
  else
    (whl (fun (x : Int) => f27_L1 n p0_ p1_ x) n 0).bind fun (y45 : (Unit ⊕ Bool)) =>
    match y45 with
    | Sum.inl y46 =>
      some true
    | Sum.inr y47 =>
      some y47
def f3_L1 (n : Nat) (p1_ : GState) (p2_ : (List Int)) (r87 : Bool) (r88 : GTable) (path_1 : (List Int)) (i_18 : Int) : Option (((List Int) × Int) ⊕ (List Int)) :=
  if ((decide (i_18 < ((List.length p2_ : Nat) : Int))) && (decide (i_18 < 20))) = true then
    (idx p2_ i_18).bind fun (x50 : Int) =>
    (app 8 path_1 [IntKind.i64.wrap x50]).bind fun (l27 : (List Int)) =>
    some (Sum.inl (l27, (iadd .i64 i_18 1)))
  else
    some (Sum.inr path_1)
def f3_L2 (n : Nat) (p1_ : GState) (r87 : Bool) (r88 : GTable) (y48 : (List Int)) (i_19 : Int) : Option (Int ⊕ (Unit ⊕ Bool)) :=
  if decide (i_19 ≤ ((List.length r88.Rules : Nat) : Int)) = true then
    (FAutomaton_Step n r88 p1_ i_19).bind fun (r89 : (GState × Bool)) =>
    (FSixdotref03_Step n r88 p1_ i_19).bind fun (r90 : (GState × Bool)) =>
    if ((!((r89.1.Mode == r90.1.Mode) && ((r89.1.Last == r90.1.Last) && ((r89.1.Need == r90.1.Need) && true)))) || (!(r89.2 == r90.2))) = true then
      some (Sum.inr (Sum.inr false))
    else
      some (Sum.inl (iadd .i64 i_19 1))
  else
    some (Sum.inr (Sum.inl ()))
def FSixdotlaw03_AutomatonMatchesReference (n : Nat) (p0_ : GRaw) (p1_ : GState) (p2_ : (List Int)) : Option Bool :=
  (FSixdotlaw03_sanity n).bind fun (r87 : Bool) =>
  (FSixdotref02_Made n p0_).bind fun (r88 : GTable) =>
  (whl (fun (x : ((List Int) × Int)) => f3_L1 n p1_ p2_ r87 r88 x.1 x.2) n (([] : List Int), 0)).bind fun (y48 : (List Int)) =>
  (whl (fun (x : Int) => f3_L2 n p1_ r87 r88 y48 x) n (-1)).bind fun (y49 : (Unit ⊕ Bool)) =>
  match y49 with
  | Sum.inl y50 =>
    (FAutomaton_Accepts n r88 p1_).bind fun (r91 : Bool) =>
    (FSixdotref03_Accepts n r88 p1_).bind fun (r92 : Bool) =>
    (if (r91 == r92) = true then FAutomaton_Run n r88 y48 else some default).bind fun (r93 : GTrace) =>
    (if (r91 == r92) = true then FSixdotref03_Run n r88 y48 else some default).bind fun (r94 : GTrace) =>
    (if (r91 == r92) = true then FSixdotref03_Same n r93 r94 else some default).bind fun (r95 : Bool) =>
    (if ((r91 == r92) && r95) = true then FAutomaton_States n r88 else some default).bind fun (r96 : (List GState)) =>
    (if ((r91 == r92) && r95) = true then FSixdotref03_States n r88 else some default).bind fun (r97 : (List GState)) =>
    (if ((r91 == r92) && r95) = true then FSixdotlaw03_states n r96 r97 else some default).bind fun (r98 : Bool) =>
    (if (((r91 == r92) && r95) && r98) = true then FAutomaton_Alive n r88 else some default).bind fun (r99 : (List Bool)) =>
    (if (((r91 == r92) && r95) && r98) = true then FSixdotref03_Alive n r88 else some default).bind fun (r100 : (List Bool)) =>
    (if (((r91 == r92) && r95) && r98) = true then FSixdotlaw03_bools n r99 r100 else some default).bind fun (r101 : Bool) =>
    some (((((r91 == r92) && r95) && r98) && r101) && r87)
  | Sum.inr y51 =>
    some y51
def f6_L1 (n : Nat) (r102 : Bool) (r103 : GTable) (r104 : (List GState)) (reached_1 : (List Bool)) (i_20 : Int) : Option (((List Bool) × Int) ⊕ ((List Bool) ⊕ Bool)) :=
  if decide (i_20 < ((List.length r104 : Nat) : Int)) = true then
    (idx r104 i_20).bind fun (x52 : GState) =>
    (FSixdotref03_Index n r104 x52).bind fun (r106 : Int) =>
    if (r106 != i_20) = true then
      some (Sum.inr (Sum.inr false))
    else
      (app 1 reached_1 [(i_20 == 0)]).bind fun (l28 : (List Bool)) =>
      some (Sum.inl (l28, (iadd .i64 i_20 1)))
  else
    some (Sum.inr (Sum.inl reached_1))
def f6_J1 (n : Nat) (k_5 : Int) (reached_6 : (List Bool)) : Option (((List Bool) × Int) ⊕ ((List Bool) ⊕ Bool)) :=
  some (Sum.inl (reached_6, (iadd .i64 k_5 1)))
def f6_L3 (n : Nat) (r102 : Bool) (r103 : GTable) (r104 : (List GState)) (i_21 : Int) (reached_4 : (List Bool)) (k_5 : Int) : Option (((List Bool) × Int) ⊕ ((List Bool) ⊕ Bool)) :=
  if decide (k_5 < ((List.length r103.Rules : Nat) : Int)) = true then
    (idx r104 i_21).bind fun (x54 : GState) =>
    (FAutomaton_Step n r103 x54 k_5).bind fun (r107 : (GState × Bool)) =>
    (FSixdotref03_Index n r104 r107.1).bind fun (r108 : Int) =>
    if (r107.2 && (decide (r108 < 0))) = true then
      some (Sum.inr (Sum.inr false))
    else
      if (r107.2 && (decide (r108 > i_21))) = true then
        (idx reached_4 r108).bind fun (x55 : Bool) =>
        (put reached_4 r108 true).bind fun (l29 : (List Bool)) =>
        f6_J1 n k_5 l29
      else
        f6_J1 n k_5 reached_4
  else
    some (Sum.inr (Sum.inl reached_4))
def f6_L2 (n : Nat) (r102 : Bool) (r103 : GTable) (r104 : (List GState)) (reached_3 : (List Bool)) (i_21 : Int) : Option (((List Bool) × Int) ⊕ (Unit ⊕ Bool)) :=
  if decide (i_21 < ((List.length r104 : Nat) : Int)) = true then
    (idx reached_3 i_21).bind fun (x53 : Bool) =>
    if (!x53) = true then
      some (Sum.inr (Sum.inr false))
    else
      (whl (fun (x : ((List Bool) × Int)) => f6_L3 n r102 r103 r104 i_21 x.1 x.2) n (reached_3, 0)).bind fun (y55 : ((List Bool) ⊕ Bool)) =>
      match y55 with
      | Sum.inl y56 =>
        some (Sum.inl (y56, (iadd .i64 i_21 1)))
      | Sum.inr y57 =>
        some (Sum.inr (Sum.inr y57))
  else
    some (Sum.inr (Sum.inl ()))
def FSixdotlaw03_AutomatonStates (n : Nat) (p0_ : GRaw) : Option Bool :=
  (FSixdotlaw03_sanity n).bind fun (r102 : Bool) =>
  (FSixdotref02_Made n p0_).bind fun (r103 : GTable) =>
  (FAutomaton_States n r103).bind fun (r104 : (List GState)) =>
  (if (!((((List.length r104 : Nat) : Int) == 0) || (decide (((List.length r104 : Nat) : Int) > 3000)))) = true then idx r104 0 else some default).bind fun (x51 : GState) =>
  (if (!((((List.length r104 : Nat) : Int) == 0) || (decide (((List.length r104 : Nat) : Int) > 3000)))) = true then FAutomaton_Start n else some default).bind fun (r105 : GState) =>
  if (((((List.length r104 : Nat) : Int) == 0) || (decide (((List.length r104 : Nat) : Int) > 3000))) || (!((x51.Mode == r105.Mode) && ((x51.Last == r105.Last) && ((x51.Need == r105.Need) && true))))) = true then
    some false
  else
    (whl (fun (x : ((List Bool) × Int)) => f6_L1 n r102 r103 r104 x.1 x.2) n (([] : List Bool), 0)).bind fun (y52 : ((List Bool) ⊕ Bool)) =>
    match y52 with
    | Sum.inl y53 =>
      (whl (fun (x : ((List Bool) × Int)) => f6_L2 n r102 r103 r104 x.1 x.2) n (y53, 0)).bind fun (y58 : (Unit ⊕ Bool)) =>
      match y58 with
      | Sum.inl y59 =>
        some r102
      | Sum.inr y60 =>
        some y60
    | Sum.inr y54 =>
      some y54
def f55_L1 (n : Nat) (p0_ : GTable) (r109 : (List GState)) (out_31 : (List Int)) (near_1 : (List Bool)) (i_22 : Int) : Option (((List Int) × (List Bool) × Int) ⊕ ((List Int) × (List Bool))) :=
  if decide (i_22 < ((List.length r109 : Nat) : Int)) = true then
    (app 8 out_31 [(-1)]).bind fun (l30 : (List Int)) =>
    (idx r109 i_22).bind fun (x56 : GState) =>
    (FSixdotref03_Accepts n p0_ x56).bind fun (r110 : Bool) =>
    (app 1 near_1 [r110]).bind fun (l31 : (List Bool)) =>
    some (Sum.inl (l30, l31, (iadd .i64 i_22 1)))
  else
    some (Sum.inr (out_31, near_1))
def f55_J1 (n : Nat) (k_6 : Int) (out_39 : (List Int)) (ring_5 : (List Bool)) (grown_12 : Bool) : Option (((List Int) × (List Bool) × Bool × Int) ⊕ ((List Int) × (List Bool) × Bool)) :=
  some (Sum.inl (out_39, ring_5, grown_12, (iadd .i64 k_6 1)))
def f55_L4 (n : Nat) (p0_ : GTable) (r109 : (List GState)) (near_3 : (List Bool)) (i_23 : Int) (out_37 : (List Int)) (ring_3 : (List Bool)) (grown_10 : Bool) (k_6 : Int) : Option (((List Int) × (List Bool) × Bool × Int) ⊕ ((List Int) × (List Bool) × Bool)) :=
  (if decide (k_6 < ((List.length p0_.Rules : Nat) : Int)) = true then idx ring_3 i_23 else some default).bind fun (x57 : Bool) =>
  if ((decide (k_6 < ((List.length p0_.Rules : Nat) : Int))) && (!x57)) = true then
    (idx r109 i_23).bind fun (x58 : GState) =>
    (FSixdotref03_Step n p0_ x58 k_6).bind fun (r111 : (GState × Bool)) =>
    (if r111.2 = true then FSixdotref03_Index n r109 r111.1 else some default).bind fun (r112 : Int) =>
    (if r111.2 = true then idx near_3 r112 else some default).bind fun (x59 : Bool) =>
    if (r111.2 && x59) = true then
      (idx ring_3 i_23).bind fun (x60 : Bool) =>
      (put ring_3 i_23 true).bind fun (l33 : (List Bool)) =>
      (idx out_37 i_23).bind fun (x61 : Int) =>
      (put out_37 i_23 k_6).bind fun (l34 : (List Int)) =>
      f55_J1 n k_6 l34 l33 true
    else
      f55_J1 n k_6 out_37 ring_3 grown_10
  else
    some (Sum.inr (out_37, ring_3, grown_10))
def f55_L3 (n : Nat) (p0_ : GTable) (r109 : (List GState)) (near_3 : (List Bool)) (out_35 : (List Int)) (ring_1 : (List Bool)) (grown_8 : Bool) (i_23 : Int) : Option (((List Int) × (List Bool) × Bool × Int) ⊕ ((List Int) × (List Bool) × Bool)) :=
  if decide (i_23 < ((List.length r109 : Nat) : Int)) = true then
    (whl (fun (x : ((List Int) × (List Bool) × Bool × Int)) => f55_L4 n p0_ r109 near_3 i_23 x.1 x.2.1 x.2.2.1 x.2.2.2) n (out_35, ring_1, grown_8, 0)).bind fun (y62 : ((List Int) × (List Bool) × Bool)) =>
    some (Sum.inl (y62.1, y62.2.1, y62.2.2, (iadd .i64 i_23 1)))
  else
    some (Sum.inr (out_35, ring_1, grown_8))
def f55_L2 (n : Nat) (p0_ : GTable) (r109 : (List GState)) (out_33 : (List Int)) (near_3 : (List Bool)) (grown_7 : Bool) : Option (((List Int) × (List Bool) × Bool) ⊕ (List Int)) :=
  if grown_7 = true then
    (app 1 ([] : List Bool) near_3).bind fun (l32 : (List Bool)) =>
    (whl (fun (x : ((List Int) × (List Bool) × Bool × Int)) => f55_L3 n p0_ r109 near_3 x.1 x.2.1 x.2.2.1 x.2.2.2) n (out_33, l32, false, 0)).bind fun (y63 : ((List Int) × (List Bool) × Bool)) =>
    some (Sum.inl (y63.1, y63.2.1, y63.2.2))
  else
    some (Sum.inr out_33)
def FSixdotref03_home (n : Nat) (p0_ : GTable) : Option (List Int) :=
  (FSixdotref03_States n p0_).bind fun (r109 : (List GState)) =>
  (whl (fun (x : ((List Int) × (List Bool) × Int)) => f55_L1 n p0_ r109 x.1 x.2.1 x.2.2) n (([] : List Int), ([] : List Bool), 0)).bind fun (y61 : ((List Int) × (List Bool))) =>
  (whl (fun (x : ((List Int) × (List Bool) × Bool)) => f55_L2 n p0_ r109 x.1 x.2.1 x.2.2) n (y61.1, y61.2, true)).bind fun (y64 : (List Int)) =>
  some y64
def f30_J1 (n : Nat) (k_7 : Int) (fit_3 : (List Int)) : Option (((List Int) × Int) ⊕ (List Int)) :=
  some (Sum.inl (fit_3, (iadd .i64 k_7 1)))
def f30_L2 (n : Nat) (p0_ : GTable) (p1_ : (List Int)) (r113 : (List GState)) (r114 : (List Bool)) (r115 : (List Int)) (path_3 : (List Int)) (s_3 : GState) (size_1 : Int) (i_24 : Int) (fit_1 : (List Int)) (k_7 : Int) : Option (((List Int) × Int) ⊕ (List Int)) :=
  if decide (k_7 < ((List.length p0_.Rules : Nat) : Int)) = true then
    (FSixdotref03_Step n p0_ s_3 k_7).bind fun (r117 : (GState × Bool)) =>
    (if r117.2 = true then FSixdotref03_Index n r113 r117.1 else some default).bind fun (r118 : Int) =>
    (if r117.2 = true then idx r114 r118 else some default).bind fun (x63 : Bool) =>
    if (r117.2 && x63) = true then
      (app 8 fit_1 [k_7]).bind fun (l35 : (List Int)) =>
      f30_J1 n k_7 l35
    else
      f30_J1 n k_7 fit_1
  else
    some (Sum.inr fit_1)
def f30_L1 (n : Nat) (p0_ : GTable) (p1_ : (List Int)) (r113 : (List GState)) (r114 : (List Bool)) (r115 : (List Int)) (path_3 : (List Int)) (s_3 : GState) (size_1 : Int) (i_24 : Int) : Option (((List Int) × GState × Int × Int) ⊕ ((List Int) × GState)) :=
  if (((decide (i_24 < ((List.length p1_ : Nat) : Int))) && (decide (i_24 < 10))) && (decide (size_1 ≤ 10))) = true then
    (whl (fun (x : ((List Int) × Int)) => f30_L2 n p0_ p1_ r113 r114 r115 path_3 s_3 size_1 i_24 x.1 x.2) n (([] : List Int), 0)).bind fun (y65 : (List Int)) =>
    if (((List.length y65 : Nat) : Int) == 0) = true then
      some (Sum.inr (path_3, s_3))
    else
      (idx p1_ i_24).bind fun (x64 : Int) =>
      (guardB (!(((List.length y65 : Nat) : Int) == 0))).bind fun (u8 : Unit) =>
      (idx y65 (irem (IntKind.i64.wrap x64) ((List.length y65 : Nat) : Int))).bind fun (x65 : Int) =>
      (app 8 path_3 [x65]).bind fun (l36 : (List Int)) =>
      (idx p0_.Rules x65).bind fun (x66 : GRule) =>
      (FSixdotref03_Step n p0_ s_3 x65).bind fun (r119 : (GState × Bool)) =>
      some (Sum.inl (l36, r119.1, (iadd .i64 size_1 ((List.length x66.Print : Nat) : Int)), (iadd .i64 i_24 1)))
  else
    some (Sum.inr (path_3, s_3))
def f30_L3 (n : Nat) (p0_ : GTable) (r113 : (List GState)) (r115 : (List Int)) (path_5 : (List Int)) (s_5 : GState) : Option (((List Int) × GState) ⊕ (List Int)) :=
  (FSixdotref03_Accepts n p0_ s_5).bind fun (r120 : Bool) =>
  if (!r120) = true then
    (FSixdotref03_Index n r113 s_5).bind fun (r121 : Int) =>
    (idx r115 r121).bind fun (x67 : Int) =>
    (app 8 path_5 [x67]).bind fun (l37 : (List Int)) =>
    (FSixdotref03_Step n p0_ s_5 x67).bind fun (r122 : (GState × Bool)) =>
    some (Sum.inl (l37, r122.1))
  else
    some (Sum.inr path_5)
def FSixdotref03_Walk (n : Nat) (p0_ : GTable) (p1_ : (List Int)) : Option ((List Int) × Bool) :=
  (FSixdotref03_States n p0_).bind fun (r113 : (List GState)) =>
  (FSixdotref03_Alive n p0_).bind fun (r114 : (List Bool)) =>
  (FSixdotref03_home n p0_).bind fun (r115 : (List Int)) =>
  (idx r114 0).bind fun (x62 : Bool) =>
  if (!x62) = true then
    some (([] : List Int), false)
  else
    (FSixdotref03_Start n).bind fun (r116 : GState) =>
    (whl (fun (x : ((List Int) × GState × Int × Int)) => f30_L1 n p0_ p1_ r113 r114 r115 x.1 x.2.1 x.2.2.1 x.2.2.2) n (([] : List Int), r116, 0, 0)).bind fun (y66 : ((List Int) × GState)) =>
    (whl (fun (x : ((List Int) × GState)) => f30_L3 n p0_ r113 r115 x.1 x.2) n (y66.1, y66.2)).bind fun (y67 : (List Int)) =>
    some (y67, true)
def f8_J1 (n : Nat) (i_25 : Int) (blanks_3 : Int) : Option ((Int × Int) ⊕ (Int ⊕ Bool)) :=
  some (Sum.inl (blanks_3, (iadd .i64 i_25 1)))
def f8_L1 (n : Nat) (r123 : Bool) (r126 : GTrace) (blanks_1 : Int) (i_25 : Int) : Option ((Int × Int) ⊕ (Int ⊕ Bool)) :=
  if decide (i_25 < ((List.length r126.Cells : Nat) : Int)) = true then
    (idx r126.Cells i_25).bind fun (x68 : Int) =>
    if decide (x68 ≥ 63) = true then
      some (Sum.inr (Sum.inr false))
    else
      (idx r126.Cells i_25).bind fun (x69 : Int) =>
      if (x69 == 0) = true then
        f8_J1 n i_25 (iadd .i64 blanks_1 1)
      else
        f8_J1 n i_25 blanks_1
  else
    some (Sum.inr (Sum.inl blanks_1))
def f8_J2 (n : Nat) (i_26 : Int) (spaces_3 : Int) : Option ((Int × Int) ⊕ Int) :=
  some (Sum.inl (spaces_3, (iadd .i64 i_26 1)))
def f8_L2 (n : Nat) (r123 : Bool) (r126 : GTrace) (y69 : Int) (spaces_1 : Int) (i_26 : Int) : Option ((Int × Int) ⊕ Int) :=
  if decide (i_26 < ((List.length r126.Text : Nat) : Int)) = true then
    (sidx r126.Text i_26).bind fun (b7 : Int) =>
    (FSixdotref02_Space n b7).bind fun (r127 : Bool) =>
    if r127 = true then
      f8_J2 n i_26 (iadd .i64 spaces_1 1)
    else
      f8_J2 n i_26 spaces_1
  else
    some (Sum.inr spaces_1)
def FSixdotlaw03_AutomatonBlanks (n : Nat) (p0_ : GRaw) (p1_ : (List Int)) : Option Bool :=
  (FSixdotlaw03_sanity n).bind fun (r123 : Bool) =>
  (FSixdotref02_Made n p0_).bind fun (r124 : GTable) =>
  (FSixdotref03_Walk n r124 p1_).bind fun (r125 : ((List Int) × Bool)) =>
  if (!r125.2) = true then
    some r123
  else
    (FAutomaton_Run n r124 r125.1).bind fun (r126 : GTrace) =>
    (whl (fun (x : (Int × Int)) => f8_L1 n r123 r126 x.1 x.2) n (0, 0)).bind fun (y68 : (Int ⊕ Bool)) =>
    match y68 with
    | Sum.inl y69 =>
      (whl (fun (x : (Int × Int)) => f8_L2 n r123 r126 y69 x.1 x.2) n (0, 0)).bind fun (y71 : Int) =>
      (if (r126.Ok && (y69 == y71)) = true then FSixdotref02_IsText n r126.Text else some default).bind fun (r128 : Bool) =>
      some (((r126.Ok && (y69 == y71)) && r128) && r123)
    | Sum.inr y70 =>
      some y70
end Go.AI
end
section
namespace Go.AI
open Go.Proofs
set_option maxRecDepth 10000
@[reducible] def eArr3 {α : Type} (e : α → List D) (x : Arr3 α) : List D := e x.a0 ++ e x.a1 ++ e x.a2
def eGRule (x : GRule) : List D := [.str x.Print, .sl (List.map eU8 x.Cells), .int .u8 x.Left, .int .u8 x.Right, .int .i64 x.From, .int .i64 x.To]
def eGState (x : GState) : List D := [.int .i64 x.Mode, .int .i64 x.Last, .int .u8 x.Need]
def eGTable (x : GTable) : List D := [.int .i64 x.Modes, .int .u8 x.Accept, .sl (List.map eGRule x.Rules)]
def eGTrace (x : GTrace) : List D := [.str x.Text, .sl (List.map eU8 x.Cells), .int .i64 x.At, .int .i64 x.End.Mode, .int .i64 x.End.Last, .int .u8 x.End.Need, .bool x.Ok]
@[reducible] def eArr2 {α : Type} (e : α → List D) (x : Arr2 α) : List D := e x.a0 ++ e x.a1
def eGRawRule (x : GRawRule) : List D := [.sl (List.map eU8 x.P), .sl (List.map eU8 x.C), .int .u8 x.L, .int .u8 x.R, .int .u8 x.W.a0, .int .u8 x.W.a1]
def eGRaw (x : GRaw) : List D := [.int .u8 x.Base, .int .u8 x.Drop, .sl (List.map eGRawRule x.More)]
theorem eqk26 : ∀ a b : GState, eqCells [.int .i64, .int .i64, .int .u8] ((eGState a).map .d) ((eGState b).map .d) = some (decide (a = b)) := by
  intro a b
  cases a; cases b
  simp [eqCells, eGState, Bool.decide_and]
  try rfl
section
variable (p0_ : (List UInt8)) (p1_ : Int) (p2_ : (Arr3 Int))
def f48_s1 : St := ⟨(0, .d (.str p0_)) :: (1, .d (.int .u8 p1_)) :: (2, .agg [.d (.int .i64 p2_.a0), .d (.int .i64 p2_.a1), .d (.int .i64 p2_.a2)]) :: [], []⟩
def f48_s2 : St := po (f48_s1 p0_ p1_ p2_) [(6, .ptr 1 0), (5, .ptr 0 0)] fun _ => [some (.box [.d (.int .i64 p2_.a0), .d (.int .i64 p2_.a1), .d (.int .i64 p2_.a2)]), some (.box [.d (.str []), .d (.nil), .d (.int .u8 0), .d (.int .u8 0), .d (.int .i64 0), .d (.int .i64 0)])]
def f48_s3 : St := po (f48_s2 p0_ p1_ p2_) [(17, .agg [.d (.str p0_), .osl 2 1 0 (List.length [p1_]), .d (.int .u8 63), .d (.int .u8 (IntKind.u8.wrap p2_.a0)), .d (.int .i64 p2_.a1), .d (.int .i64 p2_.a2)]), (16, .d (.int .i64 p2_.a2)), (15, .ptr 0 2), (14, .d (.int .i64 p2_.a1)), (13, .ptr 0 1), (12, .d (.int .u8 (IntKind.u8.wrap p2_.a0))), (11, .d (.int .i64 p2_.a0)), (10, .ptr 0 0), (9, .osl 2 1 0 (List.length [p1_])), (8, .d (.int .u8 p1_)), (7, .d (.str p0_))] fun o => o.set 1 (some (.box [.d (.str p0_), .osl 2 1 0 (List.length [p1_]), .d (.int .u8 63), .d (.int .u8 (IntKind.u8.wrap p2_.a0)), .d (.int .i64 p2_.a1), .d (.int .i64 p2_.a2)])) ++ [some (.arr 1 (List.map eU8 [p1_]))]
theorem FSixdotlaw03_rule_ok {n : Nat} {p0_ : (List UInt8)} {p1_ : Int} {p2_ : (Arr3 Int)} {z : GRule} (H : FSixdotlaw03_rule n p0_ p1_ p2_ = some z) : CallOK Try.prog 48 [.d (.str p0_), .d (.int .u8 p1_), .agg [.d (.int .i64 p2_.a0), .d (.int .i64 p2_.a1), .d (.int .i64 p2_.a2)]] (.agg [.d (.str z.Print), .own 1 (List.map eU8 z.Cells), .d (.int .u8 z.Left), .d (.int .u8 z.Right), .d (.int .i64 z.From), .d (.int .i64 z.To)]) := by
  dsimp only [FSixdotlaw03_rule] at H
  refine fn_ok (Γ := cx 18) (s := f48_s1 p0_ p1_ p2_) follows (cxOK 18) Try.func48 (by kernel_rfl) (by kernel_rfl) (by kernel_rfl) (by kernel_rfl) (by kernel_rfl) (by kernel_rfl) ?_
  refine at_seq (p0 := [0]) (p1 := [1]) (by kernel_rfl) ?_
  refine at_region (by kernel_rfl) sh_refl ?_
  refine chunk (s' := f48_s2 p0_ p1_ p2_) 2 2 (by kernel_rfl) rfl ?_
  refine at_end 2 (by kernel_rfl) ?_
  refine q_seq sh_refl ?_
  refine at_seq (p0 := [1,0]) (p1 := [1,1]) (by kernel_rfl) ?_
  refine at_region (by kernel_rfl) sh_refl ?_
  refine chunk (s' := f48_s3 p0_ p1_ p2_) 12 12 (by kernel_rfl) rfl ?_
  refine at_end 12 (by kernel_rfl) ?_
  refine q_seq sh_refl ?_
  refine at_ret (by kernel_rfl) ?_
  have hz := Option.some.inj H
  subst hz
  exact post_ret (ret1 (v := .agg [.d (.str p0_), .osl 2 1 0 (List.length [p1_]), .d (.int .u8 63), .d (.int .u8 (IntKind.u8.wrap p2_.a0)), .d (.int .i64 p2_.a1), .d (.int .i64 p2_.a2)]) (r := .agg [.d (.str (({ Print := p0_, Cells := [p1_], Left := 63, Right := IntKind.u8.wrap p2_.a0, From := p2_.a1, To := p2_.a2 } : GRule).Print)), .own 1 (List.map eU8 (({ Print := p0_, Cells := [p1_], Left := 63, Right := IntKind.u8.wrap p2_.a0, From := p2_.a1, To := p2_.a2 } : GRule).Cells)), .d (.int .u8 (({ Print := p0_, Cells := [p1_], Left := 63, Right := IntKind.u8.wrap p2_.a0, From := p2_.a1, To := p2_.a2 } : GRule).Left)), .d (.int .u8 (({ Print := p0_, Cells := [p1_], Left := 63, Right := IntKind.u8.wrap p2_.a0, From := p2_.a1, To := p2_.a2 } : GRule).Right)), .d (.int .i64 (({ Print := p0_, Cells := [p1_], Left := 63, Right := IntKind.u8.wrap p2_.a0, From := p2_.a1, To := p2_.a2 } : GRule).From)), .d (.int .i64 (({ Print := p0_, Cells := [p1_], Left := 63, Right := IntKind.u8.wrap p2_.a0, From := p2_.a1, To := p2_.a2 } : GRule).To))]) [2] (by kernel_rfl) (outA_agg (outC_cons (outV_d) (outC_cons (outV_own (by kernel_rfl)) (outC_cons (outV_d) (outC_cons (outV_d) (outC_cons (outV_d) (outC_cons (outV_d) (outC_nil)))))))) (by kernel_rfl) (by decide))
end
def f31_s0 : St := ⟨[], []⟩
def f31_s1  : St := po (f31_s0) [(0, .ptr 0 0)] fun _ => [some (.box [.d (.int .i64 0), .d (.int .i64 0), .d (.int .u8 0)])]
def f31_s2  : St := po (f31_s1) [(1, .agg [.d (.int .i64 0), .d (.int .i64 0), .d (.int .u8 63)])] fun _ => [some (.box [.d (.int .i64 0), .d (.int .i64 0), .d (.int .u8 63)])]
theorem FAutomaton_Start_ok {n : Nat}  {z : GState} (H : FAutomaton_Start n = some z) : CallOK Try.prog 31 [] (.agg [.d (.int .i64 z.Mode), .d (.int .i64 z.Last), .d (.int .u8 z.Need)]) := by
  dsimp only [FAutomaton_Start] at H
  refine fn_ok (Γ := cx 2) (s := f31_s0) follows (cxOK 2) Try.func31 (by kernel_rfl) (by kernel_rfl) (by kernel_rfl) (by kernel_rfl) (by kernel_rfl) (by kernel_rfl) ?_
  refine at_seq (p0 := [0]) (p1 := [1]) (by kernel_rfl) ?_
  refine at_region (by kernel_rfl) sh_refl ?_
  refine chunk (s' := f31_s1) 1 1 (by kernel_rfl) rfl ?_
  refine at_end 1 (by kernel_rfl) ?_
  refine q_seq sh_refl ?_
  refine at_seq (p0 := [1,0]) (p1 := [1,1]) (by kernel_rfl) ?_
  refine at_region (by kernel_rfl) sh_refl ?_
  refine chunk (s' := f31_s2) 2 2 (by kernel_rfl) rfl ?_
  refine at_end 2 (by kernel_rfl) ?_
  refine q_seq sh_refl ?_
  refine at_ret (by kernel_rfl) ?_
  have hz := Option.some.inj H
  subst hz
  exact post_ret (ret1 (v := .agg [.d (.int .i64 0), .d (.int .i64 0), .d (.int .u8 63)]) (r := .agg [.d (.int .i64 (({ Mode := 0, Last := 0, Need := 63 } : GState).Mode)), .d (.int .i64 (({ Mode := 0, Last := 0, Need := 63 } : GState).Last)), .d (.int .u8 (({ Mode := 0, Last := 0, Need := 63 } : GState).Need))]) [] (by kernel_rfl) (outA_agg (outC_cons (outV_d) (outC_cons (outV_d) (outC_cons (outV_d) (outC_nil))))) (by kernel_rfl) (by decide))
section
variable (p0_ : Int) (p1_ : Int)
def f51_s1 : St := ⟨(0, .d (.int .u8 p0_)) :: (1, .d (.int .i64 p1_)) :: [], []⟩
def f51_s2 : St := po (f51_s1 p0_ p1_) [(4, .d (.bool false))] fun _ => []
def f51_s3 : St := po (f51_s2 p0_ p1_) [(8, .gv (decide (0 ≤ p1_)) (.d (.int .i64 p1_))), (7, .d (.bool (decide (0 ≤ p1_)))), (6, .d (.bool (decide (0 ≤ p1_)))), (5, .d (.int .i64 p1_))] fun _ => []
def f51_s4 : St := po (f51_s3 p0_ p1_) [(9, .gv (decide (0 ≤ p1_)) (.d (.bool (decide (p1_ < 8)))))] fun _ => []
def f51_s5 : St := po (f51_s4 p0_ p1_) [(10, .d (.bool ((decide (0 ≤ p1_)) && (decide (p1_ < 8)))))] fun _ => []
def f51_s6 : St := po (f51_s5 p0_ p1_) [(13, .gv ((decide (0 ≤ p1_)) && (decide (p1_ < 8))) (.d (.int .i64 p1_))), (12, .gv ((decide (0 ≤ p1_)) && (decide (p1_ < 8))) (.d (.int .u8 p0_))), (11, .d (.bool ((decide (0 ≤ p1_)) && (decide (p1_ < 8)))))] fun _ => []
def f51_s7 : St := po (f51_s6 p0_ p1_) [(14, .gv ((decide (0 ≤ p1_)) && (decide (p1_ < 8))) (.d (.int .u8 (ishr .u8 p0_ p1_))))] fun _ => []
def f51_s8 : St := po (f51_s7 p0_ p1_) [(15, .gv ((decide (0 ≤ p1_)) && (decide (p1_ < 8))) (.d (.int .u8 (iand .u8 (ishr .u8 p0_ p1_) 1))))] fun _ => []
def f51_s9 : St := po (f51_s8 p0_ p1_) [(16, .gv ((decide (0 ≤ p1_)) && (decide (p1_ < 8))) (.d (.bool ((iand .u8 (ishr .u8 p0_ p1_) 1) == 1))))] fun _ => []
def f51_s10 : St := po (f51_s9 p0_ p1_) [(17, .d (.bool (((decide (0 ≤ p1_)) && (decide (p1_ < 8))) && ((iand .u8 (ishr .u8 p0_ p1_) 1) == 1))))] fun _ => []
def f51_s11 : St := po (f51_s10 p0_ p1_) [(4, .d (.bool (((decide (0 ≤ p1_)) && (decide (p1_ < 8))) && ((iand .u8 (ishr .u8 p0_ p1_) 1) == 1))))] fun _ => []
theorem FAutomaton_has_ok {n : Nat} {p0_ : Int} {p1_ : Int} {z : Bool} (H : FAutomaton_has n p0_ p1_ = some z) : CallOK Try.prog 51 [.d (.int .u8 p0_), .d (.int .i64 p1_)] (.d (.bool z)) := by
  dsimp only [FAutomaton_has] at H
  refine fn_ok (Γ := cx 18) (s := f51_s1 p0_ p1_) follows (cxOK 18) Try.func51 (by kernel_rfl) (by kernel_rfl) (by kernel_rfl) (by kernel_rfl) (by kernel_rfl) (by kernel_rfl) ?_
  refine at_seq (p0 := [0]) (p1 := [1]) (by kernel_rfl) ?_
  refine at_region (by kernel_rfl) sh_refl ?_
  refine chunk (s' := f51_s2 p0_ p1_) 1 1 (by kernel_rfl) rfl ?_
  refine at_end 1 (by kernel_rfl) ?_
  refine q_seq sh_refl ?_
  refine at_seq (p0 := [1,0]) (p1 := [1,1]) (by kernel_rfl) ?_
  refine at_region (by kernel_rfl) sh_refl ?_
  refine chunk (s' := f51_s3 p0_ p1_) 4 4 (by kernel_rfl) rfl ?_
  refine specG (g := decide (0 ≤ p1_)) (gs := [decide (0 ≤ p1_)]) (s' := f51_s4 p0_ p1_) (v := .d (.bool (decide (p1_ < 8)))) (obs := []) 5 (by kernel_rfl) rfl (fun hg => is_pl (by kernel_rfl)) (by kernel_rfl) (impK (fun hh => hh) (impZ)) (by kernel_rfl) rfl ?_
  refine specP (s' := f51_s5 p0_ p1_) 6 (by kernel_rfl) (pick_and (t := decide (0 ≤ p1_)) (x := decide (p1_ < 8)) (y := false)) (by kernel_rfl) rfl ?_
  refine chunk (s' := f51_s6 p0_ p1_) 3 9 (by kernel_rfl) rfl ?_
  obtain ⟨u1, h1, H⟩ := bind_some H
  refine specG (g := ((decide (0 ≤ p1_)) && (decide (p1_ < 8)))) (gs := [((decide (0 ≤ p1_)) && (decide (p1_ < 8))), ((decide (0 ≤ p1_)) && (decide (p1_ < 8)))]) (s' := f51_s7 p0_ p1_) (v := .d (.int .u8 (ishr .u8 p0_ p1_))) (obs := []) 10 (by kernel_rfl) (by kernel_rfl) (fun hg => is_ob (v := .d (.int .u8 (ishr .u8 p0_ p1_))) (guard_ge (gimp h1 hg))) (by kernel_rfl) (impK (fun hh => hh) (impK (fun hh => hh) (impZ))) (by kernel_rfl) rfl ?_
  refine specG (g := ((decide (0 ≤ p1_)) && (decide (p1_ < 8)))) (gs := [((decide (0 ≤ p1_)) && (decide (p1_ < 8)))]) (s' := f51_s8 p0_ p1_) (v := .d (.int .u8 (iand .u8 (ishr .u8 p0_ p1_) 1))) (obs := []) 11 (by kernel_rfl) rfl (fun hg => is_pl (by kernel_rfl)) (by kernel_rfl) (impK (fun hh => hh) (impZ)) (by kernel_rfl) rfl ?_
  refine specG (g := ((decide (0 ≤ p1_)) && (decide (p1_ < 8)))) (gs := [((decide (0 ≤ p1_)) && (decide (p1_ < 8)))]) (s' := f51_s9 p0_ p1_) (v := .d (.bool ((iand .u8 (ishr .u8 p0_ p1_) 1) == 1))) (obs := []) 12 (by kernel_rfl) rfl (fun hg => is_pl (by kernel_rfl)) (by kernel_rfl) (impK (fun hh => hh) (impZ)) (by kernel_rfl) rfl ?_
  refine specP (s' := f51_s10 p0_ p1_) 13 (by kernel_rfl) (pick_and (t := ((decide (0 ≤ p1_)) && (decide (p1_ < 8)))) (x := ((iand .u8 (ishr .u8 p0_ p1_) 1) == 1)) (y := false)) (by kernel_rfl) rfl ?_
  refine chunk (s' := f51_s11 p0_ p1_) 1 14 (by kernel_rfl) rfl ?_
  refine at_end 14 (by kernel_rfl) ?_
  refine q_seq sh_refl ?_
  refine at_ret (by kernel_rfl) ?_
  have hz := Option.some.inj H
  subst hz
  exact post_ret (ret1 (v := .d (.bool (((decide (0 ≤ p1_)) && (decide (p1_ < 8))) && ((iand .u8 (ishr .u8 p0_ p1_) 1) == 1)))) (r := .d (.bool (((decide (0 ≤ p1_)) && (decide (p1_ < 8))) && ((iand .u8 (ishr .u8 p0_ p1_) 1) == 1)))) [] (by kernel_rfl) (outA_d (outV_d)) (by kernel_rfl) (by decide))
end
section
variable (p0_ : Int)
def f52_s1 : St := ⟨(0, .d (.int .u8 p0_)) :: [], []⟩
def f52_s2 : St := po (f52_s1 p0_) [(2, .d (.int .i64 0))] fun _ => []
def f52_s3 : St := po (f52_s2 p0_) [(3, .d (.int .u8 (iand .u8 p0_ 127))), (5, .d (.int .u8 (iand .u8 p0_ 127))), (4, .d (.int .u8 p0_))] fun _ => []
def f52_s4 : St := po (f52_s3 p0_) [(10, .gv (decide (97 ≤ iand .u8 p0_ 127)) (.d (.int .u8 (iand .u8 p0_ 127)))), (9, .d (.bool (decide (97 ≤ iand .u8 p0_ 127)))), (8, .d (.bool (decide (97 ≤ iand .u8 p0_ 127)))), (7, .d (.int .u8 (iand .u8 p0_ 127)))] fun _ => []
def f52_s5 : St := po (f52_s4 p0_) [(11, .gv (decide (97 ≤ iand .u8 p0_ 127)) (.d (.bool (decide (iand .u8 p0_ 127 ≤ 122)))))] fun _ => []
def f52_s6 : St := po (f52_s5 p0_) [(12, .d (.bool ((decide (97 ≤ iand .u8 p0_ 127)) && (decide (iand .u8 p0_ 127 ≤ 122)))))] fun _ => []
def f52_s7 : St := po (f52_s6 p0_) [(6, .d (.bool ((decide (97 ≤ iand .u8 p0_ 127)) && (decide (iand .u8 p0_ 127 ≤ 122)))))] fun _ => []
def f52_s8 : St := po (f52_s7 p0_) [(2, .d (.int .i64 1))] fun _ => []
def f52_s9 : St := po (f52_s7 p0_) [(17, .gv (decide (65 ≤ iand .u8 p0_ 127)) (.d (.int .u8 (iand .u8 p0_ 127)))), (16, .d (.bool (decide (65 ≤ iand .u8 p0_ 127)))), (15, .d (.bool (decide (65 ≤ iand .u8 p0_ 127)))), (14, .d (.int .u8 (iand .u8 p0_ 127)))] fun _ => []
def f52_s10 : St := po (f52_s9 p0_) [(18, .gv (decide (65 ≤ iand .u8 p0_ 127)) (.d (.bool (decide (iand .u8 p0_ 127 ≤ 90)))))] fun _ => []
def f52_s11 : St := po (f52_s10 p0_) [(19, .d (.bool ((decide (65 ≤ iand .u8 p0_ 127)) && (decide (iand .u8 p0_ 127 ≤ 90)))))] fun _ => []
def f52_s12 : St := po (f52_s11 p0_) [(13, .d (.bool ((decide (65 ≤ iand .u8 p0_ 127)) && (decide (iand .u8 p0_ 127 ≤ 90)))))] fun _ => []
def f52_s13 : St := po (f52_s12 p0_) [(2, .d (.int .i64 2))] fun _ => []
def f52_s14 : St := po (f52_s12 p0_) [(24, .gv (decide (48 ≤ iand .u8 p0_ 127)) (.d (.int .u8 (iand .u8 p0_ 127)))), (23, .d (.bool (decide (48 ≤ iand .u8 p0_ 127)))), (22, .d (.bool (decide (48 ≤ iand .u8 p0_ 127)))), (21, .d (.int .u8 (iand .u8 p0_ 127)))] fun _ => []
def f52_s15 : St := po (f52_s14 p0_) [(25, .gv (decide (48 ≤ iand .u8 p0_ 127)) (.d (.bool (decide (iand .u8 p0_ 127 ≤ 57)))))] fun _ => []
def f52_s16 : St := po (f52_s15 p0_) [(26, .d (.bool ((decide (48 ≤ iand .u8 p0_ 127)) && (decide (iand .u8 p0_ 127 ≤ 57)))))] fun _ => []
def f52_s17 : St := po (f52_s16 p0_) [(20, .d (.bool ((decide (48 ≤ iand .u8 p0_ 127)) && (decide (iand .u8 p0_ 127 ≤ 57)))))] fun _ => []
def f52_s18 : St := po (f52_s17 p0_) [(2, .d (.int .i64 3))] fun _ => []
def f52_s19 : St := po (f52_s17 p0_) [(27, .d (.bool ((iand .u8 p0_ 127) == 32))), (29, .d (.bool ((iand .u8 p0_ 127) == 32))), (28, .d (.int .u8 (iand .u8 p0_ 127)))] fun _ => []
def f52_s20 : St := po (f52_s19 p0_) [(2, .d (.int .i64 4))] fun _ => []
def f52_s21 : St := po (f52_s19 p0_) [(2, .d (.int .i64 5))] fun _ => []
theorem FTable_Class_ok {n : Nat} {p0_ : Int} {z : Int} (H : FTable_Class n p0_ = some z) : CallOK Try.prog 52 [.d (.int .u8 p0_)] (.d (.int .i64 z)) := by
  dsimp only [FTable_Class] at H
  refine fn_ok (Γ := cx 30) (s := f52_s1 p0_) follows (cxOK 30) Try.func52 (by kernel_rfl) (by kernel_rfl) (by kernel_rfl) (by kernel_rfl) (by kernel_rfl) (by kernel_rfl) ?_
  refine at_seq (p0 := [0]) (p1 := [1]) (by kernel_rfl) ?_
  refine at_region (by kernel_rfl) sh_refl ?_
  refine chunk (s' := f52_s2 p0_) 1 1 (by kernel_rfl) rfl ?_
  refine at_end 1 (by kernel_rfl) ?_
  refine q_seq sh_refl ?_
  refine at_seq (p0 := [1,0]) (p1 := [1,1]) (by kernel_rfl) ?_
  refine at_region (by kernel_rfl) sh_refl ?_
  refine chunk (s' := f52_s3 p0_) 3 3 (by kernel_rfl) rfl ?_
  refine at_end 3 (by kernel_rfl) ?_
  refine q_seq sh_refl ?_
  refine at_seq (p0 := [1,1,0]) (p1 := [1,1,1]) (by kernel_rfl) ?_
  refine at_block 0 (p0 := [1,1,0,0]) (by kernel_rfl) ?_
  refine at_seq (p0 := [1,1,0,0,0]) (p1 := [1,1,0,0,1]) (by kernel_rfl) ?_
  refine at_region (by kernel_rfl) sh_refl ?_
  refine chunk (s' := f52_s4 p0_) 4 4 (by kernel_rfl) rfl ?_
  refine specG (g := decide (97 ≤ iand .u8 p0_ 127)) (gs := [decide (97 ≤ iand .u8 p0_ 127)]) (s' := f52_s5 p0_) (v := .d (.bool (decide (iand .u8 p0_ 127 ≤ 122)))) (obs := []) 5 (by kernel_rfl) rfl (fun hg => is_pl (by kernel_rfl)) (by kernel_rfl) (impK (fun hh => hh) (impZ)) (by kernel_rfl) rfl ?_
  refine specP (s' := f52_s6 p0_) 6 (by kernel_rfl) (pick_and (t := decide (97 ≤ iand .u8 p0_ 127)) (x := decide (iand .u8 p0_ 127 ≤ 122)) (y := false)) (by kernel_rfl) rfl ?_
  refine chunk (s' := f52_s7 p0_) 1 7 (by kernel_rfl) rfl ?_
  refine at_end 7 (by kernel_rfl) ?_
  refine q_seq sh_refl ?_
  rcases ite_some H with ⟨hc4, H⟩ | ⟨hc4, H⟩
  · refine at_condT ((decide (97 ≤ iand .u8 p0_ 127)) && (decide (iand .u8 p0_ 127 ≤ 122))) (p0 := [1,1,0,0,1,0]) (p1 := [1,1,0,0,1,1]) (by kernel_rfl) (by kernel_rfl) hc4 ?_
    refine at_seq (p0 := [1,1,0,0,1,0,0]) (p1 := [1,1,0,0,1,0,1]) (by kernel_rfl) ?_
    refine at_region (by kernel_rfl) sh_refl ?_
    refine chunk (s' := f52_s8 p0_) 1 1 (by kernel_rfl) rfl ?_
    refine at_end 1 (by kernel_rfl) ?_
    refine q_seq sh_refl ?_
    refine at_ret (by kernel_rfl) ?_
    refine q_blockR ?_
    refine q_seqR ?_
    have hz := Option.some.inj H
    subst hz
    exact post_ret (ret1 (v := .d (.int .i64 1)) (r := .d (.int .i64 1)) [] (by kernel_rfl) (outA_d (outV_d)) (by kernel_rfl) (by decide))
  · refine at_condF ((decide (97 ≤ iand .u8 p0_ 127)) && (decide (iand .u8 p0_ 127 ≤ 122))) (p0 := [1,1,0,0,1,0]) (p1 := [1,1,0,0,1,1]) (by kernel_rfl) (by kernel_rfl) hc4 ?_
    refine at_seq (p0 := [1,1,0,0,1,1,0]) (p1 := [1,1,0,0,1,1,1]) (by kernel_rfl) ?_
    refine at_region (by kernel_rfl) sh_refl ?_
    refine chunk (s' := f52_s9 p0_) 4 4 (by kernel_rfl) rfl ?_
    refine specG (g := decide (65 ≤ iand .u8 p0_ 127)) (gs := [decide (65 ≤ iand .u8 p0_ 127)]) (s' := f52_s10 p0_) (v := .d (.bool (decide (iand .u8 p0_ 127 ≤ 90)))) (obs := []) 5 (by kernel_rfl) rfl (fun hg => is_pl (by kernel_rfl)) (by kernel_rfl) (impK (fun hh => hh) (impZ)) (by kernel_rfl) rfl ?_
    refine specP (s' := f52_s11 p0_) 6 (by kernel_rfl) (pick_and (t := decide (65 ≤ iand .u8 p0_ 127)) (x := decide (iand .u8 p0_ 127 ≤ 90)) (y := false)) (by kernel_rfl) rfl ?_
    refine chunk (s' := f52_s12 p0_) 1 7 (by kernel_rfl) rfl ?_
    refine at_end 7 (by kernel_rfl) ?_
    refine q_seq sh_refl ?_
    rcases ite_some H with ⟨hc3, H⟩ | ⟨hc3, H⟩
    · refine at_condT ((decide (65 ≤ iand .u8 p0_ 127)) && (decide (iand .u8 p0_ 127 ≤ 90))) (p0 := [1,1,0,0,1,1,1,0]) (p1 := [1,1,0,0,1,1,1,1]) (by kernel_rfl) (by kernel_rfl) hc3 ?_
      refine at_seq (p0 := [1,1,0,0,1,1,1,0,0]) (p1 := [1,1,0,0,1,1,1,0,1]) (by kernel_rfl) ?_
      refine at_region (by kernel_rfl) sh_refl ?_
      refine chunk (s' := f52_s13 p0_) 1 1 (by kernel_rfl) rfl ?_
      refine at_end 1 (by kernel_rfl) ?_
      refine q_seq sh_refl ?_
      refine at_ret (by kernel_rfl) ?_
      refine q_blockR ?_
      refine q_seqR ?_
      have hz := Option.some.inj H
      subst hz
      exact post_ret (ret1 (v := .d (.int .i64 2)) (r := .d (.int .i64 2)) [] (by kernel_rfl) (outA_d (outV_d)) (by kernel_rfl) (by decide))
    · refine at_condF ((decide (65 ≤ iand .u8 p0_ 127)) && (decide (iand .u8 p0_ 127 ≤ 90))) (p0 := [1,1,0,0,1,1,1,0]) (p1 := [1,1,0,0,1,1,1,1]) (by kernel_rfl) (by kernel_rfl) hc3 ?_
      refine at_seq (p0 := [1,1,0,0,1,1,1,1,0]) (p1 := [1,1,0,0,1,1,1,1,1]) (by kernel_rfl) ?_
      refine at_region (by kernel_rfl) sh_refl ?_
      refine chunk (s' := f52_s14 p0_) 4 4 (by kernel_rfl) rfl ?_
      refine specG (g := decide (48 ≤ iand .u8 p0_ 127)) (gs := [decide (48 ≤ iand .u8 p0_ 127)]) (s' := f52_s15 p0_) (v := .d (.bool (decide (iand .u8 p0_ 127 ≤ 57)))) (obs := []) 5 (by kernel_rfl) rfl (fun hg => is_pl (by kernel_rfl)) (by kernel_rfl) (impK (fun hh => hh) (impZ)) (by kernel_rfl) rfl ?_
      refine specP (s' := f52_s16 p0_) 6 (by kernel_rfl) (pick_and (t := decide (48 ≤ iand .u8 p0_ 127)) (x := decide (iand .u8 p0_ 127 ≤ 57)) (y := false)) (by kernel_rfl) rfl ?_
      refine chunk (s' := f52_s17 p0_) 1 7 (by kernel_rfl) rfl ?_
      refine at_end 7 (by kernel_rfl) ?_
      refine q_seq sh_refl ?_
      rcases ite_some H with ⟨hc2, H⟩ | ⟨hc2, H⟩
      · refine at_condT ((decide (48 ≤ iand .u8 p0_ 127)) && (decide (iand .u8 p0_ 127 ≤ 57))) (p0 := [1,1,0,0,1,1,1,1,1,0]) (p1 := [1,1,0,0,1,1,1,1,1,1]) (by kernel_rfl) (by kernel_rfl) hc2 ?_
        refine at_seq (p0 := [1,1,0,0,1,1,1,1,1,0,0]) (p1 := [1,1,0,0,1,1,1,1,1,0,1]) (by kernel_rfl) ?_
        refine at_region (by kernel_rfl) sh_refl ?_
        refine chunk (s' := f52_s18 p0_) 1 1 (by kernel_rfl) rfl ?_
        refine at_end 1 (by kernel_rfl) ?_
        refine q_seq sh_refl ?_
        refine at_ret (by kernel_rfl) ?_
        refine q_blockR ?_
        refine q_seqR ?_
        have hz := Option.some.inj H
        subst hz
        exact post_ret (ret1 (v := .d (.int .i64 3)) (r := .d (.int .i64 3)) [] (by kernel_rfl) (outA_d (outV_d)) (by kernel_rfl) (by decide))
      · refine at_condF ((decide (48 ≤ iand .u8 p0_ 127)) && (decide (iand .u8 p0_ 127 ≤ 57))) (p0 := [1,1,0,0,1,1,1,1,1,0]) (p1 := [1,1,0,0,1,1,1,1,1,1]) (by kernel_rfl) (by kernel_rfl) hc2 ?_
        refine at_seq (p0 := [1,1,0,0,1,1,1,1,1,1,0]) (p1 := [1,1,0,0,1,1,1,1,1,1,1]) (by kernel_rfl) ?_
        refine at_region (by kernel_rfl) sh_refl ?_
        refine chunk (s' := f52_s19 p0_) 3 3 (by kernel_rfl) rfl ?_
        refine at_end 3 (by kernel_rfl) ?_
        refine q_seq sh_refl ?_
        rcases ite_some H with ⟨hc1, H⟩ | ⟨hc1, H⟩
        · refine at_condT ((iand .u8 p0_ 127) == 32) (p0 := [1,1,0,0,1,1,1,1,1,1,1,0]) (p1 := [1,1,0,0,1,1,1,1,1,1,1,1]) (by kernel_rfl) (by kernel_rfl) hc1 ?_
          refine at_seq (p0 := [1,1,0,0,1,1,1,1,1,1,1,0,0]) (p1 := [1,1,0,0,1,1,1,1,1,1,1,0,1]) (by kernel_rfl) ?_
          refine at_region (by kernel_rfl) sh_refl ?_
          refine chunk (s' := f52_s20 p0_) 1 1 (by kernel_rfl) rfl ?_
          refine at_end 1 (by kernel_rfl) ?_
          refine q_seq sh_refl ?_
          refine at_ret (by kernel_rfl) ?_
          refine q_blockR ?_
          refine q_seqR ?_
          have hz := Option.some.inj H
          subst hz
          exact post_ret (ret1 (v := .d (.int .i64 4)) (r := .d (.int .i64 4)) [] (by kernel_rfl) (outA_d (outV_d)) (by kernel_rfl) (by decide))
        · refine at_condF ((iand .u8 p0_ 127) == 32) (p0 := [1,1,0,0,1,1,1,1,1,1,1,0]) (p1 := [1,1,0,0,1,1,1,1,1,1,1,1]) (by kernel_rfl) (by kernel_rfl) hc1 ?_
          refine at_skip (by kernel_rfl) ?_
          refine q_blockN ?_
          refine q_seq sh_refl ?_
          refine at_seq (p0 := [1,1,1,0]) (p1 := [1,1,1,1]) (by kernel_rfl) ?_
          refine at_region (by kernel_rfl) sh_refl ?_
          refine chunk (s' := f52_s21 p0_) 1 1 (by kernel_rfl) rfl ?_
          refine at_end 1 (by kernel_rfl) ?_
          refine q_seq sh_refl ?_
          refine at_ret (by kernel_rfl) ?_
          have hz := Option.some.inj H
          subst hz
          exact post_ret (ret1 (v := .d (.int .i64 5)) (r := .d (.int .i64 5)) [] (by kernel_rfl) (outA_d (outV_d)) (by kernel_rfl) (by decide))
end
section
variable (p0_ : GTable) (p1_ : GState) (p2_ : Int)
def f17_s1 : St := ⟨(0, .agg [.d (.int .i64 p0_.Modes), .d (.int .u8 p0_.Accept), .d (.sl (List.map eGRule p0_.Rules))]) :: (1, .agg [.d (.int .i64 p1_.Mode), .d (.int .i64 p1_.Last), .d (.int .u8 p1_.Need)]) :: (2, .d (.int .i64 p2_)) :: [], []⟩
def f17_s2 : St := po (f17_s1 p0_ p1_ p2_) [(7, .d (.bool false)), (6, .ptr 2 0), (4, .ptr 1 0), (3, .ptr 0 0)] fun _ => [some (.box [.d (.int .i64 p0_.Modes), .d (.int .u8 p0_.Accept), .d (.sl (List.map eGRule p0_.Rules))]), some (.box [.d (.int .i64 p1_.Mode), .d (.int .i64 p1_.Last), .d (.int .u8 p1_.Need)]), some (.box [.d (.int .i64 0), .d (.int .i64 0), .d (.int .u8 0)])]
def f17_s3 : St := pe (f17_s2 p0_ p1_ p2_) [(14, .gv (!(decide (p2_ < 0))) (.ptr 0 2)), (13, .gv (!(decide (p2_ < 0))) (.d (.int .i64 p2_))), (12, .d (.bool (decide (p2_ < 0)))), (11, .d (.bool (decide (p2_ < 0)))), (10, .d (.int .i64 p2_))]
def f17_s4 : St := pe (f17_s3 p0_ p1_ p2_) [(15, .gv (!(decide (p2_ < 0))) (.d (.sl (List.map eGRule p0_.Rules))))]
def f17_s5 : St := pe (f17_s4 p0_ p1_ p2_) [(16, .gv (!(decide (p2_ < 0))) (.d (.int .i64 ((List.length p0_.Rules : Nat) : Int))))]
def f17_s6 : St := pe (f17_s5 p0_ p1_ p2_) [(17, .gv (!(decide (p2_ < 0))) (.d (.bool (decide (p2_ ≥ ((List.length p0_.Rules : Nat) : Int))))))]
def f17_s7 : St := pe (f17_s6 p0_ p1_ p2_) [(18, .d (.bool ((decide (p2_ < 0)) || (decide (p2_ ≥ ((List.length p0_.Rules : Nat) : Int))))))]
def f17_s8 : St := pe (f17_s7 p0_ p1_ p2_) [(7, .d (.bool false)), (19, .agg [.d (.int .i64 0), .d (.int .i64 0), .d (.int .u8 0)])]
def f17_s9 : St := pe (f17_s7 p0_ p1_ p2_) [(22, .d (.int .i64 p2_)), (21, .d (.sl (List.map eGRule p0_.Rules))), (20, .ptr 0 2)]
variable (x1 : GRule)
def f17_s10 : St := pe (f17_s9 p0_ p1_ p2_) [(23, .dptr (eGRule x1) 0)]
def f17_s11 : St := po (f17_s10 p0_ p1_ p2_ x1) [(8, .ptr 3 0), (24, .agg [.d (.str x1.Print), .d (.sl (List.map eU8 x1.Cells)), .d (.int .u8 x1.Left), .d (.int .u8 x1.Right), .d (.int .i64 x1.From), .d (.int .i64 x1.To)])] fun o => o ++ [some (.box [.d (.str x1.Print), .d (.sl (List.map eU8 x1.Cells)), .d (.int .u8 x1.Left), .d (.int .u8 x1.Right), .d (.int .i64 x1.From), .d (.int .i64 x1.To)])]
def f17_s12 : St := pe (f17_s11 p0_ p1_ p2_ x1) [(31, .gv (!(x1.From != p1_.Mode)) (.ptr 3 2)), (30, .d (.bool (x1.From != p1_.Mode))), (29, .d (.bool (x1.From != p1_.Mode))), (28, .d (.int .i64 p1_.Mode)), (27, .ptr 1 0), (26, .d (.int .i64 x1.From)), (25, .ptr 3 4)]
def f17_s13 : St := pe (f17_s12 p0_ p1_ p2_ x1) [(32, .gv (!(x1.From != p1_.Mode)) (.d (.int .u8 x1.Left)))]
def f17_s14 : St := pe (f17_s13 p0_ p1_ p2_ x1) [(33, .gv (!(x1.From != p1_.Mode)) (.ptr 1 1))]
def f17_s15 : St := pe (f17_s14 p0_ p1_ p2_ x1) [(34, .gv (!(x1.From != p1_.Mode)) (.d (.int .i64 p1_.Last)))]
variable (r1 : Bool)
def f17_s16 : St := pe (f17_s15 p0_ p1_ p2_ x1) [(35, .gv (!(x1.From != p1_.Mode)) (.d (.bool r1)))]
def f17_s17 : St := pe (f17_s16 p0_ p1_ p2_ x1 r1) [(36, .gv (!(x1.From != p1_.Mode)) (.d (.bool (!r1))))]
def f17_s18 : St := pe (f17_s17 p0_ p1_ p2_ x1 r1) [(37, .d (.bool ((x1.From != p1_.Mode) || (!r1))))]
def f17_s19 : St := pe (f17_s18 p0_ p1_ p2_ x1 r1) [(7, .d (.bool false)), (38, .agg [.d (.int .i64 0), .d (.int .i64 0), .d (.int .u8 0)])]
def f17_s20 : St := pe (f17_s18 p0_ p1_ p2_ x1 r1) [(41, .d (.bool (x1.Print == []))), (40, .d (.str x1.Print)), (39, .ptr 3 0)]
def f17_s21 : St := pe (f17_s20 p0_ p1_ p2_ x1 r1) [(9, .d (.int .u8 (iand .u8 p1_.Need x1.Right))), (46, .d (.int .u8 (iand .u8 p1_.Need x1.Right))), (45, .d (.int .u8 x1.Right)), (44, .ptr 3 3), (43, .d (.int .u8 p1_.Need)), (42, .ptr 1 2)]
def f17_s22 : St := pe (f17_s21 p0_ p1_ p2_ x1 r1) [(48, .d (.bool ((iand .u8 p1_.Need x1.Right) == 0))), (47, .d (.int .u8 (iand .u8 p1_.Need x1.Right)))]
def f17_s23 : St := pe (f17_s22 p0_ p1_ p2_ x1 r1) [(7, .d (.bool false)), (49, .agg [.d (.int .i64 0), .d (.int .i64 0), .d (.int .u8 0)])]
def f17_s24 : St := po (f17_s22 p0_ p1_ p2_ x1 r1) [(7, .d (.bool true)), (55, .agg [.d (.int .i64 x1.To), .d (.int .i64 p1_.Last), .d (.int .u8 (iand .u8 p1_.Need x1.Right))]), (54, .d (.int .u8 (iand .u8 p1_.Need x1.Right))), (53, .d (.int .i64 p1_.Last)), (52, .ptr 1 1), (51, .d (.int .i64 x1.To)), (50, .ptr 3 5)] fun o => o.set 2 (some (.box [.d (.int .i64 x1.To), .d (.int .i64 p1_.Last), .d (.int .u8 (iand .u8 p1_.Need x1.Right))]))
def f17_s25 : St := pe (f17_s20 p0_ p1_ p2_ x1 r1) [(59, .d (.str x1.Print)), (58, .ptr 3 0), (57, .d (.int .u8 p1_.Need)), (56, .ptr 1 2)]
variable (b1 : Int)
def f17_s26 : St := pe (f17_s25 p0_ p1_ p2_ x1 r1) [(60, .d (.int .u8 b1))]
variable (r2 : Int)
def f17_s27 : St := pe (f17_s26 p0_ p1_ p2_ x1 r1 b1) [(61, .d (.int .i64 r2))]
variable (r3 : Bool)
def f17_s28 : St := pe (f17_s27 p0_ p1_ p2_ x1 r1 b1 r2) [(62, .d (.bool r3))]
def f17_s29 : St := pe (f17_s28 p0_ p1_ p2_ x1 r1 b1 r2 r3) [(63, .d (.bool (!r3)))]
def f17_s30 : St := pe (f17_s29 p0_ p1_ p2_ x1 r1 b1 r2 r3) [(7, .d (.bool false)), (64, .agg [.d (.int .i64 0), .d (.int .i64 0), .d (.int .u8 0)])]
def f17_s31 : St := pe (f17_s29 p0_ p1_ p2_ x1 r1 b1 r2 r3) [(72, .d (.int .i64 (isub .i64 ((List.length x1.Print : Nat) : Int) 1))), (71, .d (.int .i64 ((List.length x1.Print : Nat) : Int))), (70, .d (.str x1.Print)), (69, .ptr 3 0), (68, .d (.str x1.Print)), (67, .ptr 3 0), (66, .d (.int .i64 x1.To)), (65, .ptr 3 5)]
variable (b2 : Int)
def f17_s32 : St := pe (f17_s31 p0_ p1_ p2_ x1 r1 b1 r2 r3) [(73, .d (.int .u8 b2))]
variable (r4 : Int)
def f17_s33 : St := pe (f17_s32 p0_ p1_ p2_ x1 r1 b1 r2 r3 b2) [(74, .d (.int .i64 r4))]
def f17_s34 : St := po (f17_s33 p0_ p1_ p2_ x1 r1 b1 r2 r3 b2 r4) [(7, .d (.bool true)), (77, .agg [.d (.int .i64 x1.To), .d (.int .i64 r4), .d (.int .u8 x1.Right)]), (76, .d (.int .u8 x1.Right)), (75, .ptr 3 3)] fun o => o.set 2 (some (.box [.d (.int .i64 x1.To), .d (.int .i64 r4), .d (.int .u8 x1.Right)]))
theorem FAutomaton_Step_ok {n : Nat} {p0_ : GTable} {p1_ : GState} {p2_ : Int} {z : (GState × Bool)} (H : FAutomaton_Step n p0_ p1_ p2_ = some z) : CallOK Try.prog 17 [.agg [.d (.int .i64 p0_.Modes), .d (.int .u8 p0_.Accept), .d (.sl (List.map eGRule p0_.Rules))], .agg [.d (.int .i64 p1_.Mode), .d (.int .i64 p1_.Last), .d (.int .u8 p1_.Need)], .d (.int .i64 p2_)] (.tup [.agg [.d (.int .i64 z.1.Mode), .d (.int .i64 z.1.Last), .d (.int .u8 z.1.Need)], .d (.bool z.2)]) := by
  dsimp only [FAutomaton_Step] at H
  refine fn_ok (Γ := cx 78) (s := f17_s1 p0_ p1_ p2_) follows (cxOK 78) Try.func17 (by kernel_rfl) (by kernel_rfl) (by kernel_rfl) (by kernel_rfl) (by kernel_rfl) (by kernel_rfl) ?_
  refine at_seq (p0 := [0]) (p1 := [1]) (by kernel_rfl) ?_
  refine at_region (by kernel_rfl) sh_refl ?_
  refine chunk (s' := f17_s2 p0_ p1_ p2_) 4 4 (by kernel_rfl) rfl ?_
  refine at_end 4 (by kernel_rfl) ?_
  refine q_seq sh_refl ?_
  refine at_seq (p0 := [1,0]) (p1 := [1,1]) (by kernel_rfl) ?_
  refine at_seq (p0 := [1,0,0]) (p1 := [1,0,1]) (by kernel_rfl) ?_
  refine at_region (by kernel_rfl) sh_refl ?_
  refine chunk (s' := f17_s3 p0_ p1_ p2_) 5 5 (by kernel_rfl) rfl ?_
  refine specG (g := (!(decide (p2_ < 0)))) (gs := [(!(decide (p2_ < 0)))]) (s' := f17_s4 p0_ p1_ p2_) (v := .d (.sl (List.map eGRule p0_.Rules))) (obs := []) 6 (by kernel_rfl) rfl (fun hg => is_pl (by kernel_rfl)) (by kernel_rfl) (impK (fun hh => hh) (impZ)) (by kernel_rfl) rfl ?_
  refine specG (g := (!(decide (p2_ < 0)))) (gs := [(!(decide (p2_ < 0)))]) (s' := f17_s5 p0_ p1_ p2_) (v := .d (.int .i64 ((List.length p0_.Rules : Nat) : Int))) (obs := []) 7 (by kernel_rfl) (by kernel_rfl) (fun hg => is_len (enc := eGRule) (esz := 6) (eb := 64) (ez := [.str [], .nil, .int .u8 0, .int .u8 0, .int .i64 0, .int .i64 0]) (xs := p0_.Rules)) (by kernel_rfl) (impK (fun hh => hh) (impZ)) (by kernel_rfl) rfl ?_
  refine specG (g := (!(decide (p2_ < 0)))) (gs := [(!(decide (p2_ < 0))), (!(decide (p2_ < 0)))]) (s' := f17_s6 p0_ p1_ p2_) (v := .d (.bool (decide (p2_ ≥ ((List.length p0_.Rules : Nat) : Int))))) (obs := []) 8 (by kernel_rfl) rfl (fun hg => is_pl (by kernel_rfl)) (by kernel_rfl) (impK (fun hh => hh) (impK (fun hh => hh) (impZ))) (by kernel_rfl) rfl ?_
  refine specP (s' := f17_s7 p0_ p1_ p2_) 9 (by kernel_rfl) (pick_or (t := decide (p2_ < 0)) (x := true) (y := decide (p2_ ≥ ((List.length p0_.Rules : Nat) : Int)))) (by kernel_rfl) rfl ?_
  refine at_end 9 (by kernel_rfl) ?_
  refine q_seq sh_refl ?_
  rcases ite_some H with ⟨hc9, H⟩ | ⟨hc9, H⟩
  · refine at_condT ((decide (p2_ < 0)) || (decide (p2_ ≥ ((List.length p0_.Rules : Nat) : Int)))) (p0 := [1,0,1,0]) (p1 := [1,0,1,1]) (by kernel_rfl) (by kernel_rfl) hc9 ?_
    refine at_seq (p0 := [1,0,1,0,0]) (p1 := [1,0,1,0,1]) (by kernel_rfl) ?_
    refine at_region (by kernel_rfl) sh_refl ?_
    refine chunk (s' := f17_s8 p0_ p1_ p2_) 3 3 (by kernel_rfl) rfl ?_
    refine at_end 3 (by kernel_rfl) ?_
    refine q_seq sh_refl ?_
    refine at_ret (by kernel_rfl) ?_
    refine q_seqR ?_
    have hz := Option.some.inj H
    subst hz
    exact post_ret (retT (vs := [.agg [.d (.int .i64 0), .d (.int .i64 0), .d (.int .u8 0)], .d (.bool false)]) (l := [.agg [.d (.int .i64 (({ Mode := 0, Last := 0, Need := 0 } : GState).Mode)), .d (.int .i64 (({ Mode := 0, Last := 0, Need := 0 } : GState).Last)), .d (.int .u8 (({ Mode := 0, Last := 0, Need := 0 } : GState).Need))], .d (.bool false)]) (by kernel_rfl) rfl (outT_cons (outA_agg (outC_cons (outV_d) (outC_cons (outV_d) (outC_cons (outV_d) (outC_nil))))) (outT_cons (outA_d (outV_d)) (outT_nil))) [] (by kernel_rfl) (by decide))
  · refine at_condF ((decide (p2_ < 0)) || (decide (p2_ ≥ ((List.length p0_.Rules : Nat) : Int)))) (p0 := [1,0,1,0]) (p1 := [1,0,1,1]) (by kernel_rfl) (by kernel_rfl) hc9 ?_
    refine at_skip (by kernel_rfl) ?_
    refine q_seq sh_refl ?_
    refine at_seq (p0 := [1,1,0]) (p1 := [1,1,1]) (by kernel_rfl) ?_
    refine at_region (by kernel_rfl) sh_refl ?_
    refine chunk (s' := f17_s9 p0_ p1_ p2_) 3 3 (by kernel_rfl) rfl ?_
    obtain ⟨x1, h2, H⟩ := bind_some H
    refine spec (s' := f17_s10 p0_ p1_ p2_ x1) (v := .dptr (eGRule x1) 0) (obs := []) (rm := []) (upd := none) 4 (by kernel_rfl) (is_idxD (enc := eGRule) (esz := 6) (eb := 64) (ez := [.str [], .nil, .int .u8 0, .int .u8 0, .int .i64 0, .int .i64 0]) h2 (by kernel_rfl)) (by kernel_rfl) rfl ?_
    refine chunk (s' := f17_s11 p0_ p1_ p2_ x1) 3 7 (by kernel_rfl) rfl ?_
    refine at_end 7 (by kernel_rfl) ?_
    refine q_seq sh_refl ?_
    refine at_seq (p0 := [1,1,1,0]) (p1 := [1,1,1,1]) (by kernel_rfl) ?_
    refine at_seq (p0 := [1,1,1,0,0]) (p1 := [1,1,1,0,1]) (by kernel_rfl) ?_
    refine at_region (by kernel_rfl) sh_refl ?_
    refine chunk (s' := f17_s12 p0_ p1_ p2_ x1) 7 7 (by kernel_rfl) rfl ?_
    refine specG (g := (!(x1.From != p1_.Mode))) (gs := [(!(x1.From != p1_.Mode))]) (s' := f17_s13 p0_ p1_ p2_ x1) (v := .d (.int .u8 x1.Left)) (obs := []) 8 (by kernel_rfl) rfl (fun hg => is_pl (by kernel_rfl)) (by kernel_rfl) (impK (fun hh => hh) (impZ)) (by kernel_rfl) rfl ?_
    refine chunk (s' := f17_s14 p0_ p1_ p2_ x1) 1 9 (by kernel_rfl) rfl ?_
    refine specG (g := (!(x1.From != p1_.Mode))) (gs := [(!(x1.From != p1_.Mode))]) (s' := f17_s15 p0_ p1_ p2_ x1) (v := .d (.int .i64 p1_.Last)) (obs := []) 10 (by kernel_rfl) rfl (fun hg => is_pl (by kernel_rfl)) (by kernel_rfl) (impK (fun hh => hh) (impZ)) (by kernel_rfl) rfl ?_
    obtain ⟨r1, h3, H⟩ := bind_some H
    refine callG (g := (!(x1.From != p1_.Mode))) (gs := [(!(x1.From != p1_.Mode)), (!(x1.From != p1_.Mode))]) (s' := f17_s16 p0_ p1_ p2_ x1 r1) (f := 51) (xs := [.d (.int .u8 x1.Left), .d (.int .i64 p1_.Last)]) (ys := [.d (.int .u8 x1.Left), .d (.int .i64 p1_.Last)]) (ks := []) (obl := []) (r := .d (.bool r1)) (ls := []) 11 false (by kernel_rfl) (by kernel_rfl) (leZ) rfl (fun hg => FAutomaton_has_ok (gimp h3 hg)) (Or.inl rfl) (by kernel_rfl) (impK (fun hh => hh) (impK (fun hh => hh) (impZ))) rfl (by kernel_rfl) rfl ?_
    refine specG (g := (!(x1.From != p1_.Mode))) (gs := [(!(x1.From != p1_.Mode))]) (s' := f17_s17 p0_ p1_ p2_ x1 r1) (v := .d (.bool (!r1))) (obs := []) 12 (by kernel_rfl) rfl (fun hg => is_pl (by kernel_rfl)) (by kernel_rfl) (impK (fun hh => hh) (impZ)) (by kernel_rfl) rfl ?_
    refine specP (s' := f17_s18 p0_ p1_ p2_ x1 r1) 13 (by kernel_rfl) (pick_or (t := (x1.From != p1_.Mode)) (x := true) (y := (!r1))) (by kernel_rfl) rfl ?_
    refine at_end 13 (by kernel_rfl) ?_
    refine q_seq sh_refl ?_
    rcases ite_some H with ⟨hc8, H⟩ | ⟨hc8, H⟩
    · refine at_condT ((x1.From != p1_.Mode) || (!r1)) (p0 := [1,1,1,0,1,0]) (p1 := [1,1,1,0,1,1]) (by kernel_rfl) (by kernel_rfl) hc8 ?_
      refine at_seq (p0 := [1,1,1,0,1,0,0]) (p1 := [1,1,1,0,1,0,1]) (by kernel_rfl) ?_
      refine at_region (by kernel_rfl) sh_refl ?_
      refine chunk (s' := f17_s19 p0_ p1_ p2_ x1 r1) 3 3 (by kernel_rfl) rfl ?_
      refine at_end 3 (by kernel_rfl) ?_
      refine q_seq sh_refl ?_
      refine at_ret (by kernel_rfl) ?_
      refine q_seqR ?_
      have hz := Option.some.inj H
      subst hz
      exact post_ret (retT (vs := [.agg [.d (.int .i64 0), .d (.int .i64 0), .d (.int .u8 0)], .d (.bool false)]) (l := [.agg [.d (.int .i64 (({ Mode := 0, Last := 0, Need := 0 } : GState).Mode)), .d (.int .i64 (({ Mode := 0, Last := 0, Need := 0 } : GState).Last)), .d (.int .u8 (({ Mode := 0, Last := 0, Need := 0 } : GState).Need))], .d (.bool false)]) (by kernel_rfl) rfl (outT_cons (outA_agg (outC_cons (outV_d) (outC_cons (outV_d) (outC_cons (outV_d) (outC_nil))))) (outT_cons (outA_d (outV_d)) (outT_nil))) [] (by kernel_rfl) (by decide))
    · refine at_condF ((x1.From != p1_.Mode) || (!r1)) (p0 := [1,1,1,0,1,0]) (p1 := [1,1,1,0,1,1]) (by kernel_rfl) (by kernel_rfl) hc8 ?_
      refine at_skip (by kernel_rfl) ?_
      refine q_seq sh_refl ?_
      refine at_seq (p0 := [1,1,1,1,0]) (p1 := [1,1,1,1,1]) (by kernel_rfl) ?_
      refine at_seq (p0 := [1,1,1,1,0,0]) (p1 := [1,1,1,1,0,1]) (by kernel_rfl) ?_
      refine at_region (by kernel_rfl) sh_refl ?_
      refine chunk (s' := f17_s20 p0_ p1_ p2_ x1 r1) 3 3 (by kernel_rfl) rfl ?_
      refine at_end 3 (by kernel_rfl) ?_
      refine q_seq sh_refl ?_
      rcases ite_some H with ⟨hc7, H⟩ | ⟨hc7, H⟩
      · refine at_condT (x1.Print == []) (p0 := [1,1,1,1,0,1,0]) (p1 := [1,1,1,1,0,1,1]) (by kernel_rfl) (by kernel_rfl) hc7 ?_
        refine at_seq (p0 := [1,1,1,1,0,1,0,0]) (p1 := [1,1,1,1,0,1,0,1]) (by kernel_rfl) ?_
        refine at_region (by kernel_rfl) sh_refl ?_
        refine chunk (s' := f17_s21 p0_ p1_ p2_ x1 r1) 6 6 (by kernel_rfl) rfl ?_
        refine at_end 6 (by kernel_rfl) ?_
        refine q_seq sh_refl ?_
        refine at_seq (p0 := [1,1,1,1,0,1,0,1,0]) (p1 := [1,1,1,1,0,1,0,1,1]) (by kernel_rfl) ?_
        refine at_seq (p0 := [1,1,1,1,0,1,0,1,0,0]) (p1 := [1,1,1,1,0,1,0,1,0,1]) (by kernel_rfl) ?_
        refine at_region (by kernel_rfl) sh_refl ?_
        refine chunk (s' := f17_s22 p0_ p1_ p2_ x1 r1) 2 2 (by kernel_rfl) rfl ?_
        refine at_end 2 (by kernel_rfl) ?_
        refine q_seq sh_refl ?_
        rcases ite_some H with ⟨hc5, H⟩ | ⟨hc5, H⟩
        · refine at_condT ((iand .u8 p1_.Need x1.Right) == 0) (p0 := [1,1,1,1,0,1,0,1,0,1,0]) (p1 := [1,1,1,1,0,1,0,1,0,1,1]) (by kernel_rfl) (by kernel_rfl) hc5 ?_
          refine at_seq (p0 := [1,1,1,1,0,1,0,1,0,1,0,0]) (p1 := [1,1,1,1,0,1,0,1,0,1,0,1]) (by kernel_rfl) ?_
          refine at_region (by kernel_rfl) sh_refl ?_
          refine chunk (s' := f17_s23 p0_ p1_ p2_ x1 r1) 3 3 (by kernel_rfl) rfl ?_
          refine at_end 3 (by kernel_rfl) ?_
          refine q_seq sh_refl ?_
          refine at_ret (by kernel_rfl) ?_
          refine q_seqR ?_
          refine q_seqR ?_
          have hz := Option.some.inj H
          subst hz
          exact post_ret (retT (vs := [.agg [.d (.int .i64 0), .d (.int .i64 0), .d (.int .u8 0)], .d (.bool false)]) (l := [.agg [.d (.int .i64 (({ Mode := 0, Last := 0, Need := 0 } : GState).Mode)), .d (.int .i64 (({ Mode := 0, Last := 0, Need := 0 } : GState).Last)), .d (.int .u8 (({ Mode := 0, Last := 0, Need := 0 } : GState).Need))], .d (.bool false)]) (by kernel_rfl) rfl (outT_cons (outA_agg (outC_cons (outV_d) (outC_cons (outV_d) (outC_cons (outV_d) (outC_nil))))) (outT_cons (outA_d (outV_d)) (outT_nil))) [] (by kernel_rfl) (by decide))
        · refine at_condF ((iand .u8 p1_.Need x1.Right) == 0) (p0 := [1,1,1,1,0,1,0,1,0,1,0]) (p1 := [1,1,1,1,0,1,0,1,0,1,1]) (by kernel_rfl) (by kernel_rfl) hc5 ?_
          refine at_skip (by kernel_rfl) ?_
          refine q_seq sh_refl ?_
          refine at_seq (p0 := [1,1,1,1,0,1,0,1,1,0]) (p1 := [1,1,1,1,0,1,0,1,1,1]) (by kernel_rfl) ?_
          refine at_region (by kernel_rfl) sh_refl ?_
          refine chunk (s' := f17_s24 p0_ p1_ p2_ x1 r1) 8 8 (by kernel_rfl) rfl ?_
          refine at_end 8 (by kernel_rfl) ?_
          refine q_seq sh_refl ?_
          refine at_ret (by kernel_rfl) ?_
          refine q_seqR ?_
          have hz := Option.some.inj H
          subst hz
          exact post_ret (retT (vs := [.agg [.d (.int .i64 x1.To), .d (.int .i64 p1_.Last), .d (.int .u8 (iand .u8 p1_.Need x1.Right))], .d (.bool true)]) (l := [.agg [.d (.int .i64 (({ Mode := x1.To, Last := p1_.Last, Need := iand .u8 p1_.Need x1.Right } : GState).Mode)), .d (.int .i64 (({ Mode := x1.To, Last := p1_.Last, Need := iand .u8 p1_.Need x1.Right } : GState).Last)), .d (.int .u8 (({ Mode := x1.To, Last := p1_.Last, Need := iand .u8 p1_.Need x1.Right } : GState).Need))], .d (.bool true)]) (by kernel_rfl) rfl (outT_cons (outA_agg (outC_cons (outV_d) (outC_cons (outV_d) (outC_cons (outV_d) (outC_nil))))) (outT_cons (outA_d (outV_d)) (outT_nil))) [] (by kernel_rfl) (by decide))
      · refine at_condF (x1.Print == []) (p0 := [1,1,1,1,0,1,0]) (p1 := [1,1,1,1,0,1,1]) (by kernel_rfl) (by kernel_rfl) hc7 ?_
        refine at_skip (by kernel_rfl) ?_
        refine q_seq sh_refl ?_
        refine at_seq (p0 := [1,1,1,1,1,0]) (p1 := [1,1,1,1,1,1]) (by kernel_rfl) ?_
        refine at_seq (p0 := [1,1,1,1,1,0,0]) (p1 := [1,1,1,1,1,0,1]) (by kernel_rfl) ?_
        refine at_region (by kernel_rfl) sh_refl ?_
        refine chunk (s' := f17_s25 p0_ p1_ p2_ x1 r1) 4 4 (by kernel_rfl) rfl ?_
        obtain ⟨b1, h4, H⟩ := bind_some H
        refine spec (s' := f17_s26 p0_ p1_ p2_ x1 r1 b1) (v := .d (.int .u8 b1)) (obs := []) (rm := []) (upd := none) 5 (by kernel_rfl) (is_sidx h4) (by kernel_rfl) rfl ?_
        obtain ⟨r2, h5, H⟩ := bind_some H
        refine callS (s' := f17_s27 p0_ p1_ p2_ x1 r1 b1 r2) (f := 52) (xs := [.d (.int .u8 b1)]) (ys := [.d (.int .u8 b1)]) (ks := []) (obl := []) (r := .d (.int .i64 r2)) (ls := []) 6 false (by kernel_rfl) (leZ) rfl (FTable_Class_ok h5) (Or.inl rfl) rfl (by kernel_rfl) rfl ?_
        obtain ⟨r3, h6, H⟩ := bind_some H
        refine callS (s' := f17_s28 p0_ p1_ p2_ x1 r1 b1 r2 r3) (f := 51) (xs := [.d (.int .u8 p1_.Need), .d (.int .i64 r2)]) (ys := [.d (.int .u8 p1_.Need), .d (.int .i64 r2)]) (ks := []) (obl := []) (r := .d (.bool r3)) (ls := []) 7 false (by kernel_rfl) (leZ) rfl (FAutomaton_has_ok h6) (Or.inl rfl) rfl (by kernel_rfl) rfl ?_
        refine chunk (s' := f17_s29 p0_ p1_ p2_ x1 r1 b1 r2 r3) 1 8 (by kernel_rfl) rfl ?_
        refine at_end 8 (by kernel_rfl) ?_
        refine q_seq sh_refl ?_
        rcases ite_some H with ⟨hc6, H⟩ | ⟨hc6, H⟩
        · refine at_condT (!r3) (p0 := [1,1,1,1,1,0,1,0]) (p1 := [1,1,1,1,1,0,1,1]) (by kernel_rfl) (by kernel_rfl) hc6 ?_
          refine at_seq (p0 := [1,1,1,1,1,0,1,0,0]) (p1 := [1,1,1,1,1,0,1,0,1]) (by kernel_rfl) ?_
          refine at_region (by kernel_rfl) sh_refl ?_
          refine chunk (s' := f17_s30 p0_ p1_ p2_ x1 r1 b1 r2 r3) 3 3 (by kernel_rfl) rfl ?_
          refine at_end 3 (by kernel_rfl) ?_
          refine q_seq sh_refl ?_
          refine at_ret (by kernel_rfl) ?_
          refine q_seqR ?_
          have hz := Option.some.inj H
          subst hz
          exact post_ret (retT (vs := [.agg [.d (.int .i64 0), .d (.int .i64 0), .d (.int .u8 0)], .d (.bool false)]) (l := [.agg [.d (.int .i64 (({ Mode := 0, Last := 0, Need := 0 } : GState).Mode)), .d (.int .i64 (({ Mode := 0, Last := 0, Need := 0 } : GState).Last)), .d (.int .u8 (({ Mode := 0, Last := 0, Need := 0 } : GState).Need))], .d (.bool false)]) (by kernel_rfl) rfl (outT_cons (outA_agg (outC_cons (outV_d) (outC_cons (outV_d) (outC_cons (outV_d) (outC_nil))))) (outT_cons (outA_d (outV_d)) (outT_nil))) [] (by kernel_rfl) (by decide))
        · refine at_condF (!r3) (p0 := [1,1,1,1,1,0,1,0]) (p1 := [1,1,1,1,1,0,1,1]) (by kernel_rfl) (by kernel_rfl) hc6 ?_
          refine at_skip (by kernel_rfl) ?_
          refine q_seq sh_refl ?_
          refine at_seq (p0 := [1,1,1,1,1,1,0]) (p1 := [1,1,1,1,1,1,1]) (by kernel_rfl) ?_
          refine at_region (by kernel_rfl) sh_refl ?_
          refine chunk (s' := f17_s31 p0_ p1_ p2_ x1 r1 b1 r2 r3) 8 8 (by kernel_rfl) rfl ?_
          obtain ⟨b2, h7, H⟩ := bind_some H
          refine spec (s' := f17_s32 p0_ p1_ p2_ x1 r1 b1 r2 r3 b2) (v := .d (.int .u8 b2)) (obs := []) (rm := []) (upd := none) 9 (by kernel_rfl) (is_sidx h7) (by kernel_rfl) rfl ?_
          obtain ⟨r4, h8, H⟩ := bind_some H
          refine callS (s' := f17_s33 p0_ p1_ p2_ x1 r1 b1 r2 r3 b2 r4) (f := 52) (xs := [.d (.int .u8 b2)]) (ys := [.d (.int .u8 b2)]) (ks := []) (obl := []) (r := .d (.int .i64 r4)) (ls := []) 10 false (by kernel_rfl) (leZ) rfl (FTable_Class_ok h8) (Or.inl rfl) rfl (by kernel_rfl) rfl ?_
          refine chunk (s' := f17_s34 p0_ p1_ p2_ x1 r1 b1 r2 r3 b2 r4) 5 15 (by kernel_rfl) rfl ?_
          refine at_end 15 (by kernel_rfl) ?_
          refine q_seq sh_refl ?_
          refine at_ret (by kernel_rfl) ?_
          have hz := Option.some.inj H
          subst hz
          exact post_ret (retT (vs := [.agg [.d (.int .i64 x1.To), .d (.int .i64 r4), .d (.int .u8 x1.Right)], .d (.bool true)]) (l := [.agg [.d (.int .i64 (({ Mode := x1.To, Last := r4, Need := x1.Right } : GState).Mode)), .d (.int .i64 (({ Mode := x1.To, Last := r4, Need := x1.Right } : GState).Last)), .d (.int .u8 (({ Mode := x1.To, Last := r4, Need := x1.Right } : GState).Need))], .d (.bool true)]) (by kernel_rfl) rfl (outT_cons (outA_agg (outC_cons (outV_d) (outC_cons (outV_d) (outC_cons (outV_d) (outC_nil))))) (outT_cons (outA_d (outV_d)) (outT_nil))) [] (by kernel_rfl) (by decide))
end
section
variable (p0_ : GTable) (p1_ : GState)
def f19_s1 : St := ⟨(0, .agg [.d (.int .i64 p0_.Modes), .d (.int .u8 p0_.Accept), .d (.sl (List.map eGRule p0_.Rules))]) :: (1, .agg [.d (.int .i64 p1_.Mode), .d (.int .i64 p1_.Last), .d (.int .u8 p1_.Need)]) :: [], []⟩
def f19_s2 : St := po (f19_s1 p0_ p1_) [(4, .d (.bool false)), (3, .ptr 1 0), (2, .ptr 0 0)] fun _ => [some (.box [.d (.int .i64 p0_.Modes), .d (.int .u8 p0_.Accept), .d (.sl (List.map eGRule p0_.Rules))]), some (.box [.d (.int .i64 p1_.Mode), .d (.int .i64 p1_.Last), .d (.int .u8 p1_.Need)])]
def f19_s3 : St := pe (f19_s2 p0_ p1_) [(11, .gv (decide (p1_.Mode < p0_.Modes)) (.ptr 0 1)), (10, .d (.bool (decide (p1_.Mode < p0_.Modes)))), (9, .d (.bool (decide (p1_.Mode < p0_.Modes)))), (8, .d (.int .i64 p0_.Modes)), (7, .ptr 0 0), (6, .d (.int .i64 p1_.Mode)), (5, .ptr 1 0)]
def f19_s4 : St := pe (f19_s3 p0_ p1_) [(12, .gv (decide (p1_.Mode < p0_.Modes)) (.d (.int .u8 p0_.Accept)))]
def f19_s5 : St := pe (f19_s4 p0_ p1_) [(13, .gv (decide (p1_.Mode < p0_.Modes)) (.ptr 1 0))]
def f19_s6 : St := pe (f19_s5 p0_ p1_) [(14, .gv (decide (p1_.Mode < p0_.Modes)) (.d (.int .i64 p1_.Mode)))]
variable (r5 : Bool)
def f19_s7 : St := pe (f19_s6 p0_ p1_) [(15, .gv (decide (p1_.Mode < p0_.Modes)) (.d (.bool r5)))]
def f19_s8 : St := pe (f19_s7 p0_ p1_ r5) [(16, .d (.bool ((decide (p1_.Mode < p0_.Modes)) && r5)))]
def f19_s9 : St := pe (f19_s8 p0_ p1_ r5) [(18, .gv ((decide (p1_.Mode < p0_.Modes)) && r5) (.ptr 1 2)), (17, .d (.bool ((decide (p1_.Mode < p0_.Modes)) && r5)))]
def f19_s10 : St := pe (f19_s9 p0_ p1_ r5) [(19, .gv ((decide (p1_.Mode < p0_.Modes)) && r5) (.d (.int .u8 p1_.Need)))]
variable (r6 : Bool)
def f19_s11 : St := pe (f19_s10 p0_ p1_ r5) [(20, .gv ((decide (p1_.Mode < p0_.Modes)) && r5) (.d (.bool r6)))]
def f19_s12 : St := pe (f19_s11 p0_ p1_ r5 r6) [(21, .d (.bool (((decide (p1_.Mode < p0_.Modes)) && r5) && r6)))]
def f19_s13 : St := pe (f19_s12 p0_ p1_ r5 r6) [(4, .d (.bool (((decide (p1_.Mode < p0_.Modes)) && r5) && r6)))]
theorem FAutomaton_Accepts_ok {n : Nat} {p0_ : GTable} {p1_ : GState} {z : Bool} (H : FAutomaton_Accepts n p0_ p1_ = some z) : CallOK Try.prog 19 [.agg [.d (.int .i64 p0_.Modes), .d (.int .u8 p0_.Accept), .d (.sl (List.map eGRule p0_.Rules))], .agg [.d (.int .i64 p1_.Mode), .d (.int .i64 p1_.Last), .d (.int .u8 p1_.Need)]] (.d (.bool z)) := by
  dsimp only [FAutomaton_Accepts] at H
  refine fn_ok (Γ := cx 22) (s := f19_s1 p0_ p1_) follows (cxOK 22) Try.func19 (by kernel_rfl) (by kernel_rfl) (by kernel_rfl) (by kernel_rfl) (by kernel_rfl) (by kernel_rfl) ?_
  refine at_seq (p0 := [0]) (p1 := [1]) (by kernel_rfl) ?_
  refine at_region (by kernel_rfl) sh_refl ?_
  refine chunk (s' := f19_s2 p0_ p1_) 3 3 (by kernel_rfl) rfl ?_
  refine at_end 3 (by kernel_rfl) ?_
  refine q_seq sh_refl ?_
  refine at_seq (p0 := [1,0]) (p1 := [1,1]) (by kernel_rfl) ?_
  refine at_region (by kernel_rfl) sh_refl ?_
  refine chunk (s' := f19_s3 p0_ p1_) 7 7 (by kernel_rfl) rfl ?_
  refine specG (g := decide (p1_.Mode < p0_.Modes)) (gs := [decide (p1_.Mode < p0_.Modes)]) (s' := f19_s4 p0_ p1_) (v := .d (.int .u8 p0_.Accept)) (obs := []) 8 (by kernel_rfl) rfl (fun hg => is_pl (by kernel_rfl)) (by kernel_rfl) (impK (fun hh => hh) (impZ)) (by kernel_rfl) rfl ?_
  refine chunk (s' := f19_s5 p0_ p1_) 1 9 (by kernel_rfl) rfl ?_
  refine specG (g := decide (p1_.Mode < p0_.Modes)) (gs := [decide (p1_.Mode < p0_.Modes)]) (s' := f19_s6 p0_ p1_) (v := .d (.int .i64 p1_.Mode)) (obs := []) 10 (by kernel_rfl) rfl (fun hg => is_pl (by kernel_rfl)) (by kernel_rfl) (impK (fun hh => hh) (impZ)) (by kernel_rfl) rfl ?_
  obtain ⟨r5, h9, H⟩ := bind_some H
  refine callG (g := decide (p1_.Mode < p0_.Modes)) (gs := [decide (p1_.Mode < p0_.Modes), decide (p1_.Mode < p0_.Modes)]) (s' := f19_s7 p0_ p1_ r5) (f := 51) (xs := [.d (.int .u8 p0_.Accept), .d (.int .i64 p1_.Mode)]) (ys := [.d (.int .u8 p0_.Accept), .d (.int .i64 p1_.Mode)]) (ks := []) (obl := []) (r := .d (.bool r5)) (ls := []) 11 false (by kernel_rfl) (by kernel_rfl) (leZ) rfl (fun hg => FAutomaton_has_ok (gimp h9 hg)) (Or.inl rfl) (by kernel_rfl) (impK (fun hh => hh) (impK (fun hh => hh) (impZ))) rfl (by kernel_rfl) rfl ?_
  refine specP (s' := f19_s8 p0_ p1_ r5) 12 (by kernel_rfl) (pick_and (t := decide (p1_.Mode < p0_.Modes)) (x := r5) (y := false)) (by kernel_rfl) rfl ?_
  refine chunk (s' := f19_s9 p0_ p1_ r5) 2 14 (by kernel_rfl) rfl ?_
  refine specG (g := ((decide (p1_.Mode < p0_.Modes)) && r5)) (gs := [((decide (p1_.Mode < p0_.Modes)) && r5)]) (s' := f19_s10 p0_ p1_ r5) (v := .d (.int .u8 p1_.Need)) (obs := []) 15 (by kernel_rfl) rfl (fun hg => is_pl (by kernel_rfl)) (by kernel_rfl) (impK (fun hh => hh) (impZ)) (by kernel_rfl) rfl ?_
  obtain ⟨r6, h10, H⟩ := bind_some H
  refine callG (g := ((decide (p1_.Mode < p0_.Modes)) && r5)) (gs := [((decide (p1_.Mode < p0_.Modes)) && r5)]) (s' := f19_s11 p0_ p1_ r5 r6) (f := 51) (xs := [.d (.int .u8 p1_.Need), .d (.int .i64 0)]) (ys := [.d (.int .u8 p1_.Need), .d (.int .i64 0)]) (ks := []) (obl := []) (r := .d (.bool r6)) (ls := []) 16 false (by kernel_rfl) (by kernel_rfl) (leZ) rfl (fun hg => FAutomaton_has_ok (gimp h10 hg)) (Or.inl rfl) (by kernel_rfl) (impK (fun hh => hh) (impZ)) rfl (by kernel_rfl) rfl ?_
  refine specP (s' := f19_s12 p0_ p1_ r5 r6) 17 (by kernel_rfl) (pick_and (t := ((decide (p1_.Mode < p0_.Modes)) && r5)) (x := r6) (y := false)) (by kernel_rfl) rfl ?_
  refine chunk (s' := f19_s13 p0_ p1_ r5 r6) 1 18 (by kernel_rfl) rfl ?_
  refine at_end 18 (by kernel_rfl) ?_
  refine q_seq sh_refl ?_
  refine at_ret (by kernel_rfl) ?_
  have hz := Option.some.inj H
  subst hz
  exact post_ret (ret1 (v := .d (.bool (((decide (p1_.Mode < p0_.Modes)) && r5) && r6))) (r := .d (.bool (((decide (p1_.Mode < p0_.Modes)) && r5) && r6))) [] (by kernel_rfl) (outA_d (outV_d)) (by kernel_rfl) (by decide))
end
section
variable (p0_ : GTable) (p1_ : (List Int))
def f22_s1 : St := ⟨(0, .agg [.d (.int .i64 p0_.Modes), .d (.int .u8 p0_.Accept), .d (.sl (List.map eGRule p0_.Rules))]) :: (1, .d (.sl (List.map eI64 p1_))) :: [], []⟩
def f22_s2 : St := po (f22_s1 p0_ p1_) [(4, .ptr 1 0), (2, .ptr 0 0)] fun _ => [some (.box [.d (.int .i64 p0_.Modes), .d (.int .u8 p0_.Accept), .d (.sl (List.map eGRule p0_.Rules))]), some (.box [.d (.str []), .d (.nil), .d (.int .i64 0), .d (.int .i64 0), .d (.int .i64 0), .d (.int .u8 0), .d (.bool false)])]
def f22_s3 : St := pe (f22_s2 p0_ p1_) [(5, .d (.nil))]
def f22_s4 : St := pe (f22_s3 p0_ p1_) [(6, .d (.nil))]
variable (r7 : GState)
def f22_s5 : St := pe (f22_s4 p0_ p1_) [(13, .agg [.d (.int .i64 r7.Mode), .d (.int .i64 r7.Last), .d (.int .u8 r7.Need)])]
def f22_s6 : St := po (f22_s5 p0_ p1_ r7) [(8, .d (.int .i64 0)), (7, .ptr 2 0)] fun o => o ++ [some (.box [.d (.int .i64 r7.Mode), .d (.int .i64 r7.Last), .d (.int .u8 r7.Need)])]
def f22_s7 : St := pe (f22_s6 p0_ p1_ r7) [(14, .d (.sl (List.map eI64 p1_)))]
def f22_s8 : St := pe (f22_s7 p0_ p1_ r7) [(15, .d (.int .i64 ((List.length p1_ : Nat) : Int)))]
def f22_s9 : St := pe (f22_s8 p0_ p1_ r7) [(16, .d (.int .i64 0))]
variable (text_1 : (List Int)) (cells_1 : (List Int)) (s_1 : GState) (at_1 : Int) (x_1 : Int)
def f22_s10 : St := ⟨(1, .d (.sl (List.map eI64 p1_))) :: (2, .ptr 0 0) :: (4, .ptr 1 0) :: (5, .osl 2 1 0 (List.length text_1)) :: (6, .osl 3 1 0 (List.length cells_1)) :: (7, .ptr 4 0) :: (8, .d (.int .i64 at_1)) :: (14, .d (.sl (List.map eI64 p1_))) :: (15, .d (.int .i64 ((List.length p1_ : Nat) : Int))) :: (16, .d (.int .i64 x_1)) :: [], [some (.box [.d (.int .i64 p0_.Modes), .d (.int .u8 p0_.Accept), .d (.sl (List.map eGRule p0_.Rules))]), some (.box [.d (.str []), .osl 5 1 0 (List.length ([] : List Int)), .d (.int .i64 0), .d (.int .i64 0), .d (.int .i64 0), .d (.int .u8 0), .d (.bool false)]), some (.arr 1 (List.map eU8 text_1)), some (.arr 1 (List.map eU8 cells_1)), some (.box [.d (.int .i64 s_1.Mode), .d (.int .i64 s_1.Last), .d (.int .u8 s_1.Need)]), some (.arr 1 (List.map eU8 ([] : List Int)))]⟩
variable (text_2 : (List Int)) (cells_2 : (List Int)) (s_2 : GState) (at_2 : Int)
def f22_s11 : St := ⟨(1, .d (.sl (List.map eI64 p1_))) :: (2, .ptr 0 0) :: (4, .ptr 1 0) :: (5, .osl 2 1 0 (List.length text_2)) :: (6, .osl 3 1 0 (List.length cells_2)) :: (7, .ptr 4 0) :: (8, .d (.int .i64 at_2)) :: [], [some (.box [.d (.int .i64 p0_.Modes), .d (.int .u8 p0_.Accept), .d (.sl (List.map eGRule p0_.Rules))]), some (.box [.d (.str []), .osl 5 1 0 (List.length ([] : List Int)), .d (.int .i64 0), .d (.int .i64 0), .d (.int .i64 0), .d (.int .u8 0), .d (.bool false)]), some (.arr 1 (List.map eU8 text_2)), some (.arr 1 (List.map eU8 cells_2)), some (.box [.d (.int .i64 s_2.Mode), .d (.int .i64 s_2.Last), .d (.int .u8 s_2.Need)]), some (.arr 1 (List.map eU8 ([] : List Int)))]⟩
def f22_s12 : St := pe (f22_s10 p0_ p1_ text_1 cells_1 s_1 at_1 x_1) [(17, .d (.bool (decide (x_1 < ((List.length p1_ : Nat) : Int)))))]
variable (x2 : Int)
def f22_s13 : St := pe (f22_s12 p0_ p1_ text_1 cells_1 s_1 at_1 x_1) [(18, .dptr (eI64 x2) 0)]
def f22_s14 : St := pe (f22_s13 p0_ p1_ text_1 cells_1 s_1 at_1 x_1 x2) [(10, .d (.int .i64 x2)), (19, .d (.int .i64 x2))]
def f22_s15 : St := pe (f22_s14 p0_ p1_ text_1 cells_1 s_1 at_1 x_1 x2) [(23, .d (.int .i64 x2)), (22, .agg [.d (.int .i64 s_1.Mode), .d (.int .i64 s_1.Last), .d (.int .u8 s_1.Need)]), (21, .agg [.d (.int .i64 p0_.Modes), .d (.int .u8 p0_.Accept), .d (.sl (List.map eGRule p0_.Rules))])]
variable (r8 : (GState × Bool))
def f22_s16 : St := pe (f22_s15 p0_ p1_ text_1 cells_1 s_1 at_1 x_1 x2) [(24, .tup [.agg [.d (.int .i64 r8.1.Mode), .d (.int .i64 r8.1.Last), .d (.int .u8 r8.1.Need)], .d (.bool r8.2)])]
def f22_s17 : St := po (f22_s16 p0_ p1_ text_1 cells_1 s_1 at_1 x_1 x2 r8) [(12, .d (.bool r8.2)), (11, .ptr 6 0), (26, .d (.bool r8.2)), (25, .agg [.d (.int .i64 r8.1.Mode), .d (.int .i64 r8.1.Last), .d (.int .u8 r8.1.Need)]), (20, .tup [.agg [.d (.int .i64 r8.1.Mode), .d (.int .i64 r8.1.Last), .d (.int .u8 r8.1.Need)], .d (.bool r8.2)])] fun o => o ++ [some (.box [.d (.int .i64 r8.1.Mode), .d (.int .i64 r8.1.Last), .d (.int .u8 r8.1.Need)])]
def f22_s18 : St := pe (f22_s17 p0_ p1_ text_1 cells_1 s_1 at_1 x_1 x2 r8) [(28, .d (.bool (!r8.2))), (27, .d (.bool r8.2))]
def f22_s19 : St := pe (f22_s18 p0_ p1_ text_1 cells_1 s_1 at_1 x_1 x2 r8) [(32, .d (.int .i64 x2)), (31, .d (.sl (List.map eGRule p0_.Rules))), (30, .ptr 0 2), (29, .osl 2 1 0 (List.length text_1))]
variable (x3 : GRule)
def f22_s20 : St := pe (f22_s19 p0_ p1_ text_1 cells_1 s_1 at_1 x_1 x2 r8) [(33, .dptr (eGRule x3) 0)]
def f22_s21 : St := pe (f22_s20 p0_ p1_ text_1 cells_1 s_1 at_1 x_1 x2 r8 x3) [(35, .d (.str x3.Print)), (34, .dptr (eGRule x3) 0)]
variable (l1 : (List Int))
def f22_s22 : St := po (f22_s21 p0_ p1_ text_1 cells_1 s_1 at_1 x_1 x2 r8 x3) [(36, .osl 7 1 0 (List.length l1))] fun o => o.set 2 none ++ [some (.arr 1 (List.map eU8 l1))]
def f22_s23 : St := pe (f22_s22 p0_ p1_ text_1 cells_1 s_1 at_1 x_1 x2 r8 x3 l1) [(5, .osl 7 1 0 (List.length l1))]
def f22_s24 : St := pe (f22_s23 p0_ p1_ text_1 cells_1 s_1 at_1 x_1 x2 r8 x3 l1) [(40, .d (.int .i64 x2)), (39, .d (.sl (List.map eGRule p0_.Rules))), (38, .ptr 0 2), (37, .osl 3 1 0 (List.length cells_1))]
variable (x4 : GRule)
def f22_s25 : St := pe (f22_s24 p0_ p1_ text_1 cells_1 s_1 at_1 x_1 x2 r8 x3 l1) [(41, .dptr (eGRule x4) 0)]
def f22_s26 : St := pe (f22_s25 p0_ p1_ text_1 cells_1 s_1 at_1 x_1 x2 r8 x3 l1 x4) [(43, .d (.sl (List.map eU8 x4.Cells))), (42, .dptr (eGRule x4) 1)]
variable (l2 : (List Int))
def f22_s27 : St := po (f22_s26 p0_ p1_ text_1 cells_1 s_1 at_1 x_1 x2 r8 x3 l1 x4) [(44, .osl 8 1 0 (List.length l2))] fun o => o.set 3 none ++ [some (.arr 1 (List.map eU8 l2))]
def f22_s28 : St := pe (f22_s27 p0_ p1_ text_1 cells_1 s_1 at_1 x_1 x2 r8 x3 l1 x4 l2) [(6, .osl 8 1 0 (List.length l2))]
def f22_s29 : St := po (f22_s28 p0_ p1_ text_1 cells_1 s_1 at_1 x_1 x2 r8 x3 l1 x4 l2) [(45, .agg [.d (.int .i64 r8.1.Mode), .d (.int .i64 r8.1.Last), .d (.int .u8 r8.1.Need)])] fun o => o.set 4 (some (.box [.d (.int .i64 r8.1.Mode), .d (.int .i64 r8.1.Last), .d (.int .u8 r8.1.Need)]))
def f22_s30 : St := pe (f22_s29 p0_ p1_ text_1 cells_1 s_1 at_1 x_1 x2 r8 x3 l1 x4 l2) [(8, .d (.int .i64 (iadd .i64 at_1 1))), (47, .d (.int .i64 (iadd .i64 at_1 1))), (46, .d (.int .i64 at_1))]
def f22_s31 : St := pe (f22_s30 p0_ p1_ text_1 cells_1 s_1 at_1 x_1 x2 r8 x3 l1 x4 l2) [(16, .d (.int .i64 (iadd .i64 x_1 1))), (48, .d (.int .i64 (iadd .i64 x_1 1)))]
def f22_L1_E (p0_ : GTable) (p1_ : (List Int)) : ((List Int) × (List Int) × GState × Int) → Ex → St → Prop := fun (y : ((List Int) × (List Int) × GState × Int)) e s => e = Ex.exit 0 ∧ Shift s (f22_s11 p0_ p1_ y.1 y.2.1 y.2.2.1 y.2.2.2)
theorem f22_L1_ok {n : Nat} {p0_ : GTable} {p1_ : (List Int)} (x : ((List Int) × (List Int) × GState × Int × Int)) (z : (((List Int) × (List Int) × GState × Int × Int) ⊕ ((List Int) × (List Int) × GState × Int))) (H : f22_L1 n p0_ p1_ x.1 x.2.1 x.2.2.1 x.2.2.2.1 x.2.2.2.2 = some z) : wpA (cx 64) (nav [1,1,1,1,0,1,0,0] (bodyOf Try.f22)) (roundQ (fun (x : ((List Int) × (List Int) × GState × Int × Int)) => f22_s10 p0_ p1_ x.1 x.2.1 x.2.2.1 x.2.2.2.1 x.2.2.2.2) (f22_L1_E p0_ p1_) z) (f22_s10 p0_ p1_ x.1 x.2.1 x.2.2.1 x.2.2.2.1 x.2.2.2.2) := by
  obtain ⟨text_1, cells_1, s_1, at_1, x_1⟩ := x
  dsimp only [f22_L1] at H
  refine at_seq (p0 := [1,1,1,1,0,1,0,0,0]) (p1 := [1,1,1,1,0,1,0,0,1]) (by kernel_rfl) ?_
  refine at_region (by kernel_rfl) sh_refl ?_
  refine chunk (s' := f22_s12 p0_ p1_ text_1 cells_1 s_1 at_1 x_1) 1 1 (by kernel_rfl) rfl ?_
  refine at_end 1 (by kernel_rfl) ?_
  refine q_seq sh_refl ?_
  refine at_seq (p0 := [1,1,1,1,0,1,0,0,1,0]) (p1 := [1,1,1,1,0,1,0,0,1,1]) (by kernel_rfl) ?_
  rcases ite_some H with ⟨hc11, H⟩ | ⟨hc11, H⟩
  · refine at_condT (decide (x_1 < ((List.length p1_ : Nat) : Int))) (p0 := [1,1,1,1,0,1,0,0,1,0,0]) (p1 := [1,1,1,1,0,1,0,0,1,0,1]) (by kernel_rfl) (by kernel_rfl) hc11 ?_
    refine at_skip (by kernel_rfl) ?_
    refine q_seq sh_refl ?_
    refine at_seq (p0 := [1,1,1,1,0,1,0,0,1,1,0]) (p1 := [1,1,1,1,0,1,0,0,1,1,1]) (by kernel_rfl) ?_
    refine at_block 1 (p0 := [1,1,1,1,0,1,0,0,1,1,0,0]) (by kernel_rfl) ?_
    refine at_seq (p0 := [1,1,1,1,0,1,0,0,1,1,0,0,0]) (p1 := [1,1,1,1,0,1,0,0,1,1,0,0,1]) (by kernel_rfl) ?_
    refine at_region (by kernel_rfl) sh_refl ?_
    obtain ⟨x2, h12, H⟩ := bind_some H
    refine spec (s' := f22_s13 p0_ p1_ text_1 cells_1 s_1 at_1 x_1 x2) (v := .dptr (eI64 x2) 0) (obs := []) (rm := []) (upd := none) 1 (by kernel_rfl) (is_idxD (enc := eI64) (esz := 1) (eb := 8) (ez := [.int .i64 0]) h12 (by kernel_rfl)) (by kernel_rfl) rfl ?_
    refine chunk (s' := f22_s14 p0_ p1_ text_1 cells_1 s_1 at_1 x_1 x2) 2 3 (by kernel_rfl) rfl ?_
    refine at_end 3 (by kernel_rfl) ?_
    refine q_seq sh_refl ?_
    refine at_seq (p0 := [1,1,1,1,0,1,0,0,1,1,0,0,1,0]) (p1 := [1,1,1,1,0,1,0,0,1,1,0,0,1,1]) (by kernel_rfl) ?_
    refine at_region (by kernel_rfl) sh_refl ?_
    refine chunk (s' := f22_s15 p0_ p1_ text_1 cells_1 s_1 at_1 x_1 x2) 3 3 (by kernel_rfl) rfl ?_
    obtain ⟨r8, h13, H⟩ := bind_some H
    refine callS (s' := f22_s16 p0_ p1_ text_1 cells_1 s_1 at_1 x_1 x2 r8) (f := 17) (xs := [.agg [.d (.int .i64 p0_.Modes), .d (.int .u8 p0_.Accept), .d (.sl (List.map eGRule p0_.Rules))], .agg [.d (.int .i64 s_1.Mode), .d (.int .i64 s_1.Last), .d (.int .u8 s_1.Need)], .d (.int .i64 x2)]) (ys := [.agg [.d (.int .i64 p0_.Modes), .d (.int .u8 p0_.Accept), .d (.sl (List.map eGRule p0_.Rules))], .agg [.d (.int .i64 s_1.Mode), .d (.int .i64 s_1.Last), .d (.int .u8 s_1.Need)], .d (.int .i64 x2)]) (ks := []) (obl := []) (r := .tup [.agg [.d (.int .i64 r8.1.Mode), .d (.int .i64 r8.1.Last), .d (.int .u8 r8.1.Need)], .d (.bool r8.2)]) (ls := []) 4 false (by kernel_rfl) (leZ) rfl (FAutomaton_Step_ok h13) (Or.inl rfl) rfl (by kernel_rfl) rfl ?_
    refine chunk (s' := f22_s17 p0_ p1_ text_1 cells_1 s_1 at_1 x_1 x2 r8) 6 10 (by kernel_rfl) rfl ?_
    refine at_end 10 (by kernel_rfl) ?_
    refine q_seq sh_refl ?_
    refine at_seq (p0 := [1,1,1,1,0,1,0,0,1,1,0,0,1,1,0]) (p1 := [1,1,1,1,0,1,0,0,1,1,0,0,1,1,1]) (by kernel_rfl) ?_
    refine at_seq (p0 := [1,1,1,1,0,1,0,0,1,1,0,0,1,1,0,0]) (p1 := [1,1,1,1,0,1,0,0,1,1,0,0,1,1,0,1]) (by kernel_rfl) ?_
    refine at_region (by kernel_rfl) sh_refl ?_
    refine chunk (s' := f22_s18 p0_ p1_ text_1 cells_1 s_1 at_1 x_1 x2 r8) 2 2 (by kernel_rfl) rfl ?_
    refine at_end 2 (by kernel_rfl) ?_
    refine q_seq sh_refl ?_
    rcases ite_some H with ⟨hc10, H⟩ | ⟨hc10, H⟩
    · refine at_condT (!r8.2) (p0 := [1,1,1,1,0,1,0,0,1,1,0,0,1,1,0,1,0]) (p1 := [1,1,1,1,0,1,0,0,1,1,0,0,1,1,0,1,1]) (by kernel_rfl) (by kernel_rfl) hc10 ?_
      refine at_exit 0 (by kernel_rfl) ?_
      refine q_seqX ?_
      refine q_blockX rfl ?_
      refine q_seqX ?_
      have hz := Option.some.inj H
      subst hz
      exact round_exit ⟨rfl, sh_gc [1,2,4,5,6,7,8] (by kernel_rfl)⟩
    · refine at_condF (!r8.2) (p0 := [1,1,1,1,0,1,0,0,1,1,0,0,1,1,0,1,0]) (p1 := [1,1,1,1,0,1,0,0,1,1,0,0,1,1,0,1,1]) (by kernel_rfl) (by kernel_rfl) hc10 ?_
      refine at_skip (by kernel_rfl) ?_
      refine q_seq sh_refl ?_
      refine at_seq (p0 := [1,1,1,1,0,1,0,0,1,1,0,0,1,1,1,0]) (p1 := [1,1,1,1,0,1,0,0,1,1,0,0,1,1,1,1]) (by kernel_rfl) ?_
      refine at_region (by kernel_rfl) sh_refl ?_
      refine chunk (s' := f22_s19 p0_ p1_ text_1 cells_1 s_1 at_1 x_1 x2 r8) 4 4 (by kernel_rfl) rfl ?_
      obtain ⟨x3, h14, H⟩ := bind_some H
      refine spec (s' := f22_s20 p0_ p1_ text_1 cells_1 s_1 at_1 x_1 x2 r8 x3) (v := .dptr (eGRule x3) 0) (obs := []) (rm := []) (upd := none) 5 (by kernel_rfl) (is_idxD (enc := eGRule) (esz := 6) (eb := 64) (ez := [.str [], .nil, .int .u8 0, .int .u8 0, .int .i64 0, .int .i64 0]) h14 (by kernel_rfl)) (by kernel_rfl) rfl ?_
      refine chunk (s' := f22_s21 p0_ p1_ text_1 cells_1 s_1 at_1 x_1 x2 r8 x3) 2 7 (by kernel_rfl) rfl ?_
      obtain ⟨l1, h15, H⟩ := bind_some H
      refine spec (s' := f22_s22 p0_ p1_ text_1 cells_1 s_1 at_1 x_1 x2 r8 x3 l1) (v := .osl 7 1 0 (List.length l1)) (obs := [.arr 1 (List.map eU8 l1)]) (rm := [2]) (upd := none) 8 (by kernel_rfl) (is_app (enc := eU8) (objs := (f22_s21 p0_ p1_ text_1 cells_1 s_1 at_1 x_1 x2 r8 x3).objs) (esz := 1) (eb := 1) (ob := True) (k := 2) (by kernel_rfl) bytes_map (fun _ => rfl) trivial h15) (by kernel_rfl) rfl ?_
      refine chunk (s' := f22_s23 p0_ p1_ text_1 cells_1 s_1 at_1 x_1 x2 r8 x3 l1) 1 9 (by kernel_rfl) rfl ?_
      refine at_end 9 (by kernel_rfl) ?_
      refine q_seq sh_refl ?_
      refine at_seq (p0 := [1,1,1,1,0,1,0,0,1,1,0,0,1,1,1,1,0]) (p1 := [1,1,1,1,0,1,0,0,1,1,0,0,1,1,1,1,1]) (by kernel_rfl) ?_
      refine at_region (by kernel_rfl) sh_refl ?_
      refine chunk (s' := f22_s24 p0_ p1_ text_1 cells_1 s_1 at_1 x_1 x2 r8 x3 l1) 4 4 (by kernel_rfl) rfl ?_
      obtain ⟨x4, h16, H⟩ := bind_some H
      refine spec (s' := f22_s25 p0_ p1_ text_1 cells_1 s_1 at_1 x_1 x2 r8 x3 l1 x4) (v := .dptr (eGRule x4) 0) (obs := []) (rm := []) (upd := none) 5 (by kernel_rfl) (is_idxD (enc := eGRule) (esz := 6) (eb := 64) (ez := [.str [], .nil, .int .u8 0, .int .u8 0, .int .i64 0, .int .i64 0]) h16 (by kernel_rfl)) (by kernel_rfl) rfl ?_
      refine chunk (s' := f22_s26 p0_ p1_ text_1 cells_1 s_1 at_1 x_1 x2 r8 x3 l1 x4) 2 7 (by kernel_rfl) rfl ?_
      obtain ⟨l2, h17, H⟩ := bind_some H
      refine spec (s' := f22_s27 p0_ p1_ text_1 cells_1 s_1 at_1 x_1 x2 r8 x3 l1 x4 l2) (v := .osl 8 1 0 (List.length l2)) (obs := [.arr 1 (List.map eU8 l2)]) (rm := [3]) (upd := none) 8 (by kernel_rfl) (is_app (enc := eU8) (objs := (f22_s26 p0_ p1_ text_1 cells_1 s_1 at_1 x_1 x2 r8 x3 l1 x4).objs) (esz := 1) (eb := 1) (ob := True) (k := 3) (by kernel_rfl) rfl (fun _ => rfl) trivial h17) (by kernel_rfl) rfl ?_
      refine chunk (s' := f22_s28 p0_ p1_ text_1 cells_1 s_1 at_1 x_1 x2 r8 x3 l1 x4 l2) 1 9 (by kernel_rfl) rfl ?_
      refine at_end 9 (by kernel_rfl) ?_
      refine q_seq sh_refl ?_
      refine at_seq (p0 := [1,1,1,1,0,1,0,0,1,1,0,0,1,1,1,1,1,0]) (p1 := [1,1,1,1,0,1,0,0,1,1,0,0,1,1,1,1,1,1]) (by kernel_rfl) ?_
      refine at_region (by kernel_rfl) sh_refl ?_
      refine chunk (s' := f22_s29 p0_ p1_ text_1 cells_1 s_1 at_1 x_1 x2 r8 x3 l1 x4 l2) 2 2 (by kernel_rfl) rfl ?_
      refine at_end 2 (by kernel_rfl) ?_
      refine q_seq sh_refl ?_
      refine at_region (by kernel_rfl) sh_refl ?_
      refine chunk (s' := f22_s30 p0_ p1_ text_1 cells_1 s_1 at_1 x_1 x2 r8 x3 l1 x4 l2) 3 3 (by kernel_rfl) rfl ?_
      refine at_end 3 (by kernel_rfl) ?_
      refine q_blockN ?_
      refine q_seq sh_refl ?_
      refine at_region (by kernel_rfl) sh_refl ?_
      refine chunk (s' := f22_s31 p0_ p1_ text_1 cells_1 s_1 at_1 x_1 x2 r8 x3 l1 x4 l2) 2 2 (by kernel_rfl) rfl ?_
      refine at_end 2 (by kernel_rfl) ?_
      have hz := Option.some.inj H
      subst hz
      exact round_go (sh_gc [1,2,4,5,6,7,8,14,15,16] (by kernel_rfl))
  · refine at_condF (decide (x_1 < ((List.length p1_ : Nat) : Int))) (p0 := [1,1,1,1,0,1,0,0,1,0,0]) (p1 := [1,1,1,1,0,1,0,0,1,0,1]) (by kernel_rfl) (by kernel_rfl) hc11 ?_
    refine at_exit 0 (by kernel_rfl) ?_
    refine q_seqX ?_
    have hz := Option.some.inj H
    subst hz
    exact round_exit ⟨rfl, sh_gc [1,2,4,5,6,7,8] (by kernel_rfl)⟩
variable (y1 : ((List Int) × (List Int) × GState × Int))
def f22_s32 : St := po (f22_s11 p0_ p1_ y1.1 y1.2.1 y1.2.2.1 y1.2.2.2) [(5, .d (.sl (List.map eU8 y1.1)))] fun o => o.set 2 none
def f22_s33 : St := pe (f22_s32 p0_ p1_ y1) [(49, .d (.sl (List.map eU8 y1.1)))]
variable (s1 : (List UInt8))
def f22_s34 : St := pe (f22_s33 p0_ p1_ y1) [(50, .d (.str s1))]
def f22_s35 : St := pe (f22_s34 p0_ p1_ y1 s1) [(55, .d (.sl (List.map eI64 p1_))), (54, .d (.int .i64 y1.2.2.2)), (53, .agg [.d (.int .i64 y1.2.2.1.Mode), .d (.int .i64 y1.2.2.1.Last), .d (.int .u8 y1.2.2.1.Need)]), (52, .d (.int .i64 y1.2.2.2)), (51, .osl 3 1 0 (List.length y1.2.1))]
def f22_s36 : St := pe (f22_s35 p0_ p1_ y1 s1) [(56, .d (.int .i64 ((List.length p1_ : Nat) : Int)))]
def f22_s37 : St := pe (f22_s36 p0_ p1_ y1 s1) [(60, .gv (y1.2.2.2 == ((List.length p1_ : Nat) : Int)) (.agg [.d (.int .i64 y1.2.2.1.Mode), .d (.int .i64 y1.2.2.1.Last), .d (.int .u8 y1.2.2.1.Need)])), (59, .gv (y1.2.2.2 == ((List.length p1_ : Nat) : Int)) (.agg [.d (.int .i64 p0_.Modes), .d (.int .u8 p0_.Accept), .d (.sl (List.map eGRule p0_.Rules))])), (58, .d (.bool (y1.2.2.2 == ((List.length p1_ : Nat) : Int)))), (57, .d (.bool (y1.2.2.2 == ((List.length p1_ : Nat) : Int))))]
variable (r9 : Bool)
def f22_s38 : St := pe (f22_s37 p0_ p1_ y1 s1) [(61, .gv (y1.2.2.2 == ((List.length p1_ : Nat) : Int)) (.d (.bool r9)))]
def f22_s39 : St := pe (f22_s38 p0_ p1_ y1 s1 r9) [(62, .d (.bool ((y1.2.2.2 == ((List.length p1_ : Nat) : Int)) && r9)))]
def f22_s40 : St := po (f22_s39 p0_ p1_ y1 s1 r9) [(63, .agg [.d (.str s1), .osl 3 1 0 (List.length y1.2.1), .d (.int .i64 y1.2.2.2), .d (.int .i64 y1.2.2.1.Mode), .d (.int .i64 y1.2.2.1.Last), .d (.int .u8 y1.2.2.1.Need), .d (.bool ((y1.2.2.2 == ((List.length p1_ : Nat) : Int)) && r9))])] fun o => o.set 1 (some (.box [.d (.str s1), .osl 3 1 0 (List.length y1.2.1), .d (.int .i64 y1.2.2.2), .d (.int .i64 y1.2.2.1.Mode), .d (.int .i64 y1.2.2.1.Last), .d (.int .u8 y1.2.2.1.Need), .d (.bool ((y1.2.2.2 == ((List.length p1_ : Nat) : Int)) && r9))]))
theorem FAutomaton_Run_ok {n : Nat} {p0_ : GTable} {p1_ : (List Int)} {z : GTrace} (H : FAutomaton_Run n p0_ p1_ = some z) : CallOK Try.prog 22 [.agg [.d (.int .i64 p0_.Modes), .d (.int .u8 p0_.Accept), .d (.sl (List.map eGRule p0_.Rules))], .d (.sl (List.map eI64 p1_))] (.agg [.d (.str z.Text), .own 1 (List.map eU8 z.Cells), .d (.int .i64 z.At), .d (.int .i64 z.End.Mode), .d (.int .i64 z.End.Last), .d (.int .u8 z.End.Need), .d (.bool z.Ok)]) := by
  dsimp only [FAutomaton_Run] at H
  refine fn_ok (Γ := cx 64) (s := f22_s1 p0_ p1_) follows (cxOK 64) Try.func22 (by kernel_rfl) (by kernel_rfl) (by kernel_rfl) (by kernel_rfl) (by kernel_rfl) (by kernel_rfl) ?_
  refine at_seq (p0 := [0]) (p1 := [1]) (by kernel_rfl) ?_
  refine at_region (by kernel_rfl) sh_refl ?_
  refine chunk (s' := f22_s2 p0_ p1_) 2 2 (by kernel_rfl) rfl ?_
  refine at_end 2 (by kernel_rfl) ?_
  refine q_seq sh_refl ?_
  refine at_seq (p0 := [1,0]) (p1 := [1,1]) (by kernel_rfl) ?_
  refine at_region (by kernel_rfl) sh_refl ?_
  refine chunk (s' := f22_s3 p0_ p1_) 1 1 (by kernel_rfl) rfl ?_
  refine at_end 1 (by kernel_rfl) ?_
  refine q_seq sh_refl ?_
  refine at_seq (p0 := [1,1,0]) (p1 := [1,1,1]) (by kernel_rfl) ?_
  refine at_region (by kernel_rfl) sh_refl ?_
  refine chunk (s' := f22_s4 p0_ p1_) 1 1 (by kernel_rfl) rfl ?_
  refine at_end 1 (by kernel_rfl) ?_
  refine q_seq sh_refl ?_
  refine at_seq (p0 := [1,1,1,0]) (p1 := [1,1,1,1]) (by kernel_rfl) ?_
  refine at_region (by kernel_rfl) sh_refl ?_
  obtain ⟨r7, h11, H⟩ := bind_some H
  refine callS (s' := f22_s5 p0_ p1_ r7) (f := 31) (xs := []) (ys := []) (ks := []) (obl := []) (r := .agg [.d (.int .i64 r7.Mode), .d (.int .i64 r7.Last), .d (.int .u8 r7.Need)]) (ls := []) 1 false (by kernel_rfl) (leZ) rfl (FAutomaton_Start_ok h11) (Or.inl rfl) rfl (by kernel_rfl) rfl ?_
  refine chunk (s' := f22_s6 p0_ p1_ r7) 3 4 (by kernel_rfl) rfl ?_
  refine at_end 4 (by kernel_rfl) ?_
  refine q_seq sh_refl ?_
  refine at_seq (p0 := [1,1,1,1,0]) (p1 := [1,1,1,1,1]) (by kernel_rfl) ?_
  refine at_seq (p0 := [1,1,1,1,0,0]) (p1 := [1,1,1,1,0,1]) (by kernel_rfl) ?_
  refine at_region (by kernel_rfl) sh_refl ?_
  refine chunk (s' := f22_s7 p0_ p1_ r7) 1 1 (by kernel_rfl) rfl ?_
  refine spec (s' := f22_s8 p0_ p1_ r7) (v := .d (.int .i64 ((List.length p1_ : Nat) : Int))) (obs := []) (rm := []) (upd := none) 2 (by kernel_rfl) (is_len (enc := eI64) (esz := 1) (eb := 8) (ez := [.int .i64 0]) (xs := p1_)) (by kernel_rfl) rfl ?_
  refine chunk (s' := f22_s9 p0_ p1_ r7) 1 3 (by kernel_rfl) rfl ?_
  refine at_end 3 (by kernel_rfl) ?_
  refine q_seq sh_refl ?_
  refine at_block 0 (p0 := [1,1,1,1,0,1,0]) (by kernel_rfl) ?_
  obtain ⟨y1, h18, H⟩ := bind_some H
  refine at_loop (p0 := [1,1,1,1,0,1,0,0]) (fun (x : ((List Int) × (List Int) × GState × Int × Int)) => f22_s10 p0_ p1_ x.1 x.2.1 x.2.2.1 x.2.2.2.1 x.2.2.2.2) (f22_L1_E p0_ p1_) (by kernel_rfl) h18 (Shift.trans (Shift.trans (Shift.trans (Shift.nilo 5 1 (by kernel_rfl)) (Shift.nilo 6 1 (by kernel_rfl))) (sh_nilc 1 1 1 (by kernel_rfl))) (sh_gc [1,2,4,5,6,7,8,14,15,16] (by kernel_rfl))) (fun x z => f22_L1_ok x z) ?_
  intro e s hE1
  obtain ⟨rfl, hE1⟩ := hE1
  refine q_blockH ?_
  refine q_seq (s' := f22_s11 p0_ p1_ y1.1 y1.2.1 y1.2.2.1 y1.2.2.2) (hE1) ?_
  refine at_seq (p0 := [1,1,1,1,1,0]) (p1 := [1,1,1,1,1,1]) (by kernel_rfl) ?_
  refine at_region (s' := f22_s32 p0_ p1_ y1) (by kernel_rfl) (Shift.trans (sh_frz (k := 2) (sz := 1) 5 (List.map eU8 y1.1) (by kernel_rfl) take_all (by simp)) (sh_eq (by kernel_rfl))) ?_
  refine chunk (s' := f22_s33 p0_ p1_ y1) 1 1 (by kernel_rfl) rfl ?_
  obtain ⟨s1, h19, H⟩ := bind_some H
  refine spec (s' := f22_s34 p0_ p1_ y1 s1) (v := .d (.str s1)) (obs := []) (rm := []) (upd := none) 2 (by kernel_rfl) (is_bstr (eb := 1) h19) (by kernel_rfl) rfl ?_
  refine chunk (s' := f22_s35 p0_ p1_ y1 s1) 5 7 (by kernel_rfl) rfl ?_
  refine spec (s' := f22_s36 p0_ p1_ y1 s1) (v := .d (.int .i64 ((List.length p1_ : Nat) : Int))) (obs := []) (rm := []) (upd := none) 8 (by kernel_rfl) (is_len (enc := eI64) (esz := 1) (eb := 8) (ez := [.int .i64 0]) (xs := p1_)) (by kernel_rfl) rfl ?_
  refine chunk (s' := f22_s37 p0_ p1_ y1 s1) 4 12 (by kernel_rfl) rfl ?_
  obtain ⟨r9, h20, H⟩ := bind_some H
  refine callG (g := (y1.2.2.2 == ((List.length p1_ : Nat) : Int))) (gs := [(y1.2.2.2 == ((List.length p1_ : Nat) : Int)), (y1.2.2.2 == ((List.length p1_ : Nat) : Int))]) (s' := f22_s38 p0_ p1_ y1 s1 r9) (f := 19) (xs := [.agg [.d (.int .i64 p0_.Modes), .d (.int .u8 p0_.Accept), .d (.sl (List.map eGRule p0_.Rules))], .agg [.d (.int .i64 y1.2.2.1.Mode), .d (.int .i64 y1.2.2.1.Last), .d (.int .u8 y1.2.2.1.Need)]]) (ys := [.agg [.d (.int .i64 p0_.Modes), .d (.int .u8 p0_.Accept), .d (.sl (List.map eGRule p0_.Rules))], .agg [.d (.int .i64 y1.2.2.1.Mode), .d (.int .i64 y1.2.2.1.Last), .d (.int .u8 y1.2.2.1.Need)]]) (ks := []) (obl := []) (r := .d (.bool r9)) (ls := []) 13 false (by kernel_rfl) (by kernel_rfl) (leZ) rfl (fun hg => FAutomaton_Accepts_ok (gimp h20 hg)) (Or.inl rfl) (by kernel_rfl) (impK (fun hh => hh) (impK (fun hh => hh) (impZ))) rfl (by kernel_rfl) rfl ?_
  refine specP (s' := f22_s39 p0_ p1_ y1 s1 r9) 14 (by kernel_rfl) (pick_and (t := (y1.2.2.2 == ((List.length p1_ : Nat) : Int))) (x := r9) (y := false)) (by kernel_rfl) rfl ?_
  refine chunk (s' := f22_s40 p0_ p1_ y1 s1 r9) 2 16 (by kernel_rfl) rfl ?_
  refine at_end 16 (by kernel_rfl) ?_
  refine q_seq sh_refl ?_
  refine at_ret (by kernel_rfl) ?_
  have hz := Option.some.inj H
  subst hz
  exact post_ret (ret1 (v := .agg [.d (.str s1), .osl 3 1 0 (List.length y1.2.1), .d (.int .i64 y1.2.2.2), .d (.int .i64 y1.2.2.1.Mode), .d (.int .i64 y1.2.2.1.Last), .d (.int .u8 y1.2.2.1.Need), .d (.bool ((y1.2.2.2 == ((List.length p1_ : Nat) : Int)) && r9))]) (r := .agg [.d (.str (({ Text := s1, Cells := y1.2.1, At := y1.2.2.2, End := y1.2.2.1, Ok := ((y1.2.2.2 == ((List.length p1_ : Nat) : Int)) && r9) } : GTrace).Text)), .own 1 (List.map eU8 (({ Text := s1, Cells := y1.2.1, At := y1.2.2.2, End := y1.2.2.1, Ok := ((y1.2.2.2 == ((List.length p1_ : Nat) : Int)) && r9) } : GTrace).Cells)), .d (.int .i64 (({ Text := s1, Cells := y1.2.1, At := y1.2.2.2, End := y1.2.2.1, Ok := ((y1.2.2.2 == ((List.length p1_ : Nat) : Int)) && r9) } : GTrace).At)), .d (.int .i64 (({ Text := s1, Cells := y1.2.1, At := y1.2.2.2, End := y1.2.2.1, Ok := ((y1.2.2.2 == ((List.length p1_ : Nat) : Int)) && r9) } : GTrace).End.Mode)), .d (.int .i64 (({ Text := s1, Cells := y1.2.1, At := y1.2.2.2, End := y1.2.2.1, Ok := ((y1.2.2.2 == ((List.length p1_ : Nat) : Int)) && r9) } : GTrace).End.Last)), .d (.int .u8 (({ Text := s1, Cells := y1.2.1, At := y1.2.2.2, End := y1.2.2.1, Ok := ((y1.2.2.2 == ((List.length p1_ : Nat) : Int)) && r9) } : GTrace).End.Need)), .d (.bool (({ Text := s1, Cells := y1.2.1, At := y1.2.2.2, End := y1.2.2.1, Ok := ((y1.2.2.2 == ((List.length p1_ : Nat) : Int)) && r9) } : GTrace).Ok))]) [3] (by kernel_rfl) (outA_agg (outC_cons (outV_d) (outC_cons (outV_own (by kernel_rfl)) (outC_cons (outV_d) (outC_cons (outV_d) (outC_cons (outV_d) (outC_cons (outV_d) (outC_cons (outV_d) (outC_nil))))))))) (by kernel_rfl) (by decide))
end
end Go.AI
end
