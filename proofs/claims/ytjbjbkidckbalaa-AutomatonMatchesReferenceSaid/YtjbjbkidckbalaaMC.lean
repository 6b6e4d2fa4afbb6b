/- Part 3 of 4 of the proof: lemmas about the model and the program's functions, with no condition beyond those that each states. -/
import Derived.Test.YtjbjbkidckbalaaMB
import Derived.KernelRfl
import Derived.Test.YtjbjbkidckbalaaProg
section
namespace Go.AI
def leAll : List (Nat × Nat) → Prop
  | [] => True
  | (a, b) :: r => a ≤ b ∧ leAll r
theorem leZ : leAll [] := trivial
theorem leK {a b : Nat} {r : List (Nat × Nat)} (h : a ≤ b) (hr : leAll r) : leAll ((a, b) :: r) := ⟨h, hr⟩
theorem leAll_append {l m : List (Nat × Nat)} (h : leAll (l ++ m)) : leAll l ∧ leAll m := by
  induction l with
  | nil => exact ⟨trivial, h⟩
  | cons a l ih => exact ⟨⟨h.1, (ih h.2).1⟩, (ih h.2).2⟩
def xD (objs : List (Option Ob)) : AV → Option (D × List Nat × List (Nat × Nat))
  | .d .nil => some (.sl [], [], [])
  | .d x => some (x, [], [])
  | .osl k sz lo n => match obA objs k with
    | some (.arr sz' es) => bif Nat.beq sz sz' then some (.sl ((es.drop lo).take n), [k], [(lo + n, es.length)]) else none
    | _ => none
  | _ => none
def xDs (objs : List (Option Ob)) : List AV → Option (List D × List Nat × List (Nat × Nat))
  | [] => some ([], [], [])
  | v :: vs => match xD objs v, xDs objs vs with
    | some (x, k, o), some (xs, ks, os) => some (x :: xs, k ++ ks, o ++ os)
    | _, _ => none
def xA (objs : List (Option Ob)) : AV → Option (AV × List Nat × List (Nat × Nat))
  | .agg l => match xDs objs l with
    | some (x, k, o) => some (.agg (x.map .d), k, o)
    | none => none
  | v => match xD objs v with
    | some (x, k, o) => some (.d x, k, o)
    | none => none
def xAs (objs : List (Option Ob)) : List AV → Option (List AV × List Nat × List (Nat × Nat))
  | [] => some ([], [], [])
  | v :: vs => match xA objs v, xAs objs vs with
    | some (x, k, o), some (xs, ks, os) => some (x :: xs, k ++ ks, o ++ os)
    | _, _ => none
theorem xD_ok {objs : List (Option Ob)} {v : AV} {x : D} {ks : List Nat} {o : List (Nat × Nat)} (h : xD objs v = some (x, ks, o)) (ho : leAll o) : ∃ ob, expD objs v = some ⟨x, ks, ob⟩ ∧ ob := by
  unfold xD at h
  split at h
  · cases h; exact ⟨_, rfl, trivial⟩
  · rename_i y hy
    cases h
    refine ⟨True, ?_, trivial⟩
    unfold expD
    split
    · rename_i e; cases e; exact absurd rfl hy
    · rename_i e; cases e; rfl
    · rename_i e; cases e
    · rename_i e1 _; exact absurd rfl (e1 _)
  · rename_i k sz lo n
    split at h
    · rename_i sz' es hob
      obtain ⟨hb, h⟩ := bif_some h
      cases h
      refine ⟨_, ?_, ho.1⟩
      simp only [expD, hob, hb, cond_true]
    · cases h
  · cases h
theorem xDs_ok {objs : List (Option Ob)} : ∀ {l : List AV} {x : List D} {ks : List Nat} {o : List (Nat × Nat)}, xDs objs l = some (x, ks, o) → leAll o → ∃ ob, expDs objs l = some ⟨x, ks, ob⟩ ∧ ob := by
  intro l
  induction l with
  | nil => intro x ks o h _; cases h; exact ⟨_, rfl, trivial⟩
  | cons v l ih =>
    intro x ks o h ho
    simp only [xDs] at h
    split at h
    · rename_i a b c a' b' c' h1 h2
      cases h
      obtain ⟨o1, o2⟩ := leAll_append ho
      obtain ⟨p1, e1, q1⟩ := xD_ok h1 o1
      obtain ⟨p2, e2, q2⟩ := ih h2 o2
      exact ⟨p1 ∧ p2, by simp only [expDs, e1, e2], q1, q2⟩
    · cases h
theorem xA_ok {objs : List (Option Ob)} {v x : AV} {ks : List Nat} {o : List (Nat × Nat)} (h : xA objs v = some (x, ks, o)) (ho : leAll o) : ∃ ob, expA objs v = some ⟨x, ks, ob⟩ ∧ ob := by
  unfold xA at h
  split at h
  · split at h
    · rename_i h1
      cases h
      obtain ⟨p1, e1, q1⟩ := xDs_ok h1 ho
      exact ⟨_, by simp only [expA, e1], q1⟩
    · cases h
  · rename_i hn
    split at h
    · rename_i h1
      cases h
      obtain ⟨p1, e1, q1⟩ := xD_ok h1 ho
      refine ⟨p1, ?_, q1⟩
      unfold expA
      split
      · exact absurd rfl (hn _)
      · rw [e1]
    · cases h
theorem xAs_ok {objs : List (Option Ob)} : ∀ {l : List AV} {x : List AV} {ks : List Nat} {o : List (Nat × Nat)}, xAs objs l = some (x, ks, o) → leAll o → ∃ ob, expAs objs l = some ⟨x, ks, ob⟩ ∧ ob := by
  intro l
  induction l with
  | nil => intro x ks o h _; cases h; exact ⟨_, rfl, trivial⟩
  | cons v l ih =>
    intro x ks o h ho
    simp only [xAs] at h
    split at h
    · rename_i a b c a' b' c' h1 h2
      cases h
      obtain ⟨o1, o2⟩ := leAll_append ho
      obtain ⟨p1, e1, q1⟩ := xA_ok h1 o1
      obtain ⟨p2, e2, q2⟩ := ih h2 o2
      exact ⟨p1 ∧ p2, by simp only [expAs, e1, e2], q1, q2⟩
    · cases h
def callAt (c : Code) (i : Nat) (s : St) : Option (FuncId × List AV × List Nat × List (Nat × Nat)) :=
  match (opsIn c)[i]? with
  | some o => match o.op with
    | .call ⟨.value (.func f), args, _⟩ => match xAs s.objs (args.toList.map fun x => unG (evalA s.env x)) with
      | some (x, ks, os) => some (f, x, ks, os)
      | none => none
    | _ => none
  | none => none
def lensC : List AV → List Nat
  | [] => []
  | .own _ es :: r => es.length :: lensC r
  | _ :: r => lensC r
def lensA : AV → List Nat
  | .own _ es => [es.length]
  | .agg l => lensC l
  | _ => []
def lensT : List AV → List Nat
  | [] => []
  | v :: r => lensA v ++ lensT r
def lensR : AV → List Nat
  | .tup l => lensT l
  | v => lensA v
def ilC (m : Bool) (n : Nat) : List Nat → List AV → List AV × List Nat
  | ls, [] => ([], ls)
  | ls, .own sz es :: r => bif m then (.osl n sz 0 (ls.headD 0) :: (ilC m (n + 1) ls.tail r).1, (ilC m (n + 1) ls.tail r).2) else (.d (.sl es) :: (ilC m n ls.tail r).1, (ilC m n ls.tail r).2)
  | ls, .d x :: r => (.d x :: (ilC m n ls r).1, (ilC m n ls r).2)
  | ls, _ :: r => (.top :: (ilC m n ls r).1, (ilC m n ls r).2)
def ilA (m : Bool) (n : Nat) (ls : List Nat) : AV → AV × List Nat
  | .own sz es => bif m then (.osl n sz 0 (ls.headD 0), ls.tail) else (.d (.sl es), ls.tail)
  | .agg l => (.agg (ilC m n ls l).1, (ilC m n ls l).2)
  | .d x => (.d x, ls)
  | _ => (.top, ls)
def ilT (m : Bool) (n : Nat) : List Nat → List AV → List AV
  | _, [] => []
  | ls, v :: r => (ilA m n ls v).1 :: ilT m (n + (impA m n v).2.length) (ilA m n ls v).2 r
def ilR (m : Bool) (n : Nat) (ls : List Nat) : AV → AV
  | .tup l => .tup (ilT m n ls l)
  | v => (ilA m n ls v).1
theorem ilC_ok (m : Bool) : ∀ (l : List AV) (n : Nat) (rest : List Nat), ilC m n (lensC l ++ rest) l = ((impC m n l).1, rest) := by
  intro l
  induction l with
  | nil => intro n rest; rfl
  | cons v l ih =>
    intro n rest
    cases v <;> simp only [lensC, List.cons_append, ilC, impC, List.headD_cons, List.tail_cons, ih] <;> try rfl
    cases m <;> simp only [cond_true, cond_false]
theorem ilA_ok (m : Bool) (v : AV) (n : Nat) (rest : List Nat) : ilA m n (lensA v ++ rest) v = ((impA m n v).1, rest) := by
  cases v with
  | own sz es => cases m <;> rfl
  | agg l => simp only [lensA, ilA, impA, ilC_ok]
  | _ => rfl
theorem ilT_ok (m : Bool) : ∀ (l : List AV) (n : Nat), ilT m n (lensT l) l = (impT m n l).1 := by
  intro l
  induction l with
  | nil => intro n; rfl
  | cons v l ih => intro n; simp only [lensT, ilT, impT, ilA_ok, ih]
theorem ilR_ok (m : Bool) (n : Nat) (r : AV) {ls : List Nat} (h : lensR r = ls) : ilR m n ls r = (impR m n r).1 := by
  subst h
  cases r with
  | tup l => simp only [lensR, ilR, impR, ilT_ok]
  | own sz es => have := ilA_ok m (.own sz es) n []; simp only [List.append_nil] at this; simp only [lensR, ilR, impR, this]
  | agg l => have := ilA_ok m (.agg l) n []; simp only [List.append_nil] at this; simp only [lensR, ilR, impR, this]
  | _ => rfl
def nextC (Γ : Cx) (c : Code) (i : Nat) (m : Bool) (ls : List Nat) (r : AV) (s : St) : Option St :=
  match (opsIn c)[i]? with
  | some o => bif o.guard.isNone && dstOk Γ.nt o.dst && (o.op.operands.toList.map (evalA s.env)).all notGv then some ⟨putA o.dst false true (ilR m s.objs.length ls r) s.env, s.objs ++ (impR m s.objs.length r).2.map some⟩ else none
  | none => none
def nextCG (Γ : Cx) (c : Code) (i : Nat) (g m : Bool) (ls : List Nat) (r : AV) (s : St) : Option St :=
  match (opsIn c)[i]? with
  | some o => bif o.guard.isSome && dstOk Γ.nt o.dst then some ⟨putA o.dst true g (ilR m s.objs.length ls r) s.env, s.objs ++ (impR m s.objs.length r).2.map some⟩ else none
  | none => none
variable {Γ : Cx} {C : Code} {p p0 p1 : List Nat} {Q : Ex → St → Prop} {s s' : St} {K : St → Prop} {i : Nat}
theorem args_gv {o : Oper} {f : FuncId} {args : Array Operand} {ts : Array TypeId} (hop : o.op = .call ⟨.value (.func f), args, ts⟩) {env : List (Nat × AV)} (h : (o.op.operands.toList.map (evalA env)).all notGv = true) : (args.toList.map (evalA env)).all notGv = true := by
  rw [hop] at h
  simp only [Op.operands, Call.operands] at h
  simp only [Array.toList_append, List.map_append, List.all_append, Bool.and_eq_true] at h
  exact h.2
theorem callS (j : Nat) (m : Bool) {f : FuncId} {xs ys : List AV} {ks : List Nat} {obl : List (Nat × Nat)} {r : AV} (hc : callAt (nav p C) i s = some (f, xs, ks, obl)) (hob : leAll obl) (hxs : xs = ys) (hr : Γ.calls f ys r) (hf : ks = [] ∨ flatR r) {ls : List Nat} (hls : lensR r = ls) (hn : nextC Γ (nav p C) i m ls r s = some s') (hj : i + 1 = j) (hk : runFrom Γ C p j K s') : runFrom Γ C p i K s := by
  subst hj
  subst hxs
  unfold runFrom at hk ⊢
  unfold callAt at hc
  unfold nextC at hn
  rw [ilR_ok m _ r hls] at hn
  split at hn
  · rename_i o hi
    rw [hi] at hc
    simp only at hc
    obtain ⟨hcc, hn⟩ := bif_some hn
    simp only [Bool.and_eq_true] at hcc
    obtain ⟨⟨h1, h2⟩, h3⟩ := hcc
    cases hn
    rw [drop_cons hi]
    show stepA _ _ _ _ _ _
    have hgN : o.guard = none := by simpa using h1
    split at hc
    · rename_i f' args ts hop
      split at hc
      · rename_i x ks' os hx
        cases hc
        obtain ⟨ob, e1, q1⟩ := xAs_ok hx hob
        unfold stepA
        rw [hgN]
        simp only [guardA, h2, Bool.not_true, cond_false]
        refine ⟨fun _ => .inl ?_, fun h => by cases h⟩
        unfold stepG
        rw [hop]
        refine ⟨gobA_of (args_gv hop h3), ?_⟩
        unfold callA
        rw [e1]
        refine ⟨fun _ => q1, m, r, fun _ => hr, ?_, ?_⟩
        · rcases hf with rfl | hf
          · trivial
          · cases ks.isEmpty <;> first | trivial | exact hf
        · rw [hgN]; exact hk
      · cases hc
    · cases hc
  · cases hn
theorem callG {g : Bool} {gs : List Bool} (j : Nat) (m : Bool) {f : FuncId} {xs ys : List AV} {ks : List Nat} {obl : List (Nat × Nat)} {r : AV} (hg : gAt (nav p C) i s = some g) (hc : callAt (nav p C) i s = some (f, xs, ks, obl)) (hob : leAll obl) (hxs : xs = ys) (hr : g = true → Γ.calls f ys r) (hf : ks = [] ∨ flatR r) (hgs : gvsAt (nav p C) i s = gs) (hi : impAll g gs) {ls : List Nat} (hls : lensR r = ls) (hn : nextCG Γ (nav p C) i g m ls r s = some s') (hj : i + 1 = j) (hk : runFrom Γ C p j K s') : runFrom Γ C p i K s := by
  subst hj
  subst hxs
  unfold runFrom at hk ⊢
  unfold callAt at hc
  unfold gAt at hg
  unfold gvsAt at hgs
  unfold nextCG at hn
  rw [ilR_ok m _ r hls] at hn
  split at hn
  · rename_i o hii
    rw [hii] at hc hg hgs
    simp only at hc hg hgs
    obtain ⟨hcc, hn⟩ := bif_some hn
    simp only [Bool.and_eq_true] at hcc
    obtain ⟨h1, h2⟩ := hcc
    cases hn
    rw [drop_cons hii]
    show stepA _ _ _ _ _ _
    cases hgo : o.guard with
    | none => rw [hgo] at h1; cases h1
    | some y =>
      rw [hgo] at hg
      simp only at hg
      split at hc
      · rename_i f' args ts hop
        split at hc
        · rename_i x ks' os hx
          cases hc
          obtain ⟨ob, e1, q1⟩ := xAs_ok hx hob
          unfold stepA
          rw [hgo]
          simp only [hg, h2, Bool.not_true, cond_false]
          refine ⟨fun hgt => .inl ?_, fun hgf => ⟨(impR m s.objs.length r).1, (impR m s.objs.length r).2, (fun hm => by rw [hop] at hm; cases hm), ?_⟩⟩
          · unfold stepG
            rw [hop]
            refine ⟨?_, ?_⟩
            · have := gobA_imp (g := g) (l := o.op.operands.toList.map (evalA s.env)) (by rw [hgs]; exact hi)
              rw [hop] at this
              simp only [Op.operands, Call.operands, Array.toList_append, List.map_append] at this
              exact this
            · unfold callA
              rw [e1]
              refine ⟨fun _ => q1, m, r, hr, ?_, ?_⟩
              · rcases hf with rfl | hf
                · trivial
                · cases ks.isEmpty <;> first | trivial | exact hf
              · rw [hgo]; exact hk
          · subst hgf; exact hk
        · cases hc
      · cases hc
  · cases hn
def resB1 (ty : Nat → Ty) (s : St) : ResultVar → Option AV
  | .tmp t => some (lkA s.env t)
  | .cell a t => match lkA s.env a with
    | .ptr k off => match obA s.objs k with
      | some (.box cells) => bif (ty t).ok && Nat.ble (off + (ty t).size) cells.length then ldCells cells off (ty t) else none
      | _ => none
    | _ => none
def resB (ty : Nat → Ty) (s : St) : List ResultVar → Option (List AV)
  | [] => some []
  | r :: rs => match resB1 ty s r, resB ty s rs with
    | some v, some vs => some (v :: vs)
    | _, _ => none
theorem resB1_ok {ty : Nat → Ty} {r : ResultVar} {v : AV} (h : resB1 ty s r = some v) : ∃ q, resV ty s r = some (v, q) ∧ q := by
  cases r with
  | tmp t => cases h; exact ⟨_, rfl, trivial⟩
  | cell a t =>
    simp only [resB1] at h
    split at h
    · rename_i k off ha
      split at h
      · rename_i cells hc
        obtain ⟨hb, h⟩ := bif_some h
        simp only [Bool.and_eq_true] at hb
        refine ⟨_, ?_, Nat.le_of_ble_eq_true hb.2⟩
        simp only [resV, hb.1, cond_true, ha, loadA, hc, h, valOb]
      · cases h
    · cases h
theorem resB_ok {ty : Nat → Ty} : ∀ {rs : List ResultVar} {vs : List AV}, resB ty s rs = some vs → ∃ q, resVs ty s rs = some (vs, q) ∧ q := by
  intro rs
  induction rs with
  | nil => intro vs h; cases h; exact ⟨_, rfl, trivial⟩
  | cons r rs ih =>
    intro vs h
    simp only [resB] at h
    split at h
    · rename_i v vs' h1 h2
      cases h
      obtain ⟨p1, e1, q1⟩ := resB1_ok h1
      obtain ⟨p2, e2, q2⟩ := ih h2
      exact ⟨p1 ∧ p2, by simp only [resVs, e1, e2], q1, q2⟩
    · cases h
theorem ret1 {ty : Nat → Ty} {rs : List ResultVar} {v r : AV} (ks : List Nat) (h : resB ty s rs = some [v]) (ho : outA s.objs v r) (hks : ksE (entA v r) = ks) (hnd : ks.Nodup) : retA ty rs r s := by
  have hn : (ksE (entA v r)).Nodup := by rw [hks]; exact hnd
  obtain ⟨q, e, hq⟩ := resB_ok h
  unfold retA
  rw [e]
  exact ⟨hq, ho, hn⟩
theorem retT {ty : Nat → Ty} {rs : List ResultVar} {vs l : List AV} (h : resB ty s rs = some vs) (hl : Nat.beq vs.length 1 = false) (ho : outT s.objs vs l) (ks : List Nat) (hks : ksE (entT vs l) = ks) (hnd : ks.Nodup) : retA ty rs (.tup l) s := by
  have hn : (ksE (entT vs l)).Nodup := by rw [hks]; exact hnd
  obtain ⟨q, e, hq⟩ := resB_ok h
  unfold retA
  rw [e]
  split
  · rename_i heq
    simp only [Option.some.injEq, Prod.mk.injEq] at heq
    obtain ⟨rfl, _⟩ := heq
    cases hl
  · rename_i heq
    simp only [Option.some.injEq, Prod.mk.injEq] at heq
    obtain ⟨rfl, rfl⟩ := heq
    exact ⟨hq, ho, hn⟩
  · rename_i heq; cases heq
theorem outV_d {objs : List (Option Ob)} {x : D} : outV objs (.d x) (.d x) := by
  cases x <;> first | rfl | exact .inl rfl
theorem outV_nilO {objs : List (Option Ob)} {sz : Nat} : outV objs (.d .nil) (.own sz []) := rfl
theorem outV_own {α : Type} {enc : α → List D} {xs : List α} {objs : List (Option Ob)} {k sz : Nat} (h : obA objs k = some (.arr sz (xs.map enc))) : outV objs (.osl k sz 0 xs.length) (.own sz (xs.map enc)) := by
  have hb : Nat.beq sz sz = true := Nat.beq_refl sz
  simp only [outV, h, hb, cond_true, List.length_map, Nat.zero_add, Nat.le_refl, List.drop_zero, true_and]
  exact (List.take_of_length_le (by simp)).symm
theorem fn_ok {P : Program} (hfol : P.follows .mixedOrders = true) (hΓ : CxOK P Γ) {f : FuncId} {fn : Func} {args : List AV} {r : AV} (hf : P.funcs[f]? = some fn) (hb : fn.body = some (bodyOf fn)) (hnm : (fn.name == "runtime.NumGoroutine") = false)
    (hnt : Γ.nt = fn.ntmps) (hlen : Nat.ble args.length fn.ntmps = true) (hd : drawsB (bodyOf fn) = true) (hs : (⟨(List.range args.length).zip args, []⟩ : St) = s) (h : wpA Γ (nav [] (bodyOf fn)) (postA Γ.ty fn.results.toList r) s) : CallOK P f args r :=
  callOK_of hfol hΓ hf hb hnm hnt (Nat.le_of_ble_eq_true hlen) hd (by rw [hs]; exact h)
theorem sh_gc (ts : List Nat) (h : gcA ts s = s') : Shift s s' := by subst h; exact .gc ts
theorem sh_refl : Shift s s := .refl s
def boxAt (s : St) (k : Nat) : List AV :=
  match obA s.objs k with
  | some (.box cells) => cells
  | _ => []
def isBox (s : St) (k : Nat) : Bool :=
  match obA s.objs k with
  | some (.box _) => true
  | _ => false
theorem boxAt_ok {k : Nat} (h : isBox s k = true) : obA s.objs k = some (.box (boxAt s k)) := by
  unfold isBox at h
  unfold boxAt
  split at h
  · rename_i hh; rw [hh]
  · cases h
theorem sh_nilc (k i sz : Nat) (h : (isBox s k, (boxAt s k)[i]?) = (true, some (.d .nil))) : Shift s ⟨s.env, s.objs.set k (some (.box ((boxAt s k).set i (.osl s.objs.length sz 0 0)))) ++ [some (.arr sz [])]⟩ := by
  simp only [Prod.mk.injEq] at h
  exact .nilc k i sz _ (boxAt_ok h.1) h.2
def arrOf (s : St) : AV → Option (Nat × Nat × Nat × Nat × List (List D))
  | .osl k sz lo n => match obA s.objs k with
    | some (.arr sz' es) => bif Nat.beq sz sz' then some (k, sz, lo, n, es) else none
    | _ => none
  | _ => none
theorem arrOf_ok {v : AV} {k sz lo n : Nat} {es : List (List D)} (h : arrOf s v = some (k, sz, lo, n, es)) : v = .osl k sz lo n ∧ obA s.objs k = some (.arr sz es) := by
  unfold arrOf at h
  split at h
  · split at h
    · rename_i hob
      obtain ⟨hb, h1⟩ := bif_some h
      clear h
      have h := h1
      have := Nat.eq_of_beq_eq_true hb
      subst this
      simp only [Option.some.injEq, Prod.mk.injEq] at h
      obtain ⟨rfl, rfl, rfl, rfl, rfl⟩ := h
      exact ⟨rfl, hob⟩
    · cases h
  · cases h
theorem sh_frz (t : Nat) (E : List (List D)) {k sz lo n : Nat} {es : List (List D)} (h : arrOf s (lkA s.env t) = some (k, sz, lo, n, es)) (hE : (es.drop lo).take n = E) (hn : lo + n ≤ es.length) : Shift s ⟨(t, .d (.sl E)) :: s.env, s.objs.set k none⟩ := by
  subst hE
  obtain ⟨h1, h2⟩ := arrOf_ok h
  exact .frzA t k sz lo n es h1 h2 hn
theorem sh_sub (t : Nat) (E : List (List D)) (M : Nat) {k sz lo n : Nat} {es : List (List D)} (h : arrOf s (lkA s.env t) = some (k, sz, lo, n, es)) (hE : (es.drop lo).take n = E) (hn : lo + n ≤ es.length) (hM : n = M) : Shift s ⟨(t, .osl s.objs.length sz 0 M) :: s.env, s.objs.set k none ++ [some (.arr sz E)]⟩ := by
  subst hE
  subst hM
  obtain ⟨h1, h2⟩ := arrOf_ok h
  exact .sub t k sz lo n es h1 h2 hn
theorem sh_frzc (kb i : Nat) (E : List (List D)) {k sz lo n : Nat} {es : List (List D)} (h : (isBox s kb, ((boxAt s kb)[i]?).bind (arrOf s)) = (true, some (k, sz, lo, n, es))) (hE : (es.drop lo).take n = E) (hn : lo + n ≤ es.length) : Shift s ⟨s.env, (s.objs.set k none).set kb (some (.box ((boxAt s kb).set i (.d (.sl E)))))⟩ := by
  subst hE
  simp only [Prod.mk.injEq, Option.bind_eq_some_iff] at h
  obtain ⟨h0, v, hv, h⟩ := h
  obtain ⟨h1, h2⟩ := arrOf_ok h
  subst h1
  exact .frzC kb i k sz lo n _ es (boxAt_ok h0) hv h2 hn
theorem sh_subc (kb i : Nat) (E : List (List D)) (M : Nat) {k sz lo n : Nat} {es : List (List D)} (h : (isBox s kb, ((boxAt s kb)[i]?).bind (arrOf s)) = (true, some (k, sz, lo, n, es))) (hE : (es.drop lo).take n = E) (hn : lo + n ≤ es.length) (hM : n = M) : Shift s ⟨s.env, (s.objs.set k none).set kb (some (.box ((boxAt s kb).set i (.osl s.objs.length sz 0 M)))) ++ [some (.arr sz E)]⟩ := by
  subst hE
  subst hM
  simp only [Prod.mk.injEq, Option.bind_eq_some_iff] at h
  obtain ⟨h0, v, hv, h⟩ := h
  obtain ⟨h1, h2⟩ := arrOf_ok h
  subst h1
  exact .subC kb i k sz lo n _ es (boxAt_ok h0) hv h2 hn
theorem sh_len (t k sz lo n m : Nat) (h : lkA s.env t = .osl k sz lo n) (e : n = m) : Shift s ⟨(t, .osl k sz lo m) :: s.env, s.objs⟩ := by
  subst e
  have := Shift.dup (st := s) t
  rwa [h] at this
theorem take_all {α : Type} {enc : α → List D} {xs : List α} : ((xs.map enc).drop 0).take xs.length = xs.map enc := by
  rw [List.drop_zero]; exact List.take_of_length_le (by simp)
theorem takeE {α : Type} {enc : α → List D} {xs : List α} : AV.d (.sl (((xs.map enc).drop 0).take xs.length)) = AV.d (.sl (xs.map enc)) := by rw [take_all]
theorem consE {a b : AV} {l m : List AV} (h : a = b) (h' : l = m) : a :: l = b :: m := by rw [h, h']
theorem aggE {l m : List AV} (h : l = m) : AV.agg l = AV.agg m := by rw [h]
def freshOf (Γ : Cx) (c : Code) (i : Nat) (s : St) : Option (List (List D)) :=
  match (opsIn c)[i]? with
  | some o => opF Γ.ty (fun x => unG (evalA s.env x)) o.op
  | none => none
def nextF (Γ : Cx) (c : Code) (i : Nat) (es : List (List D)) (s : St) : Option St :=
  match (opsIn c)[i]? with
  | some o => bif o.guard.isNone && dstOk Γ.nt o.dst && (o.op.operands.toList.map (evalA s.env)).all notGv then some ⟨putA o.dst false true (.d (.sl es)) s.env, s.objs⟩ else none
  | none => none
theorem specF (j : Nat) (es : List (List D)) (hx : freshOf Γ (nav p C) i s = some es) (hn : nextF Γ (nav p C) i es s = some s') (hj : i + 1 = j) (hk : runFrom Γ C p j K s') : runFrom Γ C p i K s := by
  subst hj
  unfold runFrom at hk ⊢
  unfold freshOf at hx
  unfold nextF at hn
  split at hn
  · rename_i o hi
    rw [hi] at hx
    simp only at hx
    obtain ⟨hc, hn⟩ := bif_some hn
    simp only [Bool.and_eq_true] at hc
    obtain ⟨⟨h1, h2⟩, h3⟩ := hc
    cases hn
    rw [drop_cons hi]
    show stepA _ _ _ _ _ _
    have hgN : o.guard = none := by simpa using h1
    unfold stepA
    rw [hgN]
    simp only [guardA, h2, Bool.not_true, cond_false]
    refine ⟨fun _ => .inr (.inl ?_), fun h => by cases h⟩
    unfold stepF
    rw [hx]
    refine ⟨gobA_of h3, ?_⟩
    rw [hgN]
    exact hk
  · cases hn
def opPl (Γ : Cx) (c : Code) (i : Nat) (s : St) : Option (AV × List Ob) :=
  match (opsIn c)[i]? with
  | some o => bif obOK Γ.ty (fun x => unG (evalA s.env x)) s.objs o.op then (match opA Γ.ty (fun x => unG (evalA s.env x)) s.objs o.op with
    | some ⟨v, obs, [], none, _⟩ => some (v, obs)
    | _ => none) else none
  | none => none
theorem is_pl {v : AV} {obs : List Ob} (h : opPl Γ (nav p C) i s = some (v, obs)) : OpIs (opOf Γ (nav p C) i s) v obs [] none := by
  unfold opPl at h
  unfold opOf
  split at h
  · rename_i o hi
    rw [hi]
    obtain ⟨hb, h⟩ := bif_some h
    split at h
    · rename_i he
      cases h
      exact ⟨_, he, obOK_sound hb he⟩
    · cases h
  · cases h
theorem gimp {α : Type} {g : Bool} {x y : Option α} {z : α} (h : (if g = true then x else y) = some z) : g = true → x = some z := fun e => by rw [if_pos e] at h; exact h
end Go.AI
end
section
namespace Go.AI
def eI64 (n : Int) : List D := [.int .i64 n]
def eI8 (n : Int) : List D := [.int .i8 n]
def eU8 (n : Int) : List D := [.int .u8 n]
def eB (b : Bool) : List D := [.bool b]
def eL {α : Type} (e : α → List D) (l : List α) : List D := [.sl (l.map e)]
variable {α κ : Type} {enc : α → List D} {objs : List (Option Ob)}
theorem OpIs.of {x : Option Eff} {v : AV} {obs : List Ob} {rm : List Nat} {upd : Option (Nat × Ob)} {ob : Prop} (h : x = some ⟨v, obs, rm, upd, ob⟩) (ho : ob) : OpIs x v obs rm upd := ⟨ob, h, ho⟩
theorem map_idx {xs : List α} {i : Int} {x : α} (h : idx xs i = some x) : (xs.map enc)[i.toNat]? = some (enc x) := by
  rw [List.getElem?_map, (idx_some h).2.2]; rfl
theorem is_idxD {xs : List α} {i : Int} {x : α} {esz eb : Nat} {ez : List D} (h : idx xs i = some x) (hl : Nat.beq (enc x).length esz = true) : OpIs (idxA (.slice esz eb ez) (.d (.sl (xs.map enc))) i) (.dptr (enc x) 0) [] [] none := by
  obtain ⟨h0, h1, _⟩ := idx_some h
  refine .of (ob := 0 ≤ i ∧ i < (xs.map enc).length ∧ (enc x).length = esz) ?_ ⟨h0, by simpa using h1, Nat.eq_of_beq_eq_true hl⟩
  simp only [idxA, valOb, map_idx (enc := enc) h, Option.getD_some]
theorem is_idxO {xs : List α} {i : Int} {x : α} {esz eb k : Nat} {ez : List D} (h : idx xs i = some x) : OpIs (idxA (.slice esz eb ez) (.osl k esz 0 xs.length) i) (.eptr k esz (0 + i.toNat) 0) [] [] none := by
  obtain ⟨h0, h1, _⟩ := idx_some h
  exact .of rfl ⟨h0, h1, rfl⟩
theorem is_ldA {xs : List α} {i : Int} {x : α} {k sz off : Nat} {t : Ty} {v : AV} (hk : obA objs k = some (.arr sz (xs.map enc))) (h : idx xs i = some x) (hv : ldCells ((enc x).map .d) off t = some v) (hl : Nat.ble (off + t.size) (enc x).length = true) :
    OpIs (loadA t objs (.eptr k sz (0 + i.toNat) off)) v [] [] none := by
  obtain ⟨h0, h1, _⟩ := idx_some h
  have e := map_idx (enc := enc) h
  refine .of (ob := sz = sz ∧ 0 + i.toNat < (xs.map enc).length ∧ off + t.size ≤ (enc x).length) ?_ ⟨rfl, ?_, Nat.le_of_ble_eq_true hl⟩
  · simp only [loadA, hk, Nat.zero_add, e, Option.getD_some, hv, valOb]
  · have := getElem?_lt e; omega
theorem is_stA {xs zs : List α} {i : Int} {x y : α} {k sz off : Nat} {t : Ty} {v : AV} {r : List D} {ks : List Nat} {obl : List (Nat × Nat)} (hk : obA objs k = some (.arr sz (xs.map enc))) (h : idx xs i = some x) (hz : put xs i y = some zs) (hx : xDs objs (cellsA v) = some (r, ks, obl)) (hob : leAll obl)
    (hc : (cellsOk v && (cellsA v).all solid && !ks.contains k) = true) (hy : spliceD (enc x) off r = enc y) (hl : (Nat.beq r.length t.size && Nat.ble (off + t.size) sz) = true) :
    OpIs (storeA t objs (.eptr k sz (0 + i.toNat) off) v) .top [] ks (some (k, .arr sz (zs.map enc))) := by
  obtain ⟨h0, h1, _⟩ := idx_some h
  have e := map_idx (enc := enc) h
  obtain ⟨ob, e1, q1⟩ := xDs_ok hx hob
  simp only [Bool.and_eq_true] at hl
  have hzz : zs = xs.set i.toNat y := by
    unfold put at hz
    split at hz
    · cases hz; rfl
    · cases hz
  refine .of (ob := sz = sz ∧ r.length = t.size ∧ 0 + i.toNat < (xs.map enc).length ∧ off + t.size ≤ sz ∧ ob) ?_ ⟨rfl, Nat.eq_of_beq_eq_true hl.1, ?_, Nat.le_of_ble_eq_true hl.2, q1⟩
  · simp only [storeA, hk, e1, hc, cond_true, Nat.zero_add, e, Option.getD_some, hy, hzz, List.map_set]
  · have := getElem?_lt e; omega
theorem app_ob {xs ys zs : List α} {eb : Nat} (h : app eb xs ys = some zs) : (xs.length + (ys.map enc).length) * eb ≤ 70368744177664 ∧ xs.length + (ys.map enc).length = zs.length ∧ zs = xs ++ ys := by
  obtain ⟨h1, h2⟩ := app_some h
  subst h2
  exact ⟨by simpa using h1, by simp, rfl⟩
theorem is_app {xs ys zs : List α} {esz eb k : Nat} {E : List (List D)} {ob : Prop} (hk : obA objs k = some (.arr esz (xs.map enc))) (hE : E = ys.map enc) (hl : ∀ y, (enc y).length = esz) (ho : ob) (h : app eb xs ys = some zs) :
    OpIs (appendA esz eb objs (.osl k esz 0 xs.length) E ob) (.osl objs.length esz 0 zs.length) [.arr esz (zs.map enc)] [k] none := by
  subst hE
  obtain ⟨h1, h2, h3⟩ := app_ob (enc := enc) h
  subst h3
  have hb : Nat.beq esz esz = true := Nat.beq_refl esz
  refine .of (ob := 0 + xs.length ≤ (xs.map enc).length ∧ (∀ e ∈ ys.map enc, e.length = esz) ∧ (xs.length + (ys.map enc).length) * eb ≤ 70368744177664 ∧ ob) ?_ ⟨by simp, ?_, h1, ho⟩
  · simp only [appendA, hk, hb, Bool.true_or, Bool.and_self, cond_true, List.drop_zero, h2]
    have e1 : List.take xs.length (List.map enc xs) = List.map enc xs := List.take_of_length_le (by simp)
    simp only [e1, List.map_append]
  · intro e he
    simp only [List.mem_map] at he
    obtain ⟨y, _, rfl⟩ := he
    exact hl y
theorem is_cat {x y z : List UInt8} (h : cat x y = some z) : OpIs (strA .add x y) (.d (.str z)) [] [] none := by
  unfold cat at h
  split at h
  · rename_i h0
    cases h
    exact .of rfl (by show ((x.length + y.length : Nat) : Int) ≤ 9223372036854775807; omega)
  · cases h
theorem is_sidx {s : List UInt8} {i b : Int} (h : sidx s i = some b) : OpIs (valOb (.d (.int .u8 (s[i.toNat]?.getD 0).toNat)) (0 ≤ i ∧ i < s.length)) (.d (.int .u8 b)) [] [] none := by
  unfold sidx at h
  split at h
  · rename_i h0
    cases h
    exact .of rfl h0
  · cases h
theorem is_ssub {s z : List UInt8} {l h : Int} (hz : sub s l h = some z) : OpIs (valOb (.d (.str ((s.take h.toNat).drop l.toNat))) (0 ≤ l ∧ l ≤ h ∧ h ≤ s.length)) (.d (.str z)) [] [] none := by
  unfold sub at hz
  split at hz
  · rename_i h0
    cases hz
    exact .of rfl h0
  · cases hz
theorem is_mk {zs : List α} {n : Int} {z : α} {esz eb : Nat} {ez : List D} (h : mkl eb n z = some zs) (he : enc z = ez) : OpIs (some ⟨.osl objs.length esz 0 n.toNat, [.arr esz (List.replicate n.toNat ez)], [], none, 0 ≤ n ∧ n = n ∧ n.toNat * eb ≤ 70368744177664⟩) (.osl objs.length esz 0 zs.length) [.arr esz (zs.map enc)] [] none := by
  unfold mkl at h
  split at h
  · rename_i h0
    cases h
    refine .of (ob := 0 ≤ n ∧ n = n ∧ n.toNat * eb ≤ 70368744177664) ?_ ⟨h0.1, rfl, h0.2⟩
    simp [he]
  · cases h
theorem is_bstr {bs : List Int} {z : List UInt8} (h : bstr bs = some z) {eb : Nat} : OpIs (convA (.slice 1 eb [.int .u8 0]) .string (.d (.sl (bs.map fun n => [.int .u8 n])))) (.d (.str z)) [] [] none := by
  unfold bstr at h
  split at h
  · rename_i h0
    cases h
    simp only [List.all_eq_true, Bool.and_eq_true, decide_eq_true_eq] at h0
    refine .of (ob := True ∧ ∀ e ∈ bs.map fun n => [D.int .u8 n], isByte e) ?_ ⟨trivial, ?_⟩
    · simp only [convA, elemsA, valOb, List.map_map]
      rfl
    · intro e he
      simp only [List.mem_map] at he
      obtain ⟨n, hn, rfl⟩ := he
      obtain ⟨h1, h2⟩ := h0 n hn
      refine ⟨UInt8.ofNat n.toNat, ?_⟩
      have : (UInt8.ofNat n.toNat).toNat = n.toNat := by simp; omega
      rw [this]
      congr 2
      omega
  · cases h
theorem is_len {xs : List α} {esz eb : Nat} {ez : List D} : OpIs (lenA (.slice esz eb ez) (.d (.sl (xs.map enc)))) (.d (.int .i64 xs.length)) [] [] none := by
  refine .of (ob := True) ?_ trivial
  simp only [lenA, val, List.length_map]
theorem is_slO {xs zs : List α} {l h : Int} {esz eb k : Nat} {ez : List D} (hz : sub xs l h = some zs) : OpIs (valOb (.osl k esz (0 + l.toNat) (h.toNat - l.toNat)) (0 ≤ l ∧ l ≤ h ∧ h ≤ (xs.length : Int) ∧ esz = esz)) (.osl k esz (0 + l.toNat) (h.toNat - l.toNat)) [] [] none := by
  unfold sub at hz
  split at hz
  · rename_i h0
    exact .of rfl ⟨h0.1, h0.2.1, h0.2.2, rfl⟩
  · cases hz
theorem sub_cut {xs zs : List α} {l h : Int} (hz : sub xs l h = some zs) : ((xs.map enc).drop (0 + l.toNat)).take (h.toNat - l.toNat) = zs.map enc := by
  unfold sub at hz
  split at hz
  · cases hz
    rw [Nat.zero_add, List.map_drop, List.map_take, List.take_drop]
    by_cases hh : l.toNat ≤ h.toNat
    · rw [Nat.add_sub_cancel' hh]
    · rename_i h0; omega
  · cases hz
theorem sub_le {xs zs : List α} {l h : Int} (hz : sub xs l h = some zs) : (0 + l.toNat) + (h.toNat - l.toNat) ≤ (xs.map enc).length := by
  unfold sub at hz
  split at hz
  · rename_i h0; simp; omega
  · cases hz
theorem sub_len {xs zs : List α} {l h : Int} (hz : sub xs l h = some zs) : h.toNat - l.toNat = zs.length := by
  unfold sub at hz
  split at hz
  · rename_i h0; cases hz; simp; omega
  · cases hz
theorem put_len {xs zs : List α} {i : Int} {y : α} (hz : put xs i y = some zs) : xs.length = zs.length := by
  unfold put at hz
  split at hz
  · cases hz; simp
  · cases hz
theorem cut_put {xs zs : List α} (h : xs.length = zs.length) : ((zs.map enc).drop 0).take xs.length = zs.map enc := by
  rw [h]; exact take_all
theorem le_put {xs zs : List α} (h : xs.length = zs.length) : 0 + xs.length ≤ (zs.map enc).length := by simp [h]
theorem bytes_map {s : List UInt8} : (s.map fun b => [D.int .u8 b.toNat]) = (bytesOf s).map fun n => [D.int .u8 n] := by
  simp only [bytesOf, List.map_map]; rfl
theorem guard_t {b : Bool} {u : Unit} (h : guardB b = some u) : b = true := by
  unfold guardB at h
  split at h
  · assumption
  · cases h
theorem guard_nz {b : Int} {u : Unit} (h : guardB (!(b == 0)) = some u) : b ≠ 0 := by
  have := guard_t h
  simpa using this
theorem guard_ge {b : Int} {u : Unit} (h : guardB (decide (0 ≤ b)) = some u) : 0 ≤ b := by
  have := guard_t h
  simpa using this
theorem is_ob {v : AV} {ob : Prop} (h : ob) : OpIs (valOb v ob) v [] [] none := .of rfl h
theorem pick_and {t x y : Bool} : OpIs (pickA (.d (.bool t)) (.gv t (.d (.bool x))) (.d (.bool y))) (.d (.bool (bif t then x else y))) [] [] none := .of rfl ⟨trivial, fun h => h, trivial⟩
theorem pick_or {t x y : Bool} : OpIs (pickA (.d (.bool t)) (.d (.bool x)) (.gv (!t) (.d (.bool y)))) (.d (.bool (bif t then x else y))) [] [] none := .of rfl ⟨trivial, trivial, fun h => h⟩
variable {encK : κ → List D} [DecidableEq κ]
def encM (encK : κ → List D) (enc : α → List D) (m : List (κ × α)) : List (List D × List D) := m.map fun p => (encK p.1, enc p.2)
theorem get_m {ks : List TK} (heq : ∀ a b, eqCells ks ((encK a).map .d) ((encK b).map .d) = some (decide (a = b))) (k : κ) (m : List (κ × α)) : getM ks (encK k) (encM encK enc m) = (mget k m).map enc := by
  induction m with
  | nil => rfl
  | cons p m ih =>
    have : eqK ks (encK k) (encK p.1) = decide (k = p.1) := by simp only [eqK, heq, Option.getD_some]
    simp only [encM, List.map_cons, getM, this, mget]
    by_cases h : k = p.1
    · simp only [h, decide_true, cond_true, if_true, Option.map_some]
    · simp only [h, decide_false, cond_false, if_false]; exact ih
theorem put_m {ks : List TK} (heq : ∀ a b, eqCells ks ((encK a).map .d) ((encK b).map .d) = some (decide (a = b))) (k : κ) (v : α) (m : List (κ × α)) : putM ks (encK k) (enc v) (encM encK enc m) = encM encK enc (mput k v m) := by
  induction m with
  | nil => rfl
  | cons p m ih =>
    have : eqK ks (encK k) (encK p.1) = decide (k = p.1) := by simp only [eqK, heq, Option.getD_some]
    simp only [encM, List.map_cons, putM, this, mput]
    by_cases h : k = p.1
    · simp only [h, decide_true, cond_true, if_true, List.map_cons]
    · simp only [h, decide_false, cond_false, if_false, List.map_cons]
      congr 1
theorem keys_m {ks : List TK} (heq : ∀ a b, eqCells ks ((encK a).map .d) ((encK b).map .d) = some (decide (a = b))) (k : κ) (m : List (κ × α)) : keysOk ks (encK k) (encM encK enc m) := by
  refine ⟨by rw [heq]; rfl, fun p hp => ?_⟩
  simp only [encM, List.mem_map] at hp
  obtain ⟨q, _, rfl⟩ := hp
  simp only [heq, Option.isSome_some]
theorem is_look1 {ks : List TK} {k : Nat} {m : List (κ × α)} {key : κ} {l : List AV} {z : α} {vz : List D} {e1 : α → D} (heq : ∀ a b, eqCells ks ((encK a).map .d) ((encK b).map .d) = some (decide (a = b))) (he : ∀ x, enc x = [e1 x]) (hz : vz = [e1 z]) (hk : obA objs k = some (.map true false (encM encK enc m))) (hx : xDs objs l = some (encK key, [], [])) (ok : Bool) :
    OpIs (lookA (.map ks true false vz) objs (.mp k) (.agg l) ok) (bif ok then .tup [.d (e1 ((mget key m).getD z)), .d (.bool (mget key m).isSome)] else .d (e1 ((mget key m).getD z))) [] [] none := by
  obtain ⟨ob, e2, q⟩ := xDs_ok hx leZ
  have hv : kvV false ((getM ks (encK key) (encM encK enc m)).getD vz) = .d (e1 ((mget key m).getD z)) := by
    rw [get_m heq, hz]
    cases mget key m with
    | none => rfl
    | some x => simp only [Option.map_some, Option.getD_some, he]; rfl
  have hs : (getM ks (encK key) (encM encK enc m)).isSome = (mget key m).isSome := by rw [get_m heq]; cases mget key m <;> rfl
  refine .of (ob := ob ∧ keysOk ks (encK key) (encM encK enc m)) ?_ ⟨q, keys_m heq key m⟩
  simp only [lookA, hk, kvA, cond_true, e2, List.isEmpty_nil, beq_self_eq_true, Bool.and_self, valOb, hv, hs]
theorem is_put1 {ks : List TK} {k : Nat} {m : List (κ × α)} {key : κ} {l : List AV} {v : AV} {y : α} {vz : List D} {e1 : α → D} (heq : ∀ a b, eqCells ks ((encK a).map .d) ((encK b).map .d) = some (decide (a = b))) (he : ∀ x, enc x = [e1 x]) (hz : Nat.beq vz.length 1 = true) (hk : obA objs k = some (.map true false (encM encK enc m))) (hx : xDs objs l = some (encK key, [], [])) (hv : v = .d (e1 y)) (hvx : xDs objs [v] = some (enc y, [], [])) :
    OpIs (mputA (.map ks true false vz) objs (.mp k) (.agg l) v) .top [] [] (some (k, .map true false (encM encK enc (mput key y m)))) := by
  obtain ⟨ob, e2, q⟩ := xDs_ok hx leZ
  obtain ⟨ob', e3, q'⟩ := xDs_ok hvx leZ
  have hkv : kvA objs false v = some ⟨enc y, [], ob'⟩ := by subst hv; exact e3
  refine .of (ob := ob ∧ ob' ∧ keysOk ks (encK key) (encM encK enc m) ∧ k ∉ ([] : List Nat) ∧ (enc y).length = vz.length) ?_ ⟨q, q', keys_m heq key m, by simp, by rw [he, Nat.eq_of_beq_eq_true hz]; rfl⟩
  simp only [mputA, hk, kvA, cond_true, e2]
  simp only [kvA] at hkv
  rw [hkv]
  simp only [put_m heq]
  rfl
end Go.AI
end
section
namespace Go.AI
variable {Γ : Cx} {C : Code} {p p0 p1 : List Nat} {Q : Ex → St → Prop} {s s' : St} {K : St → Prop} {i : Nat}
variable {α β : Type} {enc : β → List D} {encN : α → List AV} {objs : List (Option Ob)}
def nL {γ : Type} (sz : Nat) (e : γ → List D) (l : List γ) : List AV := [.own sz (l.map e)]
def keepOf (Γ : Cx) (c : Code) (i : Nat) (s : St) : Option (Nat × List (List D)) :=
  match (opsIn c)[i]? with
  | some o => opK Γ.ty (fun x => unG (evalA s.env x)) o.op
  | none => none
def nextK (Γ : Cx) (c : Code) (i : Nat) (obj : Bool) (esz : Nat) (es : List (List D)) (s : St) : Option St :=
  match (opsIn c)[i]? with
  | some o => bif !drIn c && o.guard.isNone && dstOk Γ.nt o.dst && (o.op.operands.toList.map (evalA s.env)).all notGv then (bif obj then some ⟨putA o.dst false true (.osl s.objs.length esz 0 es.length) s.env, s.objs ++ [some (.arr esz es)]⟩ else some ⟨putA o.dst false true (.d (.sl es)) s.env, s.objs⟩) else none
  | none => none
theorem specK (j : Nat) (obj : Bool) {esz : Nat} (es : List (List D)) (hx : keepOf Γ (nav p C) i s = some (esz, es)) (hn : nextK Γ (nav p C) i obj esz es s = some s') (hj : i + 1 = j) (hk : runFrom Γ C p j K s') : runFrom Γ C p i K s := by
  subst hj
  unfold runFrom at hk ⊢
  unfold keepOf at hx
  unfold nextK at hn
  split at hn
  · rename_i o hi
    rw [hi] at hx
    simp only at hx
    obtain ⟨hc, hn⟩ := bif_some hn
    simp only [Bool.and_eq_true, Bool.not_eq_true'] at hc
    obtain ⟨⟨⟨h0, h1⟩, h2⟩, h3⟩ := hc
    rw [drop_cons hi]
    show stepA _ _ _ _ _ _
    have hgN : o.guard = none := by simpa using h1
    unfold stepA
    rw [hgN]
    simp only [guardA, h2, Bool.not_true, cond_false]
    refine ⟨fun _ => .inr (.inr ⟨h0, hgN, ?_⟩), fun h => by cases h⟩
    rw [hx]
    refine ⟨gobA_of h3, ?_⟩
    cases obj with
    | true => rw [cond_true] at hn; cases hn; exact .inr hk
    | false => rw [cond_false] at hn; cases hn; exact .inl hk
  · cases hn
def arrAt (s : St) (k : Nat) : Option (Nat × List (List D)) :=
  match obA s.objs k with
  | some (.arr sz es) => some (sz, es)
  | _ => none
def narrAt (s : St) (k : Nat) : Option (Nat × List (List AV)) :=
  match obA s.objs k with
  | some (.narr sz es) => some (sz, es)
  | _ => none
theorem arrAt_ok {k sz : Nat} {es : List (List D)} (h : arrAt s k = some (sz, es)) : obA s.objs k = some (.arr sz es) := by
  unfold arrAt at h
  split at h
  · rename_i hh; cases h; exact hh
  · cases h
theorem narrAt_ok {k sz : Nat} {es : List (List AV)} (h : narrAt s k = some (sz, es)) : obA s.objs k = some (.narr sz es) := by
  unfold narrAt at h
  split at h
  · rename_i hh; cases h; exact hh
  · cases h
def nilB : AV → AV → Bool
  | .own 0 [], .own _ [] => true
  | _, _ => false
def nilBs : List AV → List AV → Bool
  | [], [] => true
  | a :: l, b :: m => nilB a b && nilBs l m
  | _, _ => false
def nilBss : List (List AV) → List (List AV) → Bool
  | [], [] => true
  | a :: l, b :: m => nilBs a b && nilBss l m
  | _, _ => false
theorem nilB_ok {a b : AV} (h : nilB a b = true) : a = .own 0 [] ∧ ∃ s, b = .own s [] := by
  unfold nilB at h
  split at h
  · exact ⟨rfl, _, rfl⟩
  · cases h
theorem nilBs_ok : ∀ {l m : List AV}, nilBs l m = true → l.length = m.length ∧ ∀ (j : Nat) (a a' : AV), l[j]? = some a → m[j]? = some a' → a = a' ∨ (a = .own 0 [] ∧ ∃ s, a' = .own s []) := by
  intro l
  induction l with
  | nil => intro m h; cases m with | nil => exact ⟨rfl, fun j a a' h => by simp at h⟩ | cons => cases h
  | cons a l ih =>
    intro m h
    cases m with
    | nil => cases h
    | cons b m =>
      simp only [nilBs, Bool.and_eq_true] at h
      obtain ⟨h1, h2⟩ := ih h.2
      refine ⟨by simp [h1], fun j x y hx hy => ?_⟩
      cases j with
      | zero => simp at hx hy; subst hx; subst hy; exact .inr (nilB_ok h.1)
      | succ j => exact h2 j x y (by simpa using hx) (by simpa using hy)
theorem nilBss_ok : ∀ {l m : List (List AV)}, nilBss l m = true → l.length = m.length ∧ ∀ (i : Nat) (e e' : List AV), l[i]? = some e → m[i]? = some e' → e.length = e'.length ∧ ∀ (j : Nat) (a a' : AV), e[j]? = some a → e'[j]? = some a' → a = a' ∨ (a = .own 0 [] ∧ ∃ s, a' = .own s []) := by
  intro l
  induction l with
  | nil => intro m h; cases m with | nil => exact ⟨rfl, fun j a a' h => by simp at h⟩ | cons => cases h
  | cons a l ih =>
    intro m h
    cases m with
    | nil => cases h
    | cons b m =>
      simp only [nilBss, Bool.and_eq_true] at h
      obtain ⟨h1, h2⟩ := ih h.2
      refine ⟨by simp [h1], fun j x y hx hy => ?_⟩
      cases j with
      | zero => simp at hx hy; subst hx; subst hy; exact nilBs_ok h.1
      | succ j => exact h2 j x y (by simpa using hx) (by simpa using hy)
theorem sh_toN (k : Nat) (E : List (List AV)) {sz : Nat} {es : List (List D)} (h : arrAt s k = some (sz, es)) (hb : nilBss (es.map fun e => e.map toN) E = true) : Shift s ⟨s.env, s.objs.set k (some (.narr sz E))⟩ := by
  have ho := arrAt_ok h
  obtain ⟨h1, h2⟩ := nilBss_ok hb
  have a := Shift.toN (st := s) k sz es ho
  have b := Shift.reown (st := ⟨s.env, s.objs.set k (some (.narr sz (es.map fun e => e.map toN)))⟩) k sz (es.map fun e => e.map toN) E (obA_set_same ho) h1 h2
  have := Shift.trans a b
  simpa using this
theorem sh_reN (k : Nat) {sz : Nat} {xss yss : List α} {row : List AV} {y : α} (h : narrAt s k = some (sz, xss.map encN ++ [row])) (hy : yss = xss ++ [y]) (hb : nilBs row (encN y) = true) : Shift s ⟨s.env, s.objs.set k (some (.narr sz (yss.map encN)))⟩ := by
  have ho := narrAt_ok h
  subst hy
  refine Shift.reown k sz _ _ ho (by simp) fun i e e' hi hi' => ?_
  rw [List.map_append] at hi'
  by_cases hlt : i < (xss.map encN).length
  · rw [List.getElem?_append_left hlt] at hi hi'
    rw [hi] at hi'
    cases hi'
    exact ⟨rfl, fun j a a' ha ha' => .inl (by rw [ha] at ha'; exact Option.some.inj ha')⟩
  · rw [List.getElem?_append_right (by omega)] at hi hi'
    have : i - (xss.map encN).length = 0 := by have := getElem?_lt hi; simp at this; simp at *; omega
    rw [this] at hi hi'
    simp at hi hi'
    subst hi; subst hi'
    exact nilBs_ok hb
theorem app_one {eb : Nat} {xss yss : List α} {y : α} (h : app eb xss [y] = some yss) : yss = xss ++ [y] := (app_some h).2
theorem is_appN {xss yss : List α} {y : α} {esz eb k : Nat} {e : List D} {ob : Prop} (hk : obA objs k = some (.narr esz (xss.map encN))) (hl : Nat.beq e.length esz = true) (ho : ob) (h : app eb xss [y] = some yss) :
    OpIs (appendA esz eb objs (.osl k esz 0 xss.length) [e] ob) (.osl objs.length esz 0 yss.length) [.narr esz (xss.map encN ++ [e.map toN])] [k] none := by
  obtain ⟨h1, h2⟩ := app_some h
  subst h2
  have hb : Nat.beq esz esz = true := Nat.beq_refl esz
  have h0 : Nat.beq 0 0 = true := rfl
  refine .of (ob := xss.length ≤ (xss.map encN).length ∧ (∀ e' ∈ [e], e'.length = esz) ∧ (xss.length + [e].length) * eb ≤ 70368744177664 ∧ ob) ?_ ⟨by simp, ?_, by simpa using h1, ho⟩
  · simp only [appendA, hk, hb, h0, Bool.and_self, cond_true]
    have e1 : List.take xss.length (List.map encN xss) = List.map encN xss := List.take_of_length_le (by simp)
    simp [e1]
  · intro e' he
    simp at he
    subst he
    exact Nat.eq_of_beq_eq_true hl
theorem sh_out (k j isz : Nat) {sz : Nat} {xss : List α} {x : α} {ys : List β} {n : Int} (h : narrAt s k = some (sz, xss.map encN)) (hx : idx xss n = some x) (hj : (encN x)[j]? = some (.own isz (ys.map enc))) :
    Shift s ⟨s.env, s.objs.set k (some (.narr sz ((xss.map encN).set n.toNat ((encN x).set j (.osl s.objs.length isz 0 ys.length))))) ++ [some (.arr isz (ys.map enc))]⟩ := by
  have ho := narrAt_ok h
  have hi : (xss.map encN)[n.toNat]? = some (encN x) := by rw [List.getElem?_map, (idx_some hx).2.2]; rfl
  have := Shift.out (st := s) k sz n.toNat j isz _ _ _ ho hi hj
  simpa using this
theorem sh_inn (k j m isz : Nat) {sz : Nat} {xss yss : List α} {x y : α} {row : List AV} {zs : List β} {n : Int} (h : (narrAt s k, arrAt s m) = (some (sz, (xss.map encN).set n.toNat row), some (isz, zs.map enc))) (hx : idx xss n = some x) (hr : row[j]? = some (.osl m isz 0 zs.length)) (hy : row.set j (.own isz (zs.map enc)) = encN y) (hp : xss.set n.toNat y = yss) :
    Shift s ⟨s.env, (s.objs.set m none).set k (some (.narr sz (yss.map encN)))⟩ := by
  simp only [Prod.mk.injEq] at h
  have ho := narrAt_ok h.1
  have hm := arrAt_ok h.2
  obtain ⟨h0, h1, _⟩ := idx_some hx
  have hlt : n.toNat < (xss.map encN).length := by simp; omega
  have hi : ((xss.map encN).set n.toNat row)[n.toNat]? = some row := List.getElem?_set_self hlt
  have hlen : zs.length = (zs.map enc).length := by simp
  rw [hlen] at hr
  have := Shift.inn (st := s) k sz n.toNat j m isz _ row (zs.map enc) ho hi hr hm
  rw [hy, List.set_set] at this
  rw [← hp, List.map_set]
  exact this
theorem is_ldN {xss : List α} {x : α} {row : List AV} {n : Int} {k sz off : Nat} {t : Ty} {v : AV} (hk : obA objs k = some (.narr sz ((xss.map encN).set n.toNat row))) (h : idx xss n = some x) (hv : ldCells row off t = some v) (hs : (cellsA v).all solid = true) (hl : Nat.ble (off + t.size) row.length = true) :
    OpIs (loadA t objs (.eptr k sz (0 + n.toNat) off)) v [] [] none := by
  obtain ⟨h0, h1, _⟩ := idx_some h
  have hlt : n.toNat < (xss.map encN).length := by simp; omega
  have hi : ((xss.map encN).set n.toNat row)[n.toNat]? = some row := List.getElem?_set_self hlt
  refine .of (ob := sz = sz ∧ 0 + n.toNat < ((xss.map encN).set n.toNat row).length ∧ off + t.size ≤ row.length ∧ (cellsA v).all solid = true) ?_ ⟨rfl, ?_, Nat.le_of_ble_eq_true hl, hs⟩
  · simp only [loadA, hk, Nat.zero_add, hi, Option.getD_some, hv, valOb]
  · simp only [List.length_set, Nat.zero_add]; exact hlt
theorem is_stN {xss : List α} {x : α} {row row' : List AV} {n : Int} {k sz off : Nat} {t : Ty} {v : AV} (hk : obA objs k = some (.narr sz ((xss.map encN).set n.toNat row))) (h : idx xss n = some x) (hc : (cellsOk v && (cellsA v).all solid) = true) (hy : splice row off (cellsA v) = row') (hl : (Nat.beq (cellsA v).length t.size && Nat.ble (off + t.size) sz) = true) :
    OpIs (storeA t objs (.eptr k sz (0 + n.toNat) off) v) .top [] [] (some (k, .narr sz ((xss.map encN).set n.toNat row'))) := by
  obtain ⟨h0, h1, _⟩ := idx_some h
  have hlt : n.toNat < (xss.map encN).length := by simp; omega
  have hi : ((xss.map encN).set n.toNat row)[n.toNat]? = some row := List.getElem?_set_self hlt
  simp only [Bool.and_eq_true] at hl
  refine .of (ob := sz = sz ∧ (cellsA v).length = t.size ∧ 0 + n.toNat < ((xss.map encN).set n.toNat row).length ∧ off + t.size ≤ sz) ?_ ⟨rfl, Nat.eq_of_beq_eq_true hl.1, ?_, Nat.le_of_ble_eq_true hl.2⟩
  · simp only [storeA, hk, hc, cond_true, Nat.zero_add, hi, Option.getD_some, hy, List.set_set]
  · simp only [List.length_set, Nat.zero_add]; exact hlt
theorem sh_frzN (t : Nat) {k sz : Nat} {xss : List α} {encD : α → List D} (h : (lkA s.env t, narrAt s k) = (.osl k sz 0 xss.length, some (sz, xss.map encN))) (hd : ∀ x, (encN x).map ofN = encD x) (hn : ∀ x, (encN x).all isN = true) : Shift s ⟨(t, .d (.sl (xss.map encD))) :: s.env, s.objs.set k none⟩ := by
  simp only [Prod.mk.injEq] at h
  have ho := narrAt_ok h.2
  have hlen : xss.length = (xss.map encN).length := by simp
  have ht := h.1
  rw [hlen] at ht
  have := Shift.frz (st := s) t k sz _ ht ho (fun e he a ha => by
    simp only [List.mem_map] at he
    obtain ⟨x, _, rfl⟩ := he
    exact List.all_eq_true.1 (hn x) a ha)
  have e1 : (List.map (fun e => List.map ofN e) (List.map encN xss)) = xss.map encD := by
    rw [List.map_map]
    exact List.map_congr_left fun x _ => hd x
  rw [e1] at this
  exact this
def clrAt (s : St) (k : Nat) : St :=
  match obA s.objs k with
  | some (.narr sz es) => ⟨s.env, s.objs.set k (some (.narr sz (es.map fun e => e.map clrA)))⟩
  | _ => s
theorem set_self {O : List (Option Ob)} {k : Nat} {ob : Ob} (h : obA O k = some ob) : O.set k (some ob) = O := by
  unfold obA at h
  split at h
  · rename_i hk
    cases h
    apply List.ext_getElem?
    intro i
    rw [List.getElem?_set]
    split
    · rename_i e; subst e
      split
      · exact hk.symm
      · rename_i hl; have := getElem?_lt hk; omega
    · rfl
  · cases h
theorem sh_gcN (ts : List Nat) (k : Nat) {sz : Nat} {xss : List α} (h : gcA ts s = clrAt s' k) (hn : narrAt s' k = some (sz, xss.map encN)) (hc : ∀ x, (encN x).map clrA = encN x) : Shift s s' := by
  have ho := narrAt_ok hn
  have e1 : clrAt s' k = s' := by
    unfold clrAt
    rw [ho]
    have e2 : (List.map (fun e => List.map clrA e) (List.map encN xss)) = xss.map encN := by
      rw [List.map_map]
      exact List.map_congr_left fun x _ => hc x
    simp only [e2, set_self ho]
  rw [e1] at h
  exact sh_gc ts h
end Go.AI
end
section
namespace Go.AI
variable {Γ : Cx} {C : Code} {p : List Nat} {Q : Ex → St → Prop} {s s' : St} {K : St → Prop} {i : Nat}
variable {α β ζ : Type}
theorem getD_ok {x : Option α} {d : α} (h : x.isSome = true) : x = some (x.getD d) := by
  cases x with
  | none => cases h
  | some x => rfl
structure WP (Γ : Cx) (C : Code) (p : List Nat) (Q : Ex → St → Prop) (s : St) : Prop where
  out : wpA Γ (nav p C) Q s
structure RF (Γ : Cx) (C : Code) (p : List Nat) (i : Nat) (Q : Ex → St → Prop) (s : St) : Prop where
  out : runFrom Γ C p i (Q .normal) s
structure PQ (Q : Ex → St → Prop) (e : Ex) (s : St) : Prop where
  out : Q e s
structure RA (ty : Nat → Ty) (rs : List ResultVar) (r : AV) (s : St) : Prop where
  out : retA ty rs r s
theorem RF.of {Γ : Cx} {C : Code} {p : List Nat} {i : Nat} {Q : Ex → St → Prop} {s s' : St} {j : Nat} (h : runFrom Γ C p j (Q .normal) s' → runFrom Γ C p i (Q .normal) s) (hk : RF Γ C p j Q s') : RF Γ C p i Q s := ⟨h hk.out⟩
theorem nav_snoc (k : Nat) : ∀ (p : List Nat) (C : Code), nav (p ++ [k]) C = child (nav p C) k := by
  intro p
  induction p with
  | nil => intro C; rfl
  | cons a p ih => intro C; exact ih (child C a)
def isSeq : Code → Bool
  | .seq _ _ => true
  | _ => false
def isCond : Code → Bool
  | .cond _ _ _ => true
  | _ => false
def isBlk (id : Nat) : Code → Bool
  | .block i _ => Nat.beq i id
  | _ => false
def isLoop : Code → Bool
  | .loop _ => true
  | _ => false
theorem seq_nav (h : isSeq (nav p C) = true) : nav p C = .seq (nav (p ++ [0]) C) (nav (p ++ [1]) C) := by
  rw [nav_snoc, nav_snoc]
  cases hc : nav p C <;> rw [hc] at h <;> first | rfl | cases h
theorem cond_nav (h : isCond (nav p C) = true) : nav p C = .cond (condOp (nav p C)) (nav (p ++ [0]) C) (nav (p ++ [1]) C) := by
  rw [nav_snoc, nav_snoc]
  cases hc : nav p C <;> rw [hc] at h <;> first | rfl | cases h
theorem blk_nav {id : Nat} (h : isBlk id (nav p C) = true) : nav p C = .block id (nav (p ++ [0]) C) := by
  rw [nav_snoc]
  cases hc : nav p C with
  | block j c => rw [hc] at h; have := Nat.eq_of_beq_eq_true h; subst this; rfl
  | _ => rw [hc] at h; cases h
theorem loop_nav (h : isLoop (nav p C) = true) : nav p C = .loop (nav (p ++ [0]) C) := by
  rw [nav_snoc]
  cases hc : nav p C <;> rw [hc] at h <;> first | rfl | cases h
theorem sq (hw : WP Γ C (p ++ [0]) (seqQ (wpA Γ (nav (p ++ [1]) C) Q) Q) s) (h : isSeq (nav p C) = true := by kernel_rfl) : WP Γ C p Q s := ⟨at_seq (seq_nav h) hw.out⟩
theorem rg (hs : Shift s s') (hk : RF Γ C p 0 Q s') (h : isReg (nav p C) = true := by kernel_rfl) : WP Γ C p Q s := ⟨at_region h hs hk.out⟩
theorem rz (hk : RF Γ C p 0 Q s) (h : isReg (nav p C) = true := by kernel_rfl) : WP Γ C p Q s := ⟨at_region h sh_refl hk.out⟩
theorem sr (hk : RF Γ C (p ++ [0]) 0 (seqQ (wpA Γ (nav (p ++ [1]) C) Q) Q) s) (h : (isSeq (nav p C) && isReg (nav (p ++ [0]) C)) = true := by kernel_rfl) : WP Γ C p Q s := by
  simp only [Bool.and_eq_true] at h
  exact sq (rz hk h.2) h.1
theorem ae (hk : PQ Q .normal s) (h : Nat.ble (opsIn (nav p C)).length i = true := by kernel_rfl) : RF Γ C p i Q s := ⟨at_end i h hk.out⟩
theorem en {p' : List Nat} (hk : WP Γ C p' Q s) (h : Nat.ble (opsIn (nav p C)).length i = true := by kernel_rfl) : RF Γ C p i (seqQ (wpA Γ (nav p' C) Q) Q) s := ⟨at_end i h ⟨s, .refl s, hk.out⟩⟩
theorem bk (id : Nat) (hw : WP Γ C (p ++ [0]) (blockQ id Q) s) (h : isBlk id (nav p C) = true := by kernel_rfl) : WP Γ C p Q s := ⟨at_block id (blk_nav h) hw.out⟩
theorem ex (k : Nat) (hq : PQ Q (.exit k) s) (h : nav p C = .exit k := by kernel_rfl) : WP Γ C p Q s := ⟨at_exit k h hq.out⟩
theorem re (hq : PQ Q .ret s) (h : nav p C = .ret := by kernel_rfl) : WP Γ C p Q s := ⟨at_ret h hq.out⟩
theorem sk (hq : PQ Q .normal s) (h : nav p C = .skip := by kernel_rfl) : WP Γ C p Q s := ⟨at_skip h hq.out⟩
theorem cn {c : Bool} {x y : Option ζ} {r : ζ} (H : (if c = true then x else y) = some r) (h1 : x = some r → WP Γ C (p ++ [0]) Q s) (h2 : y = some r → WP Γ C (p ++ [1]) Q s) (h : isCond (nav p C) = true := by kernel_rfl) (hc : evalA s.env (condOp (nav p C)) = .d (.bool c) := by kernel_rfl) : WP Γ C p Q s := by
  refine ⟨at_cond c (cond_nav h) hc (fun e => ?_) (fun e => ?_)⟩
  · rw [if_pos e] at H; exact (h1 H).out
  · rw [if_neg (by rw [e]; simp)] at H; exact (h2 H).out
theorem sj {σ ζ : Type} (sJ : σ → St) (F : σ → Option ζ) (z : ζ) (hb : ∀ x, F x = some z → WP Γ C (p ++ [1]) Q (sJ x)) (ha : (∀ x, F x = some z → WP Γ C (p ++ [1]) Q (sJ x)) → WP Γ C (p ++ [0]) (seqQ (wpA Γ (nav (p ++ [1]) C) Q) Q) s) (h : isSeq (nav p C) = true := by kernel_rfl) : WP Γ C p Q s := sq (ha hb) h
theorem lp {σ ρ : Type} {body : σ → Option (σ ⊕ ρ)} {n : Nat} {x : σ} {r : ρ} (st : σ → St) (E : ρ → Ex → St → Prop) (hr : whl body n x = some r) (hs : Shift s (st x))
    (hb : ∀ x z, body x = some z → WP Γ C (p ++ [0]) (roundQ st E z) (st x)) (hE : ∀ e s, E r e s → PQ Q e s) (h : isLoop (nav p C) = true := by kernel_rfl) : WP Γ C p Q s := ⟨at_loop st E (loop_nav h) hr hs (fun x z hx => (hb x z hx).out) (fun e s he => (hE e s he).out)⟩
theorem fo {P : Program} {fn : Func} {f : FuncId} {args : List AV} {r : AV} (hfol : P.follows .mixedOrders = true) (hΓ : CxOK P Γ) (hf : P.funcs[f]? = some fn) (h : WP Γ (bodyOf fn) [] (postA Γ.ty fn.results.toList r) s)
    (hb : fn.body = some (bodyOf fn) := by kernel_rfl) (hnm : (fn.name == "runtime.NumGoroutine") = false := by kernel_rfl) (hnt : Γ.nt = fn.ntmps := by kernel_rfl) (hlen : Nat.ble args.length fn.ntmps = true := by kernel_rfl) (hd : drawsB (bodyOf fn) = true := by kernel_rfl) (hs : (⟨(List.range args.length).zip args, []⟩ : St) = s := by kernel_rfl) : CallOK P f args r :=
  fn_ok hfol hΓ hf hb hnm hnt hlen hd hs h.out
theorem bx {G : Prop} {x : Option α} {f : α → Option β} {r : β} (h : x.bind f = some r) (k : ∀ a, x = some a → f a = some r → G) : G := by obtain ⟨a, h1, h2⟩ := bind_some h; exact k a h1 h2
theorem bs {x : Option α} {f : α → Option β} {r : β} (h : x.bind f = some r) : ∃ a, x = some a ∧ f a = some r := bind_some h
theorem qs (hs : Shift s s') (h : WP Γ C p Q s') : PQ (seqQ (wpA Γ (nav p C) Q) Q) .normal s := ⟨s', hs, h.out⟩
theorem qz (h : WP Γ C p Q s) : PQ (seqQ (wpA Γ (nav p C) Q) Q) .normal s := ⟨s, .refl s, h.out⟩
theorem qx {B : St → Prop} {k : Nat} (h : PQ Q (.exit k) s) : PQ (seqQ B Q) (.exit k) s := ⟨h.out⟩
theorem qr {B : St → Prop} (h : PQ Q .ret s) : PQ (seqQ B Q) .ret s := ⟨h.out⟩
theorem qN {id : Nat} (h : PQ Q .normal s) : PQ (blockQ id Q) .normal s := ⟨h.out⟩
theorem qH {id : Nat} (h : PQ Q .normal s) : PQ (blockQ id Q) (.exit id) s := ⟨q_blockH h.out⟩
theorem qX {id k : Nat} (hn : Nat.beq k id = false) (h : PQ Q (.exit k) s) : PQ (blockQ id Q) (.exit k) s := ⟨q_blockX hn h.out⟩
theorem qR {id : Nat} (h : PQ Q .ret s) : PQ (blockQ id Q) .ret s := ⟨h.out⟩
theorem og {σ ρ : Type} {st : σ → St} {E : ρ → Ex → St → Prop} {y : σ} (h : Shift s (st y)) : PQ (roundQ st E (.inl y)) .normal s := ⟨round_go h⟩
theorem oe {σ ρ : Type} {st : σ → St} {E : ρ → Ex → St → Prop} {r : ρ} {k : Nat} (h : E r (.exit k) s) : PQ (roundQ st E (.inr r)) (.exit k) s := ⟨round_exit h⟩
theorem or {σ ρ : Type} {st : σ → St} {E : ρ → Ex → St → Prop} {r : ρ} (h : E r .ret s) : PQ (roundQ st E (.inr r)) .ret s := ⟨round_ret h⟩
theorem pr {ty : Nat → Ty} {rs : List ResultVar} {r : AV} (h : RA ty rs r s) : PQ (postA ty rs r) .ret s := ⟨h.out⟩
def nxP (Γ : Cx) (C : Code) (p : List Nat) (i n : Nat) (s : St) : St := (runP Γ (opsIn (nav p C)) (((opsIn (nav p C)).drop i).take n) s).getD s
theorem ck (n : Nat) (hk : RF Γ C p (i + n) Q (nxP Γ C p i n s)) (h : (runP Γ (opsIn (nav p C)) (((opsIn (nav p C)).drop i).take n) s).isSome = true := by kernel_rfl) : RF Γ C p i Q s := ⟨chunk n _ (getD_ok h) rfl hk.out⟩
def OpAt (_ : St) (x : Option Eff) (v : AV) (obs : List Ob) (rm : List Nat) (upd : Option (Nat × Ob)) : Prop := OpIs x v obs rm upd
theorem sp {v : AV} {obs : List Ob} {rm : List Nat} {upd : Option (Nat × Ob)} {x : Option Eff} (ho : OpAt s x v obs rm upd) (hk : RF Γ C p (i + 1) Q ((nextS Γ (nav p C) i v obs rm upd s).getD s)) (hx : opOf Γ (nav p C) i s = x := by kernel_rfl) (hn : (nextS Γ (nav p C) i v obs rm upd s).isSome = true := by kernel_rfl) : RF Γ C p i Q s := ⟨spec _ hx ho (getD_ok hn) rfl hk.out⟩
def opV (Γ : Cx) (c : Code) (i : Nat) (s : St) : AV := match opOf Γ c i s with
  | some e => e.v
  | none => .top
theorem so {ob : Prop} (ho : ob) (hk : RF Γ C p (i + 1) Q ((nextS Γ (nav p C) i (opV Γ (nav p C) i s) [] [] none s).getD s)) (hx : opOf Γ (nav p C) i s = valOb (opV Γ (nav p C) i s) ob := by kernel_rfl) (hn : (nextS Γ (nav p C) i (opV Γ (nav p C) i s) [] [] none s).isSome = true := by kernel_rfl) : RF Γ C p i Q s := sp (is_ob ho) hk hx hn
theorem sG {g : Bool} {v : AV} {obs : List Ob} {x : Option Eff} {gs : List Bool} (ho : g = true → OpAt s x v obs [] none) (hi : impAll g gs) (hk : RF Γ C p (i + 1) Q ((nextG Γ (nav p C) i g v obs s).getD s)) (hg : gAt (nav p C) i s = some g := by kernel_rfl) (hx : opOf Γ (nav p C) i s = x := by kernel_rfl) (hgs : gvsAt (nav p C) i s = gs := by kernel_rfl) (hn : (nextG Γ (nav p C) i g v obs s).isSome = true := by kernel_rfl) : RF Γ C p i Q s := ⟨specG _ hg hx ho hgs hi (getD_ok hn) rfl hk.out⟩
theorem soG {g : Bool} {ob : Prop} {gs : List Bool} (ho : g = true → ob) (hi : impAll g gs) (hk : RF Γ C p (i + 1) Q ((nextG Γ (nav p C) i g (opV Γ (nav p C) i s) [] s).getD s)) (hg : gAt (nav p C) i s = some g := by kernel_rfl) (hx : opOf Γ (nav p C) i s = valOb (opV Γ (nav p C) i s) ob := by kernel_rfl) (hgs : gvsAt (nav p C) i s = gs := by kernel_rfl) (hn : (nextG Γ (nav p C) i g (opV Γ (nav p C) i s) [] s).isSome = true := by kernel_rfl) : RF Γ C p i Q s := sG (fun e => is_ob (ho e)) hi hk hg hx hgs hn
def plV (Γ : Cx) (c : Code) (i : Nat) (s : St) : AV × List Ob := (opPl Γ c i s).getD (.top, [])
theorem gp (g : Bool) {gs : List Bool} (hi : impAll g gs) (hk : RF Γ C p (i + 1) Q ((nextG Γ (nav p C) i g (plV Γ (nav p C) i s).1 (plV Γ (nav p C) i s).2 s).getD s)) (hg : gAt (nav p C) i s = some g := by kernel_rfl) (hp : (opPl Γ (nav p C) i s).isSome = true := by kernel_rfl) (hgs : gvsAt (nav p C) i s = gs := by kernel_rfl) (hn : (nextG Γ (nav p C) i g (plV Γ (nav p C) i s).1 (plV Γ (nav p C) i s).2 s).isSome = true := by kernel_rfl) : RF Γ C p i Q s :=
  ⟨specG _ hg rfl (fun _ => is_pl (getD_ok (d := (.top, [])) hp)) hgs hi (getD_ok hn) rfl hk.out⟩
def gl (Γ : Cx) (c : Code) (g : Bool) : Nat → Nat → St → Option (List Bool × St)
  | 0, _, s => some ([], s)
  | n + 1, i, s => match gAt c i s, (opPl Γ c i s).isSome, nextG Γ c i g (plV Γ c i s).1 (plV Γ c i s).2 s with
    | some g', true, some s1 => match gl Γ c g n (i + 1) s1 with
      | some (l, s2) => some (g' :: (gvsAt c i s ++ l), s2)
      | none => none
    | _, _, _ => none
theorem impAll_of {g : Bool} : ∀ {l : List Bool}, (∀ b ∈ l, b = g) → impAll g l := by
  intro l
  induction l with
  | nil => intro _; trivial
  | cons b l ih => intro h; exact ⟨fun e => by rw [h b (by simp)]; exact e, ih fun x hx => h x (by simp [hx])⟩
theorem gl_ok {g : Bool} : ∀ (n i : Nat) (s : St) (l : List Bool) (s2 : St), gl Γ (nav p C) g n i s = some (l, s2) → (∀ b ∈ l, b = g) → RF Γ C p (i + n) Q s2 → RF Γ C p i Q s := by
  intro n
  induction n with
  | zero => intro i s l s2 h _ hk; cases h; exact hk
  | succ n ih =>
    intro i s l s2 h hl hk
    simp only [gl] at h
    split at h
    · rename_i g' s1 h1 h2 h3
      split at h
      · rename_i l' s2' h4
        cases h
        have e : g' = g := hl g' (by simp)
        subst e
        have hlast := ih (i + 1) s1 l' s2 h4 (fun b hb => hl b (by simp [hb])) (by rw [Nat.add_assoc, Nat.add_comm 1 n]; exact hk)
        refine gp g' (impAll_of fun b hb => hl b (by simp [hb])) ?_ h1 h2 rfl (by rw [h3]; rfl)
        rw [h3]
        exact hlast
      · cases h
    · cases h
theorem gc (n : Nat) (g : Bool) (hk : RF Γ C p (i + n) Q ((gl Γ (nav p C) g n i s).getD ([], s)).2) (h1 : (gl Γ (nav p C) g n i s).isSome = true := by kernel_rfl) (h2 : ((gl Γ (nav p C) g n i s).getD ([], s)).1 = List.replicate ((gl Γ (nav p C) g n i s).getD ([], s)).1.length g := by kernel_rfl) : RF Γ C p i Q s := by
  refine gl_ok n i s _ _ (getD_ok (d := ([], s)) h1) (fun b hb => ?_) hk
  have hb' : b ∈ ((gl Γ (nav p C) g n i s).getD ([], s)).1 := hb
  rw [h2] at hb'
  exact List.eq_of_mem_replicate hb'
def bo : AV → Bool
  | .d (.bool b) => b
  | .gv _ (.d (.bool b)) => b
  | _ => false
def pkO (c : Code) (i : Nat) (s : St) : AV × AV × AV :=
  match (opsIn c)[i]? with
  | some o => match o.op with
    | .pick x y z => (evalA s.env x, evalA s.env y, evalA s.env z)
    | _ => (.top, .top, .top)
  | none => (.top, .top, .top)
def pkT (c : Code) (i : Nat) (s : St) : Bool := bo (pkO c i s).1
def pkX (c : Code) (i : Nat) (s : St) : Bool := bo (pkO c i s).2.1
def pkY (c : Code) (i : Nat) (s : St) : Bool := bo (pkO c i s).2.2
def pkV (c : Code) (i : Nat) (s : St) : AV := .d (.bool (bif pkT c i s then pkX c i s else pkY c i s))
theorem pA (hk : RF Γ C p (i + 1) Q ((nextP Γ (nav p C) i (pkV (nav p C) i s) s).getD s)) (h : pickOf (nav p C) i s = pickA (.d (.bool (pkT (nav p C) i s))) (.gv (pkT (nav p C) i s) (.d (.bool (pkX (nav p C) i s)))) (.d (.bool (pkY (nav p C) i s))) := by kernel_rfl) (hn : (nextP Γ (nav p C) i (pkV (nav p C) i s) s).isSome = true := by kernel_rfl) : RF Γ C p i Q s := ⟨specP _ h pick_and (getD_ok hn) rfl hk.out⟩
theorem pO (hk : RF Γ C p (i + 1) Q ((nextP Γ (nav p C) i (pkV (nav p C) i s) s).getD s)) (h : pickOf (nav p C) i s = pickA (.d (.bool (pkT (nav p C) i s))) (.d (.bool (pkX (nav p C) i s))) (.gv (!(pkT (nav p C) i s)) (.d (.bool (pkY (nav p C) i s)))) := by kernel_rfl) (hn : (nextP Γ (nav p C) i (pkV (nav p C) i s) s).isSome = true := by kernel_rfl) : RF Γ C p i Q s := ⟨specP _ h pick_or (getD_ok hn) rfl hk.out⟩
theorem sF (hk : RF Γ C p (i + 1) Q ((nextF Γ (nav p C) i ((freshOf Γ (nav p C) i s).getD []) s).getD s)) (hx : (freshOf Γ (nav p C) i s).isSome = true := by kernel_rfl) (hn : (nextF Γ (nav p C) i ((freshOf Γ (nav p C) i s).getD []) s).isSome = true := by kernel_rfl) : RF Γ C p i Q s := ⟨specF _ _ (getD_ok hx) (getD_ok hn) rfl hk.out⟩
theorem sK (obj : Bool) (hk : RF Γ C p (i + 1) Q ((nextK Γ (nav p C) i obj ((keepOf Γ (nav p C) i s).getD (0, [])).1 ((keepOf Γ (nav p C) i s).getD (0, [])).2 s).getD s)) (hx : (keepOf Γ (nav p C) i s).isSome = true := by kernel_rfl) (hn : (nextK Γ (nav p C) i obj ((keepOf Γ (nav p C) i s).getD (0, [])).1 ((keepOf Γ (nav p C) i s).getD (0, [])).2 s).isSome = true := by kernel_rfl) : RF Γ C p i Q s := ⟨specK _ obj _ (getD_ok (d := (0, [])) hx) (getD_ok hn) rfl hk.out⟩
theorem ca (m : Bool) {f : FuncId} {ys : List AV} {r : AV} (hr : Γ.calls f ys r) (hk : RF Γ C p (i + 1) Q ((nextC Γ (nav p C) i m (lensR r) r s).getD s)) (hc : callAt (nav p C) i s = some (f, ys, [], []) := by kernel_rfl) (hn : (nextC Γ (nav p C) i m (lensR r) r s).isSome = true := by kernel_rfl) : RF Γ C p i Q s := ⟨callS _ m hc leZ rfl hr (.inl rfl) rfl (getD_ok hn) rfl hk.out⟩
theorem cb (m : Bool) {f : FuncId} {xs ys : List AV} {ks : List Nat} {obl : List (Nat × Nat)} {r : AV} {ls : List Nat} (hob : leAll obl) (hxs : xs = ys) (hr : Γ.calls f ys r) (hf : ks = [] ∨ flatR r) (hls : lensR r = ls) (hk : RF Γ C p (i + 1) Q ((nextC Γ (nav p C) i m ls r s).getD s)) (hc : callAt (nav p C) i s = some (f, xs, ks, obl) := by kernel_rfl) (hn : (nextC Γ (nav p C) i m ls r s).isSome = true := by kernel_rfl) : RF Γ C p i Q s := ⟨callS _ m hc hob hxs hr hf hls (getD_ok hn) rfl hk.out⟩
theorem cG (m : Bool) {g : Bool} {gs : List Bool} {f : FuncId} {xs ys : List AV} {ks : List Nat} {obl : List (Nat × Nat)} {r : AV} {ls : List Nat} (hob : leAll obl) (hxs : xs = ys) (hr : g = true → Γ.calls f ys r) (hf : ks = [] ∨ flatR r) (hi : impAll g gs) (hls : lensR r = ls) (hk : RF Γ C p (i + 1) Q ((nextCG Γ (nav p C) i g m ls r s).getD s)) (hg : gAt (nav p C) i s = some g := by kernel_rfl) (hc : callAt (nav p C) i s = some (f, xs, ks, obl) := by kernel_rfl) (hgs : gvsAt (nav p C) i s = gs := by kernel_rfl) (hn : (nextCG Γ (nav p C) i g m ls r s).isSome = true := by kernel_rfl) : RF Γ C p i Q s := ⟨callG _ m hg hc hob hxs hr hf hgs hi hls (getD_ok hn) rfl hk.out⟩
theorem at_idxD (e : α → List D) {xs : List α} {n : Int} {x : α} (h : idx xs n = some x) : OpAt s (valOb (.dptr ((xs.map e)[n.toNat]?.getD []) 0) (0 ≤ n ∧ n < (xs.map e).length ∧ ((xs.map e)[n.toNat]?.getD []).length = (e x).length)) (.dptr (e x) 0) [] [] none :=
  is_idxD (esz := (e x).length) (eb := 0) (ez := []) h (Nat.beq_refl _)
theorem at_idxO (k esz : Nat) {xs : List α} {n : Int} {x : α} (h : idx xs n = some x) : OpAt s (valOb (.eptr k esz (0 + n.toNat) 0) (0 ≤ n ∧ n < (xs.length : Nat) ∧ esz = esz)) (.eptr k esz (0 + n.toNat) 0) [] [] none := is_idxO (esz := esz) (eb := 0) (ez := []) h
def ldV (l : List D) (off : Nat) (t : Ty) : AV := (ldCells (l.map .d) off t).getD .top
theorem at_ldA (e : α → List D) (k off : Nat) (t : Ty) {xs : List α} {n : Int} {x : α} (h : idx xs n = some x) (hk : obA s.objs k = some (.arr (e x).length (xs.map e)) := by kernel_rfl) (hv : (ldCells ((e x).map .d) off t).isSome = true := by kernel_rfl) (hl : Nat.ble (off + t.size) (e x).length = true := by kernel_rfl) :
    OpAt s (loadA t s.objs (.eptr k (e x).length (0 + n.toNat) off)) (ldV (e x) off t) [] [] none := is_ldA hk h (getD_ok hv) hl
def stV (c : Code) (i : Nat) (s : St) : AV :=
  match (opsIn c)[i]? with
  | some o => match o.op with
    | .store _ _ v => unG (evalA s.env v)
    | _ => .top
  | none => .top
def stR (c : Code) (i : Nat) (s : St) : List D := ((xDs s.objs (cellsA (stV c i s))).getD ([], [], [])).1
theorem stA (e : α → List D) (k off : Nat) (t : Ty) {xs zs : List α} {n : Int} {x y : α} (h : idx xs n = some x) (hz : put xs n y = some zs) (hk : RF Γ C p (i + 1) Q ((nextS Γ (nav p C) i .top [] [] (some (k, .arr (e x).length (zs.map e))) s).getD s))
    (h1 : obA s.objs k = some (.arr (e x).length (xs.map e)) := by kernel_rfl) (h2 : xDs s.objs (cellsA (stV (nav p C) i s)) = some (stR (nav p C) i s, [], []) := by kernel_rfl) (h3 : (cellsOk (stV (nav p C) i s) && (cellsA (stV (nav p C) i s)).all solid) = true := by kernel_rfl) (h4 : spliceD (e x) off (stR (nav p C) i s) = e y := by kernel_rfl) (h5 : (Nat.beq (stR (nav p C) i s).length t.size && Nat.ble (off + t.size) (e x).length) = true := by kernel_rfl)
    (hx : opOf Γ (nav p C) i s = storeA t s.objs (.eptr k (e x).length (0 + n.toNat) off) (stV (nav p C) i s) := by kernel_rfl) (hn : (nextS Γ (nav p C) i .top [] [] (some (k, .arr (e x).length (zs.map e))) s).isSome = true := by kernel_rfl) : RF Γ C p i Q s :=
  sp (is_stA h1 h hz h2 leZ (by rw [h3]; rfl) h4 h5) hk hx hn
theorem at_app (e : α → List D) (k esz : Nat) {xs ys zs : List α} {eb : Nat} (h : app eb xs ys = some zs) (hk : obA s.objs k = some (.arr esz (xs.map e)) := by kernel_rfl) (hl : ∀ y, (e y).length = esz := by intro _; rfl) : OpAt s (appendA esz eb s.objs (.osl k esz 0 xs.length) (ys.map e) True) (.osl s.objs.length esz 0 zs.length) [.arr esz (zs.map e)] [k] none := is_app hk rfl hl trivial h
theorem at_appS (k : Nat) {t : List UInt8} {xs zs : List Int} {eb : Nat} (h : app eb xs (bytesOf t) = some zs) (hk : obA s.objs k = some (.arr 1 (xs.map eU8)) := by kernel_rfl) : OpAt s (appendA 1 eb s.objs (.osl k 1 0 xs.length) (t.map fun b => [D.int .u8 b.toNat]) True) (.osl s.objs.length 1 0 zs.length) [.arr 1 (zs.map eU8)] [k] none := is_app (enc := eU8) hk bytes_map (fun _ => rfl) trivial h
theorem at_appO (e : α → List D) (k esz : Nat) {xs ys zs : List α} {eb : Nat} (h : app eb xs ys = some zs) (hk : obA s.objs k = some (.arr esz (xs.map e)) := by kernel_rfl) (hl : ∀ y, (e y).length = esz := by intro _; rfl) : OpAt s (appendA esz eb s.objs (.osl k esz 0 xs.length) (((ys.map e).drop 0).take ys.length) (0 + ys.length ≤ (ys.map e).length)) (.osl s.objs.length esz 0 zs.length) [.arr esz (zs.map e)] [k] none := is_app hk take_all hl (by simp) h
theorem at_cat {x y z : List UInt8} (h : cat x y = some z) : OpAt s (strA .add x y) (.d (.str z)) [] [] none := is_cat h
theorem at_sidx {t : List UInt8} {n b : Int} (h : sidx t n = some b) : OpAt s (valOb (.d (.int .u8 (t[n.toNat]?.getD 0).toNat)) (0 ≤ n ∧ n < t.length)) (.d (.int .u8 b)) [] [] none := is_sidx h
theorem at_ssub {t z : List UInt8} {l h : Int} (hz : sub t l h = some z) : OpAt s (valOb (.d (.str ((t.take h.toNat).drop l.toNat))) (0 ≤ l ∧ l ≤ h ∧ h ≤ t.length)) (.d (.str z)) [] [] none := is_ssub hz
theorem at_slO (k esz : Nat) {xs zs : List α} {l h : Int} (hz : sub xs l h = some zs) : OpAt s (valOb (.osl k esz (0 + l.toNat) (h.toNat - l.toNat)) (0 ≤ l ∧ l ≤ h ∧ h ≤ (xs.length : Int) ∧ esz = esz)) (.osl k esz (0 + l.toNat) (h.toNat - l.toNat)) [] [] none := is_slO (eb := 0) (ez := []) hz
theorem at_mk (e : α → List D) (esz : Nat) {zs : List α} {n : Int} {z : α} {eb : Nat} (h : mkl eb n z = some zs) : OpAt s (some ⟨.osl s.objs.length esz 0 n.toNat, [.arr esz (List.replicate n.toNat (e z))], [], none, 0 ≤ n ∧ n = n ∧ n.toNat * eb ≤ 70368744177664⟩) (.osl s.objs.length esz 0 zs.length) [.arr esz (zs.map e)] [] none := is_mk h rfl
theorem at_bstr {b : List Int} {z : List UInt8} (h : bstr b = some z) : OpAt s (convA (.slice 1 1 [.int .u8 0]) .string (.d (.sl (b.map fun n => [.int .u8 n])))) (.d (.str z)) [] [] none := is_bstr h
theorem at_len (e : α → List D) (xs : List α) : OpAt s (val (.d (.int .i64 (xs.map e).length))) (.d (.int .i64 xs.length)) [] [] none := is_len (esz := 0) (eb := 0) (ez := [])
theorem cl (ls : List Nat) {f : FuncId} {ys : List AV} {r : AV} (hr : Γ.calls f ys r) (hk : RF Γ C p (i + 1) Q ((nextC Γ (nav p C) i true ls r s).getD s)) (hls : lensR r = ls := by simp only [lensR, lensT, lensA, lensC, List.length_map, List.nil_append, List.append_nil, List.cons_append]) (hc : callAt (nav p C) i s = some (f, ys, [], []) := by kernel_rfl) (hn : (nextC Γ (nav p C) i true ls r s).isSome = true := by kernel_rfl) : RF Γ C p i Q s := ⟨callS _ true hc leZ rfl hr (.inl rfl) hls (getD_ok hn) rfl hk.out⟩
theorem at_ldN {encN : α → List AV} {xss : List α} {x : α} {row : List AV} {n : Int} {k sz off : Nat} {t : Ty} {v : AV} (h : idx xss n = some x) (hk : obA s.objs k = some (.narr sz ((xss.map encN).set n.toNat row)) := by kernel_rfl) (hv : ldCells row off t = some v := by kernel_rfl) (hs : (cellsA v).all solid = true := by kernel_rfl) (hl : Nat.ble (off + t.size) row.length = true := by kernel_rfl) :
    OpAt s (loadA t s.objs (.eptr k sz (0 + n.toNat) off)) v [] [] none := is_ldN hk h hv hs hl
theorem at_stN {encN : α → List AV} {xss : List α} {x : α} {row row' : List AV} {n : Int} {k sz off : Nat} {t : Ty} {v : AV} (h : idx xss n = some x) (hk : obA s.objs k = some (.narr sz ((xss.map encN).set n.toNat row)) := by kernel_rfl) (hc : (cellsOk v && (cellsA v).all solid) = true := by kernel_rfl) (hy : splice row off (cellsA v) = row' := by kernel_rfl) (hl : (Nat.beq (cellsA v).length t.size && Nat.ble (off + t.size) sz) = true := by kernel_rfl) :
    OpAt s (storeA t s.objs (.eptr k sz (0 + n.toNat) off) v) .top [] [] (some (k, .narr sz ((xss.map encN).set n.toNat row'))) := is_stN hk h hc hy hl
theorem at_appN {encN : α → List AV} {xss yss : List α} {y : α} {esz eb k : Nat} {e : List D} (h : app eb xss [y] = some yss) (hk : obA s.objs k = some (.narr esz (xss.map encN)) := by kernel_rfl) (hl : Nat.beq e.length esz = true := by kernel_rfl) :
    OpAt s (appendA esz eb s.objs (.osl k esz 0 xss.length) [e] True) (.osl s.objs.length esz 0 yss.length) [.narr esz (xss.map encN ++ [e.map toN])] [k] none := is_appN hk hl trivial h
theorem at_look1 {κ : Type} [DecidableEq κ] {encK : κ → List D} {enc : α → List D} {ks : List TK} {k : Nat} {m : List (κ × α)} {key : κ} {l : List AV} {z : α} {vz : List D} {e1 : α → D} (heq : ∀ a b, eqCells ks ((encK a).map .d) ((encK b).map .d) = some (decide (a = b))) (ok : Bool) (he : ∀ x, enc x = [e1 x] := by intro _; rfl) (hz : vz = [e1 z] := by kernel_rfl) (hk : obA s.objs k = some (.map true false (encM encK enc m)) := by kernel_rfl) (hx : xDs s.objs l = some (encK key, [], []) := by kernel_rfl) :
    OpAt s (lookA (.map ks true false vz) s.objs (.mp k) (.agg l) ok) (bif ok then .tup [.d (e1 ((mget key m).getD z)), .d (.bool (mget key m).isSome)] else .d (e1 ((mget key m).getD z))) [] [] none := is_look1 heq he hz hk hx ok
theorem at_put1 {κ : Type} [DecidableEq κ] {encK : κ → List D} {enc : α → List D} {ks : List TK} {k : Nat} {m : List (κ × α)} {key : κ} {l : List AV} {v : AV} {y : α} {vz : List D} {e1 : α → D} (heq : ∀ a b, eqCells ks ((encK a).map .d) ((encK b).map .d) = some (decide (a = b))) (he : ∀ x, enc x = [e1 x] := by intro _; rfl) (hz : Nat.beq vz.length 1 = true := by kernel_rfl) (hk : obA s.objs k = some (.map true false (encM encK enc m)) := by kernel_rfl) (hx : xDs s.objs l = some (encK key, [], []) := by kernel_rfl) (hv : v = .d (e1 y) := by kernel_rfl) (hvx : xDs s.objs [v] = some (enc y, [], []) := by kernel_rfl) :
    OpAt s (mputA (.map ks true false vz) s.objs (.mp k) (.agg l) v) .top [] [] (some (k, .map true false (encM encK enc (mput key y m)))) := is_put1 heq he hz hk hx hv hvx
def isDat : AV → Bool
  | .d _ => true
  | .agg l => l.all isDD
  | _ => false
theorem ksE_append (l m : List (Option (Nat × Nat × Nat))) : ksE (l ++ m) = ksE l ++ ksE m := by
  induction l with
  | nil => rfl
  | cons a l ih => cases a <;> simp [ksE, ih]
theorem entV_d {a : AV} (h : isDD a = true) : ksE (entV a a) = [] := by
  cases a with
  | d x => cases x <;> rfl
  | _ => cases h
theorem outV_dd {objs : List (Option Ob)} {a : AV} (h : isDD a = true) : outV objs a a := by
  cases a with
  | d x => exact outV_d
  | _ => cases h
theorem dat_C {objs : List (Option Ob)} : ∀ {l : List AV}, l.all isDD = true → outC objs l l ∧ ksE (entC l l) = [] := by
  intro l
  induction l with
  | nil => intro _; exact ⟨trivial, rfl⟩
  | cons a l ih =>
    intro h
    simp only [List.all_cons, Bool.and_eq_true] at h
    obtain ⟨h1, h2⟩ := ih h.2
    exact ⟨⟨outV_dd h.1, h1⟩, by simp only [entC, ksE_append, entV_d h.1, h2, List.append_nil]⟩
theorem dat_A {objs : List (Option Ob)} {a : AV} (h : isDat a = true) : outA objs a a ∧ ksE (entA a a) = [] := by
  cases a with
  | d x => exact ⟨outV_d, entV_d (a := .d x) rfl⟩
  | agg l => exact dat_C h
  | _ => cases h
theorem dat_T {objs : List (Option Ob)} : ∀ {l : List AV}, l.all isDat = true → outT objs l l ∧ ksE (entT l l) = [] := by
  intro l
  induction l with
  | nil => intro _; exact ⟨trivial, rfl⟩
  | cons a l ih =>
    intro h
    simp only [List.all_cons, Bool.and_eq_true] at h
    obtain ⟨h1, h2⟩ := ih h.2
    obtain ⟨h3, h4⟩ := dat_A (objs := objs) h.1
    exact ⟨⟨h3, h1⟩, by simp only [entT, ksE_append, h4, h2, List.append_nil]⟩
theorem rd {ty : Nat → Ty} {rs : List ResultVar} {r : AV} (hd : isDat r = true := by kernel_rfl) (h : resB ty s rs = some [r] := by kernel_rfl) : RA ty rs r s := ⟨ret1 [] h (dat_A hd).1 (dat_A (objs := []) hd).2 (by simp)⟩
theorem rdT {ty : Nat → Ty} {rs : List ResultVar} {l : List AV} (hd : l.all isDat = true := by kernel_rfl) (h : resB ty s rs = some l := by kernel_rfl) (hl : Nat.beq l.length 1 = false := by kernel_rfl) : RA ty rs (.tup l) s := ⟨retT h hl (dat_T hd).1 [] (dat_T (objs := []) hd).2 (by simp)⟩
structure OV (s : St) (a r : AV) : Prop where
  out : outV s.objs a r
structure OC (s : St) (a r : List AV) : Prop where
  out : outC s.objs a r
structure OA (s : St) (a r : AV) : Prop where
  out : outA s.objs a r
structure OT (s : St) (a r : List AV) : Prop where
  out : outT s.objs a r
theorem c0 : OC s [] [] := ⟨trivial⟩
theorem c1 {a r : AV} {l m : List AV} (h : OV s a r) (h' : OC s l m) : OC s (a :: l) (r :: m) := ⟨⟨h.out, h'.out⟩⟩
theorem a1 {l m : List AV} (h : OC s l m) : OA s (.agg l) (.agg m) := ⟨h.out⟩
theorem ad {x : D} {r : AV} (h : OV s (.d x) r) : OA s (.d x) r := ⟨h.out⟩
theorem ao {k sz lo n : Nat} {r : AV} (h : OV s (.osl k sz lo n) r) : OA s (.osl k sz lo n) r := ⟨h.out⟩
theorem t0 : OT s [] [] := ⟨trivial⟩
theorem t1 {a r : AV} {l m : List AV} (h : OA s a r) (h' : OT s l m) : OT s (a :: l) (r :: m) := ⟨⟨h.out, h'.out⟩⟩
theorem vd {x : D} : OV s (.d x) (.d x) := ⟨outV_d⟩
theorem vz {sz : Nat} : OV s (.d .nil) (.own sz []) := ⟨outV_nilO⟩
theorem vo {enc : α → List D} {xs : List α} {k sz : Nat} (h : obA s.objs k = some (.arr sz (xs.map enc)) := by kernel_rfl) : OV s (.osl k sz 0 xs.length) (.own sz (xs.map enc)) := ⟨outV_own h⟩
theorem rO {ty : Nat → Ty} {rs : List ResultVar} {v r : AV} (ks : List Nat) (ho : OA s v r) (h : resB ty s rs = some [v] := by kernel_rfl) (hks : ksE (entA v r) = ks := by kernel_rfl) (hnd : ks.Nodup := by decide) : RA ty rs r s := ⟨ret1 ks h ho.out hks hnd⟩
theorem rT {ty : Nat → Ty} {rs : List ResultVar} {vs l : List AV} (ks : List Nat) (ho : OT s vs l) (h : resB ty s rs = some vs := by kernel_rfl) (hl : Nat.beq vs.length 1 = false := by kernel_rfl) (hks : ksE (entT vs l) = ks := by kernel_rfl) (hnd : ks.Nodup := by decide) : RA ty rs (.tup l) s := ⟨retT h hl ho.out ks hks hnd⟩
end Go.AI
end
section
namespace Go.AI
open Go.Proofs
theorem inf3 : ∃ i, Try.prog.info? 3 = some i ∧ i.size = 1 ∧ i.bytes = 8 ∧ i.zero = some (.int .i64 0) := info_of (by kernel_rfl)
theorem inf4 : ∃ i, Try.prog.info? 4 = some i ∧ i.size = 1 ∧ i.bytes = 1 ∧ i.zero = some (.bool false) := info_of (by kernel_rfl)
theorem inf5 : ∃ i, Try.prog.info? 5 = some i ∧ i.size = 1 ∧ i.bytes = 1 ∧ i.zero = some (.int .u8 0) := info_of (by kernel_rfl)
theorem inf9 : ∃ i, Try.prog.info? 9 = some i ∧ i.size = 1 ∧ i.bytes = 16 ∧ i.zero = some (.string ⟨#[]⟩) := info_of (by kernel_rfl)
theorem inf22 : ∃ i, Try.prog.info? 22 = some i ∧ i.size = 1 ∧ i.bytes = 24 ∧ i.zero = some (.slice none 0 0) := info_of (by kernel_rfl)
theorem inf24 : ∃ i, Try.prog.info? 24 = some i ∧ i.size = 3 ∧ i.bytes = 32 ∧ i.zero = some (.agg #[.int .u8 0, .int .u8 0, .slice none 0 0]) := info_of (by kernel_rfl)
theorem inf26 : ∃ i, Try.prog.info? 26 = some i ∧ i.size = 3 ∧ i.bytes = 24 ∧ i.zero = some (.agg #[.int .i64 0, .int .i64 0, .int .u8 0]) := info_of (by kernel_rfl)
theorem inf27 : ∃ i, Try.prog.info? 27 = some i ∧ i.size = 1 ∧ i.bytes = 24 ∧ i.zero = some (.slice none 0 0) := info_of (by kernel_rfl)
theorem inf29 : ∃ i, Try.prog.info? 29 = some i ∧ i.size = 1 ∧ i.bytes = 24 ∧ i.zero = some (.slice none 0 0) := info_of (by kernel_rfl)
theorem inf31 : ∃ i, Try.prog.info? 31 = some i ∧ i.size = 3 ∧ i.bytes = 40 ∧ i.zero = some (.agg #[.int .i64 0, .int .u8 0, .slice none 0 0]) := info_of (by kernel_rfl)
theorem inf33 : ∃ i, Try.prog.info? 33 = some i ∧ i.size = 1 ∧ i.bytes = 24 ∧ i.zero = some (.slice none 0 0) := info_of (by kernel_rfl)
theorem inf34 : ∃ i, Try.prog.info? 34 = some i ∧ i.size = 1 ∧ i.bytes = 1 ∧ i.zero = some (.int .i8 0) := info_of (by kernel_rfl)
theorem inf39 : ∃ i, Try.prog.info? 39 = some i ∧ i.size = 1 ∧ i.bytes = 24 ∧ i.zero = some (.slice none 0 0) := info_of (by kernel_rfl)
theorem inf41 : ∃ i, Try.prog.info? 41 = some i ∧ i.size = 7 ∧ i.bytes = 80 ∧ i.zero = some (.agg #[.string ⟨#[]⟩, .slice none 0 0, .int .i64 0, .int .i64 0, .int .i64 0, .int .u8 0, .bool false]) := info_of (by kernel_rfl)
theorem inf44 : ∃ i, Try.prog.info? 44 = some i ∧ i.size = 1 ∧ i.bytes = 24 ∧ i.zero = some (.slice none 0 0) := info_of (by kernel_rfl)
theorem inf47 : ∃ i, Try.prog.info? 47 = some i ∧ i.size = 1 ∧ i.bytes = 24 ∧ i.zero = some (.slice none 0 0) := info_of (by kernel_rfl)
theorem inf50 : ∃ i, Try.prog.info? 50 = some i ∧ i.size = 1 ∧ i.bytes = 24 ∧ i.zero = some (.slice none 0 0) := info_of (by kernel_rfl)
theorem inf55 : ∃ i, Try.prog.info? 55 = some i ∧ i.size = 6 ∧ i.bytes = 64 ∧ i.zero = some (.agg #[.string ⟨#[]⟩, .slice none 0 0, .int .u8 0, .int .u8 0, .int .i64 0, .int .i64 0]) := info_of (by kernel_rfl)
theorem inf57 : ∃ i, Try.prog.info? 57 = some i ∧ i.size = 2 ∧ i.bytes = 48 ∧ i.zero = some (.agg #[.slice none 0 0, .slice none 0 0]) := info_of (by kernel_rfl)
theorem inf64 : ∃ i, Try.prog.info? 64 = some i ∧ i.size = 1 ∧ i.bytes = 1 ∧ i.zero = some (.int .u8 0) := info_of (by kernel_rfl)
theorem inf67 : ∃ i, Try.prog.info? 67 = some i ∧ i.size = 2 ∧ i.bytes = 2 ∧ i.zero = some (.agg #[.int .u8 0, .int .u8 0]) := info_of (by kernel_rfl)
theorem inf69 : ∃ i, Try.prog.info? 69 = some i ∧ i.size = 6 ∧ i.bytes = 56 ∧ i.zero = some (.agg #[.slice none 0 0, .slice none 0 0, .int .u8 0, .int .u8 0, .int .u8 0, .int .u8 0]) := info_of (by kernel_rfl)
theorem inf74 : ∃ i, Try.prog.info? 74 = some i ∧ i.size = 1 ∧ i.bytes = 8 ∧ i.zero = some (.int .i64 0) := info_of (by kernel_rfl)
theorem inf77 : ∃ i, Try.prog.info? 77 = some i ∧ i.size = 1 ∧ i.bytes = 24 ∧ i.zero = some (.slice none 0 0) := info_of (by kernel_rfl)
theorem inf84 : ∃ i, Try.prog.info? 84 = some i ∧ i.size = 3 ∧ i.bytes = 24 ∧ i.zero = some (.agg #[.int .i64 0, .int .i64 0, .int .i64 0]) := info_of (by kernel_rfl)
theorem inf87 : ∃ i, Try.prog.info? 87 = some i ∧ i.size = 1 ∧ i.bytes = 24 ∧ i.zero = some (.slice none 0 0) := info_of (by kernel_rfl)
theorem inf95 : ∃ i, Try.prog.info? 95 = some i ∧ i.size = 1 ∧ i.bytes = 8 ∧ i.zero = some (.pointer none) := info_of (by kernel_rfl)
theorem inf102 : ∃ i, Try.prog.info? 102 = some i ∧ i.size = 1 ∧ i.bytes = 8 ∧ i.zero = some (.pointer none) := info_of (by kernel_rfl)
theorem inf107 : ∃ i, Try.prog.info? 107 = some i ∧ i.size = 2 ∧ i.bytes = 16 ∧ i.zero = some (.agg #[.int .i64 0, .int .i64 0]) := info_of (by kernel_rfl)
theorem inf110 : ∃ i, Try.prog.info? 110 = some i ∧ i.size = 1 ∧ i.bytes = 8 ∧ i.zero = some (.map none) := info_of (by kernel_rfl)
theorem inf114 : ∃ i, Try.prog.info? 114 = some i ∧ i.size = 1 ∧ i.bytes = 8 ∧ i.zero = some (.map none) := info_of (by kernel_rfl)
theorem inf116 : ∃ i, Try.prog.info? 116 = some i ∧ i.size = 3 ∧ i.bytes = 40 ∧ i.zero = some (.agg #[.pointer none, .slice none 0 0, .map none]) := info_of (by kernel_rfl)
theorem inf118 : ∃ i, Try.prog.info? 118 = some i ∧ i.size = 2 ∧ i.bytes = 16 ∧ i.zero = some (.agg #[.int .i64 0, .int .i64 0]) := info_of (by kernel_rfl)
theorem inf119 : ∃ i, Try.prog.info? 119 = some i ∧ i.size = 1 ∧ i.bytes = 24 ∧ i.zero = some (.slice none 0 0) := info_of (by kernel_rfl)
theorem inf121 : ∃ i, Try.prog.info? 121 = some i ∧ i.size = 3 ∧ i.bytes = 72 ∧ i.zero = some (.agg #[.slice none 0 0, .slice none 0 0, .slice none 0 0]) := info_of (by kernel_rfl)
theorem inf124 : ∃ i, Try.prog.info? 124 = some i ∧ i.size = 1 ∧ i.bytes = 24 ∧ i.zero = some (.slice none 0 0) := info_of (by kernel_rfl)
theorem inf128 : ∃ i, Try.prog.info? 128 = some i ∧ i.size = 3 ∧ i.bytes = 32 ∧ i.zero = some (.agg #[.int .i64 0, .int .i64 0, .string ⟨#[]⟩]) := info_of (by kernel_rfl)
theorem inf130 : ∃ i, Try.prog.info? 130 = some i ∧ i.size = 2 ∧ i.bytes = 32 ∧ i.zero = some (.agg #[.slice none 0 0, .int .i64 0]) := info_of (by kernel_rfl)
theorem inf131 : ∃ i, Try.prog.info? 131 = some i ∧ i.size = 1 ∧ i.bytes = 24 ∧ i.zero = some (.slice none 0 0) := info_of (by kernel_rfl)
theorem inf132 : ∃ i, Try.prog.info? 132 = some i ∧ i.size = 1 ∧ i.bytes = 8 ∧ i.zero = some (.pointer none) := info_of (by kernel_rfl)
theorem inf135 : ∃ i, Try.prog.info? 135 = some i ∧ i.size = 1 ∧ i.bytes = 8 ∧ i.zero = some (.pointer none) := info_of (by kernel_rfl)
theorem inf137 : ∃ i, Try.prog.info? 137 = some i ∧ i.size = 4 ∧ i.bytes = 64 ∧ i.zero = some (.agg #[.int .i64 0, .int .u8 0, .slice none 0 0, .slice none 0 0]) := info_of (by kernel_rfl)
theorem inf139 : ∃ i, Try.prog.info? 139 = some i ∧ i.size = 1 ∧ i.bytes = 24 ∧ i.zero = some (.slice none 0 0) := info_of (by kernel_rfl)
theorem inf141 : ∃ i, Try.prog.info? 141 = some i ∧ i.size = 3 ∧ i.bytes = 48 ∧ i.zero = some (.agg #[.string ⟨#[]⟩, .slice none 0 0, .int .i64 0]) := info_of (by kernel_rfl)
def ty : Nat → Ty
  | 3 => ⟨true, [], 1, false, [.int .i64 0], .int .i64⟩
  | 4 => ⟨true, [], 1, false, [.bool false], .bool⟩
  | 5 => ⟨true, [], 1, false, [.int .u8 0], .int .u8⟩
  | 9 => ⟨true, [], 1, false, [.str []], .string⟩
  | 22 => ⟨true, [], 1, false, [.nil], .slice 6 56 [.nil, .nil, .int .u8 0, .int .u8 0, .int .u8 0, .int .u8 0]⟩
  | 24 => ⟨true, [], 3, true, [.int .u8 0, .int .u8 0, .nil], .struct [(0, 1), (1, 1), (2, 1)]⟩
  | 26 => ⟨true, [.int .i64, .int .i64, .int .u8], 3, true, [.int .i64 0, .int .i64 0, .int .u8 0], .struct [(0, 1), (1, 1), (2, 1)]⟩
  | 27 => ⟨true, [], 1, false, [.nil], .slice 1 1 [.int .i8 0]⟩
  | 29 => ⟨true, [], 1, false, [.nil], .slice 6 64 [.str [], .nil, .int .u8 0, .int .u8 0, .int .i64 0, .int .i64 0]⟩
  | 31 => ⟨true, [], 3, true, [.int .i64 0, .int .u8 0, .nil], .struct [(0, 1), (1, 1), (2, 1)]⟩
  | 33 => ⟨true, [], 1, false, [.nil], .slice 1 8 [.int .i64 0]⟩
  | 34 => ⟨true, [], 1, false, [.int .i8 0], .int .i8⟩
  | 39 => ⟨true, [], 1, false, [.nil], .slice 1 1 [.int .u8 0]⟩
  | 41 => ⟨true, [], 7, true, [.str [], .nil, .int .i64 0, .int .i64 0, .int .i64 0, .int .u8 0, .bool false], .struct [(0, 1), (1, 1), (2, 1), (3, 3), (6, 1)]⟩
  | 44 => ⟨true, [], 1, false, [.nil], .slice 3 24 [.int .i64 0, .int .i64 0, .int .u8 0]⟩
  | 47 => ⟨true, [], 1, false, [.nil], .slice 1 1 [.bool false]⟩
  | 50 => ⟨true, [], 1, false, [.nil], .slice 1 1 [.int .u8 0]⟩
  | 55 => ⟨true, [], 6, true, [.str [], .nil, .int .u8 0, .int .u8 0, .int .i64 0, .int .i64 0], .struct [(0, 1), (1, 1), (2, 1), (3, 1), (4, 1), (5, 1)]⟩
  | 57 => ⟨true, [], 2, true, [.nil, .nil], .array 2 1⟩
  | 64 => ⟨true, [], 1, false, [.int .u8 0], .int .u8⟩
  | 67 => ⟨true, [], 2, true, [.int .u8 0, .int .u8 0], .array 2 1⟩
  | 69 => ⟨true, [], 6, true, [.nil, .nil, .int .u8 0, .int .u8 0, .int .u8 0, .int .u8 0], .struct [(0, 1), (1, 1), (2, 1), (3, 1), (4, 2)]⟩
  | 74 => ⟨true, [], 1, false, [.int .i64 0], .int .i64⟩
  | 77 => ⟨true, [], 1, false, [.nil], .slice 1 16 [.str []]⟩
  | 84 => ⟨true, [], 3, true, [.int .i64 0, .int .i64 0, .int .i64 0], .array 3 1⟩
  | 87 => ⟨true, [], 1, false, [.nil], .slice 1 24 [.nil]⟩
  | 95 => ⟨true, [], 1, false, [.nilp], .other⟩
  | 102 => ⟨true, [], 1, false, [.nilp], .other⟩
  | 107 => ⟨true, [], 2, true, [.int .i64 0, .int .i64 0], .array 2 1⟩
  | 110 => ⟨true, [], 1, false, [.nilm], .map [.int .i64, .int .i64, .int .u8] true false [.int .i64 0]⟩
  | 114 => ⟨true, [], 1, false, [.nilm], .map [.int .i64, .int .i64] true false [.bool false]⟩
  | 116 => ⟨true, [], 3, true, [.nilp, .nil, .nilm], .struct [(0, 1), (1, 1), (2, 1)]⟩
  | 118 => ⟨true, [.int .i64, .int .i64], 2, true, [.int .i64 0, .int .i64 0], .struct [(0, 1), (1, 1)]⟩
  | 119 => ⟨true, [], 1, false, [.nil], .slice 1 24 [.nil]⟩
  | 121 => ⟨true, [], 3, true, [.nil, .nil, .nil], .struct [(0, 1), (1, 1), (2, 1)]⟩
  | 124 => ⟨true, [], 1, false, [.nil], .slice 3 32 [.int .i64 0, .int .i64 0, .str []]⟩
  | 128 => ⟨true, [], 3, true, [.int .i64 0, .int .i64 0, .str []], .struct [(0, 2), (2, 1)]⟩
  | 130 => ⟨true, [], 2, true, [.nil, .int .i64 0], .struct [(0, 1), (1, 1)]⟩
  | 131 => ⟨true, [], 1, false, [.nil], .slice 2 32 [.nil, .int .i64 0]⟩
  | 132 => ⟨true, [], 1, false, [.nilp], .other⟩
  | 135 => ⟨true, [], 1, false, [.nilp], .other⟩
  | 137 => ⟨true, [], 4, true, [.int .i64 0, .int .u8 0, .nil, .nil], .struct [(0, 3), (3, 1)]⟩
  | 139 => ⟨true, [], 1, false, [.nil], .slice 3 48 [.str [], .nil, .int .i64 0]⟩
  | 141 => ⟨true, [], 3, true, [.str [], .nil, .int .i64 0], .struct [(0, 1), (1, 1), (2, 1)]⟩
  | _ => ⟨false, [], 0, false, [], .other⟩
theorem tf3 : TyFacts Try.prog 3 (ty 3) := {
  info := by obtain ⟨i, h1, h2, _, h4⟩ := inf3; exact ⟨i, _, h1, h2, h4, rfl⟩
  plain := rfl
  desc := ⟨_, Try.underlying3, rfl, rfl⟩
  one := fun h => by first | rfl | cases h
  pos := by decide
  eq := fun h => absurd rfl h }
theorem tf4 : TyFacts Try.prog 4 (ty 4) := {
  info := by obtain ⟨i, h1, h2, _, h4⟩ := inf4; exact ⟨i, _, h1, h2, h4, rfl⟩
  plain := rfl
  desc := ⟨_, Try.underlying4, rfl, rfl⟩
  one := fun h => by first | rfl | cases h
  pos := by decide
  eq := fun h => absurd rfl h }
theorem tf5 : TyFacts Try.prog 5 (ty 5) := {
  info := by obtain ⟨i, h1, h2, _, h4⟩ := inf5; exact ⟨i, _, h1, h2, h4, rfl⟩
  plain := rfl
  desc := ⟨_, Try.underlying5, rfl, rfl⟩
  one := fun h => by first | rfl | cases h
  pos := by decide
  eq := fun h => absurd rfl h }
theorem tf9 : TyFacts Try.prog 9 (ty 9) := {
  info := by obtain ⟨i, h1, h2, _, h4⟩ := inf9; exact ⟨i, _, h1, h2, h4, rfl⟩
  plain := rfl
  desc := ⟨_, Try.underlying9, rfl, rfl⟩
  one := fun h => by first | rfl | cases h
  pos := by decide
  eq := fun h => absurd rfl h }
theorem tf22 : TyFacts Try.prog 22 (ty 22) := {
  info := by obtain ⟨i, h1, h2, _, h4⟩ := inf22; exact ⟨i, _, h1, h2, h4, rfl⟩
  plain := rfl
  desc := ⟨_, Try.underlying22, rfl, (by obtain ⟨j, h1, h2, h3, h4⟩ := inf69; exact ⟨_, j, _, rfl, h1, h2, h3, h4, rfl, rfl, rfl, fun h => by cases h⟩)⟩
  one := fun h => by first | rfl | cases h
  pos := by decide
  eq := fun h => absurd rfl h }
theorem tf24 : TyFacts Try.prog 24 (ty 24) := {
  info := by obtain ⟨i, h1, h2, _, h4⟩ := inf24; exact ⟨i, _, h1, h2, h4, rfl⟩
  plain := rfl
  desc := ⟨_, Try.underlying24, rfl, ⟨_, rfl, rfl, fun i o s h => match i, h with | 0, h => (by cases h; exact (by obtain ⟨j, h1, h2, _⟩ := inf5; exact ⟨_, j, rfl, rfl, h1, h2, by decide⟩)) | 1, h => (by cases h; exact (by obtain ⟨j, h1, h2, _⟩ := inf5; exact ⟨_, j, rfl, rfl, h1, h2, by decide⟩)) | 2, h => (by cases h; exact (by obtain ⟨j, h1, h2, _⟩ := inf22; exact ⟨_, j, rfl, rfl, h1, h2, by decide⟩)) | n + 3, h => by simp at h⟩⟩
  one := fun h => by first | rfl | cases h
  pos := by decide
  eq := fun h => absurd rfl h }
theorem tf26 : TyFacts Try.prog 26 (ty 26) := {
  info := by obtain ⟨i, h1, h2, _, h4⟩ := inf26; exact ⟨i, _, h1, h2, h4, rfl⟩
  plain := rfl
  desc := ⟨_, Try.underlying26, rfl, ⟨_, rfl, rfl, fun i o s h => match i, h with | 0, h => (by cases h; exact (by obtain ⟨j, h1, h2, _⟩ := inf3; exact ⟨_, j, rfl, rfl, h1, h2, by decide⟩)) | 1, h => (by cases h; exact (by obtain ⟨j, h1, h2, _⟩ := inf3; exact ⟨_, j, rfl, rfl, h1, h2, by decide⟩)) | 2, h => (by cases h; exact (by obtain ⟨j, h1, h2, _⟩ := inf5; exact ⟨_, j, rfl, rfl, h1, h2, by decide⟩)) | n + 3, h => by simp at h⟩⟩
  one := fun h => by first | rfl | cases h
  pos := by decide
  eq := fun _ => eq_flat Try.underlying26 (by kernel_rfl) (by kernel_rfl) rfl fun j f k h1 h2 => match j, h1, h2 with | 0, h1, h2 => (by cases h1; cases h2; exact ⟨by decide, rfl, ⟨_, Try.underlying3⟩⟩) | 1, h1, h2 => (by cases h1; cases h2; exact ⟨by decide, rfl, ⟨_, Try.underlying3⟩⟩) | 2, h1, h2 => (by cases h1; cases h2; exact ⟨by decide, rfl, ⟨_, Try.underlying5⟩⟩) | n + 3, h1, _ => by simp at h1 }
theorem tf27 : TyFacts Try.prog 27 (ty 27) := {
  info := by obtain ⟨i, h1, h2, _, h4⟩ := inf27; exact ⟨i, _, h1, h2, h4, rfl⟩
  plain := rfl
  desc := ⟨_, Try.underlying27, rfl, (by obtain ⟨j, h1, h2, h3, h4⟩ := inf34; exact ⟨_, j, _, rfl, h1, h2, h3, h4, rfl, rfl, rfl, fun h => by cases h⟩)⟩
  one := fun h => by first | rfl | cases h
  pos := by decide
  eq := fun h => absurd rfl h }
theorem tf29 : TyFacts Try.prog 29 (ty 29) := {
  info := by obtain ⟨i, h1, h2, _, h4⟩ := inf29; exact ⟨i, _, h1, h2, h4, rfl⟩
  plain := rfl
  desc := ⟨_, Try.underlying29, rfl, (by obtain ⟨j, h1, h2, h3, h4⟩ := inf55; exact ⟨_, j, _, rfl, h1, h2, h3, h4, rfl, rfl, rfl, fun h => by cases h⟩)⟩
  one := fun h => by first | rfl | cases h
  pos := by decide
  eq := fun h => absurd rfl h }
theorem tf31 : TyFacts Try.prog 31 (ty 31) := {
  info := by obtain ⟨i, h1, h2, _, h4⟩ := inf31; exact ⟨i, _, h1, h2, h4, rfl⟩
  plain := rfl
  desc := ⟨_, Try.underlying31, rfl, ⟨_, rfl, rfl, fun i o s h => match i, h with | 0, h => (by cases h; exact (by obtain ⟨j, h1, h2, _⟩ := inf3; exact ⟨_, j, rfl, rfl, h1, h2, by decide⟩)) | 1, h => (by cases h; exact (by obtain ⟨j, h1, h2, _⟩ := inf5; exact ⟨_, j, rfl, rfl, h1, h2, by decide⟩)) | 2, h => (by cases h; exact (by obtain ⟨j, h1, h2, _⟩ := inf29; exact ⟨_, j, rfl, rfl, h1, h2, by decide⟩)) | n + 3, h => by simp at h⟩⟩
  one := fun h => by first | rfl | cases h
  pos := by decide
  eq := fun h => absurd rfl h }
theorem tf33 : TyFacts Try.prog 33 (ty 33) := {
  info := by obtain ⟨i, h1, h2, _, h4⟩ := inf33; exact ⟨i, _, h1, h2, h4, rfl⟩
  plain := rfl
  desc := ⟨_, Try.underlying33, rfl, (by obtain ⟨j, h1, h2, h3, h4⟩ := inf3; exact ⟨_, j, _, rfl, h1, h2, h3, h4, rfl, rfl, rfl, fun h => by cases h⟩)⟩
  one := fun h => by first | rfl | cases h
  pos := by decide
  eq := fun h => absurd rfl h }
theorem tf34 : TyFacts Try.prog 34 (ty 34) := {
  info := by obtain ⟨i, h1, h2, _, h4⟩ := inf34; exact ⟨i, _, h1, h2, h4, rfl⟩
  plain := rfl
  desc := ⟨_, Try.underlying34, rfl, rfl⟩
  one := fun h => by first | rfl | cases h
  pos := by decide
  eq := fun h => absurd rfl h }
theorem tf39 : TyFacts Try.prog 39 (ty 39) := {
  info := by obtain ⟨i, h1, h2, _, h4⟩ := inf39; exact ⟨i, _, h1, h2, h4, rfl⟩
  plain := rfl
  desc := ⟨_, Try.underlying39, rfl, (by obtain ⟨j, h1, h2, h3, h4⟩ := inf64; exact ⟨_, j, _, rfl, h1, h2, h3, h4, rfl, rfl, rfl, fun _ => Try.underlying64⟩)⟩
  one := fun h => by first | rfl | cases h
  pos := by decide
  eq := fun h => absurd rfl h }
theorem tf41 : TyFacts Try.prog 41 (ty 41) := {
  info := by obtain ⟨i, h1, h2, _, h4⟩ := inf41; exact ⟨i, _, h1, h2, h4, rfl⟩
  plain := rfl
  desc := ⟨_, Try.underlying41, rfl, ⟨_, rfl, rfl, fun i o s h => match i, h with | 0, h => (by cases h; exact (by obtain ⟨j, h1, h2, _⟩ := inf9; exact ⟨_, j, rfl, rfl, h1, h2, by decide⟩)) | 1, h => (by cases h; exact (by obtain ⟨j, h1, h2, _⟩ := inf39; exact ⟨_, j, rfl, rfl, h1, h2, by decide⟩)) | 2, h => (by cases h; exact (by obtain ⟨j, h1, h2, _⟩ := inf3; exact ⟨_, j, rfl, rfl, h1, h2, by decide⟩)) | 3, h => (by cases h; exact (by obtain ⟨j, h1, h2, _⟩ := inf26; exact ⟨_, j, rfl, rfl, h1, h2, by decide⟩)) | 4, h => (by cases h; exact (by obtain ⟨j, h1, h2, _⟩ := inf4; exact ⟨_, j, rfl, rfl, h1, h2, by decide⟩)) | n + 5, h => by simp at h⟩⟩
  one := fun h => by first | rfl | cases h
  pos := by decide
  eq := fun h => absurd rfl h }
theorem tf44 : TyFacts Try.prog 44 (ty 44) := {
  info := by obtain ⟨i, h1, h2, _, h4⟩ := inf44; exact ⟨i, _, h1, h2, h4, rfl⟩
  plain := rfl
  desc := ⟨_, Try.underlying44, rfl, (by obtain ⟨j, h1, h2, h3, h4⟩ := inf26; exact ⟨_, j, _, rfl, h1, h2, h3, h4, rfl, rfl, rfl, fun h => by cases h⟩)⟩
  one := fun h => by first | rfl | cases h
  pos := by decide
  eq := fun h => absurd rfl h }
theorem tf47 : TyFacts Try.prog 47 (ty 47) := {
  info := by obtain ⟨i, h1, h2, _, h4⟩ := inf47; exact ⟨i, _, h1, h2, h4, rfl⟩
  plain := rfl
  desc := ⟨_, Try.underlying47, rfl, (by obtain ⟨j, h1, h2, h3, h4⟩ := inf4; exact ⟨_, j, _, rfl, h1, h2, h3, h4, rfl, rfl, rfl, fun h => by cases h⟩)⟩
  one := fun h => by first | rfl | cases h
  pos := by decide
  eq := fun h => absurd rfl h }
theorem tf50 : TyFacts Try.prog 50 (ty 50) := {
  info := by obtain ⟨i, h1, h2, _, h4⟩ := inf50; exact ⟨i, _, h1, h2, h4, rfl⟩
  plain := rfl
  desc := ⟨_, Try.underlying50, rfl, (by obtain ⟨j, h1, h2, h3, h4⟩ := inf5; exact ⟨_, j, _, rfl, h1, h2, h3, h4, rfl, rfl, rfl, fun _ => Try.underlying5⟩)⟩
  one := fun h => by first | rfl | cases h
  pos := by decide
  eq := fun h => absurd rfl h }
theorem tf55 : TyFacts Try.prog 55 (ty 55) := {
  info := by obtain ⟨i, h1, h2, _, h4⟩ := inf55; exact ⟨i, _, h1, h2, h4, rfl⟩
  plain := rfl
  desc := ⟨_, Try.underlying55, rfl, ⟨_, rfl, rfl, fun i o s h => match i, h with | 0, h => (by cases h; exact (by obtain ⟨j, h1, h2, _⟩ := inf9; exact ⟨_, j, rfl, rfl, h1, h2, by decide⟩)) | 1, h => (by cases h; exact (by obtain ⟨j, h1, h2, _⟩ := inf39; exact ⟨_, j, rfl, rfl, h1, h2, by decide⟩)) | 2, h => (by cases h; exact (by obtain ⟨j, h1, h2, _⟩ := inf5; exact ⟨_, j, rfl, rfl, h1, h2, by decide⟩)) | 3, h => (by cases h; exact (by obtain ⟨j, h1, h2, _⟩ := inf5; exact ⟨_, j, rfl, rfl, h1, h2, by decide⟩)) | 4, h => (by cases h; exact (by obtain ⟨j, h1, h2, _⟩ := inf3; exact ⟨_, j, rfl, rfl, h1, h2, by decide⟩)) | 5, h => (by cases h; exact (by obtain ⟨j, h1, h2, _⟩ := inf3; exact ⟨_, j, rfl, rfl, h1, h2, by decide⟩)) | n + 6, h => by simp at h⟩⟩
  one := fun h => by first | rfl | cases h
  pos := by decide
  eq := fun h => absurd rfl h }
theorem tf57 : TyFacts Try.prog 57 (ty 57) := {
  info := by obtain ⟨i, h1, h2, _, h4⟩ := inf57; exact ⟨i, _, h1, h2, h4, rfl⟩
  plain := rfl
  desc := ⟨_, Try.underlying57, rfl, (by obtain ⟨j, h1, h2, _⟩ := inf33; exact ⟨_, j, rfl, h1, h2⟩)⟩
  one := fun h => by first | rfl | cases h
  pos := by decide
  eq := fun h => absurd rfl h }
theorem tf64 : TyFacts Try.prog 64 (ty 64) := {
  info := by obtain ⟨i, h1, h2, _, h4⟩ := inf64; exact ⟨i, _, h1, h2, h4, rfl⟩
  plain := rfl
  desc := ⟨_, Try.underlying64, rfl, rfl⟩
  one := fun h => by first | rfl | cases h
  pos := by decide
  eq := fun h => absurd rfl h }
theorem tf67 : TyFacts Try.prog 67 (ty 67) := {
  info := by obtain ⟨i, h1, h2, _, h4⟩ := inf67; exact ⟨i, _, h1, h2, h4, rfl⟩
  plain := rfl
  desc := ⟨_, Try.underlying67, rfl, (by obtain ⟨j, h1, h2, _⟩ := inf5; exact ⟨_, j, rfl, h1, h2⟩)⟩
  one := fun h => by first | rfl | cases h
  pos := by decide
  eq := fun h => absurd rfl h }
theorem tf69 : TyFacts Try.prog 69 (ty 69) := {
  info := by obtain ⟨i, h1, h2, _, h4⟩ := inf69; exact ⟨i, _, h1, h2, h4, rfl⟩
  plain := rfl
  desc := ⟨_, Try.underlying69, rfl, ⟨_, rfl, rfl, fun i o s h => match i, h with | 0, h => (by cases h; exact (by obtain ⟨j, h1, h2, _⟩ := inf50; exact ⟨_, j, rfl, rfl, h1, h2, by decide⟩)) | 1, h => (by cases h; exact (by obtain ⟨j, h1, h2, _⟩ := inf50; exact ⟨_, j, rfl, rfl, h1, h2, by decide⟩)) | 2, h => (by cases h; exact (by obtain ⟨j, h1, h2, _⟩ := inf5; exact ⟨_, j, rfl, rfl, h1, h2, by decide⟩)) | 3, h => (by cases h; exact (by obtain ⟨j, h1, h2, _⟩ := inf5; exact ⟨_, j, rfl, rfl, h1, h2, by decide⟩)) | 4, h => (by cases h; exact (by obtain ⟨j, h1, h2, _⟩ := inf67; exact ⟨_, j, rfl, rfl, h1, h2, by decide⟩)) | n + 5, h => by simp at h⟩⟩
  one := fun h => by first | rfl | cases h
  pos := by decide
  eq := fun h => absurd rfl h }
theorem tf74 : TyFacts Try.prog 74 (ty 74) := {
  info := by obtain ⟨i, h1, h2, _, h4⟩ := inf74; exact ⟨i, _, h1, h2, h4, rfl⟩
  plain := rfl
  desc := ⟨_, Try.underlying74, rfl, rfl⟩
  one := fun h => by first | rfl | cases h
  pos := by decide
  eq := fun h => absurd rfl h }
theorem tf77 : TyFacts Try.prog 77 (ty 77) := {
  info := by obtain ⟨i, h1, h2, _, h4⟩ := inf77; exact ⟨i, _, h1, h2, h4, rfl⟩
  plain := rfl
  desc := ⟨_, Try.underlying77, rfl, (by obtain ⟨j, h1, h2, h3, h4⟩ := inf9; exact ⟨_, j, _, rfl, h1, h2, h3, h4, rfl, rfl, rfl, fun h => by cases h⟩)⟩
  one := fun h => by first | rfl | cases h
  pos := by decide
  eq := fun h => absurd rfl h }
theorem tf84 : TyFacts Try.prog 84 (ty 84) := {
  info := by obtain ⟨i, h1, h2, _, h4⟩ := inf84; exact ⟨i, _, h1, h2, h4, rfl⟩
  plain := rfl
  desc := ⟨_, Try.underlying84, rfl, (by obtain ⟨j, h1, h2, _⟩ := inf3; exact ⟨_, j, rfl, h1, h2⟩)⟩
  one := fun h => by first | rfl | cases h
  pos := by decide
  eq := fun h => absurd rfl h }
theorem tf87 : TyFacts Try.prog 87 (ty 87) := {
  info := by obtain ⟨i, h1, h2, _, h4⟩ := inf87; exact ⟨i, _, h1, h2, h4, rfl⟩
  plain := rfl
  desc := ⟨_, Try.underlying87, rfl, (by obtain ⟨j, h1, h2, h3, h4⟩ := inf33; exact ⟨_, j, _, rfl, h1, h2, h3, h4, rfl, rfl, rfl, fun h => by cases h⟩)⟩
  one := fun h => by first | rfl | cases h
  pos := by decide
  eq := fun h => absurd rfl h }
theorem tf95 : TyFacts Try.prog 95 (ty 95) := {
  info := by obtain ⟨i, h1, h2, _, h4⟩ := inf95; exact ⟨i, _, h1, h2, h4, rfl⟩
  plain := rfl
  desc := ⟨_, Try.underlying95, rfl, trivial⟩
  one := fun h => by first | rfl | cases h
  pos := by decide
  eq := fun h => absurd rfl h }
theorem tf102 : TyFacts Try.prog 102 (ty 102) := {
  info := by obtain ⟨i, h1, h2, _, h4⟩ := inf102; exact ⟨i, _, h1, h2, h4, rfl⟩
  plain := rfl
  desc := ⟨_, Try.underlying102, rfl, trivial⟩
  one := fun h => by first | rfl | cases h
  pos := by decide
  eq := fun h => absurd rfl h }
theorem tf107 : TyFacts Try.prog 107 (ty 107) := {
  info := by obtain ⟨i, h1, h2, _, h4⟩ := inf107; exact ⟨i, _, h1, h2, h4, rfl⟩
  plain := rfl
  desc := ⟨_, Try.underlying107, rfl, (by obtain ⟨j, h1, h2, _⟩ := inf3; exact ⟨_, j, rfl, h1, h2⟩)⟩
  one := fun h => by first | rfl | cases h
  pos := by decide
  eq := fun h => absurd rfl h }
theorem tf110 : TyFacts Try.prog 110 (ty 110) := {
  info := by obtain ⟨i, h1, h2, _, h4⟩ := inf110; exact ⟨i, _, h1, h2, h4, rfl⟩
  plain := rfl
  desc := ⟨_, Try.underlying110, rfl, (by obtain ⟨j, h1, h2, h3, h4⟩ := inf3; exact ⟨_, _, j, _, rfl, (keyFacts_flat Try.underlying26 (by kernel_rfl) rfl fun j f k h1 h2 => match j, h1, h2 with | 0, h1, h2 => (by cases h1; cases h2; exact ⟨by decide, rfl, ⟨_, Try.underlying3⟩⟩) | 1, h1, h2 => (by cases h1; cases h2; exact ⟨by decide, rfl, ⟨_, Try.underlying3⟩⟩) | 2, h1, h2 => (by cases h1; cases h2; exact ⟨by decide, rfl, ⟨_, Try.underlying5⟩⟩) | n + 3, h1, _ => by simp at h1), h1, h4, rfl, (fun h => by cases h), (fun _ => ⟨_, rfl, rfl⟩)⟩)⟩
  one := fun h => by first | rfl | cases h
  pos := by decide
  eq := fun h => absurd rfl h }
theorem tf114 : TyFacts Try.prog 114 (ty 114) := {
  info := by obtain ⟨i, h1, h2, _, h4⟩ := inf114; exact ⟨i, _, h1, h2, h4, rfl⟩
  plain := rfl
  desc := ⟨_, Try.underlying114, rfl, (by obtain ⟨j, h1, h2, h3, h4⟩ := inf4; exact ⟨_, _, j, _, rfl, (keyFacts_flat Try.underlying118 (by kernel_rfl) rfl fun j f k h1 h2 => match j, h1, h2 with | 0, h1, h2 => (by cases h1; cases h2; exact ⟨by decide, rfl, ⟨_, Try.underlying3⟩⟩) | 1, h1, h2 => (by cases h1; cases h2; exact ⟨by decide, rfl, ⟨_, Try.underlying3⟩⟩) | n + 2, h1, _ => by simp at h1), h1, h4, rfl, (fun h => by cases h), (fun _ => ⟨_, rfl, rfl⟩)⟩)⟩
  one := fun h => by first | rfl | cases h
  pos := by decide
  eq := fun h => absurd rfl h }
theorem tf116 : TyFacts Try.prog 116 (ty 116) := {
  info := by obtain ⟨i, h1, h2, _, h4⟩ := inf116; exact ⟨i, _, h1, h2, h4, rfl⟩
  plain := rfl
  desc := ⟨_, Try.underlying116, rfl, ⟨_, rfl, rfl, fun i o s h => match i, h with | 0, h => (by cases h; exact (by obtain ⟨j, h1, h2, _⟩ := inf102; exact ⟨_, j, rfl, rfl, h1, h2, by decide⟩)) | 1, h => (by cases h; exact (by obtain ⟨j, h1, h2, _⟩ := inf39; exact ⟨_, j, rfl, rfl, h1, h2, by decide⟩)) | 2, h => (by cases h; exact (by obtain ⟨j, h1, h2, _⟩ := inf114; exact ⟨_, j, rfl, rfl, h1, h2, by decide⟩)) | n + 3, h => by simp at h⟩⟩
  one := fun h => by first | rfl | cases h
  pos := by decide
  eq := fun h => absurd rfl h }
theorem tf118 : TyFacts Try.prog 118 (ty 118) := {
  info := by obtain ⟨i, h1, h2, _, h4⟩ := inf118; exact ⟨i, _, h1, h2, h4, rfl⟩
  plain := rfl
  desc := ⟨_, Try.underlying118, rfl, ⟨_, rfl, rfl, fun i o s h => match i, h with | 0, h => (by cases h; exact (by obtain ⟨j, h1, h2, _⟩ := inf3; exact ⟨_, j, rfl, rfl, h1, h2, by decide⟩)) | 1, h => (by cases h; exact (by obtain ⟨j, h1, h2, _⟩ := inf3; exact ⟨_, j, rfl, rfl, h1, h2, by decide⟩)) | n + 2, h => by simp at h⟩⟩
  one := fun h => by first | rfl | cases h
  pos := by decide
  eq := fun _ => eq_flat Try.underlying118 (by kernel_rfl) (by kernel_rfl) rfl fun j f k h1 h2 => match j, h1, h2 with | 0, h1, h2 => (by cases h1; cases h2; exact ⟨by decide, rfl, ⟨_, Try.underlying3⟩⟩) | 1, h1, h2 => (by cases h1; cases h2; exact ⟨by decide, rfl, ⟨_, Try.underlying3⟩⟩) | n + 2, h1, _ => by simp at h1 }
theorem tf119 : TyFacts Try.prog 119 (ty 119) := {
  info := by obtain ⟨i, h1, h2, _, h4⟩ := inf119; exact ⟨i, _, h1, h2, h4, rfl⟩
  plain := rfl
  desc := ⟨_, Try.underlying119, rfl, (by obtain ⟨j, h1, h2, h3, h4⟩ := inf139; exact ⟨_, j, _, rfl, h1, h2, h3, h4, rfl, rfl, rfl, fun h => by cases h⟩)⟩
  one := fun h => by first | rfl | cases h
  pos := by decide
  eq := fun h => absurd rfl h }
theorem tf121 : TyFacts Try.prog 121 (ty 121) := {
  info := by obtain ⟨i, h1, h2, _, h4⟩ := inf121; exact ⟨i, _, h1, h2, h4, rfl⟩
  plain := rfl
  desc := ⟨_, Try.underlying121, rfl, ⟨_, rfl, rfl, fun i o s h => match i, h with | 0, h => (by cases h; exact (by obtain ⟨j, h1, h2, _⟩ := inf119; exact ⟨_, j, rfl, rfl, h1, h2, by decide⟩)) | 1, h => (by cases h; exact (by obtain ⟨j, h1, h2, _⟩ := inf47; exact ⟨_, j, rfl, rfl, h1, h2, by decide⟩)) | 2, h => (by cases h; exact (by obtain ⟨j, h1, h2, _⟩ := inf47; exact ⟨_, j, rfl, rfl, h1, h2, by decide⟩)) | n + 3, h => by simp at h⟩⟩
  one := fun h => by first | rfl | cases h
  pos := by decide
  eq := fun h => absurd rfl h }
theorem tf124 : TyFacts Try.prog 124 (ty 124) := {
  info := by obtain ⟨i, h1, h2, _, h4⟩ := inf124; exact ⟨i, _, h1, h2, h4, rfl⟩
  plain := rfl
  desc := ⟨_, Try.underlying124, rfl, (by obtain ⟨j, h1, h2, h3, h4⟩ := inf128; exact ⟨_, j, _, rfl, h1, h2, h3, h4, rfl, rfl, rfl, fun h => by cases h⟩)⟩
  one := fun h => by first | rfl | cases h
  pos := by decide
  eq := fun h => absurd rfl h }
theorem tf128 : TyFacts Try.prog 128 (ty 128) := {
  info := by obtain ⟨i, h1, h2, _, h4⟩ := inf128; exact ⟨i, _, h1, h2, h4, rfl⟩
  plain := rfl
  desc := ⟨_, Try.underlying128, rfl, ⟨_, rfl, rfl, fun i o s h => match i, h with | 0, h => (by cases h; exact (by obtain ⟨j, h1, h2, _⟩ := inf118; exact ⟨_, j, rfl, rfl, h1, h2, by decide⟩)) | 1, h => (by cases h; exact (by obtain ⟨j, h1, h2, _⟩ := inf9; exact ⟨_, j, rfl, rfl, h1, h2, by decide⟩)) | n + 2, h => by simp at h⟩⟩
  one := fun h => by first | rfl | cases h
  pos := by decide
  eq := fun h => absurd rfl h }
theorem tf130 : TyFacts Try.prog 130 (ty 130) := {
  info := by obtain ⟨i, h1, h2, _, h4⟩ := inf130; exact ⟨i, _, h1, h2, h4, rfl⟩
  plain := rfl
  desc := ⟨_, Try.underlying130, rfl, ⟨_, rfl, rfl, fun i o s h => match i, h with | 0, h => (by cases h; exact (by obtain ⟨j, h1, h2, _⟩ := inf124; exact ⟨_, j, rfl, rfl, h1, h2, by decide⟩)) | 1, h => (by cases h; exact (by obtain ⟨j, h1, h2, _⟩ := inf3; exact ⟨_, j, rfl, rfl, h1, h2, by decide⟩)) | n + 2, h => by simp at h⟩⟩
  one := fun h => by first | rfl | cases h
  pos := by decide
  eq := fun h => absurd rfl h }
theorem tf131 : TyFacts Try.prog 131 (ty 131) := {
  info := by obtain ⟨i, h1, h2, _, h4⟩ := inf131; exact ⟨i, _, h1, h2, h4, rfl⟩
  plain := rfl
  desc := ⟨_, Try.underlying131, rfl, (by obtain ⟨j, h1, h2, h3, h4⟩ := inf130; exact ⟨_, j, _, rfl, h1, h2, h3, h4, rfl, rfl, rfl, fun h => by cases h⟩)⟩
  one := fun h => by first | rfl | cases h
  pos := by decide
  eq := fun h => absurd rfl h }
theorem tf132 : TyFacts Try.prog 132 (ty 132) := {
  info := by obtain ⟨i, h1, h2, _, h4⟩ := inf132; exact ⟨i, _, h1, h2, h4, rfl⟩
  plain := rfl
  desc := ⟨_, Try.underlying132, rfl, trivial⟩
  one := fun h => by first | rfl | cases h
  pos := by decide
  eq := fun h => absurd rfl h }
theorem tf135 : TyFacts Try.prog 135 (ty 135) := {
  info := by obtain ⟨i, h1, h2, _, h4⟩ := inf135; exact ⟨i, _, h1, h2, h4, rfl⟩
  plain := rfl
  desc := ⟨_, Try.underlying135, rfl, trivial⟩
  one := fun h => by first | rfl | cases h
  pos := by decide
  eq := fun h => absurd rfl h }
theorem tf137 : TyFacts Try.prog 137 (ty 137) := {
  info := by obtain ⟨i, h1, h2, _, h4⟩ := inf137; exact ⟨i, _, h1, h2, h4, rfl⟩
  plain := rfl
  desc := ⟨_, Try.underlying137, rfl, ⟨_, rfl, rfl, fun i o s h => match i, h with | 0, h => (by cases h; exact (by obtain ⟨j, h1, h2, _⟩ := inf31; exact ⟨_, j, rfl, rfl, h1, h2, by decide⟩)) | 1, h => (by cases h; exact (by obtain ⟨j, h1, h2, _⟩ := inf77; exact ⟨_, j, rfl, rfl, h1, h2, by decide⟩)) | n + 2, h => by simp at h⟩⟩
  one := fun h => by first | rfl | cases h
  pos := by decide
  eq := fun h => absurd rfl h }
theorem tf139 : TyFacts Try.prog 139 (ty 139) := {
  info := by obtain ⟨i, h1, h2, _, h4⟩ := inf139; exact ⟨i, _, h1, h2, h4, rfl⟩
  plain := rfl
  desc := ⟨_, Try.underlying139, rfl, (by obtain ⟨j, h1, h2, h3, h4⟩ := inf141; exact ⟨_, j, _, rfl, h1, h2, h3, h4, rfl, rfl, rfl, fun h => by cases h⟩)⟩
  one := fun h => by first | rfl | cases h
  pos := by decide
  eq := fun h => absurd rfl h }
theorem tf141 : TyFacts Try.prog 141 (ty 141) := {
  info := by obtain ⟨i, h1, h2, _, h4⟩ := inf141; exact ⟨i, _, h1, h2, h4, rfl⟩
  plain := rfl
  desc := ⟨_, Try.underlying141, rfl, ⟨_, rfl, rfl, fun i o s h => match i, h with | 0, h => (by cases h; exact (by obtain ⟨j, h1, h2, _⟩ := inf9; exact ⟨_, j, rfl, rfl, h1, h2, by decide⟩)) | 1, h => (by cases h; exact (by obtain ⟨j, h1, h2, _⟩ := inf39; exact ⟨_, j, rfl, rfl, h1, h2, by decide⟩)) | 2, h => (by cases h; exact (by obtain ⟨j, h1, h2, _⟩ := inf3; exact ⟨_, j, rfl, rfl, h1, h2, by decide⟩)) | n + 3, h => by simp at h⟩⟩
  one := fun h => by first | rfl | cases h
  pos := by decide
  eq := fun h => absurd rfl h }
theorem tyOK : TyOK Try.prog ty := by
  intro t h
  unfold ty at h
  split at h
  · exact tf3
  · exact tf4
  · exact tf5
  · exact tf9
  · exact tf22
  · exact tf24
  · exact tf26
  · exact tf27
  · exact tf29
  · exact tf31
  · exact tf33
  · exact tf34
  · exact tf39
  · exact tf41
  · exact tf44
  · exact tf47
  · exact tf50
  · exact tf55
  · exact tf57
  · exact tf64
  · exact tf67
  · exact tf69
  · exact tf74
  · exact tf77
  · exact tf84
  · exact tf87
  · exact tf95
  · exact tf102
  · exact tf107
  · exact tf110
  · exact tf114
  · exact tf116
  · exact tf118
  · exact tf119
  · exact tf121
  · exact tf124
  · exact tf128
  · exact tf130
  · exact tf131
  · exact tf132
  · exact tf135
  · exact tf137
  · exact tf139
  · exact tf141
  · cases h
theorem follows : Try.prog.follows .mixedOrders = true := by kernel_rfl
def cx (n : Nat) : Cx := ⟨ty, n, CallOK Try.prog⟩
theorem cxOK (n : Nat) : CxOK Try.prog (cx n) := ⟨tyOK, fun _ _ _ h => h⟩
end Go.AI
end
section
namespace Go.AI
structure Arr3 (α : Type) where
  a0 : α
  a1 : α
  a2 : α
  deriving DecidableEq, Inhabited
structure GRule where
  Print : (List UInt8)
  Cells : (List Int)
  Left : Int
  Right : Int
  From : Int
  To : Int
  deriving DecidableEq, Inhabited
structure GState where
  Mode : Int
  Last : Int
  Need : Int
  deriving DecidableEq, Inhabited
structure GTable where
  Modes : Int
  Accept : Int
  Rules : (List GRule)
  deriving DecidableEq, Inhabited
structure GTrace where
  Text : (List UInt8)
  Cells : (List Int)
  At : Int
  End : GState
  Ok : Bool
  deriving DecidableEq, Inhabited
structure Arr2 (α : Type) where
  a0 : α
  a1 : α
  deriving DecidableEq, Inhabited
structure GRawRule where
  P : (List Int)
  C : (List Int)
  L : Int
  R : Int
  W : (Arr2 Int)
  deriving DecidableEq, Inhabited
structure GRaw where
  Base : Int
  Drop : Int
  More : (List GRawRule)
  deriving DecidableEq, Inhabited
def FSixdotlaw03_rule (n : Nat) (p0_ : (List UInt8)) (p1_ : Int) (p2_ : (Arr3 Int)) : Option GRule :=
  some ({ Print := p0_, Cells := [p1_], Left := 63, Right := IntKind.u8.wrap p2_.a0, From := p2_.a1, To := p2_.a2 } : GRule)
def FAutomaton_Start (n : Nat)  : Option GState :=
  some ({ Mode := 0, Last := 0, Need := 63 } : GState)
def FAutomaton_has (n : Nat) (p0_ : Int) (p1_ : Int) : Option Bool :=
  (if ((decide (0 ≤ p1_)) && (decide (p1_ < 8))) = true then guardB (decide (0 ≤ p1_)) else some default).bind fun (u1 : Unit) =>
  some (((decide (0 ≤ p1_)) && (decide (p1_ < 8))) && ((iand .u8 (ishr .u8 p0_ p1_) 1) == 1))
def FTable_Class (n : Nat) (p0_ : Int) : Option Int :=
  if ((decide (97 ≤ iand .u8 p0_ 127)) && (decide (iand .u8 p0_ 127 ≤ 122))) = true then
    some 1
  else
    if ((decide (65 ≤ iand .u8 p0_ 127)) && (decide (iand .u8 p0_ 127 ≤ 90))) = true then
      some 2
    else
      if ((decide (48 ≤ iand .u8 p0_ 127)) && (decide (iand .u8 p0_ 127 ≤ 57))) = true then
        some 3
      else
        if ((iand .u8 p0_ 127) == 32) = true then
          some 4
        else
          some 5
def FAutomaton_Step (n : Nat) (p0_ : GTable) (p1_ : GState) (p2_ : Int) : Option (GState × Bool) :=
  if ((decide (p2_ < 0)) || (decide (p2_ ≥ ((List.length p0_.Rules : Nat) : Int)))) = true then
    some (({ Mode := 0, Last := 0, Need := 0 } : GState), false)
  else
    (idx p0_.Rules p2_).bind fun (x1 : GRule) =>
    (if (!(x1.From != p1_.Mode)) = true then FAutomaton_has n x1.Left p1_.Last else some default).bind fun (r1 : Bool) =>
    if ((x1.From != p1_.Mode) || (!r1)) = true then
      some (({ Mode := 0, Last := 0, Need := 0 } : GState), false)
    else
      if (x1.Print == []) = true then
        if ((iand .u8 p1_.Need x1.Right) == 0) = true then
          some (({ Mode := 0, Last := 0, Need := 0 } : GState), false)
        else
          some (({ Mode := x1.To, Last := p1_.Last, Need := iand .u8 p1_.Need x1.Right } : GState), true)
      else
        (sidx x1.Print 0).bind fun (b1 : Int) =>
        (FTable_Class n b1).bind fun (r2 : Int) =>
        (FAutomaton_has n p1_.Need r2).bind fun (r3 : Bool) =>
        if (!r3) = true then
          some (({ Mode := 0, Last := 0, Need := 0 } : GState), false)
        else
          (sidx x1.Print (isub .i64 ((List.length x1.Print : Nat) : Int) 1)).bind fun (b2 : Int) =>
          (FTable_Class n b2).bind fun (r4 : Int) =>
          some (({ Mode := x1.To, Last := r4, Need := x1.Right } : GState), true)
def FAutomaton_Accepts (n : Nat) (p0_ : GTable) (p1_ : GState) : Option Bool :=
  (if decide (p1_.Mode < p0_.Modes) = true then FAutomaton_has n p0_.Accept p1_.Mode else some default).bind fun (r5 : Bool) =>
  (if ((decide (p1_.Mode < p0_.Modes)) && r5) = true then FAutomaton_has n p1_.Need 0 else some default).bind fun (r6 : Bool) =>
  some (((decide (p1_.Mode < p0_.Modes)) && r5) && r6)
def FAutomaton_Run_L1 (n : Nat) (p0_ : GTable) (p1_ : (List Int)) (text_1 : (List Int)) (cells_1 : (List Int)) (s_1 : GState) (at_1 : Int) (x_1 : Int) : Option (((List Int) × (List Int) × GState × Int × Int) ⊕ ((List Int) × (List Int) × GState × Int)) :=
  if decide (x_1 < ((List.length p1_ : Nat) : Int)) = true then
    (idx p1_ x_1).bind fun (x2 : Int) =>
    (FAutomaton_Step n p0_ s_1 x2).bind fun (r8 : (GState × Bool)) =>
    if (!r8.2) = true then
      some (Sum.inr (text_1, cells_1, s_1, at_1))
    else
      (idx p0_.Rules x2).bind fun (x3 : GRule) =>
      (app 1 text_1 (bytesOf x3.Print)).bind fun (l1 : (List Int)) =>
      (idx p0_.Rules x2).bind fun (x4 : GRule) =>
      (app 1 cells_1 x4.Cells).bind fun (l2 : (List Int)) =>
      some (Sum.inl (l1, l2, r8.1, (iadd .i64 at_1 1), (iadd .i64 x_1 1)))
  else
    some (Sum.inr (text_1, cells_1, s_1, at_1))
def FAutomaton_Run (n : Nat) (p0_ : GTable) (p1_ : (List Int)) : Option GTrace :=
  (FAutomaton_Start n).bind fun (r7 : GState) =>
  (whl (fun (x : ((List Int) × (List Int) × GState × Int × Int)) => FAutomaton_Run_L1 n p0_ p1_ x.1 x.2.1 x.2.2.1 x.2.2.2.1 x.2.2.2.2) n (([] : List Int), ([] : List Int), r7, 0, 0)).bind fun (y1 : ((List Int) × (List Int) × GState × Int)) =>
  (bstr y1.1).bind fun (s1 : (List UInt8)) =>
  (if (y1.2.2.2 == ((List.length p1_ : Nat) : Int)) = true then FAutomaton_Accepts n p0_ y1.2.2.1 else some default).bind fun (r9 : Bool) =>
  some ({ Text := s1, Cells := y1.2.1, At := y1.2.2.2, End := y1.2.2.1, Ok := ((y1.2.2.2 == ((List.length p1_ : Nat) : Int)) && r9) } : GTrace)
def FAutomaton_explore_J1 (n : Nat) (x_2 : Int) (states_5 : (List GState)) (from_5 : (List (List Int))) (number_4 : (List (GState × Int))) : Option (((List GState) × (List (List Int)) × (List (GState × Int)) × Int) ⊕ ((List GState) × (List (List Int)) × (List (GState × Int)))) :=
  some (Sum.inl (states_5, from_5, number_4, (iadd .i64 x_2 1)))
def FAutomaton_explore_J2 (n : Nat) (k_1 : Int) (x_2 : Int) (states_6 : (List GState)) (from_6 : (List (List Int))) (number_5 : (List (GState × Int))) (n_1 : Int) : Option (((List GState) × (List (List Int)) × (List (GState × Int)) × Int) ⊕ ((List GState) × (List (List Int)) × (List (GState × Int)))) :=
  (idx from_6 n_1).bind fun (x6 : (List Int)) =>
  (app 8 x6 [k_1]).bind fun (l3 : (List Int)) =>
  FAutomaton_explore_J1 n x_2 states_6 (List.set from_6 (Int.toNat n_1) l3) number_5
def FAutomaton_explore_L2 (n : Nat) (p0_ : GTable) (k_1 : Int) (states_3 : (List GState)) (from_3 : (List (List Int))) (number_2 : (List (GState × Int))) (x_2 : Int) : Option (((List GState) × (List (List Int)) × (List (GState × Int)) × Int) ⊕ ((List GState) × (List (List Int)) × (List (GState × Int)))) :=
  if decide (x_2 < ((List.length p0_.Rules : Nat) : Int)) = true then
    (idx states_3 k_1).bind fun (x5 : GState) =>
    (FAutomaton_Step n p0_ x5 x_2).bind fun (r11 : (GState × Bool)) =>
    if (!r11.2) = true then
      FAutomaton_explore_J1 n x_2 states_3 from_3 number_2
    else
      if (!(Option.isSome (mget r11.1 number_2))) = true then
        (app 24 states_3 [r11.1]).bind fun (l4 : (List GState)) =>
        (app 24 from_3 [([] : (List Int))]).bind fun (l5 : (List (List Int))) =>
        FAutomaton_explore_J2 n k_1 x_2 l4 l5 (mput r11.1 ((List.length states_3 : Nat) : Int) number_2) ((List.length states_3 : Nat) : Int)
      else
        FAutomaton_explore_J2 n k_1 x_2 states_3 from_3 number_2 (Option.getD (mget r11.1 number_2) 0)
  else
    some (Sum.inr (states_3, from_3, number_2))
def FAutomaton_explore_L1 (n : Nat) (p0_ : GTable) (states_1 : (List GState)) (from_1 : (List (List Int))) (number_1 : (List (GState × Int))) (k_1 : Int) : Option (((List GState) × (List (List Int)) × (List (GState × Int)) × Int) ⊕ ((List GState) × (List (List Int)))) :=
  if decide (k_1 < ((List.length states_1 : Nat) : Int)) = true then
    (whl (fun (x : ((List GState) × (List (List Int)) × (List (GState × Int)) × Int)) => FAutomaton_explore_L2 n p0_ k_1 x.1 x.2.1 x.2.2.1 x.2.2.2) n (states_1, from_1, number_1, 0)).bind fun (y2 : ((List GState) × (List (List Int)) × (List (GState × Int)))) =>
    some (Sum.inl (y2.1, y2.2.1, y2.2.2, (iadd .i64 k_1 1)))
  else
    some (Sum.inr (states_1, from_1))
def FAutomaton_explore (n : Nat) (p0_ : GTable) : Option ((List GState) × (List (List Int))) :=
  (FAutomaton_Start n).bind fun (r10 : GState) =>
  (whl (fun (x : ((List GState) × (List (List Int)) × (List (GState × Int)) × Int)) => FAutomaton_explore_L1 n p0_ x.1 x.2.1 x.2.2.1 x.2.2.2) n ([r10], ([[]] : List (List Int)), (mput r10 0 []), 0)).bind fun (y3 : ((List GState) × (List (List Int)))) =>
  some (y3.1, y3.2)
def FAutomaton_States (n : Nat) (p0_ : GTable) : Option (List GState) :=
  (FAutomaton_explore n p0_).bind fun (r12 : ((List GState) × (List (List Int)))) =>
  some r12.1
def FAutomaton_Alive_J1 (n : Nat) (x_3 : Int) (alive_3 : (List Bool)) (open_3 : (List Int)) : Option (((List Bool) × (List Int) × Int) ⊕ ((List Bool) × (List Int))) :=
  some (Sum.inl (alive_3, open_3, (iadd .i64 x_3 1)))
def FAutomaton_Alive_L1 (n : Nat) (p0_ : GTable) (r13 : ((List GState) × (List (List Int)))) (alive_1 : (List Bool)) (open_1 : (List Int)) (x_3 : Int) : Option (((List Bool) × (List Int) × Int) ⊕ ((List Bool) × (List Int))) :=
  if decide (x_3 < ((List.length r13.1 : Nat) : Int)) = true then
    (idx r13.1 x_3).bind fun (x7 : GState) =>
    (FAutomaton_Accepts n p0_ x7).bind fun (r14 : Bool) =>
    if r14 = true then
      (idx alive_1 x_3).bind fun (x8 : Bool) =>
      (put alive_1 x_3 true).bind fun (l7 : (List Bool)) =>
      (app 8 open_1 [x_3]).bind fun (l8 : (List Int)) =>
      FAutomaton_Alive_J1 n x_3 l7 l8
    else
      FAutomaton_Alive_J1 n x_3 alive_1 open_1
  else
    some (Sum.inr (alive_1, open_1))
def FAutomaton_Alive_J2 (n : Nat) (x_4 : Int) (alive_8 : (List Bool)) (open_7 : (List Int)) : Option (((List Bool) × (List Int) × Int) ⊕ ((List Bool) × (List Int))) :=
  some (Sum.inl (alive_8, open_7, (iadd .i64 x_4 1)))
def FAutomaton_Alive_L3 (n : Nat) (r13 : ((List GState) × (List (List Int)))) (x10 : (List Int)) (alive_6 : (List Bool)) (open_5 : (List Int)) (x_4 : Int) : Option (((List Bool) × (List Int) × Int) ⊕ ((List Bool) × (List Int))) :=
  if decide (x_4 < ((List.length x10 : Nat) : Int)) = true then
    (idx x10 x_4).bind fun (x11 : Int) =>
    (idx alive_6 x11).bind fun (x12 : Bool) =>
    if (!x12) = true then
      (idx alive_6 x11).bind fun (x13 : Bool) =>
      (put alive_6 x11 true).bind fun (l10 : (List Bool)) =>
      (app 8 open_5 [x11]).bind fun (l11 : (List Int)) =>
      FAutomaton_Alive_J2 n x_4 l10 l11
    else
      FAutomaton_Alive_J2 n x_4 alive_6 open_5
  else
    some (Sum.inr (alive_6, open_5))
def FAutomaton_Alive_L2 (n : Nat) (r13 : ((List GState) × (List (List Int)))) (alive_4 : (List Bool)) (open_4 : (List Int)) : Option (((List Bool) × (List Int)) ⊕ (List Bool)) :=
  if decide (((List.length open_4 : Nat) : Int) > 0) = true then
    (idx open_4 (isub .i64 ((List.length open_4 : Nat) : Int) 1)).bind fun (x9 : Int) =>
    (sub open_4 0 (isub .i64 ((List.length open_4 : Nat) : Int) 1)).bind fun (l9 : (List Int)) =>
    (idx r13.2 x9).bind fun (x10 : (List Int)) =>
    (whl (fun (x : ((List Bool) × (List Int) × Int)) => FAutomaton_Alive_L3 n r13 x10 x.1 x.2.1 x.2.2) n (alive_4, l9, 0)).bind fun (y5 : ((List Bool) × (List Int))) =>
    some (Sum.inl (y5.1, y5.2))
  else
    some (Sum.inr alive_4)
def FAutomaton_Alive (n : Nat) (p0_ : GTable) : Option (List Bool) :=
  (FAutomaton_explore n p0_).bind fun (r13 : ((List GState) × (List (List Int)))) =>
  (mkl 1 ((List.length r13.1 : Nat) : Int) (false : Bool)).bind fun (l6 : (List Bool)) =>
  (whl (fun (x : ((List Bool) × (List Int) × Int)) => FAutomaton_Alive_L1 n p0_ r13 x.1 x.2.1 x.2.2) n (l6, ([] : List Int), 0)).bind fun (y4 : ((List Bool) × (List Int))) =>
  (whl (fun (x : ((List Bool) × (List Int))) => FAutomaton_Alive_L2 n r13 x.1 x.2) n (y4.1, y4.2)).bind fun (y6 : (List Bool)) =>
  some y6
def FSixdotref02_SameCells_L1 (n : Nat) (p0_ : (List Int)) (p1_ : (List Int)) (i_1 : Int) : Option (Int ⊕ (Unit ⊕ Bool)) :=
  if decide (i_1 < ((List.length p0_ : Nat) : Int)) = true then
    (idx p0_ i_1).bind fun (x14 : Int) =>
    (idx p1_ i_1).bind fun (x15 : Int) =>
    if (x14 != x15) = true then
      some (Sum.inr (Sum.inr false))
    else
      some (Sum.inl (iadd .i64 i_1 1))
  else
    some (Sum.inr (Sum.inl ()))
def FSixdotref02_SameCells (n : Nat) (p0_ : (List Int)) (p1_ : (List Int)) : Option Bool :=
  if (((List.length p0_ : Nat) : Int) != ((List.length p1_ : Nat) : Int)) = true then
    some false
  else
    (whl (fun (x : Int) => FSixdotref02_SameCells_L1 n p0_ p1_ x) n 0).bind fun (y7 : (Unit ⊕ Bool)) =>
    match y7 with
    | Sum.inl y8 =>
      some true
    | Sum.inr y9 =>
      some y9
def FSixdotlaw03_sanity_L1 (n : Nat) (r15 : GRule) (r16 : GRule) (r17 : GRule) (r18 : GRule) (r20 : (GState × Bool)) (r21 : (GState × Bool)) (r22 : (GState × Bool)) (r23 : GTrace) (r24 : GTrace) (r25 : GTrace) (r26 : (List GState)) (r27 : (List Bool)) (i_2 : Int) : Option (Int ⊕ (Unit ⊕ Bool)) :=
  if decide (i_2 < ((List.length r26 : Nat) : Int)) = true then
    (idx r26 i_2).bind fun (x16 : GState) =>
    (idx [({ Mode := 0, Last := 0, Need := 63 } : GState), ({ Mode := 0, Last := 1, Need := 63 } : GState), ({ Mode := 1, Last := 0, Need := 8 } : GState), ({ Mode := 1, Last := 1, Need := 8 } : GState), ({ Mode := 1, Last := 3, Need := 63 } : GState), ({ Mode := 0, Last := 4, Need := 63 } : GState), ({ Mode := 1, Last := 4, Need := 8 } : GState)] i_2).bind fun (x17 : GState) =>
    (if (!(!((x16.Mode == x17.Mode) && ((x16.Last == x17.Last) && ((x16.Need == x17.Need) && true))))) = true then idx r27 i_2 else some default).bind fun (x18 : Bool) =>
    if ((!((x16.Mode == x17.Mode) && ((x16.Last == x17.Last) && ((x16.Need == x17.Need) && true)))) || (!x18)) = true then
      some (Sum.inr (Sum.inr false))
    else
      some (Sum.inl (iadd .i64 i_2 1))
  else
    some (Sum.inr (Sum.inl ()))
def FSixdotlaw03_sanity (n : Nat)  : Option Bool :=
  (FSixdotlaw03_rule n [97] 1 ({ a0 := 63, a1 := 0, a2 := 0 } : (Arr3 Int))).bind fun (r15 : GRule) =>
  (FSixdotlaw03_rule n [] 60 ({ a0 := 8, a1 := 0, a2 := 1 } : (Arr3 Int))).bind fun (r16 : GRule) =>
  (FSixdotlaw03_rule n [49] 1 ({ a0 := 63, a1 := 1, a2 := 1 } : (Arr3 Int))).bind fun (r17 : GRule) =>
  (FSixdotlaw03_rule n [32] 0 ({ a0 := 63, a1 := 1, a2 := 0 } : (Arr3 Int))).bind fun (r18 : GRule) =>
  (FAutomaton_Start n).bind fun (r19 : GState) =>
  (FAutomaton_Step n ({ Modes := 2, Accept := 3, Rules := [r15, r16, r17, r18] } : GTable) r19 1).bind fun (r20 : (GState × Bool)) =>
  (FAutomaton_Step n ({ Modes := 2, Accept := 3, Rules := [r15, r16, r17, r18] } : GTable) r20.1 0).bind fun (r21 : (GState × Bool)) =>
  (FAutomaton_Step n ({ Modes := 2, Accept := 3, Rules := [r15, r16, r17, r18] } : GTable) r20.1 4).bind fun (r22 : (GState × Bool)) =>
  (FAutomaton_Run n ({ Modes := 2, Accept := 3, Rules := [r15, r16, r17, r18] } : GTable) [1, 2, 3, 0]).bind fun (r23 : GTrace) =>
  (FAutomaton_Run n ({ Modes := 2, Accept := 3, Rules := [r15, r16, r17, r18] } : GTable) [1, 0]).bind fun (r24 : GTrace) =>
  (FAutomaton_Run n ({ Modes := 2, Accept := 3, Rules := [r15, r16, r17, r18] } : GTable) [1]).bind fun (r25 : GTrace) =>
  (FAutomaton_States n ({ Modes := 2, Accept := 3, Rules := [r15, r16, r17, r18] } : GTable)).bind fun (r26 : (List GState)) =>
  (FAutomaton_Alive n ({ Modes := 2, Accept := 3, Rules := [r15, r16, r17, r18] } : GTable)).bind fun (r27 : (List Bool)) =>
  if ((((List.length r26 : Nat) : Int) != ((List.length [({ Mode := 0, Last := 0, Need := 63 } : GState), ({ Mode := 0, Last := 1, Need := 63 } : GState), ({ Mode := 1, Last := 0, Need := 8 } : GState), ({ Mode := 1, Last := 1, Need := 8 } : GState), ({ Mode := 1, Last := 3, Need := 63 } : GState), ({ Mode := 0, Last := 4, Need := 63 } : GState), ({ Mode := 1, Last := 4, Need := 8 } : GState)] : Nat) : Int)) || (((List.length r27 : Nat) : Int) != ((List.length [({ Mode := 0, Last := 0, Need := 63 } : GState), ({ Mode := 0, Last := 1, Need := 63 } : GState), ({ Mode := 1, Last := 0, Need := 8 } : GState), ({ Mode := 1, Last := 1, Need := 8 } : GState), ({ Mode := 1, Last := 3, Need := 63 } : GState), ({ Mode := 0, Last := 4, Need := 63 } : GState), ({ Mode := 1, Last := 4, Need := 8 } : GState)] : Nat) : Int))) = true then
    some false
  else
    (whl (fun (x : Int) => FSixdotlaw03_sanity_L1 n r15 r16 r17 r18 r20 r21 r22 r23 r24 r25 r26 r27 x) n 0).bind fun (y10 : (Unit ⊕ Bool)) =>
    match y10 with
    | Sum.inl y11 =>
      (if (((r20.2 && ((r20.1.Mode == 1) && ((r20.1.Last == 0) && ((r20.1.Need == 8) && true)))) && (!r21.2)) && (!r22.2)) = true then FAutomaton_Start n else some default).bind fun (r28 : GState) =>
      (if (r23.Ok && (r23.Text == [49, 32, 97])) = true then FSixdotref02_SameCells n r23.Cells [60, 1, 0, 1] else some default).bind fun (r29 : Bool) =>
      (if (((((r20.2 && ((r20.1.Mode == 1) && ((r20.1.Last == 0) && ((r20.1.Need == 8) && true)))) && (!r21.2)) && (!r22.2)) && ((r28.Mode == 0) && ((r28.Last == 0) && ((r28.Need == 63) && true)))) && (((((((r23.Ok && (r23.Text == [49, 32, 97])) && r29) && (r23.At == 4)) && (r24.At == 1)) && (!r24.Ok)) && (r25.At == 1)) && (!r25.Ok))) = true then idx r26 1 else some default).bind fun (x19 : GState) =>
      (if (((((r20.2 && ((r20.1.Mode == 1) && ((r20.1.Last == 0) && ((r20.1.Need == 8) && true)))) && (!r21.2)) && (!r22.2)) && ((r28.Mode == 0) && ((r28.Last == 0) && ((r28.Need == 63) && true)))) && (((((((r23.Ok && (r23.Text == [49, 32, 97])) && r29) && (r23.At == 4)) && (r24.At == 1)) && (!r24.Ok)) && (r25.At == 1)) && (!r25.Ok))) = true then FAutomaton_Accepts n ({ Modes := 2, Accept := 3, Rules := [r15, r16, r17, r18] } : GTable) x19 else some default).bind fun (r30 : Bool) =>
      (if ((((((r20.2 && ((r20.1.Mode == 1) && ((r20.1.Last == 0) && ((r20.1.Need == 8) && true)))) && (!r21.2)) && (!r22.2)) && ((r28.Mode == 0) && ((r28.Last == 0) && ((r28.Need == 63) && true)))) && (((((((r23.Ok && (r23.Text == [49, 32, 97])) && r29) && (r23.At == 4)) && (r24.At == 1)) && (!r24.Ok)) && (r25.At == 1)) && (!r25.Ok))) && r30) = true then FAutomaton_Accepts n ({ Modes := 2, Accept := 3, Rules := [r15, r16, r17, r18] } : GTable) r20.1 else some default).bind fun (r31 : Bool) =>
      (if (((((((r20.2 && ((r20.1.Mode == 1) && ((r20.1.Last == 0) && ((r20.1.Need == 8) && true)))) && (!r21.2)) && (!r22.2)) && ((r28.Mode == 0) && ((r28.Last == 0) && ((r28.Need == 63) && true)))) && (((((((r23.Ok && (r23.Text == [49, 32, 97])) && r29) && (r23.At == 4)) && (r24.At == 1)) && (!r24.Ok)) && (r25.At == 1)) && (!r25.Ok))) && r30) && (!r31)) = true then FAutomaton_Accepts n ({ Modes := 2, Accept := 3, Rules := [r15, r16, r17, r18] } : GTable) ({ Mode := 2, Last := 0, Need := 63 } : GState) else some default).bind fun (r32 : Bool) =>
      some ((((((((r20.2 && ((r20.1.Mode == 1) && ((r20.1.Last == 0) && ((r20.1.Need == 8) && true)))) && (!r21.2)) && (!r22.2)) && ((r28.Mode == 0) && ((r28.Last == 0) && ((r28.Need == 63) && true)))) && (((((((r23.Ok && (r23.Text == [49, 32, 97])) && r29) && (r23.At == 4)) && (r24.At == 1)) && (!r24.Ok)) && (r25.At == 1)) && (!r25.Ok))) && r30) && (!r31)) && (!r32))
    | Sum.inr y12 =>
      some y12
def FSixdotref02_simple (n : Nat) (p0_ : (List UInt8)) (p1_ : (List Int)) (p2_ : (Arr2 Int)) : Option GRule :=
  some ({ Print := p0_, Cells := p1_, Left := 63, Right := 63, From := p2_.a0, To := p2_.a1 } : GRule)
def FSixdotref02_letters (n : Nat)  : Option (List GRule) :=
  (FSixdotref02_simple n [97] [1] ({ a0 := 0, a1 := 0 } : (Arr2 Int))).bind fun (r33 : GRule) =>
  (FSixdotref02_simple n [98] [3] ({ a0 := 0, a1 := 0 } : (Arr2 Int))).bind fun (r34 : GRule) =>
  (FSixdotref02_simple n [99] [9] ({ a0 := 0, a1 := 0 } : (Arr2 Int))).bind fun (r35 : GRule) =>
  (FSixdotref02_simple n [32] [0] ({ a0 := 0, a1 := 0 } : (Arr2 Int))).bind fun (r36 : GRule) =>
  some [r33, r34, r35, r36]
def FSixdotref02_indicator (n : Nat) (p0_ : Int) (p1_ : Int) (p2_ : (Arr2 Int)) : Option GRule :=
  (FSixdotref02_simple n [] [p0_] p2_).bind fun (r37 : GRule) =>
  (guardB (decide (0 ≤ p1_))).bind fun (u2 : Unit) =>
  some ({ Print := r37.Print, Cells := r37.Cells, Left := r37.Left, Right := ishl .u8 1 p1_, From := r37.From, To := r37.To } : GRule)
def FSixdotref02_Base_J1 (n : Nat) (l_1 : (List GRule)) : Option GTable :=
  some ({ Modes := 1, Accept := 1, Rules := l_1 } : GTable)
def FSixdotref02_Base (n : Nat) (p0_ : Int) : Option GTable :=
  (FSixdotref02_letters n).bind fun (r38 : (List GRule)) =>
  if ((irem p0_ 8) == 1) = true then
    (FSixdotref02_indicator n 60 3 ({ a0 := 0, a1 := 1 } : (Arr2 Int))).bind fun (r39 : GRule) =>
    (FSixdotref02_simple n [49] [1] ({ a0 := 1, a1 := 1 } : (Arr2 Int))).bind fun (r40 : GRule) =>
    (FSixdotref02_simple n [50] [3] ({ a0 := 1, a1 := 1 } : (Arr2 Int))).bind fun (r41 : GRule) =>
    (FSixdotref02_simple n [32] [0] ({ a0 := 1, a1 := 0 } : (Arr2 Int))).bind fun (r42 : GRule) =>
    (app 64 r38 [r39, r40, r41, r42]).bind fun (l12 : (List GRule)) =>
    some ({ Modes := 2, Accept := 3, Rules := l12 } : GTable)
  else
    if ((irem p0_ 8) == 2) = true then
      (FSixdotref02_indicator n 32 2 ({ a0 := 0, a1 := 1 } : (Arr2 Int))).bind fun (r43 : GRule) =>
      (FSixdotref02_simple n [65] [1] ({ a0 := 1, a1 := 0 } : (Arr2 Int))).bind fun (r44 : GRule) =>
      (FSixdotref02_simple n [66] [3] ({ a0 := 1, a1 := 0 } : (Arr2 Int))).bind fun (r45 : GRule) =>
      (app 64 r38 [r43, r44, r45]).bind fun (l13 : (List GRule)) =>
      some ({ Modes := 2, Accept := 1, Rules := l13 } : GTable)
    else
      if ((irem p0_ 8) == 3) = true then
        (FSixdotref02_simple n [97, 98] [7] ({ a0 := 0, a1 := 0 } : (Arr2 Int))).bind fun (r46 : GRule) =>
        (FSixdotref02_simple n [97, 98, 99] [15] ({ a0 := 0, a1 := 0 } : (Arr2 Int))).bind fun (r47 : GRule) =>
        (FSixdotref02_simple n [99, 97] [4, 4] ({ a0 := 0, a1 := 0 } : (Arr2 Int))).bind fun (r48 : GRule) =>
        (app 64 r38 [r46, r47, r48]).bind fun (l14 : (List GRule)) =>
        FSixdotref02_Base_J1 n l14
      else
        if ((irem p0_ 8) == 4) = true then
          (FSixdotref02_simple n [45] [1, 3] ({ a0 := 0, a1 := 0 } : (Arr2 Int))).bind fun (r49 : GRule) =>
          (app 64 r38 [r49]).bind fun (l15 : (List GRule)) =>
          FSixdotref02_Base_J1 n l15
        else
          if ((irem p0_ 8) == 5) = true then
            (FSixdotref02_simple n [98] [44] ({ a0 := 0, a1 := 0 } : (Arr2 Int))).bind fun (r50 : GRule) =>
            (FSixdotref02_simple n [99, 97, 98] [44] ({ a0 := 0, a1 := 0 } : (Arr2 Int))).bind fun (r51 : GRule) =>
            (FSixdotref02_simple n [45] [36] ({ a0 := 0, a1 := 0 } : (Arr2 Int))).bind fun (r52 : GRule) =>
            (app 64 r38 [({ Print := r50.Print, Cells := r50.Cells, Left := 17, Right := r50.Right, From := r50.From, To := r50.To } : GRule), ({ Print := r51.Print, Cells := r51.Cells, Left := 2, Right := r51.Right, From := r51.From, To := r51.To } : GRule), r52]).bind fun (l16 : (List GRule)) =>
            FSixdotref02_Base_J1 n l16
          else
            if ((irem p0_ 8) == 6) = true then
              (FSixdotref02_indicator n 40 1 ({ a0 := 0, a1 := 1 } : (Arr2 Int))).bind fun (r53 : GRule) =>
              (FSixdotref02_simple n [225] [1] ({ a0 := 1, a1 := 0 } : (Arr2 Int))).bind fun (r54 : GRule) =>
              (FSixdotref02_simple n [226] [3] ({ a0 := 1, a1 := 0 } : (Arr2 Int))).bind fun (r55 : GRule) =>
              (app 64 r38 [r53, r54, r55]).bind fun (l17 : (List GRule)) =>
              some ({ Modes := 2, Accept := 1, Rules := l17 } : GTable)
            else
              if ((irem p0_ 8) == 7) = true then
                (FSixdotref02_simple n [45] [1, 5] ({ a0 := 0, a1 := 0 } : (Arr2 Int))).bind fun (r56 : GRule) =>
                (FSixdotref02_simple n [49] [5, 5] ({ a0 := 0, a1 := 0 } : (Arr2 Int))).bind fun (r57 : GRule) =>
                (FSixdotref02_simple n [50] [5, 9] ({ a0 := 0, a1 := 0 } : (Arr2 Int))).bind fun (r58 : GRule) =>
                (app 64 r38 [r56, r57, r58]).bind fun (l18 : (List GRule)) =>
                FSixdotref02_Base_J1 n l18
              else
                FSixdotref02_Base_J1 n r38
def FSixdotref02_Rule_L1 (n : Nat) (p0_ : GRawRule) (p1_ : Int) (x20 : Int) (x21 : Int) (out_1 : (List UInt8)) (i_3 : Int) : Option (((List UInt8) × Int) ⊕ (List UInt8)) :=
  if ((decide (i_3 < ((List.length p0_.P : Nat) : Int))) && (decide (i_3 < 3))) = true then
    (idx p0_.P i_3).bind fun (x22 : Int) =>
    (sub [97, 98, 99, 65, 66, 49, 50, 45, 46] (IntKind.i64.wrap (irem x22 9)) (iadd .i64 (IntKind.i64.wrap (irem x22 9)) 1)).bind fun (s2 : (List UInt8)) =>
    (cat out_1 s2).bind fun (s3 : (List UInt8)) =>
    some (Sum.inl (s3, (iadd .i64 i_3 1)))
  else
    some (Sum.inr out_1)
def FSixdotref02_Rule_L2 (n : Nat) (p0_ : GRawRule) (p1_ : Int) (x20 : Int) (x21 : Int) (y13 : (List UInt8)) (out_3 : (List Int)) (i_4 : Int) : Option (((List Int) × Int) ⊕ (List Int)) :=
  if ((decide (i_4 < ((List.length p0_.C : Nat) : Int))) && (decide (i_4 < 2))) = true then
    (idx p0_.C i_4).bind fun (x24 : Int) =>
    (idx [1, 3, 9, 5, 7, 32, 44, 60] (irem x24 8)).bind fun (x25 : Int) =>
    (app 1 out_3 [x25]).bind fun (l19 : (List Int)) =>
    some (Sum.inl (l19, (iadd .i64 i_4 1)))
  else
    some (Sum.inr out_3)
def FSixdotref02_Rule (n : Nat) (p0_ : GRawRule) (p1_ : Int) : Option GRule :=
  (idx [63, 63, 2, 8, 17, 62, 4, 1] (irem p0_.L 8)).bind fun (x20 : Int) =>
  (idx [63, 63, 2, 8, 17, 62, 4, 1] (irem p0_.R 8)).bind fun (x21 : Int) =>
  (guardB (!(p1_ == 0))).bind fun (u3 : Unit) =>
  (guardB (!(p1_ == 0))).bind fun (u4 : Unit) =>
  (whl (fun (x : ((List UInt8) × Int)) => FSixdotref02_Rule_L1 n p0_ p1_ x20 x21 x.1 x.2) n ([], 0)).bind fun (y13 : (List UInt8)) =>
  (idx [1, 3, 9, 5, 7, 32, 44, 60] (irem (iquo .u8 p0_.L 8) 8)).bind fun (x23 : Int) =>
  (whl (fun (x : ((List Int) × Int)) => FSixdotref02_Rule_L2 n p0_ p1_ x20 x21 y13 x.1 x.2) n ([x23], 0)).bind fun (y14 : (List Int)) =>
  some ({ Print := y13, Cells := y14, Left := x20, Right := x21, From := irem (IntKind.i64.wrap p0_.W.a0) p1_, To := irem (IntKind.i64.wrap p0_.W.a1) p1_ } : GRule)
def FSixdotref02_Character (n : Nat) (p0_ : Int) : Option Bool :=
  some ((decide (iand .u8 p0_ 127 ≥ 32)) && (decide (iand .u8 p0_ 127 ≤ 126)))
def FSixdotref02_Text_L1 (n : Nat) (p0_ : (List UInt8)) (i_5 : Int) : Option (Int ⊕ (Unit ⊕ (Int × Int))) :=
  if decide (i_5 < ((List.length p0_ : Nat) : Int)) = true then
    (sidx p0_ i_5).bind fun (b3 : Int) =>
    (FSixdotref02_Character n b3).bind fun (r59 : Bool) =>
    if (!r59) = true then
      some (Sum.inr (Sum.inr (i_5, 60)))
    else
      some (Sum.inl (iadd .i64 i_5 1))
  else
    some (Sum.inr (Sum.inl ()))
def FSixdotref02_Text (n : Nat) (p0_ : (List UInt8)) : Option (Int × Int) :=
  (whl (fun (x : Int) => FSixdotref02_Text_L1 n p0_ x) n 0).bind fun (y15 : (Unit ⊕ (Int × Int))) =>
  match y15 with
  | Sum.inl y16 =>
    some (((List.length p0_ : Nat) : Int), 0)
  | Sum.inr y17 =>
    some y17
def FSixdotref02_IsText (n : Nat) (p0_ : (List UInt8)) : Option Bool :=
  (FSixdotref02_Text n p0_).bind fun (r60 : (Int × Int)) =>
  some (r60.2 == 0)
def FSixdotref02_Space (n : Nat) (p0_ : Int) : Option Bool :=
  some ((iand .u8 p0_ 127) == 32)
def FSixdotref02_Sound_L1 (n : Nat) (p0_ : GRule) (space_1 : Bool) (i_6 : Int) : Option ((Bool × Int) ⊕ Bool) :=
  if decide (i_6 < ((List.length p0_.Print : Nat) : Int)) = true then
    (if (!space_1) = true then sidx p0_.Print i_6 else some default).bind fun (b4 : Int) =>
    (if (!space_1) = true then FSixdotref02_Space n b4 else some default).bind fun (r62 : Bool) =>
    some (Sum.inl ((space_1 || r62), (iadd .i64 i_6 1)))
  else
    some (Sum.inr space_1)
def FSixdotref02_Sound_L2 (n : Nat) (p0_ : GRule) (y18 : Bool) (blank_1 : Bool) (i_7 : Int) : Option ((Bool × Int) ⊕ (Bool ⊕ Bool)) :=
  if decide (i_7 < ((List.length p0_.Cells : Nat) : Int)) = true then
    (idx p0_.Cells i_7).bind fun (x26 : Int) =>
    if decide (x26 ≥ 63) = true then
      some (Sum.inr (Sum.inr false))
    else
      (if (!blank_1) = true then idx p0_.Cells i_7 else some default).bind fun (x27 : Int) =>
      some (Sum.inl ((blank_1 || (x27 == 0)), (iadd .i64 i_7 1)))
  else
    some (Sum.inr (Sum.inl blank_1))
def FSixdotref02_Sound (n : Nat) (p0_ : GRule) (p1_ : Int) : Option Bool :=
  (FSixdotref02_IsText n p0_.Print).bind fun (r61 : Bool) =>
  if ((((!r61) || (decide (((List.length p0_.Print : Nat) : Int) > 4))) || (decide (((List.length p0_.Cells : Nat) : Int) < 1))) || (decide (((List.length p0_.Cells : Nat) : Int) > 4))) = true then
    some false
  else
    if ((((((((decide (p0_.Left < 1)) || (decide (p0_.Left > 63))) || (decide (p0_.Right < 1))) || (decide (p0_.Right > 63))) || (decide (p0_.From < 0))) || (decide (p0_.From ≥ p1_))) || (decide (p0_.To < 0))) || (decide (p0_.To ≥ p1_))) = true then
      some false
    else
      (whl (fun (x : (Bool × Int)) => FSixdotref02_Sound_L1 n p0_ x.1 x.2) n (false, 0)).bind fun (y18 : Bool) =>
      (whl (fun (x : (Bool × Int)) => FSixdotref02_Sound_L2 n p0_ y18 x.1 x.2) n (false, 0)).bind fun (y19 : (Bool ⊕ Bool)) =>
      match y19 with
      | Sum.inl y20 =>
        if (!y18) = true then
          some (!y20)
        else
          some (((((List.length p0_.Print : Nat) : Int) == 1) && (((List.length p0_.Cells : Nat) : Int) == 1)) && y20)
      | Sum.inr y21 =>
        some y21
def FSixdotref02_SameRule (n : Nat) (p0_ : GRule) (p1_ : GRule) : Option Bool :=
  (if (p0_.Print == p1_.Print) = true then FSixdotref02_SameCells n p0_.Cells p1_.Cells else some default).bind fun (r63 : Bool) =>
  some ((((((p0_.Print == p1_.Print) && r63) && (p0_.Left == p1_.Left)) && (p0_.Right == p1_.Right)) && (p0_.From == p1_.From)) && (p0_.To == p1_.To))
def FSixdotref02_Check_L2 (n : Nat) (p0_ : GTable) (i_8 : Int) (k_2 : Int) : Option (Int ⊕ (Unit ⊕ (Int × Int))) :=
  if decide (k_2 < i_8) = true then
    (idx p0_.Rules k_2).bind fun (x29 : GRule) =>
    (idx p0_.Rules i_8).bind fun (x30 : GRule) =>
    (FSixdotref02_SameRule n x29 x30).bind fun (r65 : Bool) =>
    if r65 = true then
      some (Sum.inr (Sum.inr (i_8, 20)))
    else
      some (Sum.inl (iadd .i64 k_2 1))
  else
    some (Sum.inr (Sum.inl ()))
def FSixdotref02_Check_L1 (n : Nat) (p0_ : GTable) (i_8 : Int) : Option (Int ⊕ (Unit ⊕ (Int × Int))) :=
  if decide (i_8 < ((List.length p0_.Rules : Nat) : Int)) = true then
    (idx p0_.Rules i_8).bind fun (x28 : GRule) =>
    (FSixdotref02_Sound n x28 p0_.Modes).bind fun (r64 : Bool) =>
    if (!r64) = true then
      some (Sum.inr (Sum.inr (i_8, 20)))
    else
      (whl (fun (x : Int) => FSixdotref02_Check_L2 n p0_ i_8 x) n 0).bind fun (y22 : (Unit ⊕ (Int × Int))) =>
      match y22 with
      | Sum.inl y23 =>
        some (Sum.inl (iadd .i64 i_8 1))
      | Sum.inr y24 =>
        some (Sum.inr (Sum.inr y24))
  else
    some (Sum.inr (Sum.inl ()))
def FSixdotref02_Check (n : Nat) (p0_ : GTable) : Option (Int × Int) :=
  (if (!(((decide (p0_.Modes < 1)) || (decide (p0_.Modes > 8))) || (p0_.Accept == 0))) = true then guardB (decide (0 ≤ p0_.Modes)) else some default).bind fun (u5 : Unit) =>
  if ((((((decide (p0_.Modes < 1)) || (decide (p0_.Modes > 8))) || (p0_.Accept == 0)) || (decide (IntKind.i64.wrap p0_.Accept ≥ ishl .i64 1 p0_.Modes))) || (decide (((List.length p0_.Rules : Nat) : Int) < 1))) || (decide (((List.length p0_.Rules : Nat) : Int) > 64))) = true then
    some ((-1), 1)
  else
    (whl (fun (x : Int) => FSixdotref02_Check_L1 n p0_ x) n 0).bind fun (y25 : (Unit ⊕ (Int × Int))) =>
    match y25 with
    | Sum.inl y26 =>
      some (0, 0)
    | Sum.inr y27 =>
      some y27
def FSixdotref02_Valid (n : Nat) (p0_ : GTable) : Option Bool :=
  (FSixdotref02_Check n p0_).bind fun (r66 : (Int × Int)) =>
  some (r66.2 == 0)
def FSixdotref02_Made_J1 (n : Nat) (i_9 : Int) (t_3 : (List GRule)) : Option (((List GRule) × Int) ⊕ (List GRule)) :=
  some (Sum.inl (t_3, (iadd .i64 i_9 1)))
def FSixdotref02_Made_L1 (n : Nat) (p0_ : GRaw) (r67 : GTable) (t_1 : (List GRule)) (i_9 : Int) : Option (((List GRule) × Int) ⊕ (List GRule)) :=
  if decide (i_9 < ((List.length r67.Rules : Nat) : Int)) = true then
    (guardB (decide (0 ≤ i_9))).bind fun (u6 : Unit) =>
    if ((iand .u8 (ishr .u8 p0_.Drop i_9) 1) == 0) = true then
      (idx r67.Rules i_9).bind fun (x31 : GRule) =>
      (app 64 t_1 [x31]).bind fun (l20 : (List GRule)) =>
      FSixdotref02_Made_J1 n i_9 l20
    else
      FSixdotref02_Made_J1 n i_9 t_1
  else
    some (Sum.inr t_1)
def FSixdotref02_Made_J2 (n : Nat) (i_10 : Int) (t_6 : (List GRule)) : Option (((List GRule) × Int) ⊕ (List GRule)) :=
  some (Sum.inl (t_6, (iadd .i64 i_10 1)))
def FSixdotref02_Made_L2 (n : Nat) (p0_ : GRaw) (r67 : GTable) (t_4 : (List GRule)) (i_10 : Int) : Option (((List GRule) × Int) ⊕ (List GRule)) :=
  if ((decide (i_10 < ((List.length p0_.More : Nat) : Int))) && (decide (i_10 < 2))) = true then
    (idx p0_.More i_10).bind fun (x32 : GRawRule) =>
    (FSixdotref02_Rule n x32 r67.Modes).bind fun (r68 : GRule) =>
    (app 64 t_4 [r68]).bind fun (l21 : (List GRule)) =>
    (FSixdotref02_Valid n ({ Modes := r67.Modes, Accept := r67.Accept, Rules := l21 } : GTable)).bind fun (r69 : Bool) =>
    if (!r69) = true then
      (sub l21 0 (isub .i64 ((List.length l21 : Nat) : Int) 1)).bind fun (l22 : (List GRule)) =>
      FSixdotref02_Made_J2 n i_10 l22
    else
      FSixdotref02_Made_J2 n i_10 l21
  else
    some (Sum.inr t_4)
def FSixdotref02_Made_J3 (n : Nat) (t_7 : GTable) : Option GTable :=
  some t_7
def FSixdotref02_Made (n : Nat) (p0_ : GRaw) : Option GTable :=
  (FSixdotref02_Base n p0_.Base).bind fun (r67 : GTable) =>
  (whl (fun (x : ((List GRule) × Int)) => FSixdotref02_Made_L1 n p0_ r67 x.1 x.2) n (([] : List GRule), 0)).bind fun (y28 : (List GRule)) =>
  (whl (fun (x : ((List GRule) × Int)) => FSixdotref02_Made_L2 n p0_ r67 x.1 x.2) n (y28, 0)).bind fun (y29 : (List GRule)) =>
  if (((List.length y29 : Nat) : Int) == 0) = true then
    FSixdotref02_Made_J3 n r67
  else
    FSixdotref02_Made_J3 n ({ Modes := r67.Modes, Accept := r67.Accept, Rules := y29 } : GTable)
def FSixdotref03_Bit (n : Nat) (p0_ : Int) (p1_ : Int) : Option Bool :=
  (if ((decide (p1_ ≥ 0)) && (decide (p1_ < 8))) = true then guardB (decide (0 ≤ p1_)) else some default).bind fun (u7 : Unit) =>
  some (((decide (p1_ ≥ 0)) && (decide (p1_ < 8))) && ((iand .u8 (ishr .u8 p0_ p1_) 1) == 1))
def FSixdotref02_Class (n : Nat) (p0_ : Int) : Option Int :=
  if ((decide (iand .u8 p0_ 127 ≥ 97)) && (decide (iand .u8 p0_ 127 ≤ 122))) = true then
    some 1
  else
    if ((decide (iand .u8 p0_ 127 ≥ 65)) && (decide (iand .u8 p0_ 127 ≤ 90))) = true then
      some 2
    else
      if ((decide (iand .u8 p0_ 127 ≥ 48)) && (decide (iand .u8 p0_ 127 ≤ 57))) = true then
        some 3
      else
        if ((iand .u8 p0_ 127) == 32) = true then
          some 4
        else
          some 5
def FSixdotref03_Step (n : Nat) (p0_ : GTable) (p1_ : GState) (p2_ : Int) : Option (GState × Bool) :=
  if ((decide (p2_ < 0)) || (decide (p2_ ≥ ((List.length p0_.Rules : Nat) : Int)))) = true then
    some (({ Mode := 0, Last := 0, Need := 0 } : GState), false)
  else
    (idx p0_.Rules p2_).bind fun (x33 : GRule) =>
    (if (!(x33.From != p1_.Mode)) = true then FSixdotref03_Bit n x33.Left p1_.Last else some default).bind fun (r70 : Bool) =>
    if ((x33.From != p1_.Mode) || (!r70)) = true then
      some (({ Mode := 0, Last := 0, Need := 0 } : GState), false)
    else
      if ((((List.length x33.Print : Nat) : Int) == 0) && ((iand .u8 p1_.Need x33.Right) == 0)) = true then
        some (({ Mode := 0, Last := 0, Need := 0 } : GState), false)
      else
        if (((List.length x33.Print : Nat) : Int) == 0) = true then
          some (({ Mode := x33.To, Last := p1_.Last, Need := iand .u8 p1_.Need x33.Right } : GState), true)
        else
          (sidx x33.Print 0).bind fun (b5 : Int) =>
          (FSixdotref02_Class n b5).bind fun (r71 : Int) =>
          (FSixdotref03_Bit n p1_.Need r71).bind fun (r72 : Bool) =>
          if (!r72) = true then
            some (({ Mode := 0, Last := 0, Need := 0 } : GState), false)
          else
            (sidx x33.Print (isub .i64 ((List.length x33.Print : Nat) : Int) 1)).bind fun (b6 : Int) =>
            (FSixdotref02_Class n b6).bind fun (r73 : Int) =>
            some (({ Mode := x33.To, Last := r73, Need := x33.Right } : GState), true)
def FSixdotref03_Accepts (n : Nat) (p0_ : GTable) (p1_ : GState) : Option Bool :=
  (if ((decide (p1_.Mode ≥ 0)) && (decide (p1_.Mode < p0_.Modes))) = true then FSixdotref03_Bit n p0_.Accept p1_.Mode else some default).bind fun (r74 : Bool) =>
  (if (((decide (p1_.Mode ≥ 0)) && (decide (p1_.Mode < p0_.Modes))) && r74) = true then FSixdotref03_Bit n p1_.Need 0 else some default).bind fun (r75 : Bool) =>
  some ((((decide (p1_.Mode ≥ 0)) && (decide (p1_.Mode < p0_.Modes))) && r74) && r75)
def FSixdotref03_Start (n : Nat)  : Option GState :=
  some ({ Mode := 0, Last := 0, Need := 63 } : GState)
def FSixdotref03_Run_L1 (n : Nat) (p0_ : GTable) (p1_ : (List Int)) (out_5 : (List UInt8)) (out_6 : Int) (out_7 : Int) (out_8 : Int) (out_9 : Int) (out_10 : (List Int)) (i_11 : Int) : Option (((List UInt8) × Int × Int × Int × Int × (List Int) × Int) ⊕ (((List UInt8) × Int × Int × Int × Int × (List Int)) ⊕ GTrace)) :=
  if decide (i_11 < ((List.length p1_ : Nat) : Int)) = true then
    (idx p1_ i_11).bind fun (x34 : Int) =>
    (FSixdotref03_Step n p0_ ({ Mode := out_7, Last := out_8, Need := out_9 } : GState) x34).bind fun (r77 : (GState × Bool)) =>
    if (!r77.2) = true then
      some (Sum.inr (Sum.inr ({ Text := out_5, Cells := out_10, At := out_6, End := ({ Mode := out_7, Last := out_8, Need := out_9 } : GState), Ok := false } : GTrace)))
    else
      (idx p1_ i_11).bind fun (x35 : Int) =>
      (idx p0_.Rules x35).bind fun (x36 : GRule) =>
      (cat out_5 x36.Print).bind fun (s4 : (List UInt8)) =>
      (idx p1_ i_11).bind fun (x37 : Int) =>
      (idx p0_.Rules x37).bind fun (x38 : GRule) =>
      (app 1 out_10 x38.Cells).bind fun (l23 : (List Int)) =>
      some (Sum.inl (s4, (iadd .i64 out_6 1), r77.1.Mode, r77.1.Last, r77.1.Need, l23, (iadd .i64 i_11 1)))
  else
    some (Sum.inr (Sum.inl (out_5, out_6, out_7, out_8, out_9, out_10)))
def FSixdotref03_Run (n : Nat) (p0_ : GTable) (p1_ : (List Int)) : Option GTrace :=
  (FSixdotref03_Start n).bind fun (r76 : GState) =>
  (whl (fun (x : ((List UInt8) × Int × Int × Int × Int × (List Int) × Int)) => FSixdotref03_Run_L1 n p0_ p1_ x.1 x.2.1 x.2.2.1 x.2.2.2.1 x.2.2.2.2.1 x.2.2.2.2.2.1 x.2.2.2.2.2.2) n ([], 0, r76.Mode, r76.Last, r76.Need, ([] : List Int), 0)).bind fun (y30 : (((List UInt8) × Int × Int × Int × Int × (List Int)) ⊕ GTrace)) =>
  match y30 with
  | Sum.inl y31 =>
    (FSixdotref03_Accepts n p0_ ({ Mode := y31.2.2.1, Last := y31.2.2.2.1, Need := y31.2.2.2.2.1 } : GState)).bind fun (r78 : Bool) =>
    some ({ Text := y31.1, Cells := y31.2.2.2.2.2, At := y31.2.1, End := ({ Mode := y31.2.2.1, Last := y31.2.2.2.1, Need := y31.2.2.2.2.1 } : GState), Ok := r78 } : GTrace)
  | Sum.inr y32 =>
    some y32
def FSixdotref03_Same (n : Nat) (p0_ : GTrace) (p1_ : GTrace) : Option Bool :=
  (if (p0_.Text == p1_.Text) = true then FSixdotref02_SameCells n p0_.Cells p1_.Cells else some default).bind fun (r79 : Bool) =>
  some (((((p0_.Text == p1_.Text) && r79) && (p0_.At == p1_.At)) && ((p0_.End.Mode == p1_.End.Mode) && ((p0_.End.Last == p1_.End.Last) && ((p0_.End.Need == p1_.End.Need) && true)))) && (p0_.Ok == p1_.Ok))
def FSixdotref03_Index_L1 (n : Nat) (p0_ : (List GState)) (p1_ : GState) (i_12 : Int) : Option (Int ⊕ (Unit ⊕ Int)) :=
  if decide (i_12 < ((List.length p0_ : Nat) : Int)) = true then
    (idx p0_ i_12).bind fun (x39 : GState) =>
    if ((x39.Mode == p1_.Mode) && ((x39.Last == p1_.Last) && ((x39.Need == p1_.Need) && true))) = true then
      some (Sum.inr (Sum.inr i_12))
    else
      some (Sum.inl (iadd .i64 i_12 1))
  else
    some (Sum.inr (Sum.inl ()))
def FSixdotref03_Index (n : Nat) (p0_ : (List GState)) (p1_ : GState) : Option Int :=
  (whl (fun (x : Int) => FSixdotref03_Index_L1 n p0_ p1_ x) n 0).bind fun (y33 : (Unit ⊕ Int)) =>
  match y33 with
  | Sum.inl y34 =>
    some (-1)
  | Sum.inr y35 =>
    some y35
def FSixdotref03_States_J1 (n : Nat) (k_3 : Int) (out_21 : (List GState)) : Option (((List GState) × Int) ⊕ (List GState)) :=
  some (Sum.inl (out_21, (iadd .i64 k_3 1)))
def FSixdotref03_States_L2 (n : Nat) (p0_ : GTable) (i_13 : Int) (out_19 : (List GState)) (k_3 : Int) : Option (((List GState) × Int) ⊕ (List GState)) :=
  if decide (k_3 < ((List.length p0_.Rules : Nat) : Int)) = true then
    (idx out_19 i_13).bind fun (x40 : GState) =>
    (FSixdotref03_Step n p0_ x40 k_3).bind fun (r81 : (GState × Bool)) =>
    (if r81.2 = true then FSixdotref03_Index n out_19 r81.1 else some default).bind fun (r82 : Int) =>
    if (r81.2 && (decide (r82 < 0))) = true then
      (app 24 out_19 [r81.1]).bind fun (l24 : (List GState)) =>
      FSixdotref03_States_J1 n k_3 l24
    else
      FSixdotref03_States_J1 n k_3 out_19
  else
    some (Sum.inr out_19)
def FSixdotref03_States_L1 (n : Nat) (p0_ : GTable) (out_17 : (List GState)) (i_13 : Int) : Option (((List GState) × Int) ⊕ (List GState)) :=
  if decide (i_13 < ((List.length out_17 : Nat) : Int)) = true then
    (whl (fun (x : ((List GState) × Int)) => FSixdotref03_States_L2 n p0_ i_13 x.1 x.2) n (out_17, 0)).bind fun (y36 : (List GState)) =>
    some (Sum.inl (y36, (iadd .i64 i_13 1)))
  else
    some (Sum.inr out_17)
def FSixdotref03_States (n : Nat) (p0_ : GTable) : Option (List GState) :=
  (FSixdotref03_Start n).bind fun (r80 : GState) =>
  (whl (fun (x : ((List GState) × Int)) => FSixdotref03_States_L1 n p0_ x.1 x.2) n ([r80], 0)).bind fun (y37 : (List GState)) =>
  some y37
def FSixdotlaw03_states_L1 (n : Nat) (p0_ : (List GState)) (p1_ : (List GState)) (i_14 : Int) : Option (Int ⊕ (Unit ⊕ Bool)) :=
  if decide (i_14 < ((List.length p0_ : Nat) : Int)) = true then
    (idx p0_ i_14).bind fun (x41 : GState) =>
    (idx p1_ i_14).bind fun (x42 : GState) =>
    if (!((x41.Mode == x42.Mode) && ((x41.Last == x42.Last) && ((x41.Need == x42.Need) && true)))) = true then
      some (Sum.inr (Sum.inr false))
    else
      some (Sum.inl (iadd .i64 i_14 1))
  else
    some (Sum.inr (Sum.inl ()))
def FSixdotlaw03_states (n : Nat) (p0_ : (List GState)) (p1_ : (List GState)) : Option Bool :=
  if (((List.length p0_ : Nat) : Int) != ((List.length p1_ : Nat) : Int)) = true then
    some false
  else
    (whl (fun (x : Int) => FSixdotlaw03_states_L1 n p0_ p1_ x) n 0).bind fun (y38 : (Unit ⊕ Bool)) =>
    match y38 with
    | Sum.inl y39 =>
      some true
    | Sum.inr y40 =>
      some y40
def FSixdotref03_Alive_L1 (n : Nat) (p0_ : GTable) (r83 : (List GState)) (out_22 : (List Bool)) (i_15 : Int) : Option (((List Bool) × Int) ⊕ (List Bool)) :=
  if decide (i_15 < ((List.length r83 : Nat) : Int)) = true then
    (idx r83 i_15).bind fun (x43 : GState) =>
    (FSixdotref03_Accepts n p0_ x43).bind fun (r84 : Bool) =>
    (app 1 out_22 [r84]).bind fun (l25 : (List Bool)) =>
    some (Sum.inl (l25, (iadd .i64 i_15 1)))
  else
    some (Sum.inr out_22)
def FSixdotref03_Alive_J1 (n : Nat) (k_4 : Int) (out_30 : (List Bool)) (grown_6 : Bool) : Option (((List Bool) × Bool × Int) ⊕ ((List Bool) × Bool)) :=
  some (Sum.inl (out_30, grown_6, (iadd .i64 k_4 1)))
def FSixdotref03_Alive_L4 (n : Nat) (p0_ : GTable) (r83 : (List GState)) (i_16 : Int) (out_28 : (List Bool)) (grown_4 : Bool) (k_4 : Int) : Option (((List Bool) × Bool × Int) ⊕ ((List Bool) × Bool)) :=
  (if decide (k_4 < ((List.length p0_.Rules : Nat) : Int)) = true then idx out_28 i_16 else some default).bind fun (x44 : Bool) =>
  if ((decide (k_4 < ((List.length p0_.Rules : Nat) : Int))) && (!x44)) = true then
    (idx r83 i_16).bind fun (x45 : GState) =>
    (FSixdotref03_Step n p0_ x45 k_4).bind fun (r85 : (GState × Bool)) =>
    (if r85.2 = true then FSixdotref03_Index n r83 r85.1 else some default).bind fun (r86 : Int) =>
    (if r85.2 = true then idx out_28 r86 else some default).bind fun (x46 : Bool) =>
    if (r85.2 && x46) = true then
      (idx out_28 i_16).bind fun (x47 : Bool) =>
      (put out_28 i_16 true).bind fun (l26 : (List Bool)) =>
      FSixdotref03_Alive_J1 n k_4 l26 true
    else
      FSixdotref03_Alive_J1 n k_4 out_28 grown_4
  else
    some (Sum.inr (out_28, grown_4))
def FSixdotref03_Alive_L3 (n : Nat) (p0_ : GTable) (r83 : (List GState)) (out_26 : (List Bool)) (grown_2 : Bool) (i_16 : Int) : Option (((List Bool) × Bool × Int) ⊕ ((List Bool) × Bool)) :=
  if decide (i_16 < ((List.length r83 : Nat) : Int)) = true then
    (whl (fun (x : ((List Bool) × Bool × Int)) => FSixdotref03_Alive_L4 n p0_ r83 i_16 x.1 x.2.1 x.2.2) n (out_26, grown_2, 0)).bind fun (y42 : ((List Bool) × Bool)) =>
    some (Sum.inl (y42.1, y42.2, (iadd .i64 i_16 1)))
  else
    some (Sum.inr (out_26, grown_2))
def FSixdotref03_Alive_L2 (n : Nat) (p0_ : GTable) (r83 : (List GState)) (out_24 : (List Bool)) (grown_1 : Bool) : Option (((List Bool) × Bool) ⊕ (List Bool)) :=
  if grown_1 = true then
    (whl (fun (x : ((List Bool) × Bool × Int)) => FSixdotref03_Alive_L3 n p0_ r83 x.1 x.2.1 x.2.2) n (out_24, false, 0)).bind fun (y43 : ((List Bool) × Bool)) =>
    some (Sum.inl (y43.1, y43.2))
  else
    some (Sum.inr out_24)
def FSixdotref03_Alive (n : Nat) (p0_ : GTable) : Option (List Bool) :=
  (FSixdotref03_States n p0_).bind fun (r83 : (List GState)) =>
  (whl (fun (x : ((List Bool) × Int)) => FSixdotref03_Alive_L1 n p0_ r83 x.1 x.2) n (([] : List Bool), 0)).bind fun (y41 : (List Bool)) =>
  (whl (fun (x : ((List Bool) × Bool)) => FSixdotref03_Alive_L2 n p0_ r83 x.1 x.2) n (y41, true)).bind fun (y44 : (List Bool)) =>
  some y44
def FSixdotlaw03_bools_L1 (n : Nat) (p0_ : (List Bool)) (p1_ : (List Bool)) (i_17 : Int) : Option (Int ⊕ (Unit ⊕ Bool)) :=
  if decide (i_17 < ((List.length p0_ : Nat) : Int)) = true then
    (idx p0_ i_17).bind fun (x48 : Bool) =>
    (idx p1_ i_17).bind fun (x49 : Bool) =>
    if (!(x48 == x49)) = true then
      some (Sum.inr (Sum.inr false))
    else
      some (Sum.inl (iadd .i64 i_17 1))
  else
    some (Sum.inr (Sum.inl ()))
def FSixdotlaw03_bools (n : Nat) (p0_ : (List Bool)) (p1_ : (List Bool)) : Option Bool :=
  if (((List.length p0_ : Nat) : Int) != ((List.length p1_ : Nat) : Int)) = true then
    some false
  else
    (whl (fun (x : Int) => FSixdotlaw03_bools_L1 n p0_ p1_ x) n 0).bind fun (y45 : (Unit ⊕ Bool)) =>
    match y45 with
    | Sum.inl y46 =>
      some true
    | Sum.inr y47 =>
      some y47
def FSixdotlaw03_AutomatonMatchesReference_L1 (n : Nat) (p1_ : GState) (p2_ : (List Int)) (r87 : Bool) (r88 : GTable) (path_1 : (List Int)) (i_18 : Int) : Option (((List Int) × Int) ⊕ (List Int)) :=
  if ((decide (i_18 < ((List.length p2_ : Nat) : Int))) && (decide (i_18 < 20))) = true then
    (idx p2_ i_18).bind fun (x50 : Int) =>
    (app 8 path_1 [IntKind.i64.wrap x50]).bind fun (l27 : (List Int)) =>
    some (Sum.inl (l27, (iadd .i64 i_18 1)))
  else
    some (Sum.inr path_1)
def FSixdotlaw03_AutomatonMatchesReference_L2 (n : Nat) (p1_ : GState) (r87 : Bool) (r88 : GTable) (y48 : (List Int)) (i_19 : Int) : Option (Int ⊕ (Unit ⊕ Bool)) :=
  if decide (i_19 ≤ ((List.length r88.Rules : Nat) : Int)) = true then
    (FAutomaton_Step n r88 p1_ i_19).bind fun (r89 : (GState × Bool)) =>
    (FSixdotref03_Step n r88 p1_ i_19).bind fun (r90 : (GState × Bool)) =>
    if ((!((r89.1.Mode == r90.1.Mode) && ((r89.1.Last == r90.1.Last) && ((r89.1.Need == r90.1.Need) && true)))) || (!(r89.2 == r90.2))) = true then
      some (Sum.inr (Sum.inr false))
    else
      some (Sum.inl (iadd .i64 i_19 1))
  else
    some (Sum.inr (Sum.inl ()))
def FSixdotlaw03_AutomatonMatchesReference (n : Nat) (p0_ : GRaw) (p1_ : GState) (p2_ : (List Int)) : Option Bool :=
  (FSixdotlaw03_sanity n).bind fun (r87 : Bool) =>
  (FSixdotref02_Made n p0_).bind fun (r88 : GTable) =>
  (whl (fun (x : ((List Int) × Int)) => FSixdotlaw03_AutomatonMatchesReference_L1 n p1_ p2_ r87 r88 x.1 x.2) n (([] : List Int), 0)).bind fun (y48 : (List Int)) =>
  (whl (fun (x : Int) => FSixdotlaw03_AutomatonMatchesReference_L2 n p1_ r87 r88 y48 x) n (-1)).bind fun (y49 : (Unit ⊕ Bool)) =>
  match y49 with
  | Sum.inl y50 =>
    (FAutomaton_Accepts n r88 p1_).bind fun (r91 : Bool) =>
    (FSixdotref03_Accepts n r88 p1_).bind fun (r92 : Bool) =>
    (if (r91 == r92) = true then FAutomaton_Run n r88 y48 else some default).bind fun (r93 : GTrace) =>
    (if (r91 == r92) = true then FSixdotref03_Run n r88 y48 else some default).bind fun (r94 : GTrace) =>
    (if (r91 == r92) = true then FSixdotref03_Same n r93 r94 else some default).bind fun (r95 : Bool) =>
    (if ((r91 == r92) && r95) = true then FAutomaton_States n r88 else some default).bind fun (r96 : (List GState)) =>
    (if ((r91 == r92) && r95) = true then FSixdotref03_States n r88 else some default).bind fun (r97 : (List GState)) =>
    (if ((r91 == r92) && r95) = true then FSixdotlaw03_states n r96 r97 else some default).bind fun (r98 : Bool) =>
    (if (((r91 == r92) && r95) && r98) = true then FAutomaton_Alive n r88 else some default).bind fun (r99 : (List Bool)) =>
    (if (((r91 == r92) && r95) && r98) = true then FSixdotref03_Alive n r88 else some default).bind fun (r100 : (List Bool)) =>
    (if (((r91 == r92) && r95) && r98) = true then FSixdotlaw03_bools n r99 r100 else some default).bind fun (r101 : Bool) =>
    some (((((r91 == r92) && r95) && r98) && r101) && r87)
  | Sum.inr y51 =>
    some y51
end Go.AI
end
section
namespace Go.AI
open Go.Proofs
set_option maxRecDepth 10000
def eGRule (x : GRule) : List D := [.str x.Print, .sl (List.map eU8 x.Cells), .int .u8 x.Left, .int .u8 x.Right, .int .i64 x.From, .int .i64 x.To]
def eGState (x : GState) : List D := [.int .i64 x.Mode, .int .i64 x.Last, .int .u8 x.Need]
@[reducible] def eArr2 {α : Type} (e : α → List D) (x : Arr2 α) : List D := e x.a0 ++ e x.a1
def eGRawRule (x : GRawRule) : List D := [.sl (List.map eU8 x.P), .sl (List.map eU8 x.C), .int .u8 x.L, .int .u8 x.R, .int .u8 x.W.a0, .int .u8 x.W.a1]
def eGRaw (x : GRaw) : List D := [.int .u8 x.Base, .int .u8 x.Drop, .sl (List.map eGRawRule x.More)]
theorem eqk26 : ∀ a b : GState, eqCells [.int .i64, .int .i64, .int .u8] ((eGState a).map .d) ((eGState b).map .d) = some (decide (a = b)) := by
  intro a b
  cases a; cases b
  simp [eqCells, eGState, Bool.decide_and]
  try rfl
section
variable (p0_ : (List UInt8)) (p1_ : Int) (p2_ : (Arr3 Int))
def f48_s1 : St := ⟨(0, .d (.str p0_)) :: (1, .d (.int .u8 p1_)) :: (2, .agg [.d (.int .i64 p2_.a0), .d (.int .i64 p2_.a1), .d (.int .i64 p2_.a2)]) :: [], []⟩
theorem FSixdotlaw03_rule_ok {n : Nat} {p0_ : (List UInt8)} {p1_ : Int} {p2_ : (Arr3 Int)} {z : GRule} (H : FSixdotlaw03_rule n p0_ p1_ p2_ = some z) : CallOK Try.prog 48 [.d (.str p0_), .d (.int .u8 p1_), .agg [.d (.int .i64 p2_.a0), .d (.int .i64 p2_.a1), .d (.int .i64 p2_.a2)]] (.agg [.d (.str z.Print), .own 1 (List.map eU8 z.Cells), .d (.int .u8 z.Left), .d (.int .u8 z.Right), .d (.int .i64 z.From), .d (.int .i64 z.To)]) := by
  dsimp only [FSixdotlaw03_rule] at H
  refine fo (Γ := cx 18) (s := f48_s1 p0_ p1_ p2_) follows (cxOK 18) Try.func48 ?_
  refine sr ?_
  refine ck 2 ?_
  refine en ?_
  refine sr ?_
  refine ck 12 ?_
  refine en ?_
  refine re ?_
  injection H with H
  subst H
  exact pr (rO (v := .agg [.d (.str p0_), .osl 2 1 0 (List.length [p1_]), .d (.int .u8 63), .d (.int .u8 (IntKind.u8.wrap p2_.a0)), .d (.int .i64 p2_.a1), .d (.int .i64 p2_.a2)]) [2] (a1 (c1 vd (c1 vo (c1 vd (c1 vd (c1 vd (c1 vd (c0)))))))))
end
def f31_s0 : St := ⟨[], []⟩
theorem FAutomaton_Start_ok {n : Nat}  {z : GState} (H : FAutomaton_Start n = some z) : CallOK Try.prog 31 [] (.agg [.d (.int .i64 z.Mode), .d (.int .i64 z.Last), .d (.int .u8 z.Need)]) := by
  dsimp only [FAutomaton_Start] at H
  refine fo (Γ := cx 2) (s := f31_s0) follows (cxOK 2) Try.func31 ?_
  refine sr ?_
  refine ck 1 ?_
  refine en ?_
  refine sr ?_
  refine ck 2 ?_
  refine en ?_
  refine re ?_
  injection H with H
  subst H
  exact pr (rd)
section
variable (p0_ : Int) (p1_ : Int)
def f51_s1 : St := ⟨(0, .d (.int .u8 p0_)) :: (1, .d (.int .i64 p1_)) :: [], []⟩
theorem FAutomaton_has_ok {n : Nat} {p0_ : Int} {p1_ : Int} {z : Bool} (H : FAutomaton_has n p0_ p1_ = some z) : CallOK Try.prog 51 [.d (.int .u8 p0_), .d (.int .i64 p1_)] (.d (.bool z)) := by
  dsimp only [FAutomaton_has] at H
  refine fo (Γ := cx 18) (s := f51_s1 p0_ p1_) follows (cxOK 18) Try.func51 ?_
  refine sr ?_
  refine ck 1 ?_
  refine en ?_
  refine sr ?_
  refine ck 4 ?_
  refine gc 1 (decide (0 ≤ p1_)) ?_
  refine pA ?_
  refine ck 3 ?_
  refine bx H fun u1 h1 H => ?_
  refine soG (fun hg => guard_ge (gimp h1 hg)) (impK (fun hh => hh) (impK (fun hh => hh) (impZ))) ?_
  refine gc 2 ((decide (0 ≤ p1_)) && (decide (p1_ < 8))) ?_
  refine pA ?_
  refine ck 1 ?_
  refine en ?_
  refine re ?_
  injection H with H
  subst H
  exact pr (rd)
end
section
variable (p0_ : Int)
def f52_s1 : St := ⟨(0, .d (.int .u8 p0_)) :: [], []⟩
theorem FTable_Class_ok {n : Nat} {p0_ : Int} {z : Int} (H : FTable_Class n p0_ = some z) : CallOK Try.prog 52 [.d (.int .u8 p0_)] (.d (.int .i64 z)) := by
  dsimp only [FTable_Class] at H
  refine fo (Γ := cx 30) (s := f52_s1 p0_) follows (cxOK 30) Try.func52 ?_
  refine sr ?_
  refine ck 1 ?_
  refine en ?_
  refine sr ?_
  refine ck 3 ?_
  refine en ?_
  refine sq ?_
  refine bk 0 ?_
  refine sr ?_
  refine ck 4 ?_
  refine gc 1 (decide (97 ≤ iand .u8 p0_ 127)) ?_
  refine pA ?_
  refine ck 1 ?_
  refine en ?_
  refine cn H (fun H => ?_) (fun H => ?_)
  · refine sr ?_
    refine ck 1 ?_
    refine en ?_
    refine re ?_
    refine qR ?_
    refine qr ?_
    injection H with H
    subst H
    exact pr (rd)
  · refine sr ?_
    refine ck 4 ?_
    refine gc 1 (decide (65 ≤ iand .u8 p0_ 127)) ?_
    refine pA ?_
    refine ck 1 ?_
    refine en ?_
    refine cn H (fun H => ?_) (fun H => ?_)
    · refine sr ?_
      refine ck 1 ?_
      refine en ?_
      refine re ?_
      refine qR ?_
      refine qr ?_
      injection H with H
      subst H
      exact pr (rd)
    · refine sr ?_
      refine ck 4 ?_
      refine gc 1 (decide (48 ≤ iand .u8 p0_ 127)) ?_
      refine pA ?_
      refine ck 1 ?_
      refine en ?_
      refine cn H (fun H => ?_) (fun H => ?_)
      · refine sr ?_
        refine ck 1 ?_
        refine en ?_
        refine re ?_
        refine qR ?_
        refine qr ?_
        injection H with H
        subst H
        exact pr (rd)
      · refine sr ?_
        refine ck 3 ?_
        refine en ?_
        refine cn H (fun H => ?_) (fun H => ?_)
        · refine sr ?_
          refine ck 1 ?_
          refine en ?_
          refine re ?_
          refine qR ?_
          refine qr ?_
          injection H with H
          subst H
          exact pr (rd)
        · refine sk ?_
          refine qN ?_
          refine qz ?_
          refine sr ?_
          refine ck 1 ?_
          refine en ?_
          refine re ?_
          injection H with H
          subst H
          exact pr (rd)
end
section
variable (p0_ : GTable) (p1_ : GState) (p2_ : Int)
def f17_s1 : St := ⟨(0, .agg [.d (.int .i64 p0_.Modes), .d (.int .u8 p0_.Accept), .d (.sl (List.map eGRule p0_.Rules))]) :: (1, .agg [.d (.int .i64 p1_.Mode), .d (.int .i64 p1_.Last), .d (.int .u8 p1_.Need)]) :: (2, .d (.int .i64 p2_)) :: [], []⟩
theorem FAutomaton_Step_ok {n : Nat} {p0_ : GTable} {p1_ : GState} {p2_ : Int} {z : (GState × Bool)} (H : FAutomaton_Step n p0_ p1_ p2_ = some z) : CallOK Try.prog 17 [.agg [.d (.int .i64 p0_.Modes), .d (.int .u8 p0_.Accept), .d (.sl (List.map eGRule p0_.Rules))], .agg [.d (.int .i64 p1_.Mode), .d (.int .i64 p1_.Last), .d (.int .u8 p1_.Need)], .d (.int .i64 p2_)] (.tup [.agg [.d (.int .i64 z.1.Mode), .d (.int .i64 z.1.Last), .d (.int .u8 z.1.Need)], .d (.bool z.2)]) := by
  dsimp only [FAutomaton_Step] at H
  refine fo (Γ := cx 78) (s := f17_s1 p0_ p1_ p2_) follows (cxOK 78) Try.func17 ?_
  refine sr ?_
  refine ck 4 ?_
  refine en ?_
  refine sq ?_
  refine sr ?_
  refine ck 5 ?_
  refine gc 1 (!(decide (p2_ < 0))) ?_
  refine sG (g := (!(decide (p2_ < 0)))) (fun hg => at_len eGRule p0_.Rules) (impK (fun hh => hh) (impZ)) ?_
  refine gc 1 (!(decide (p2_ < 0))) ?_
  refine pO ?_
  refine en ?_
  refine cn H (fun H => ?_) (fun H => ?_)
  · refine sr ?_
    refine ck 3 ?_
    refine en ?_
    refine re ?_
    refine qr ?_
    injection H with H
    subst H
    exact pr (rdT)
  · refine sk ?_
    refine qz ?_
    refine sr ?_
    refine ck 3 ?_
    refine bx H fun x1 h2 H => ?_
    refine sp (at_idxD eGRule h2) ?_
    refine ck 3 ?_
    refine en ?_
    refine sq ?_
    refine sr ?_
    refine ck 7 ?_
    refine gc 1 (!(x1.From != p1_.Mode)) ?_
    refine ck 1 ?_
    refine gc 1 (!(x1.From != p1_.Mode)) ?_
    refine bx H fun r1 h3 H => ?_
    refine cG false (leZ) rfl (fun hg => FAutomaton_has_ok (gimp h3 hg)) (Or.inl rfl) (impK (fun hh => hh) (impK (fun hh => hh) (impZ))) rfl ?_
    refine gc 1 (!(x1.From != p1_.Mode)) ?_
    refine pO ?_
    refine en ?_
    refine cn H (fun H => ?_) (fun H => ?_)
    · refine sr ?_
      refine ck 3 ?_
      refine en ?_
      refine re ?_
      refine qr ?_
      injection H with H
      subst H
      exact pr (rdT)
    · refine sk ?_
      refine qz ?_
      refine sq ?_
      refine sr ?_
      refine ck 3 ?_
      refine en ?_
      refine cn H (fun H => ?_) (fun H => ?_)
      · refine sr ?_
        refine ck 6 ?_
        refine en ?_
        refine sq ?_
        refine sr ?_
        refine ck 2 ?_
        refine en ?_
        refine cn H (fun H => ?_) (fun H => ?_)
        · refine sr ?_
          refine ck 3 ?_
          refine en ?_
          refine re ?_
          refine qr ?_
          refine qr ?_
          injection H with H
          subst H
          exact pr (rdT)
        · refine sk ?_
          refine qz ?_
          refine sr ?_
          refine ck 8 ?_
          refine en ?_
          refine re ?_
          refine qr ?_
          injection H with H
          subst H
          exact pr (rdT)
      · refine sk ?_
        refine qz ?_
        refine sq ?_
        refine sr ?_
        refine ck 4 ?_
        refine bx H fun b1 h4 H => ?_
        refine sp (at_sidx h4) ?_
        refine bx H fun r2 h5 H => ?_
        refine ca false (FTable_Class_ok h5) ?_
        refine bx H fun r3 h6 H => ?_
        refine ca false (FAutomaton_has_ok h6) ?_
        refine ck 1 ?_
        refine en ?_
        refine cn H (fun H => ?_) (fun H => ?_)
        · refine sr ?_
          refine ck 3 ?_
          refine en ?_
          refine re ?_
          refine qr ?_
          injection H with H
          subst H
          exact pr (rdT)
        · refine sk ?_
          refine qz ?_
          refine sr ?_
          refine ck 8 ?_
          refine bx H fun b2 h7 H => ?_
          refine sp (at_sidx h7) ?_
          refine bx H fun r4 h8 H => ?_
          refine ca false (FTable_Class_ok h8) ?_
          refine ck 5 ?_
          refine en ?_
          refine re ?_
          injection H with H
          subst H
          exact pr (rdT)
end
section
variable (p0_ : GTable) (p1_ : GState)
def f19_s1 : St := ⟨(0, .agg [.d (.int .i64 p0_.Modes), .d (.int .u8 p0_.Accept), .d (.sl (List.map eGRule p0_.Rules))]) :: (1, .agg [.d (.int .i64 p1_.Mode), .d (.int .i64 p1_.Last), .d (.int .u8 p1_.Need)]) :: [], []⟩
theorem FAutomaton_Accepts_ok {n : Nat} {p0_ : GTable} {p1_ : GState} {z : Bool} (H : FAutomaton_Accepts n p0_ p1_ = some z) : CallOK Try.prog 19 [.agg [.d (.int .i64 p0_.Modes), .d (.int .u8 p0_.Accept), .d (.sl (List.map eGRule p0_.Rules))], .agg [.d (.int .i64 p1_.Mode), .d (.int .i64 p1_.Last), .d (.int .u8 p1_.Need)]] (.d (.bool z)) := by
  dsimp only [FAutomaton_Accepts] at H
  refine fo (Γ := cx 22) (s := f19_s1 p0_ p1_) follows (cxOK 22) Try.func19 ?_
  refine sr ?_
  refine ck 3 ?_
  refine en ?_
  refine sr ?_
  refine ck 7 ?_
  refine gc 1 (decide (p1_.Mode < p0_.Modes)) ?_
  refine ck 1 ?_
  refine gc 1 (decide (p1_.Mode < p0_.Modes)) ?_
  refine bx H fun r5 h9 H => ?_
  refine cG false (leZ) rfl (fun hg => FAutomaton_has_ok (gimp h9 hg)) (Or.inl rfl) (impK (fun hh => hh) (impK (fun hh => hh) (impZ))) rfl ?_
  refine pA ?_
  refine ck 2 ?_
  refine gc 1 ((decide (p1_.Mode < p0_.Modes)) && r5) ?_
  refine bx H fun r6 h10 H => ?_
  refine cG false (leZ) rfl (fun hg => FAutomaton_has_ok (gimp h10 hg)) (Or.inl rfl) (impK (fun hh => hh) (impZ)) rfl ?_
  refine pA ?_
  refine ck 1 ?_
  refine en ?_
  refine re ?_
  injection H with H
  subst H
  exact pr (rd)
end
section
variable (p0_ : GTable) (p1_ : (List Int))
def f22_s1 : St := ⟨(0, .agg [.d (.int .i64 p0_.Modes), .d (.int .u8 p0_.Accept), .d (.sl (List.map eGRule p0_.Rules))]) :: (1, .d (.sl (List.map eI64 p1_))) :: [], []⟩
variable (text_1 : (List Int)) (cells_1 : (List Int)) (s_1 : GState) (at_1 : Int) (x_1 : Int)
def f22_s2 : St := ⟨(1, .d (.sl (List.map eI64 p1_))) :: (2, .ptr 0 0) :: (4, .ptr 1 0) :: (5, .osl 2 1 0 (List.length text_1)) :: (6, .osl 3 1 0 (List.length cells_1)) :: (7, .ptr 4 0) :: (8, .d (.int .i64 at_1)) :: (14, .d (.sl (List.map eI64 p1_))) :: (15, .d (.int .i64 ((List.length p1_ : Nat) : Int))) :: (16, .d (.int .i64 x_1)) :: [], [some (.box [.d (.int .i64 p0_.Modes), .d (.int .u8 p0_.Accept), .d (.sl (List.map eGRule p0_.Rules))]), some (.box [.d (.str []), .osl 5 1 0 (List.length ([] : List Int)), .d (.int .i64 0), .d (.int .i64 0), .d (.int .i64 0), .d (.int .u8 0), .d (.bool false)]), some (.arr 1 (List.map eU8 text_1)), some (.arr 1 (List.map eU8 cells_1)), some (.box [.d (.int .i64 s_1.Mode), .d (.int .i64 s_1.Last), .d (.int .u8 s_1.Need)]), some (.arr 1 (List.map eU8 ([] : List Int)))]⟩
variable (text_2 : (List Int)) (cells_2 : (List Int)) (s_2 : GState) (at_2 : Int)
def f22_s3 : St := ⟨(1, .d (.sl (List.map eI64 p1_))) :: (2, .ptr 0 0) :: (4, .ptr 1 0) :: (5, .osl 2 1 0 (List.length text_2)) :: (6, .osl 3 1 0 (List.length cells_2)) :: (7, .ptr 4 0) :: (8, .d (.int .i64 at_2)) :: [], [some (.box [.d (.int .i64 p0_.Modes), .d (.int .u8 p0_.Accept), .d (.sl (List.map eGRule p0_.Rules))]), some (.box [.d (.str []), .osl 5 1 0 (List.length ([] : List Int)), .d (.int .i64 0), .d (.int .i64 0), .d (.int .i64 0), .d (.int .u8 0), .d (.bool false)]), some (.arr 1 (List.map eU8 text_2)), some (.arr 1 (List.map eU8 cells_2)), some (.box [.d (.int .i64 s_2.Mode), .d (.int .i64 s_2.Last), .d (.int .u8 s_2.Need)]), some (.arr 1 (List.map eU8 ([] : List Int)))]⟩
def FAutomaton_Run_L1_E (p0_ : GTable) (p1_ : (List Int)) : ((List Int) × (List Int) × GState × Int) → Ex → St → Prop := fun (y : ((List Int) × (List Int) × GState × Int)) e s => e = Ex.exit 0 ∧ Shift s (f22_s3 p0_ p1_ y.1 y.2.1 y.2.2.1 y.2.2.2)
theorem FAutomaton_Run_L1_ok {n : Nat} {p0_ : GTable} {p1_ : (List Int)} (x : ((List Int) × (List Int) × GState × Int × Int)) (z : (((List Int) × (List Int) × GState × Int × Int) ⊕ ((List Int) × (List Int) × GState × Int))) (H : FAutomaton_Run_L1 n p0_ p1_ x.1 x.2.1 x.2.2.1 x.2.2.2.1 x.2.2.2.2 = some z) : WP (cx 64) (bodyOf Try.f22) [1,1,1,1,0,1,0,0] (roundQ (fun (x : ((List Int) × (List Int) × GState × Int × Int)) => f22_s2 p0_ p1_ x.1 x.2.1 x.2.2.1 x.2.2.2.1 x.2.2.2.2) (FAutomaton_Run_L1_E p0_ p1_) z) (f22_s2 p0_ p1_ x.1 x.2.1 x.2.2.1 x.2.2.2.1 x.2.2.2.2) := by
  obtain ⟨text_1, cells_1, s_1, at_1, x_1⟩ := x
  dsimp only [FAutomaton_Run_L1] at H
  refine sr ?_
  refine ck 1 ?_
  refine en ?_
  refine sq ?_
  refine cn H (fun H => ?_) (fun H => ?_)
  · refine sk ?_
    refine qz ?_
    refine sq ?_
    refine bk 1 ?_
    refine sr ?_
    refine bx H fun x2 h12 H => ?_
    refine sp (at_idxD eI64 h12) ?_
    refine ck 2 ?_
    refine en ?_
    refine sr ?_
    refine ck 3 ?_
    refine bx H fun r8 h13 H => ?_
    refine ca false (FAutomaton_Step_ok h13) ?_
    refine ck 6 ?_
    refine en ?_
    refine sq ?_
    refine sr ?_
    refine ck 2 ?_
    refine en ?_
    refine cn H (fun H => ?_) (fun H => ?_)
    · refine ex 0 ?_
      refine qx ?_
      refine qX rfl ?_
      refine qx ?_
      cases H
      exact oe ⟨rfl, sh_gc [1,2,4,5,6,7,8] (by kernel_rfl)⟩
    · refine sk ?_
      refine qz ?_
      refine sr ?_
      refine ck 4 ?_
      refine bx H fun x3 h14 H => ?_
      refine sp (at_idxD eGRule h14) ?_
      refine ck 2 ?_
      refine bx H fun l1 h15 H => ?_
      refine sp (at_appS 2 h15) ?_
      refine ck 1 ?_
      refine en ?_
      refine sr ?_
      refine ck 4 ?_
      refine bx H fun x4 h16 H => ?_
      refine sp (at_idxD eGRule h16) ?_
      refine ck 2 ?_
      refine bx H fun l2 h17 H => ?_
      refine sp (at_app eU8 3 1 h17) ?_
      refine ck 1 ?_
      refine en ?_
      refine sr ?_
      refine ck 2 ?_
      refine en ?_
      refine rz ?_
      refine ck 3 ?_
      refine ae ?_
      refine qN ?_
      refine qz ?_
      refine rz ?_
      refine ck 2 ?_
      refine ae ?_
      cases H
      exact og (sh_gc [1,2,4,5,6,7,8,14,15,16] (by kernel_rfl))
  · refine ex 0 ?_
    refine qx ?_
    cases H
    exact oe ⟨rfl, sh_gc [1,2,4,5,6,7,8] (by kernel_rfl)⟩
theorem FAutomaton_Run_ok {n : Nat} {p0_ : GTable} {p1_ : (List Int)} {z : GTrace} (H : FAutomaton_Run n p0_ p1_ = some z) : CallOK Try.prog 22 [.agg [.d (.int .i64 p0_.Modes), .d (.int .u8 p0_.Accept), .d (.sl (List.map eGRule p0_.Rules))], .d (.sl (List.map eI64 p1_))] (.agg [.d (.str z.Text), .own 1 (List.map eU8 z.Cells), .d (.int .i64 z.At), .d (.int .i64 z.End.Mode), .d (.int .i64 z.End.Last), .d (.int .u8 z.End.Need), .d (.bool z.Ok)]) := by
  dsimp only [FAutomaton_Run] at H
  refine fo (Γ := cx 64) (s := f22_s1 p0_ p1_) follows (cxOK 64) Try.func22 ?_
  refine sr ?_
  refine ck 2 ?_
  refine en ?_
  refine sr ?_
  refine ck 1 ?_
  refine en ?_
  refine sr ?_
  refine ck 1 ?_
  refine en ?_
  refine sr ?_
  refine bx H fun r7 h11 H => ?_
  refine ca false (FAutomaton_Start_ok h11) ?_
  refine ck 3 ?_
  refine en ?_
  refine sq ?_
  refine sr ?_
  refine ck 1 ?_
  refine sp (at_len eI64 p1_) ?_
  refine ck 1 ?_
  refine en ?_
  refine bk 0 ?_
  refine bx H fun y1 h18 H => ?_
  refine lp (fun (x : ((List Int) × (List Int) × GState × Int × Int)) => f22_s2 p0_ p1_ x.1 x.2.1 x.2.2.1 x.2.2.2.1 x.2.2.2.2) (FAutomaton_Run_L1_E p0_ p1_) h18 (Shift.trans (Shift.trans (Shift.trans (Shift.nilo 5 1 (by kernel_rfl)) (Shift.nilo 6 1 (by kernel_rfl))) (sh_nilc 1 1 1 (by kernel_rfl))) (sh_gc [1,2,4,5,6,7,8,14,15,16] (by kernel_rfl))) (fun x z => FAutomaton_Run_L1_ok x z) ?_
  intro e s hE1
  obtain ⟨rfl, hE1⟩ := hE1
  refine qH ?_
  refine qs (hE1) ?_
  refine sq ?_
  refine rg (sh_frz (k := 2) (sz := 1) 5 (List.map eU8 y1.1) (by kernel_rfl) take_all (by simp)) ?_
  refine ck 1 ?_
  refine bx H fun s1 h19 H => ?_
  refine sp (at_bstr h19) ?_
  refine ck 5 ?_
  refine sp (at_len eI64 p1_) ?_
  refine ck 4 ?_
  refine bx H fun r9 h20 H => ?_
  refine cG false (leZ) rfl (fun hg => FAutomaton_Accepts_ok (gimp h20 hg)) (Or.inl rfl) (impK (fun hh => hh) (impK (fun hh => hh) (impZ))) rfl ?_
  refine pA ?_
  refine ck 2 ?_
  refine en ?_
  refine re ?_
  injection H with H
  subst H
  exact pr (rO (v := .agg [.d (.str s1), .osl 3 1 0 (List.length y1.2.1), .d (.int .i64 y1.2.2.2), .d (.int .i64 y1.2.2.1.Mode), .d (.int .i64 y1.2.2.1.Last), .d (.int .u8 y1.2.2.1.Need), .d (.bool ((y1.2.2.2 == ((List.length p1_ : Nat) : Int)) && r9))]) [3] (a1 (c1 vd (c1 vo (c1 vd (c1 vd (c1 vd (c1 vd (c1 vd (c0))))))))))
end
section
variable (p0_ : GTable)
def f54_s1 : St := ⟨(0, .agg [.d (.int .i64 p0_.Modes), .d (.int .u8 p0_.Accept), .d (.sl (List.map eGRule p0_.Rules))]) :: [], []⟩
variable (states_1 : (List GState)) (from_1 : (List (List Int))) (number_1 : (List (GState × Int))) (k_1 : Int)
def f54_s2 : St := ⟨(1, .ptr 0 0) :: (5, .osl 1 3 0 (List.length states_1)) :: (6, .osl 2 1 0 (List.length from_1)) :: (7, .mp 3) :: (8, .d (.int .i64 k_1)) :: [], [some (.box [.d (.int .i64 p0_.Modes), .d (.int .u8 p0_.Accept), .d (.sl (List.map eGRule p0_.Rules))]), some (.arr 3 (List.map eGState states_1)), some (.narr 1 (List.map (nL 1 eI64) from_1)), some (.map true false (encM eGState eI64 number_1))]⟩
variable (states_2 : (List GState)) (from_2 : (List (List Int)))
def f54_s3 : St := ⟨(5, .osl 0 3 0 (List.length states_2)) :: (6, .osl 1 1 0 (List.length from_2)) :: [], [some (.arr 3 (List.map eGState states_2)), some (.narr 1 (List.map (nL 1 eI64) from_2))]⟩
variable (states_3 : (List GState)) (from_3 : (List (List Int))) (number_2 : (List (GState × Int))) (x_2 : Int)
def f54_s4 : St := ⟨(1, .ptr 0 0) :: (5, .osl 1 3 0 (List.length states_3)) :: (6, .osl 2 1 0 (List.length from_3)) :: (7, .mp 3) :: (8, .d (.int .i64 k_1)) :: (29, .d (.int .i64 ((List.length p0_.Rules : Nat) : Int))) :: (30, .d (.int .i64 x_2)) :: [], [some (.box [.d (.int .i64 p0_.Modes), .d (.int .u8 p0_.Accept), .d (.sl (List.map eGRule p0_.Rules))]), some (.arr 3 (List.map eGState states_3)), some (.narr 1 (List.map (nL 1 eI64) from_3)), some (.map true false (encM eGState eI64 number_2))]⟩
variable (states_4 : (List GState)) (from_4 : (List (List Int))) (number_3 : (List (GState × Int)))
def f54_s5 : St := ⟨(1, .ptr 0 0) :: (5, .osl 1 3 0 (List.length states_4)) :: (6, .osl 2 1 0 (List.length from_4)) :: (7, .mp 3) :: (8, .d (.int .i64 k_1)) :: [], [some (.box [.d (.int .i64 p0_.Modes), .d (.int .u8 p0_.Accept), .d (.sl (List.map eGRule p0_.Rules))]), some (.arr 3 (List.map eGState states_4)), some (.narr 1 (List.map (nL 1 eI64) from_4)), some (.map true false (encM eGState eI64 number_3))]⟩
variable (states_5 : (List GState)) (from_5 : (List (List Int))) (number_4 : (List (GState × Int)))
def f54_s6 : St := ⟨(1, .ptr 0 0) :: (5, .osl 1 3 0 (List.length states_5)) :: (6, .osl 2 1 0 (List.length from_5)) :: (7, .mp 3) :: (8, .d (.int .i64 k_1)) :: (29, .d (.int .i64 ((List.length p0_.Rules : Nat) : Int))) :: (30, .d (.int .i64 x_2)) :: [], [some (.box [.d (.int .i64 p0_.Modes), .d (.int .u8 p0_.Accept), .d (.sl (List.map eGRule p0_.Rules))]), some (.arr 3 (List.map eGState states_5)), some (.narr 1 (List.map (nL 1 eI64) from_5)), some (.map true false (encM eGState eI64 number_4))]⟩
variable (states_6 : (List GState)) (from_6 : (List (List Int))) (number_5 : (List (GState × Int))) (n_1 : Int)
def f54_s7 : St := ⟨(1, .ptr 0 0) :: (5, .osl 1 3 0 (List.length states_6)) :: (6, .osl 2 1 0 (List.length from_6)) :: (7, .mp 3) :: (8, .d (.int .i64 k_1)) :: (12, .d (.int .i64 n_1)) :: (29, .d (.int .i64 ((List.length p0_.Rules : Nat) : Int))) :: (30, .d (.int .i64 x_2)) :: [], [some (.box [.d (.int .i64 p0_.Modes), .d (.int .u8 p0_.Accept), .d (.sl (List.map eGRule p0_.Rules))]), some (.arr 3 (List.map eGState states_6)), some (.narr 1 (List.map (nL 1 eI64) from_6)), some (.map true false (encM eGState eI64 number_5))]⟩
def FAutomaton_explore_L2_E (p0_ : GTable) (k_1 : Int) : ((List GState) × (List (List Int)) × (List (GState × Int))) → Ex → St → Prop := fun (y : ((List GState) × (List (List Int)) × (List (GState × Int)))) e s => e = Ex.exit 2 ∧ Shift s (f54_s5 p0_ k_1 y.1 y.2.1 y.2.2)
theorem FAutomaton_explore_L2_ok {n : Nat} {p0_ : GTable} {k_1 : Int} (x : ((List GState) × (List (List Int)) × (List (GState × Int)) × Int)) (z : (((List GState) × (List (List Int)) × (List (GState × Int)) × Int) ⊕ ((List GState) × (List (List Int)) × (List (GState × Int))))) (H : FAutomaton_explore_L2 n p0_ k_1 x.1 x.2.1 x.2.2.1 x.2.2.2 = some z) : WP (cx 78) (bodyOf Try.f54) [1,1,1,1,0,1,0,0,1,0,0,1,0,0] (roundQ (fun (x : ((List GState) × (List (List Int)) × (List (GState × Int)) × Int)) => f54_s4 p0_ k_1 x.1 x.2.1 x.2.2.1 x.2.2.2) (FAutomaton_explore_L2_E p0_ k_1) z) (f54_s4 p0_ k_1 x.1 x.2.1 x.2.2.1 x.2.2.2) := by
  obtain ⟨states_3, from_3, number_2, x_2⟩ := x
  dsimp only [FAutomaton_explore_L2] at H
  refine sr ?_
  refine ck 1 ?_
  refine en ?_
  refine sq ?_
  refine cn H (fun H => ?_) (fun H => ?_)
  · refine sk ?_
    refine qz ?_
    refine sj (fun (x : ((List GState) × (List (List Int)) × (List (GState × Int)))) => f54_s6 p0_ k_1 x_2 x.1 x.2.1 x.2.2) (fun (x : ((List GState) × (List (List Int)) × (List (GState × Int)))) => FAutomaton_explore_J1 n x_2 x.1 x.2.1 x.2.2) z ?_ (fun hFAutomaton_explore_J1 => ?_)
    · rintro ⟨states_5, from_5, number_4⟩ H
      dsimp only [FAutomaton_explore_J1] at H
      refine rz ?_
      refine ck 2 ?_
      refine ae ?_
      cases H
      exact og (sh_gcN (encN := (nL 1 eI64)) (xss := from_5) (sz := 1) [1,5,6,7,8,29,30] 2 (by kernel_rfl) (by kernel_rfl) (fun _ => rfl))
    refine bk 3 ?_
    refine sr ?_
    refine ck 2 ?_
    refine en ?_
    refine sr ?_
    refine ck 3 ?_
    refine bx H fun x5 h22 H => ?_
    refine sp (at_idxO 1 3 h22) ?_
    refine sp (at_ldA eGState 1 0 (ty 26) h22) ?_
    refine ck 1 ?_
    refine bx H fun r11 h23 H => ?_
    refine ca false (FAutomaton_Step_ok h23) ?_
    refine ck 6 ?_
    refine en ?_
    refine sq ?_
    refine sr ?_
    refine ck 2 ?_
    refine en ?_
    refine cn H (fun H => ?_) (fun H => ?_)
    · refine ex 3 ?_
      refine qx ?_
      refine qH ?_
      exact qs (sh_gcN (encN := (nL 1 eI64)) (xss := from_3) (sz := 1) [1,5,6,7,8,29,30] 2 (by kernel_rfl) (by kernel_rfl) (fun _ => rfl)) (hFAutomaton_explore_J1 (states_3, from_3, number_2) H)
    · refine sk ?_
      refine qz ?_
      refine sr ?_
      refine ck 2 ?_
      refine sp (at_look1 (enc := eI64) (encK := eGState) (k := 3) (e1 := fun x => .int .i64 x) (m := number_2) (l := [.d (.int .i64 r11.1.Mode), .d (.int .i64 r11.1.Last), .d (.int .u8 r11.1.Need)]) (key := r11.1) (z := 0) (vz := [.int .i64 0]) eqk26 true) ?_
      refine ck 5 ?_
      refine en ?_
      refine sj (fun (x : ((List GState) × (List (List Int)) × (List (GState × Int)) × Int)) => f54_s7 p0_ k_1 x_2 x.1 x.2.1 x.2.2.1 x.2.2.2) (fun (x : ((List GState) × (List (List Int)) × (List (GState × Int)) × Int)) => FAutomaton_explore_J2 n k_1 x_2 x.1 x.2.1 x.2.2.1 x.2.2.2) z ?_ (fun hFAutomaton_explore_J2 => ?_)
      · rintro ⟨states_6, from_6, number_5, n_1⟩ H
        dsimp only [FAutomaton_explore_J2] at H
        refine bx H fun x6 h24 H => ?_
        refine rg (sh_out (enc := eI64) (encN := (nL 1 eI64)) (xss := from_6) (x := x6) (ys := x6) (n := n_1) (sz := 1) 2 0 1 (by kernel_rfl) h24 rfl) ?_
        refine ck 4 ?_
        refine sp (at_idxO 2 1 h24) ?_
        refine sp (at_ldN (encN := (nL 1 eI64)) (row := [.osl 4 1 0 (List.length x6)]) (k := 2) (sz := 1) (off := 0) (t := ty 33) (v := .osl 4 1 0 (List.length x6)) h24) ?_
        refine ck 2 ?_
        refine bx H fun l3 h25 H => ?_
        refine sp (at_appO eI64 4 1 h25) ?_
        refine sp (at_idxO 2 1 h24) ?_
        refine sp (at_stN (encN := (nL 1 eI64)) (row := [.osl 4 1 0 (List.length x6)]) (row' := [.osl 6 1 0 (List.length l3)]) (k := 2) (sz := 1) (off := 0) (t := ty 33) (v := .osl 6 1 0 (List.length l3)) h24) ?_
        refine ae ?_
        refine qN ?_
        exact qs (Shift.trans (Shift.trans (Shift.trans (Shift.trans (sh_inn (enc := eI64) (encN := (nL 1 eI64)) (xss := from_6) (yss := List.set from_6 (Int.toNat n_1) l3) (x := x6) (y := l3) (row := [.osl 6 1 0 (List.length l3)]) (zs := l3) (n := n_1) (sz := 1) 2 0 6 1 (by kernel_rfl) h24 rfl rfl rfl) (sh_len 6 2 1 0 (List.length from_6) (List.length (List.set from_6 (Int.toNat n_1) l3)) (by kernel_rfl) (List.length_set).symm)) (sh_len 65 2 1 0 (List.length from_6) (List.length (List.set from_6 (Int.toNat n_1) l3)) (by kernel_rfl) (List.length_set).symm)) (sh_len 67 2 1 0 (List.length from_6) (List.length (List.set from_6 (Int.toNat n_1) l3)) (by kernel_rfl) (List.length_set).symm)) (sh_gcN (encN := (nL 1 eI64)) (xss := List.set from_6 (Int.toNat n_1) l3) (sz := 1) [1,5,6,7,8,29,30] 2 (by kernel_rfl) (by kernel_rfl) (fun _ => rfl))) (hFAutomaton_explore_J1 (states_6, (List.set from_6 (Int.toNat n_1) l3), number_5) H)
      refine sr ?_
      refine ck 2 ?_
      refine en ?_
      refine cn H (fun H => ?_) (fun H => ?_)
      · refine sr ?_
        refine ck 3 ?_
        refine en ?_
        refine sr ?_
        refine ck 3 ?_
        refine sp (at_put1 (enc := eI64) (encK := eGState) (k := 3) (e1 := fun x => .int .i64 x) (m := number_2) (l := [.d (.int .i64 r11.1.Mode), .d (.int .i64 r11.1.Last), .d (.int .u8 r11.1.Need)]) (key := r11.1) (y := ((List.length states_3 : Nat) : Int)) (v := .d (.int .i64 ((List.length states_3 : Nat) : Int))) (vz := [.int .i64 0]) eqk26) ?_
        refine en ?_
        refine rz ?_
        refine ck 3 ?_
        refine bx H fun l4 h26 H => ?_
        refine sp (at_appO eGState 1 3 h26) ?_
        refine ck 1 ?_
        refine sK false ?_
        refine bx H fun l5 h27 H => ?_
        refine sp (at_appN (encN := (nL 1 eI64)) (esz := 1) (k := 2) (e := [.nil]) h27) ?_
        refine ck 2 ?_
        refine ae ?_
        exact qs (Shift.trans (sh_reN (encN := (nL 1 eI64)) (xss := from_3) (yss := l5) (y := ([] : (List Int))) (row := [.own 0 []]) (sz := 1) 7 (by kernel_rfl) (app_one h27) (by kernel_rfl)) (sh_gcN (encN := (nL 1 eI64)) (xss := l5) (sz := 1) [1,5,6,7,8,12,29,30] 2 (by kernel_rfl) (by kernel_rfl) (fun _ => rfl))) (hFAutomaton_explore_J2 (l4, l5, (mput r11.1 ((List.length states_3 : Nat) : Int) number_2), ((List.length states_3 : Nat) : Int)) H)
      · refine sk ?_
        exact qs (sh_gcN (encN := (nL 1 eI64)) (xss := from_3) (sz := 1) [1,5,6,7,8,12,29,30] 2 (by kernel_rfl) (by kernel_rfl) (fun _ => rfl)) (hFAutomaton_explore_J2 (states_3, from_3, number_2, (Option.getD (mget r11.1 number_2) 0)) H)
  · refine ex 2 ?_
    refine qx ?_
    cases H
    exact oe ⟨rfl, sh_gcN (encN := (nL 1 eI64)) (xss := from_3) (sz := 1) [1,5,6,7,8] 2 (by kernel_rfl) (by kernel_rfl) (fun _ => rfl)⟩
def FAutomaton_explore_L1_E (p0_ : GTable) : ((List GState) × (List (List Int))) → Ex → St → Prop := fun (y : ((List GState) × (List (List Int)))) e s => e = Ex.exit 0 ∧ Shift s (f54_s3 y.1 y.2)
theorem FAutomaton_explore_L1_ok {n : Nat} {p0_ : GTable} (x : ((List GState) × (List (List Int)) × (List (GState × Int)) × Int)) (z : (((List GState) × (List (List Int)) × (List (GState × Int)) × Int) ⊕ ((List GState) × (List (List Int))))) (H : FAutomaton_explore_L1 n p0_ x.1 x.2.1 x.2.2.1 x.2.2.2 = some z) : WP (cx 78) (bodyOf Try.f54) [1,1,1,1,0,1,0,0] (roundQ (fun (x : ((List GState) × (List (List Int)) × (List (GState × Int)) × Int)) => f54_s2 p0_ x.1 x.2.1 x.2.2.1 x.2.2.2) (FAutomaton_explore_L1_E p0_) z) (f54_s2 p0_ x.1 x.2.1 x.2.2.1 x.2.2.2) := by
  obtain ⟨states_1, from_1, number_1, k_1⟩ := x
  dsimp only [FAutomaton_explore_L1] at H
  refine sq ?_
  refine sr ?_
  refine ck 4 ?_
  refine en ?_
  refine cn H (fun H => ?_) (fun H => ?_)
  · refine sk ?_
    refine qz ?_
    refine sq ?_
    refine bk 1 ?_
    refine sr ?_
    refine ck 2 ?_
    refine sp (at_len eGRule p0_.Rules) ?_
    refine ck 1 ?_
    refine en ?_
    refine bk 2 ?_
    refine bx H fun y2 h28 H => ?_
    refine lp (fun (x : ((List GState) × (List (List Int)) × (List (GState × Int)) × Int)) => f54_s4 p0_ k_1 x.1 x.2.1 x.2.2.1 x.2.2.2) (FAutomaton_explore_L2_E p0_ k_1) h28 (sh_gcN (encN := (nL 1 eI64)) (xss := from_1) (sz := 1) [1,5,6,7,8,29,30] 2 (by kernel_rfl) (by kernel_rfl) (fun _ => rfl)) (fun x z => FAutomaton_explore_L2_ok x z) ?_
    intro e s hE2
    obtain ⟨rfl, hE2⟩ := hE2
    refine qH ?_
    refine qN ?_
    refine qs (hE2) ?_
    refine rz ?_
    refine ck 3 ?_
    refine ae ?_
    cases H
    exact og (sh_gcN (encN := (nL 1 eI64)) (xss := y2.2.1) (sz := 1) [1,5,6,7,8] 2 (by kernel_rfl) (by kernel_rfl) (fun _ => rfl))
  · refine ex 0 ?_
    refine qx ?_
    cases H
    exact oe ⟨rfl, sh_gcN (encN := (nL 1 eI64)) (xss := from_1) (sz := 1) [5,6] 1 (by kernel_rfl) (by kernel_rfl) (fun _ => rfl)⟩
theorem FAutomaton_explore_ok {n : Nat} {p0_ : GTable} {z : ((List GState) × (List (List Int)))} (H : FAutomaton_explore n p0_ = some z) : CallOK Try.prog 54 [.agg [.d (.int .i64 p0_.Modes), .d (.int .u8 p0_.Accept), .d (.sl (List.map eGRule p0_.Rules))]] (.tup [.own 3 (List.map eGState z.1), .d (.sl (List.map (eL eI64) z.2))]) := by
  dsimp only [FAutomaton_explore] at H
  refine fo (Γ := cx 78) (s := f54_s1 p0_) follows (cxOK 78) Try.func54 ?_
  refine sr ?_
  refine ck 3 ?_
  refine en ?_
  refine sr ?_
  refine bx H fun r10 h21 H => ?_
  refine ca false (FAutomaton_Start_ok h21) ?_
  refine ck 2 ?_
  refine en ?_
  refine sr ?_
  refine ck 2 ?_
  refine sK true ?_
  refine ck 2 ?_
  refine en ?_
  refine sq ?_
  refine rg (sh_toN (sz := 1) (es := [[.nil]]) 3 (List.map (nL 1 eI64) ([[]] : List (List Int))) (by kernel_rfl) (by kernel_rfl)) ?_
  refine ck 2 ?_
  refine sp (at_put1 (enc := eI64) (encK := eGState) (k := 4) (e1 := fun x => .int .i64 x) (m := []) (l := [.d (.int .i64 r10.Mode), .d (.int .i64 r10.Last), .d (.int .u8 r10.Need)]) (key := r10) (y := 0) (v := .d (.int .i64 0)) (vz := [.int .i64 0]) eqk26) ?_
  refine ck 2 ?_
  refine en ?_
  refine sq ?_
  refine sr ?_
  refine ck 1 ?_
  refine en ?_
  refine bk 0 ?_
  refine bx H fun y3 h29 H => ?_
  refine lp (fun (x : ((List GState) × (List (List Int)) × (List (GState × Int)) × Int)) => f54_s2 p0_ x.1 x.2.1 x.2.2.1 x.2.2.2) (FAutomaton_explore_L1_E p0_) h29 (sh_gcN (encN := (nL 1 eI64)) (xss := ([[]] : List (List Int))) (sz := 1) [1,5,6,7,8] 2 (by kernel_rfl) (by kernel_rfl) (fun _ => rfl)) (fun x z => FAutomaton_explore_L1_ok x z) ?_
  intro e s hE3
  obtain ⟨rfl, hE3⟩ := hE3
  refine qH ?_
  refine qs (hE3) ?_
  refine sr ?_
  refine ck 4 ?_
  refine ae ?_
  refine qs (sh_frzN (encN := (nL 1 eI64)) (encD := (eL eI64)) (xss := y3.2) (k := 1) (sz := 1) 3 (by kernel_rfl) (fun _ => rfl) (fun _ => rfl)) ?_
  refine re ?_
  injection H with H
  subst H
  exact pr (rT (vs := [.osl 0 3 0 (List.length y3.1), .d (.sl (List.map (eL eI64) y3.2))]) [0] (t1 (ao vo) (t1 (ad vd) (t0))))
end
section
variable (p0_ : GTable)
def f25_s1 : St := ⟨(0, .agg [.d (.int .i64 p0_.Modes), .d (.int .u8 p0_.Accept), .d (.sl (List.map eGRule p0_.Rules))]) :: [], []⟩
theorem FAutomaton_States_ok {n : Nat} {p0_ : GTable} {z : (List GState)} (H : FAutomaton_States n p0_ = some z) : CallOK Try.prog 25 [.agg [.d (.int .i64 p0_.Modes), .d (.int .u8 p0_.Accept), .d (.sl (List.map eGRule p0_.Rules))]] (.d (.sl (List.map eGState z))) := by
  dsimp only [FAutomaton_States] at H
  refine fo (Γ := cx 11) (s := f25_s1 p0_) follows (cxOK 11) Try.func25 ?_
  refine sr ?_
  refine ck 2 ?_
  refine en ?_
  refine sr ?_
  refine ck 1 ?_
  refine bx H fun r12 h30 H => ?_
  refine ca false (FAutomaton_explore_ok h30) ?_
  refine ck 5 ?_
  refine en ?_
  refine sr ?_
  refine ck 2 ?_
  refine en ?_
  refine re ?_
  injection H with H
  subst H
  exact pr (rd)
end
section
variable (p0_ : GTable)
def f28_s1 : St := ⟨(0, .agg [.d (.int .i64 p0_.Modes), .d (.int .u8 p0_.Accept), .d (.sl (List.map eGRule p0_.Rules))]) :: [], []⟩
variable (r13 : ((List GState) × (List (List Int)))) (alive_1 : (List Bool)) (open_1 : (List Int)) (x_3 : Int)
def f28_s2 : St := ⟨(1, .ptr 0 0) :: (4, .d (.sl (List.map (eL eI64) r13.2))) :: (5, .osl 1 1 0 (List.length alive_1)) :: (6, .osl 2 1 0 (List.length open_1)) :: (20, .d (.sl (List.map eGState r13.1))) :: (21, .d (.int .i64 ((List.length r13.1 : Nat) : Int))) :: (22, .d (.int .i64 x_3)) :: [], [some (.box [.d (.int .i64 p0_.Modes), .d (.int .u8 p0_.Accept), .d (.sl (List.map eGRule p0_.Rules))]), some (.arr 1 (List.map eB alive_1)), some (.arr 1 (List.map eI64 open_1))]⟩
variable (alive_2 : (List Bool)) (open_2 : (List Int))
def f28_s3 : St := ⟨(4, .d (.sl (List.map (eL eI64) r13.2))) :: (5, .osl 0 1 0 (List.length alive_2)) :: (6, .osl 1 1 0 (List.length open_2)) :: [], [some (.arr 1 (List.map eB alive_2)), some (.arr 1 (List.map eI64 open_2))]⟩
variable (alive_3 : (List Bool)) (open_3 : (List Int))
def f28_s4 : St := ⟨(1, .ptr 0 0) :: (4, .d (.sl (List.map (eL eI64) r13.2))) :: (5, .osl 1 1 0 (List.length alive_3)) :: (6, .osl 2 1 0 (List.length open_3)) :: (20, .d (.sl (List.map eGState r13.1))) :: (21, .d (.int .i64 ((List.length r13.1 : Nat) : Int))) :: (22, .d (.int .i64 x_3)) :: [], [some (.box [.d (.int .i64 p0_.Modes), .d (.int .u8 p0_.Accept), .d (.sl (List.map eGRule p0_.Rules))]), some (.arr 1 (List.map eB alive_3)), some (.arr 1 (List.map eI64 open_3))]⟩
def FAutomaton_Alive_L1_E (p0_ : GTable) (r13 : ((List GState) × (List (List Int)))) : ((List Bool) × (List Int)) → Ex → St → Prop := fun (y : ((List Bool) × (List Int))) e s => e = Ex.exit 0 ∧ Shift s (f28_s3 r13 y.1 y.2)
theorem FAutomaton_Alive_L1_ok {n : Nat} {p0_ : GTable} {r13 : ((List GState) × (List (List Int)))} (x : ((List Bool) × (List Int) × Int)) (z : (((List Bool) × (List Int) × Int) ⊕ ((List Bool) × (List Int)))) (H : FAutomaton_Alive_L1 n p0_ r13 x.1 x.2.1 x.2.2 = some z) : WP (cx 75) (bodyOf Try.f28) [1,1,1,1,0,1,0,0] (roundQ (fun (x : ((List Bool) × (List Int) × Int)) => f28_s2 p0_ r13 x.1 x.2.1 x.2.2) (FAutomaton_Alive_L1_E p0_ r13) z) (f28_s2 p0_ r13 x.1 x.2.1 x.2.2) := by
  obtain ⟨alive_1, open_1, x_3⟩ := x
  dsimp only [FAutomaton_Alive_L1] at H
  refine sr ?_
  refine ck 1 ?_
  refine en ?_
  refine sq ?_
  refine cn H (fun H => ?_) (fun H => ?_)
  · refine sk ?_
    refine qz ?_
    refine sj (fun (x : ((List Bool) × (List Int))) => f28_s4 p0_ r13 x_3 x.1 x.2) (fun (x : ((List Bool) × (List Int))) => FAutomaton_Alive_J1 n x_3 x.1 x.2) z ?_ (fun hFAutomaton_Alive_J1 => ?_)
    · rintro ⟨alive_3, open_3⟩ H
      dsimp only [FAutomaton_Alive_J1] at H
      refine rz ?_
      refine ck 2 ?_
      refine ae ?_
      cases H
      exact og (sh_gc [1,4,5,6,20,21,22] (by kernel_rfl))
    refine bk 1 ?_
    refine sr ?_
    refine ck 1 ?_
    refine bx H fun x7 h33 H => ?_
    refine sp (at_idxD eGState h33) ?_
    refine ck 4 ?_
    refine en ?_
    refine sr ?_
    refine ck 2 ?_
    refine bx H fun r14 h34 H => ?_
    refine ca false (FAutomaton_Accepts_ok h34) ?_
    refine en ?_
    refine cn H (fun H => ?_) (fun H => ?_)
    · refine sr ?_
      refine ck 2 ?_
      refine bx H fun x8 h35 H => ?_
      refine sp (at_idxO 1 1 h35) ?_
      refine bx H fun l7 h36 H => ?_
      refine stA eB 1 0 (ty 4) h35 h36 ?_
      refine en ?_
      refine rg (sh_sub (k := 1) (sz := 1) 5 (List.map eB l7) (List.length l7) (by kernel_rfl) (cut_put (put_len h36)) (le_put (enc := eB) (put_len h36)) ((put_len h36))) ?_
      refine ck 3 ?_
      refine bx H fun l8 h37 H => ?_
      refine sp (at_appO eI64 2 1 h37) ?_
      refine ck 1 ?_
      refine ae ?_
      refine qN ?_
      exact qs (sh_gc [1,4,5,6,20,21,22] (by kernel_rfl)) (hFAutomaton_Alive_J1 (l7, l8) H)
    · refine sk ?_
      refine qN ?_
      exact qs (sh_gc [1,4,5,6,20,21,22] (by kernel_rfl)) (hFAutomaton_Alive_J1 (alive_1, open_1) H)
  · refine ex 0 ?_
    refine qx ?_
    cases H
    exact oe ⟨rfl, sh_gc [4,5,6] (by kernel_rfl)⟩
variable (alive_4 : (List Bool)) (open_4 : (List Int))
def f28_s5 : St := ⟨(4, .d (.sl (List.map (eL eI64) r13.2))) :: (5, .osl 0 1 0 (List.length alive_4)) :: (6, .osl 1 1 0 (List.length open_4)) :: [], [some (.arr 1 (List.map eB alive_4)), some (.arr 1 (List.map eI64 open_4))]⟩
variable (alive_5 : (List Bool))
def f28_s6 : St := ⟨(5, .osl 0 1 0 (List.length alive_5)) :: [], [some (.arr 1 (List.map eB alive_5))]⟩
variable (x10 : (List Int)) (alive_6 : (List Bool)) (open_5 : (List Int)) (x_4 : Int)
def f28_s7 : St := ⟨(4, .d (.sl (List.map (eL eI64) r13.2))) :: (5, .osl 0 1 0 (List.length alive_6)) :: (6, .osl 1 1 0 (List.length open_5)) :: (55, .d (.sl (List.map eI64 x10))) :: (56, .d (.int .i64 ((List.length x10 : Nat) : Int))) :: (57, .d (.int .i64 x_4)) :: [], [some (.arr 1 (List.map eB alive_6)), some (.arr 1 (List.map eI64 open_5))]⟩
variable (alive_7 : (List Bool)) (open_6 : (List Int))
def f28_s8 : St := ⟨(4, .d (.sl (List.map (eL eI64) r13.2))) :: (5, .osl 0 1 0 (List.length alive_7)) :: (6, .osl 1 1 0 (List.length open_6)) :: [], [some (.arr 1 (List.map eB alive_7)), some (.arr 1 (List.map eI64 open_6))]⟩
variable (alive_8 : (List Bool)) (open_7 : (List Int))
def f28_s9 : St := ⟨(4, .d (.sl (List.map (eL eI64) r13.2))) :: (5, .osl 0 1 0 (List.length alive_8)) :: (6, .osl 1 1 0 (List.length open_7)) :: (55, .d (.sl (List.map eI64 x10))) :: (56, .d (.int .i64 ((List.length x10 : Nat) : Int))) :: (57, .d (.int .i64 x_4)) :: [], [some (.arr 1 (List.map eB alive_8)), some (.arr 1 (List.map eI64 open_7))]⟩
def FAutomaton_Alive_L3_E (r13 : ((List GState) × (List (List Int)))) (x10 : (List Int)) : ((List Bool) × (List Int)) → Ex → St → Prop := fun (y : ((List Bool) × (List Int))) e s => e = Ex.exit 4 ∧ Shift s (f28_s8 r13 y.1 y.2)
theorem FAutomaton_Alive_L3_ok {n : Nat} {r13 : ((List GState) × (List (List Int)))} {x10 : (List Int)} (x : ((List Bool) × (List Int) × Int)) (z : (((List Bool) × (List Int) × Int) ⊕ ((List Bool) × (List Int)))) (H : FAutomaton_Alive_L3 n r13 x10 x.1 x.2.1 x.2.2 = some z) : WP (cx 75) (bodyOf Try.f28) [1,1,1,1,1,0,0,0,1,0,1,1,1,0,0] (roundQ (fun (x : ((List Bool) × (List Int) × Int)) => f28_s7 r13 x10 x.1 x.2.1 x.2.2) (FAutomaton_Alive_L3_E r13 x10) z) (f28_s7 r13 x10 x.1 x.2.1 x.2.2) := by
  obtain ⟨alive_6, open_5, x_4⟩ := x
  dsimp only [FAutomaton_Alive_L3] at H
  refine sr ?_
  refine ck 1 ?_
  refine en ?_
  refine sq ?_
  refine cn H (fun H => ?_) (fun H => ?_)
  · refine sk ?_
    refine qz ?_
    refine sj (fun (x : ((List Bool) × (List Int))) => f28_s9 r13 x10 x_4 x.1 x.2) (fun (x : ((List Bool) × (List Int))) => FAutomaton_Alive_J2 n x_4 x.1 x.2) z ?_ (fun hFAutomaton_Alive_J2 => ?_)
    · rintro ⟨alive_8, open_7⟩ H
      dsimp only [FAutomaton_Alive_J2] at H
      refine rz ?_
      refine ck 2 ?_
      refine ae ?_
      cases H
      exact og (sh_gc [4,5,6,55,56,57] (by kernel_rfl))
    refine bk 5 ?_
    refine sr ?_
    refine bx H fun x11 h42 H => ?_
    refine sp (at_idxD eI64 h42) ?_
    refine ck 2 ?_
    refine en ?_
    refine sr ?_
    refine ck 2 ?_
    refine bx H fun x12 h43 H => ?_
    refine sp (at_idxO 0 1 h43) ?_
    refine sp (at_ldA eB 0 0 (ty 4) h43) ?_
    refine ck 1 ?_
    refine en ?_
    refine cn H (fun H => ?_) (fun H => ?_)
    · refine sr ?_
      refine ck 2 ?_
      refine bx H fun x13 h44 H => ?_
      refine sp (at_idxO 0 1 h44) ?_
      refine bx H fun l10 h45 H => ?_
      refine stA eB 0 0 (ty 4) h44 h45 ?_
      refine en ?_
      refine rg (sh_sub (k := 0) (sz := 1) 5 (List.map eB l10) (List.length l10) (by kernel_rfl) (cut_put (put_len h45)) (le_put (enc := eB) (put_len h45)) ((put_len h45))) ?_
      refine ck 3 ?_
      refine bx H fun l11 h46 H => ?_
      refine sp (at_appO eI64 1 1 h46) ?_
      refine ck 1 ?_
      refine ae ?_
      refine qN ?_
      exact qs (sh_gc [4,5,6,55,56,57] (by kernel_rfl)) (hFAutomaton_Alive_J2 (l10, l11) H)
    · refine sk ?_
      refine qN ?_
      exact qs (sh_gc [4,5,6,55,56,57] (by kernel_rfl)) (hFAutomaton_Alive_J2 (alive_6, open_5) H)
  · refine ex 4 ?_
    refine qx ?_
    cases H
    exact oe ⟨rfl, sh_gc [4,5,6] (by kernel_rfl)⟩
def FAutomaton_Alive_L2_E (r13 : ((List GState) × (List (List Int)))) : (List Bool) → Ex → St → Prop := fun (y : (List Bool)) e s => e = Ex.exit 2 ∧ Shift s (f28_s6 y)
theorem FAutomaton_Alive_L2_ok {n : Nat} {r13 : ((List GState) × (List (List Int)))} (x : ((List Bool) × (List Int))) (z : (((List Bool) × (List Int)) ⊕ (List Bool))) (H : FAutomaton_Alive_L2 n r13 x.1 x.2 = some z) : WP (cx 75) (bodyOf Try.f28) [1,1,1,1,1,0,0,0] (roundQ (fun (x : ((List Bool) × (List Int))) => f28_s5 r13 x.1 x.2) (FAutomaton_Alive_L2_E r13) z) (f28_s5 r13 x.1 x.2) := by
  obtain ⟨alive_4, open_4⟩ := x
  dsimp only [FAutomaton_Alive_L2] at H
  refine sq ?_
  refine sr ?_
  refine ck 3 ?_
  refine en ?_
  refine cn H (fun H => ?_) (fun H => ?_)
  · refine sk ?_
    refine qz ?_
    refine bk 3 ?_
    refine sr ?_
    refine ck 4 ?_
    refine bx H fun x9 h39 H => ?_
    refine sp (at_idxO 1 1 h39) ?_
    refine sp (at_ldA eI64 1 0 (ty 3) h39) ?_
    refine ck 1 ?_
    refine en ?_
    refine sr ?_
    refine ck 4 ?_
    refine bx H fun l9 h40 H => ?_
    refine sp (at_slO 1 1 h40) ?_
    refine ck 1 ?_
    refine en ?_
    refine sq ?_
    refine rg (sh_sub (k := 1) (sz := 1) 6 (List.map eI64 l9) (List.length l9) (by kernel_rfl) (sub_cut h40) (sub_le (enc := eI64) h40) (sub_len h40)) ?_
    refine ck 2 ?_
    refine bx H fun x10 h41 H => ?_
    refine sp (at_idxD (eL eI64) h41) ?_
    refine ck 1 ?_
    refine sp (at_len eI64 x10) ?_
    refine ck 1 ?_
    refine en ?_
    refine bk 4 ?_
    refine bx H fun y5 h47 H => ?_
    refine lp (fun (x : ((List Bool) × (List Int) × Int)) => f28_s7 r13 x10 x.1 x.2.1 x.2.2) (FAutomaton_Alive_L3_E r13 x10) h47 (sh_gc [4,5,6,55,56,57] (by kernel_rfl)) (fun x z => FAutomaton_Alive_L3_ok x z) ?_
    intro e s hE5
    obtain ⟨rfl, hE5⟩ := hE5
    refine qH ?_
    refine qN ?_
    cases H
    exact og (Shift.trans (hE5) (sh_gc [4,5,6] (by kernel_rfl)))
  · refine ex 2 ?_
    refine qx ?_
    cases H
    exact oe ⟨rfl, sh_gc [5] (by kernel_rfl)⟩
theorem FAutomaton_Alive_ok {n : Nat} {p0_ : GTable} {z : (List Bool)} (H : FAutomaton_Alive n p0_ = some z) : CallOK Try.prog 28 [.agg [.d (.int .i64 p0_.Modes), .d (.int .u8 p0_.Accept), .d (.sl (List.map eGRule p0_.Rules))]] (.own 1 (List.map eB z)) := by
  dsimp only [FAutomaton_Alive] at H
  refine fo (Γ := cx 75) (s := f28_s1 p0_) follows (cxOK 75) Try.func28 ?_
  refine sr ?_
  refine ck 2 ?_
  refine en ?_
  refine sr ?_
  refine ck 1 ?_
  refine bx H fun r13 h31 H => ?_
  refine ca false (FAutomaton_explore_ok h31) ?_
  refine ck 5 ?_
  refine en ?_
  refine sr ?_
  refine ck 1 ?_
  refine sp (at_len eGState r13.1) ?_
  refine bx H fun l6 h32 H => ?_
  refine sp (at_mk eB 1 h32) ?_
  refine ck 1 ?_
  refine en ?_
  refine sr ?_
  refine ck 1 ?_
  refine en ?_
  refine sq ?_
  refine sr ?_
  refine ck 1 ?_
  refine sp (at_len eGState r13.1) ?_
  refine ck 1 ?_
  refine en ?_
  refine bk 0 ?_
  refine bx H fun y4 h38 H => ?_
  refine lp (fun (x : ((List Bool) × (List Int) × Int)) => f28_s2 p0_ r13 x.1 x.2.1 x.2.2) (FAutomaton_Alive_L1_E p0_ r13) h38 (Shift.trans (Shift.nilo 6 1 (by kernel_rfl)) (sh_gc [1,4,5,6,20,21,22] (by kernel_rfl))) (fun x z => FAutomaton_Alive_L1_ok x z) ?_
  intro e s hE4
  obtain ⟨rfl, hE4⟩ := hE4
  refine qH ?_
  refine qs (hE4) ?_
  refine sq ?_
  refine bk 2 ?_
  refine bx H fun y6 h48 H => ?_
  refine lp (fun (x : ((List Bool) × (List Int))) => f28_s5 r13 x.1 x.2) (FAutomaton_Alive_L2_E r13) h48 (sh_gc [4,5,6] (by kernel_rfl)) (fun x z => FAutomaton_Alive_L2_ok x z) ?_
  intro e s hE6
  obtain ⟨rfl, hE6⟩ := hE6
  refine qH ?_
  refine qs (hE6) ?_
  refine sr ?_
  refine ck 2 ?_
  refine en ?_
  refine re ?_
  injection H with H
  subst H
  exact pr (rO (v := .osl 0 1 0 (List.length y6)) [0] (ao vo))
end
section
variable (p0_ : (List Int)) (p1_ : (List Int))
def f49_s1 : St := ⟨(0, .d (.sl (List.map eU8 p0_))) :: (1, .d (.sl (List.map eU8 p1_))) :: [], []⟩
variable (i_1 : Int)
def f49_s2 : St := ⟨(0, .d (.sl (List.map eU8 p0_))) :: (1, .d (.sl (List.map eU8 p1_))) :: (5, .d (.int .i64 i_1)) :: [], []⟩
def f49_s3  : St := ⟨[], []⟩
def FSixdotref02_SameCells_L1_E (p0_ : (List Int)) (p1_ : (List Int)) : (Unit ⊕ Bool) → Ex → St → Prop := fun y => Sum.casesOn y (fun (y : Unit) e s => e = Ex.exit 0 ∧ Shift s (f49_s3)) (fun (y : Bool) e s => e = Ex.ret ∧ RA ty (Try.f49).results.toList (.d (.bool y)) s)
theorem FSixdotref02_SameCells_L1_ok {n : Nat} {p0_ : (List Int)} {p1_ : (List Int)} (x : Int) (z : (Int ⊕ (Unit ⊕ Bool))) (H : FSixdotref02_SameCells_L1 n p0_ p1_ x = some z) : WP (cx 26) (bodyOf Try.f49) [1,1,0,1,0,0] (roundQ (fun (x : Int) => f49_s2 p0_ p1_ x) (FSixdotref02_SameCells_L1_E p0_ p1_) z) (f49_s2 p0_ p1_ x) := by
  revert H
  generalize x = i_1
  intro H
  dsimp only [FSixdotref02_SameCells_L1] at H
  refine sq ?_
  refine sr ?_
  refine ck 2 ?_
  refine sp (at_len eU8 p0_) ?_
  refine ck 1 ?_
  refine en ?_
  refine cn H (fun H => ?_) (fun H => ?_)
  · refine sk ?_
    refine qz ?_
    refine sq ?_
    refine bk 1 ?_
    refine sr ?_
    refine ck 2 ?_
    refine bx H fun x14 h49 H => ?_
    refine sp (at_idxD eU8 h49) ?_
    refine ck 3 ?_
    refine bx H fun x15 h50 H => ?_
    refine sp (at_idxD eU8 h50) ?_
    refine ck 2 ?_
    refine en ?_
    refine cn H (fun H => ?_) (fun H => ?_)
    · refine sr ?_
      refine ck 1 ?_
      refine en ?_
      refine re ?_
      refine qR ?_
      refine qr ?_
      cases H
      exact or ⟨rfl, rd⟩
    · refine sk ?_
      refine qN ?_
      refine qz ?_
      refine rz ?_
      refine ck 3 ?_
      refine ae ?_
      cases H
      exact og (sh_gc [0,1,5] (by kernel_rfl))
  · refine ex 0 ?_
    refine qx ?_
    cases H
    exact oe ⟨rfl, sh_gc [] (by kernel_rfl)⟩
theorem FSixdotref02_SameCells_ok {n : Nat} {p0_ : (List Int)} {p1_ : (List Int)} {z : Bool} (H : FSixdotref02_SameCells n p0_ p1_ = some z) : CallOK Try.prog 49 [.d (.sl (List.map eU8 p0_)), .d (.sl (List.map eU8 p1_))] (.d (.bool z)) := by
  dsimp only [FSixdotref02_SameCells] at H
  refine fo (Γ := cx 26) (s := f49_s1 p0_ p1_) follows (cxOK 26) Try.func49 ?_
  refine sr ?_
  refine ck 1 ?_
  refine en ?_
  refine sq ?_
  refine sr ?_
  refine ck 1 ?_
  refine sp (at_len eU8 p0_) ?_
  refine ck 1 ?_
  refine sp (at_len eU8 p1_) ?_
  refine ck 1 ?_
  refine en ?_
  refine cn H (fun H => ?_) (fun H => ?_)
  · refine sr ?_
    refine ck 1 ?_
    refine en ?_
    refine re ?_
    refine qr ?_
    injection H with H
    subst H
    exact pr (rd)
  · refine sk ?_
    refine qz ?_
    refine sq ?_
    refine sr ?_
    refine ck 1 ?_
    refine en ?_
    refine bk 0 ?_
    refine bx H fun y7 h51 H => ?_
    rcases y7 with y8 | y9
    · refine lp (fun (x : Int) => f49_s2 p0_ p1_ x) (FSixdotref02_SameCells_L1_E p0_ p1_) h51 (sh_gc [0,1,5] (by kernel_rfl)) (fun x z => FSixdotref02_SameCells_L1_ok x z) ?_
      intro e s hE7
      obtain ⟨rfl, hE7⟩ := hE7
      refine qH ?_
      refine qs (hE7) ?_
      refine sr ?_
      refine ck 1 ?_
      refine en ?_
      refine re ?_
      injection H with H
      subst H
      exact pr (rd)
    · refine lp (fun (x : Int) => f49_s2 p0_ p1_ x) (FSixdotref02_SameCells_L1_E p0_ p1_) h51 (sh_gc [0,1,5] (by kernel_rfl)) (fun x z => FSixdotref02_SameCells_L1_ok x z) ?_
      intro e s hE8
      obtain ⟨rfl, hE8⟩ := hE8
      refine qR ?_
      refine qr ?_
      cases H
      exact pr hE8
end
def f15_s0 : St := ⟨[], []⟩
section
variable (r15 : GRule) (r16 : GRule) (r17 : GRule) (r18 : GRule) (r20 : (GState × Bool)) (r21 : (GState × Bool)) (r22 : (GState × Bool)) (r23 : GTrace) (r24 : GTrace) (r25 : GTrace) (r26 : (List GState)) (r27 : (List Bool)) (i_2 : Int)
def f15_s1 : St := ⟨(1, .ptr 0 0) :: (2, .ptr 1 0) :: (3, .d (.bool r20.2)) :: (5, .d (.bool r21.2)) :: (7, .d (.bool r22.2)) :: (8, .ptr 2 0) :: (9, .ptr 3 0) :: (10, .ptr 4 0) :: (11, .d (.sl (List.map eGState r26))) :: (12, .osl 5 3 0 (List.length [({ Mode := 0, Last := 0, Need := 63 } : GState), ({ Mode := 0, Last := 1, Need := 63 } : GState), ({ Mode := 1, Last := 0, Need := 8 } : GState), ({ Mode := 1, Last := 1, Need := 8 } : GState), ({ Mode := 1, Last := 3, Need := 63 } : GState), ({ Mode := 0, Last := 4, Need := 63 } : GState), ({ Mode := 1, Last := 4, Need := 8 } : GState)])) :: (13, .d (.sl (List.map eB r27))) :: (14, .d (.int .i64 i_2)) :: [], [some (.box [.d (.int .i64 2), .d (.int .u8 3), .d (.sl (List.map eGRule [r15, r16, r17, r18]))]), some (.box [.d (.int .i64 r20.1.Mode), .d (.int .i64 r20.1.Last), .d (.int .u8 r20.1.Need)]), some (.box [.d (.str r23.Text), .d (.sl (List.map eU8 r23.Cells)), .d (.int .i64 r23.At), .d (.int .i64 r23.End.Mode), .d (.int .i64 r23.End.Last), .d (.int .u8 r23.End.Need), .d (.bool r23.Ok)]), some (.box [.d (.str r24.Text), .d (.sl (List.map eU8 r24.Cells)), .d (.int .i64 r24.At), .d (.int .i64 r24.End.Mode), .d (.int .i64 r24.End.Last), .d (.int .u8 r24.End.Need), .d (.bool r24.Ok)]), some (.box [.d (.str r25.Text), .d (.sl (List.map eU8 r25.Cells)), .d (.int .i64 r25.At), .d (.int .i64 r25.End.Mode), .d (.int .i64 r25.End.Last), .d (.int .u8 r25.End.Need), .d (.bool r25.Ok)]), some (.arr 3 (List.map eGState [({ Mode := 0, Last := 0, Need := 63 } : GState), ({ Mode := 0, Last := 1, Need := 63 } : GState), ({ Mode := 1, Last := 0, Need := 8 } : GState), ({ Mode := 1, Last := 1, Need := 8 } : GState), ({ Mode := 1, Last := 3, Need := 63 } : GState), ({ Mode := 0, Last := 4, Need := 63 } : GState), ({ Mode := 1, Last := 4, Need := 8 } : GState)]))]⟩
def f15_s2 : St := ⟨(1, .ptr 0 0) :: (2, .ptr 1 0) :: (3, .d (.bool r20.2)) :: (5, .d (.bool r21.2)) :: (7, .d (.bool r22.2)) :: (8, .ptr 2 0) :: (9, .ptr 3 0) :: (10, .ptr 4 0) :: (11, .d (.sl (List.map eGState r26))) :: [], [some (.box [.d (.int .i64 2), .d (.int .u8 3), .d (.sl (List.map eGRule [r15, r16, r17, r18]))]), some (.box [.d (.int .i64 r20.1.Mode), .d (.int .i64 r20.1.Last), .d (.int .u8 r20.1.Need)]), some (.box [.d (.str r23.Text), .d (.sl (List.map eU8 r23.Cells)), .d (.int .i64 r23.At), .d (.int .i64 r23.End.Mode), .d (.int .i64 r23.End.Last), .d (.int .u8 r23.End.Need), .d (.bool r23.Ok)]), some (.box [.d (.str r24.Text), .d (.sl (List.map eU8 r24.Cells)), .d (.int .i64 r24.At), .d (.int .i64 r24.End.Mode), .d (.int .i64 r24.End.Last), .d (.int .u8 r24.End.Need), .d (.bool r24.Ok)]), some (.box [.d (.str r25.Text), .d (.sl (List.map eU8 r25.Cells)), .d (.int .i64 r25.At), .d (.int .i64 r25.End.Mode), .d (.int .i64 r25.End.Last), .d (.int .u8 r25.End.Need), .d (.bool r25.Ok)])]⟩
def FSixdotlaw03_sanity_L1_E (r15 : GRule) (r16 : GRule) (r17 : GRule) (r18 : GRule) (r20 : (GState × Bool)) (r21 : (GState × Bool)) (r22 : (GState × Bool)) (r23 : GTrace) (r24 : GTrace) (r25 : GTrace) (r26 : (List GState)) (r27 : (List Bool)) : (Unit ⊕ Bool) → Ex → St → Prop := fun y => Sum.casesOn y (fun (y : Unit) e s => e = Ex.exit 0 ∧ Shift s (f15_s2 r15 r16 r17 r18 r20 r21 r22 r23 r24 r25 r26)) (fun (y : Bool) e s => e = Ex.ret ∧ RA ty (Try.f15).results.toList (.d (.bool y)) s)
theorem FSixdotlaw03_sanity_L1_ok {n : Nat} {r15 : GRule} {r16 : GRule} {r17 : GRule} {r18 : GRule} {r20 : (GState × Bool)} {r21 : (GState × Bool)} {r22 : (GState × Bool)} {r23 : GTrace} {r24 : GTrace} {r25 : GTrace} {r26 : (List GState)} {r27 : (List Bool)} (x : Int) (z : (Int ⊕ (Unit ⊕ Bool))) (H : FSixdotlaw03_sanity_L1 n r15 r16 r17 r18 r20 r21 r22 r23 r24 r25 r26 r27 x = some z) : WP (cx 180) (bodyOf Try.f15) [1,1,1,1,1,1,1,1,1,1,1,0,1,0,0] (roundQ (fun (x : Int) => f15_s1 r15 r16 r17 r18 r20 r21 r22 r23 r24 r25 r26 r27 x) (FSixdotlaw03_sanity_L1_E r15 r16 r17 r18 r20 r21 r22 r23 r24 r25 r26 r27) z) (f15_s1 r15 r16 r17 r18 r20 r21 r22 r23 r24 r25 r26 r27 x) := by
  revert H
  generalize x = i_2
  intro H
  dsimp only [FSixdotlaw03_sanity_L1] at H
  refine sq ?_
  refine sr ?_
  refine ck 2 ?_
  refine sp (at_len eGState r26) ?_
  refine ck 1 ?_
  refine en ?_
  refine cn H (fun H => ?_) (fun H => ?_)
  · refine sk ?_
    refine qz ?_
    refine sq ?_
    refine bk 1 ?_
    refine sr ?_
    refine ck 2 ?_
    refine bx H fun x16 h65 H => ?_
    refine sp (at_idxD eGState h65) ?_
    refine ck 3 ?_
    refine bx H fun x17 h66 H => ?_
    refine sp (at_idxO 5 3 h66) ?_
    refine sp (at_ldA eGState 5 0 (ty 26) h66) ?_
    refine ck 4 ?_
    refine bx H fun x18 h67 H => ?_
    refine sG (fun hg => at_idxD eB (gimp h67 hg)) (impK (fun hh => hh) (impK (fun hh => hh) (impZ))) ?_
    refine gc 2 (!(!((x16.Mode == x17.Mode) && ((x16.Last == x17.Last) && ((x16.Need == x17.Need) && true))))) ?_
    refine pO ?_
    refine en ?_
    refine cn H (fun H => ?_) (fun H => ?_)
    · refine sr ?_
      refine ck 1 ?_
      refine en ?_
      refine re ?_
      refine qR ?_
      refine qr ?_
      cases H
      exact or ⟨rfl, rd⟩
    · refine sk ?_
      refine qN ?_
      refine qz ?_
      refine rz ?_
      refine ck 3 ?_
      refine ae ?_
      cases H
      exact og (sh_gc [1,2,3,5,7,8,9,10,11,12,13,14] (by kernel_rfl))
  · refine ex 0 ?_
    refine qx ?_
    cases H
    exact oe ⟨rfl, sh_gc [1,2,3,5,7,8,9,10,11] (by kernel_rfl)⟩
theorem FSixdotlaw03_sanity_ok {n : Nat}  {z : Bool} (H : FSixdotlaw03_sanity n = some z) : CallOK Try.prog 15 [] (.d (.bool z)) := by
  dsimp only [FSixdotlaw03_sanity] at H
  refine fo (Γ := cx 180) (s := f15_s0) follows (cxOK 180) Try.func15 ?_
  refine sr ?_
  refine ck 1 ?_
  refine en ?_
  refine sr ?_
  refine ck 1 ?_
  refine bx H fun r15 h52 H => ?_
  refine ca false (FSixdotlaw03_rule_ok h52) ?_
  refine ck 1 ?_
  refine bx H fun r16 h53 H => ?_
  refine ca false (FSixdotlaw03_rule_ok h53) ?_
  refine ck 1 ?_
  refine bx H fun r17 h54 H => ?_
  refine ca false (FSixdotlaw03_rule_ok h54) ?_
  refine ck 1 ?_
  refine bx H fun r18 h55 H => ?_
  refine ca false (FSixdotlaw03_rule_ok h55) ?_
  refine ck 4 ?_
  refine en ?_
  refine sr ?_
  refine ck 1 ?_
  refine bx H fun r19 h56 H => ?_
  refine ca false (FAutomaton_Start_ok h56) ?_
  refine bx H fun r20 h57 H => ?_
  refine cb (ks := [0]) (obl := [(0 + List.length [r15, r16, r17, r18], List.length (List.map eGRule [r15, r16, r17, r18]))]) false (leK (by simp) (leZ)) (consE (aggE (consE rfl (consE rfl (consE takeE rfl)))) (consE rfl (consE rfl rfl))) (FAutomaton_Step_ok h57) (Or.inr (by simp [flatR, flatT, flatA, flatC, D.flat, true_and])) rfl ?_
  refine ck 6 ?_
  refine en ?_
  refine sr ?_
  refine ck 2 ?_
  refine bx H fun r21 h58 H => ?_
  refine cb (ks := [0]) (obl := [(0 + List.length [r15, r16, r17, r18], List.length (List.map eGRule [r15, r16, r17, r18]))]) false (leK (by simp) (leZ)) (consE (aggE (consE rfl (consE rfl (consE takeE rfl)))) (consE rfl (consE rfl rfl))) (FAutomaton_Step_ok h58) (Or.inr (by simp [flatR, flatT, flatA, flatC, D.flat, true_and])) rfl ?_
  refine ck 6 ?_
  refine en ?_
  refine sr ?_
  refine ck 2 ?_
  refine bx H fun r22 h59 H => ?_
  refine cb (ks := [0]) (obl := [(0 + List.length [r15, r16, r17, r18], List.length (List.map eGRule [r15, r16, r17, r18]))]) false (leK (by simp) (leZ)) (consE (aggE (consE rfl (consE rfl (consE takeE rfl)))) (consE rfl (consE rfl rfl))) (FAutomaton_Step_ok h59) (Or.inr (by simp [flatR, flatT, flatA, flatC, D.flat, true_and])) rfl ?_
  refine ck 6 ?_
  refine en ?_
  refine sr ?_
  refine ck 2 ?_
  refine bx H fun r23 h60 H => ?_
  refine cb (ks := [0,5]) (obl := [(0 + List.length [r15, r16, r17, r18], List.length (List.map eGRule [r15, r16, r17, r18])), (0 + List.length [1,2,3,0], List.length (List.map eI64 [1,2,3,0]))]) false (leK (by simp) (leK (by simp) (leZ))) (consE (aggE (consE rfl (consE rfl (consE takeE rfl)))) (consE takeE rfl)) (FAutomaton_Run_ok h60) (Or.inr (by simp [flatR, flatT, flatA, flatC, D.flat, eU8])) rfl ?_
  refine ck 2 ?_
  refine en ?_
  refine sr ?_
  refine ck 2 ?_
  refine bx H fun r24 h61 H => ?_
  refine cb (ks := [0,7]) (obl := [(0 + List.length [r15, r16, r17, r18], List.length (List.map eGRule [r15, r16, r17, r18])), (0 + List.length [1,0], List.length (List.map eI64 [1,0]))]) false (leK (by simp) (leK (by simp) (leZ))) (consE (aggE (consE rfl (consE rfl (consE takeE rfl)))) (consE takeE rfl)) (FAutomaton_Run_ok h61) (Or.inr (by simp [flatR, flatT, flatA, flatC, D.flat, eU8])) rfl ?_
  refine ck 2 ?_
  refine en ?_
  refine sr ?_
  refine ck 2 ?_
  refine bx H fun r25 h62 H => ?_
  refine cb (ks := [0,9]) (obl := [(0 + List.length [r15, r16, r17, r18], List.length (List.map eGRule [r15, r16, r17, r18])), (0 + List.length [1], List.length (List.map eI64 [1]))]) false (leK (by simp) (leK (by simp) (leZ))) (consE (aggE (consE rfl (consE rfl (consE takeE rfl)))) (consE takeE rfl)) (FAutomaton_Run_ok h62) (Or.inr (by simp [flatR, flatT, flatA, flatC, D.flat, eU8])) rfl ?_
  refine ck 2 ?_
  refine en ?_
  refine sq ?_
  refine rg (sh_frzc (k := 0) (sz := 6) 1 2 (List.map eGRule [r15, r16, r17, r18]) (by kernel_rfl) take_all (by simp)) ?_
  refine ck 1 ?_
  refine bx H fun r26 h63 H => ?_
  refine ca false (FAutomaton_States_ok h63) ?_
  refine ck 10 ?_
  refine en ?_
  refine sr ?_
  refine ck 1 ?_
  refine bx H fun r27 h64 H => ?_
  refine ca false (FAutomaton_Alive_ok h64) ?_
  refine ck 1 ?_
  refine en ?_
  refine sq ?_
  refine sr ?_
  refine ck 1 ?_
  refine sp (at_len eGState r26) ?_
  refine ck 5 ?_
  refine sG (g := (!(((List.length r26 : Nat) : Int) != ((List.length [({ Mode := 0, Last := 0, Need := 63 } : GState), ({ Mode := 0, Last := 1, Need := 63 } : GState), ({ Mode := 1, Last := 0, Need := 8 } : GState), ({ Mode := 1, Last := 1, Need := 8 } : GState), ({ Mode := 1, Last := 3, Need := 63 } : GState), ({ Mode := 0, Last := 4, Need := 63 } : GState), ({ Mode := 1, Last := 4, Need := 8 } : GState)] : Nat) : Int)))) (fun hg => at_len eB r27) (impK (fun hh => hh) (impZ)) ?_
  refine ck 1 ?_
  refine gc 2 (!(((List.length r26 : Nat) : Int) != ((List.length [({ Mode := 0, Last := 0, Need := 63 } : GState), ({ Mode := 0, Last := 1, Need := 63 } : GState), ({ Mode := 1, Last := 0, Need := 8 } : GState), ({ Mode := 1, Last := 1, Need := 8 } : GState), ({ Mode := 1, Last := 3, Need := 63 } : GState), ({ Mode := 0, Last := 4, Need := 63 } : GState), ({ Mode := 1, Last := 4, Need := 8 } : GState)] : Nat) : Int))) ?_
  refine pO ?_
  refine en ?_
  refine cn H (fun H => ?_) (fun H => ?_)
  · refine sr ?_
    refine ck 1 ?_
    refine en ?_
    refine re ?_
    refine qr ?_
    injection H with H
    subst H
    exact pr (rd)
  · refine sk ?_
    refine qz ?_
    refine sq ?_
    refine sr ?_
    refine ck 1 ?_
    refine en ?_
    refine bk 0 ?_
    refine bx H fun y10 h68 H => ?_
    rcases y10 with y11 | y12
    · refine lp (fun (x : Int) => f15_s1 r15 r16 r17 r18 r20 r21 r22 r23 r24 r25 r26 r27 x) (FSixdotlaw03_sanity_L1_E r15 r16 r17 r18 r20 r21 r22 r23 r24 r25 r26 r27) h68 (sh_gc [1,2,3,5,7,8,9,10,11,12,13,14] (by kernel_rfl)) (fun x z => FSixdotlaw03_sanity_L1_ok x z) ?_
      intro e s hE9
      obtain ⟨rfl, hE9⟩ := hE9
      refine qH ?_
      refine qs (hE9) ?_
      refine sr ?_
      refine ck 4 ?_
      refine gc 1 r20.2 ?_
      refine pA ?_
      refine ck 2 ?_
      refine gc 1 (r20.2 && ((r20.1.Mode == 1) && ((r20.1.Last == 0) && ((r20.1.Need == 8) && true)))) ?_
      refine pA ?_
      refine ck 2 ?_
      refine gc 1 ((r20.2 && ((r20.1.Mode == 1) && ((r20.1.Last == 0) && ((r20.1.Need == 8) && true)))) && (!r21.2)) ?_
      refine pA ?_
      refine ck 1 ?_
      refine bx H fun r28 h69 H => ?_
      refine cG false (leZ) rfl (fun hg => FAutomaton_Start_ok (gimp h69 hg)) (Or.inl rfl) (impZ) rfl ?_
      refine ck 1 ?_
      refine gc 1 (((r20.2 && ((r20.1.Mode == 1) && ((r20.1.Last == 0) && ((r20.1.Need == 8) && true)))) && (!r21.2)) && (!r22.2)) ?_
      refine pA ?_
      refine ck 1 ?_
      refine en ?_
      refine sr ?_
      refine ck 4 ?_
      refine gc 2 r23.Ok ?_
      refine pA ?_
      refine ck 2 ?_
      refine gc 1 (r23.Ok && (r23.Text == [49,32,97])) ?_
      refine ck 1 ?_
      refine bx H fun r29 h70 H => ?_
      refine cG (ks := [5]) (obl := [(0 + List.length [60,1,0,1], List.length (List.map eU8 [60,1,0,1]))]) false (leK (by simp) (leZ)) (consE rfl (consE takeE rfl)) (fun hg => FSixdotref02_SameCells_ok (gimp h70 hg)) (Or.inr (by simp [flatR, flatT, flatA, flatC, D.flat, true_and])) (impK (fun hh => hh) (impK (fun hh => hh) (impZ))) rfl ?_
      refine pA ?_
      refine ck 2 ?_
      refine gc 2 ((r23.Ok && (r23.Text == [49,32,97])) && r29) ?_
      refine pA ?_
      refine ck 2 ?_
      refine gc 2 (((r23.Ok && (r23.Text == [49,32,97])) && r29) && (r23.At == 4)) ?_
      refine pA ?_
      refine ck 2 ?_
      refine gc 2 ((((r23.Ok && (r23.Text == [49,32,97])) && r29) && (r23.At == 4)) && (r24.At == 1)) ?_
      refine pA ?_
      refine ck 2 ?_
      refine gc 2 (((((r23.Ok && (r23.Text == [49,32,97])) && r29) && (r23.At == 4)) && (r24.At == 1)) && (!r24.Ok)) ?_
      refine pA ?_
      refine ck 2 ?_
      refine gc 2 ((((((r23.Ok && (r23.Text == [49,32,97])) && r29) && (r23.At == 4)) && (r24.At == 1)) && (!r24.Ok)) && (r25.At == 1)) ?_
      refine pA ?_
      refine ck 1 ?_
      refine en ?_
      refine sr ?_
      refine ck 3 ?_
      refine pA ?_
      refine ck 3 ?_
      refine bx H fun x19 h71 H => ?_
      refine sG (fun hg => at_idxD eGState (gimp h71 hg)) (impK (fun hh => hh) (impZ)) ?_
      refine gc 1 (((((r20.2 && ((r20.1.Mode == 1) && ((r20.1.Last == 0) && ((r20.1.Need == 8) && true)))) && (!r21.2)) && (!r22.2)) && ((r28.Mode == 0) && ((r28.Last == 0) && ((r28.Need == 63) && true)))) && (((((((r23.Ok && (r23.Text == [49,32,97])) && r29) && (r23.At == 4)) && (r24.At == 1)) && (!r24.Ok)) && (r25.At == 1)) && (!r25.Ok))) ?_
      refine bx H fun r30 h72 H => ?_
      refine cG false (leZ) rfl (fun hg => FAutomaton_Accepts_ok (gimp h72 hg)) (Or.inl rfl) (impK (fun hh => hh) (impK (fun hh => hh) (impZ))) rfl ?_
      refine pA ?_
      refine ck 3 ?_
      refine bx H fun r31 h73 H => ?_
      refine cG false (leZ) rfl (fun hg => FAutomaton_Accepts_ok (gimp h73 hg)) (Or.inl rfl) (impK (fun hh => hh) (impK (fun hh => hh) (impZ))) rfl ?_
      refine gc 1 ((((((r20.2 && ((r20.1.Mode == 1) && ((r20.1.Last == 0) && ((r20.1.Need == 8) && true)))) && (!r21.2)) && (!r22.2)) && ((r28.Mode == 0) && ((r28.Last == 0) && ((r28.Need == 63) && true)))) && (((((((r23.Ok && (r23.Text == [49,32,97])) && r29) && (r23.At == 4)) && (r24.At == 1)) && (!r24.Ok)) && (r25.At == 1)) && (!r25.Ok))) && r30) ?_
      refine pA ?_
      refine ck 3 ?_
      refine bx H fun r32 h74 H => ?_
      refine cG false (leZ) rfl (fun hg => FAutomaton_Accepts_ok (gimp h74 hg)) (Or.inl rfl) (impK (fun hh => hh) (impK (fun hh => hh) (impZ))) rfl ?_
      refine gc 1 (((((((r20.2 && ((r20.1.Mode == 1) && ((r20.1.Last == 0) && ((r20.1.Need == 8) && true)))) && (!r21.2)) && (!r22.2)) && ((r28.Mode == 0) && ((r28.Last == 0) && ((r28.Need == 63) && true)))) && (((((((r23.Ok && (r23.Text == [49,32,97])) && r29) && (r23.At == 4)) && (r24.At == 1)) && (!r24.Ok)) && (r25.At == 1)) && (!r25.Ok))) && r30) && (!r31)) ?_
      refine pA ?_
      refine ck 1 ?_
      refine en ?_
      refine re ?_
      injection H with H
      subst H
      exact pr (rd)
    · refine lp (fun (x : Int) => f15_s1 r15 r16 r17 r18 r20 r21 r22 r23 r24 r25 r26 r27 x) (FSixdotlaw03_sanity_L1_E r15 r16 r17 r18 r20 r21 r22 r23 r24 r25 r26 r27) h68 (sh_gc [1,2,3,5,7,8,9,10,11,12,13,14] (by kernel_rfl)) (fun x z => FSixdotlaw03_sanity_L1_ok x z) ?_
      intro e s hE10
      obtain ⟨rfl, hE10⟩ := hE10
      refine qR ?_
      refine qr ?_
      cases H
      exact pr hE10
end
section
variable (p0_ : (List UInt8)) (p1_ : (List Int)) (p2_ : (Arr2 Int))
def f68_s1 : St := ⟨(0, .d (.str p0_)) :: (1, .d (.sl (List.map eU8 p1_))) :: (2, .agg [.d (.int .i64 p2_.a0), .d (.int .i64 p2_.a1)]) :: [], []⟩
theorem FSixdotref02_simple_ok {n : Nat} {p0_ : (List UInt8)} {p1_ : (List Int)} {p2_ : (Arr2 Int)} {z : GRule} (H : FSixdotref02_simple n p0_ p1_ p2_ = some z) : CallOK Try.prog 68 [.d (.str p0_), .d (.sl (List.map eU8 p1_)), .agg [.d (.int .i64 p2_.a0), .d (.int .i64 p2_.a1)]] (.agg [.d (.str z.Print), .d (.sl (List.map eU8 z.Cells)), .d (.int .u8 z.Left), .d (.int .u8 z.Right), .d (.int .i64 z.From), .d (.int .i64 z.To)]) := by
  dsimp only [FSixdotref02_simple] at H
  refine fo (Γ := cx 14) (s := f68_s1 p0_ p1_ p2_) follows (cxOK 14) Try.func68 ?_
  refine sr ?_
  refine ck 2 ?_
  refine en ?_
  refine sr ?_
  refine ck 8 ?_
  refine en ?_
  refine re ?_
  injection H with H
  subst H
  exact pr (rd)
end
def f66_s0 : St := ⟨[], []⟩
theorem FSixdotref02_letters_ok {n : Nat}  {z : (List GRule)} (H : FSixdotref02_letters n = some z) : CallOK Try.prog 66 [] (.own 6 (List.map eGRule z)) := by
  dsimp only [FSixdotref02_letters] at H
  refine fo (Γ := cx 16) (s := f66_s0) follows (cxOK 16) Try.func66 ?_
  refine sr ?_
  refine ck 1 ?_
  refine en ?_
  refine sr ?_
  refine ck 3 ?_
  refine en ?_
  refine sr ?_
  refine sF ?_
  refine ck 1 ?_
  refine bx H fun r33 h75 H => ?_
  refine ca false (FSixdotref02_simple_ok h75) ?_
  refine sF ?_
  refine ck 1 ?_
  refine bx H fun r34 h76 H => ?_
  refine ca false (FSixdotref02_simple_ok h76) ?_
  refine sF ?_
  refine ck 1 ?_
  refine bx H fun r35 h77 H => ?_
  refine ca false (FSixdotref02_simple_ok h77) ?_
  refine sF ?_
  refine ck 1 ?_
  refine bx H fun r36 h78 H => ?_
  refine ca false (FSixdotref02_simple_ok h78) ?_
  refine ck 2 ?_
  refine en ?_
  refine re ?_
  injection H with H
  subst H
  exact pr (rO (v := .osl 1 6 0 (List.length [r33, r34, r35, r36])) [1] (ao vo))
section
variable (p0_ : Int) (p1_ : Int) (p2_ : (Arr2 Int))
def f67_s1 : St := ⟨(0, .d (.int .u8 p0_)) :: (1, .d (.int .i64 p1_)) :: (2, .agg [.d (.int .i64 p2_.a0), .d (.int .i64 p2_.a1)]) :: [], []⟩
theorem FSixdotref02_indicator_ok {n : Nat} {p0_ : Int} {p1_ : Int} {p2_ : (Arr2 Int)} {z : GRule} (H : FSixdotref02_indicator n p0_ p1_ p2_ = some z) : CallOK Try.prog 67 [.d (.int .u8 p0_), .d (.int .i64 p1_), .agg [.d (.int .i64 p2_.a0), .d (.int .i64 p2_.a1)]] (.agg [.d (.str z.Print), .d (.sl (List.map eU8 z.Cells)), .d (.int .u8 z.Left), .d (.int .u8 z.Right), .d (.int .i64 z.From), .d (.int .i64 z.To)]) := by
  dsimp only [FSixdotref02_indicator] at H
  refine fo (Γ := cx 16) (s := f67_s1 p0_ p1_ p2_) follows (cxOK 16) Try.func67 ?_
  refine sr ?_
  refine ck 2 ?_
  refine en ?_
  refine sr ?_
  refine ck 1 ?_
  refine sF ?_
  refine ck 1 ?_
  refine bx H fun r37 h79 H => ?_
  refine ca false (FSixdotref02_simple_ok h79) ?_
  refine ck 2 ?_
  refine en ?_
  refine sr ?_
  refine ck 1 ?_
  refine bx H fun u2 h80 H => ?_
  refine so (guard_ge h80) ?_
  refine ck 2 ?_
  refine en ?_
  refine sr ?_
  refine ck 2 ?_
  refine en ?_
  refine re ?_
  injection H with H
  subst H
  exact pr (rd)
end
section
variable (p0_ : Int)
def f50_s1 : St := ⟨(0, .d (.int .u8 p0_)) :: [], []⟩
variable (l_1 : (List GRule))
def f50_s2 : St := ⟨(2, .ptr 0 0) :: (3, .osl 1 6 0 (List.length l_1)) :: [], [some (.box [.d (.int .i64 0), .d (.int .u8 0), .osl 2 6 0 (List.length ([] : List GRule))]), some (.arr 6 (List.map eGRule l_1)), some (.arr 6 (List.map eGRule ([] : List GRule)))]⟩
theorem FSixdotref02_Base_ok {n : Nat} {p0_ : Int} {z : GTable} (H : FSixdotref02_Base n p0_ = some z) : CallOK Try.prog 50 [.d (.int .u8 p0_)] (.agg [.d (.int .i64 z.Modes), .d (.int .u8 z.Accept), .own 6 (List.map eGRule z.Rules)]) := by
  dsimp only [FSixdotref02_Base] at H
  refine fo (Γ := cx 121) (s := f50_s1 p0_) follows (cxOK 121) Try.func50 ?_
  refine sr ?_
  refine ck 1 ?_
  refine en ?_
  refine sr ?_
  refine bx H fun r38 h81 H => ?_
  refine cl [List.length r38] (FSixdotref02_letters_ok h81) ?_
  refine ck 13 ?_
  refine en ?_
  refine sj (fun (x : (List GRule)) => f50_s2 x) (fun (x : (List GRule)) => FSixdotref02_Base_J1 n x) z ?_ (fun hFSixdotref02_Base_J1 => ?_)
  · intro l_1 H
    dsimp only [FSixdotref02_Base_J1] at H
    refine sr ?_
    refine ck 3 ?_
    refine en ?_
    refine re ?_
    injection H with H
    subst H
    exact pr (rO (v := .agg [.d (.int .i64 1), .d (.int .u8 1), .osl 1 6 0 (List.length l_1)]) [1] (a1 (c1 vd (c1 vd (c1 vo (c0))))))
  refine sr ?_
  refine ck 2 ?_
  refine en ?_
  refine bk 0 ?_
  refine sr ?_
  refine ck 2 ?_
  refine en ?_
  refine cn H (fun H => ?_) (fun H => ?_)
  · refine sr ?_
    refine ck 2 ?_
    refine bx H fun r39 h82 H => ?_
    refine ca false (FSixdotref02_indicator_ok h82) ?_
    refine sF ?_
    refine ck 1 ?_
    refine bx H fun r40 h83 H => ?_
    refine ca false (FSixdotref02_simple_ok h83) ?_
    refine sF ?_
    refine ck 1 ?_
    refine bx H fun r41 h84 H => ?_
    refine ca false (FSixdotref02_simple_ok h84) ?_
    refine sF ?_
    refine ck 1 ?_
    refine bx H fun r42 h85 H => ?_
    refine ca false (FSixdotref02_simple_ok h85) ?_
    refine ck 1 ?_
    refine bx H fun l12 h86 H => ?_
    refine sp (at_appO eGRule 1 6 h86) ?_
    refine ck 1 ?_
    refine en ?_
    refine sr ?_
    refine ck 3 ?_
    refine en ?_
    refine re ?_
    refine qR ?_
    refine qr ?_
    injection H with H
    subst H
    exact pr (rO (v := .agg [.d (.int .i64 2), .d (.int .u8 3), .osl 7 6 0 (List.length l12)]) [7] (a1 (c1 vd (c1 vd (c1 vo (c0))))))
  · refine sr ?_
    refine ck 2 ?_
    refine en ?_
    refine cn H (fun H => ?_) (fun H => ?_)
    · refine sr ?_
      refine ck 2 ?_
      refine bx H fun r43 h87 H => ?_
      refine ca false (FSixdotref02_indicator_ok h87) ?_
      refine sF ?_
      refine ck 1 ?_
      refine bx H fun r44 h88 H => ?_
      refine ca false (FSixdotref02_simple_ok h88) ?_
      refine sF ?_
      refine ck 1 ?_
      refine bx H fun r45 h89 H => ?_
      refine ca false (FSixdotref02_simple_ok h89) ?_
      refine ck 1 ?_
      refine bx H fun l13 h90 H => ?_
      refine sp (at_appO eGRule 1 6 h90) ?_
      refine ck 1 ?_
      refine en ?_
      refine sr ?_
      refine ck 3 ?_
      refine en ?_
      refine re ?_
      refine qR ?_
      refine qr ?_
      injection H with H
      subst H
      exact pr (rO (v := .agg [.d (.int .i64 2), .d (.int .u8 1), .osl 7 6 0 (List.length l13)]) [7] (a1 (c1 vd (c1 vd (c1 vo (c0))))))
    · refine sr ?_
      refine ck 2 ?_
      refine en ?_
      refine cn H (fun H => ?_) (fun H => ?_)
      · refine rz ?_
        refine ck 1 ?_
        refine sF ?_
        refine ck 1 ?_
        refine bx H fun r46 h91 H => ?_
        refine ca false (FSixdotref02_simple_ok h91) ?_
        refine sF ?_
        refine ck 1 ?_
        refine bx H fun r47 h92 H => ?_
        refine ca false (FSixdotref02_simple_ok h92) ?_
        refine sF ?_
        refine ck 1 ?_
        refine bx H fun r48 h93 H => ?_
        refine ca false (FSixdotref02_simple_ok h93) ?_
        refine ck 1 ?_
        refine bx H fun l14 h94 H => ?_
        refine sp (at_appO eGRule 1 6 h94) ?_
        refine ck 1 ?_
        refine ae ?_
        refine qN ?_
        exact qs (Shift.trans (sh_nilc 0 2 6 (by kernel_rfl)) (sh_gc [2,3] (by kernel_rfl))) (hFSixdotref02_Base_J1 l14 H)
      · refine sr ?_
        refine ck 2 ?_
        refine en ?_
        refine cn H (fun H => ?_) (fun H => ?_)
        · refine rz ?_
          refine ck 1 ?_
          refine sF ?_
          refine ck 1 ?_
          refine bx H fun r49 h95 H => ?_
          refine ca false (FSixdotref02_simple_ok h95) ?_
          refine ck 1 ?_
          refine bx H fun l15 h96 H => ?_
          refine sp (at_appO eGRule 1 6 h96) ?_
          refine ck 1 ?_
          refine ae ?_
          refine qN ?_
          exact qs (Shift.trans (sh_nilc 0 2 6 (by kernel_rfl)) (sh_gc [2,3] (by kernel_rfl))) (hFSixdotref02_Base_J1 l15 H)
        · refine sr ?_
          refine ck 2 ?_
          refine en ?_
          refine cn H (fun H => ?_) (fun H => ?_)
          · refine sr ?_
            refine sF ?_
            refine ck 1 ?_
            refine bx H fun r50 h97 H => ?_
            refine ca false (FSixdotref02_simple_ok h97) ?_
            refine sF ?_
            refine ck 1 ?_
            refine bx H fun r51 h98 H => ?_
            refine ca false (FSixdotref02_simple_ok h98) ?_
            refine ck 4 ?_
            refine en ?_
            refine sr ?_
            refine ck 4 ?_
            refine en ?_
            refine rz ?_
            refine ck 3 ?_
            refine sF ?_
            refine ck 1 ?_
            refine bx H fun r52 h99 H => ?_
            refine ca false (FSixdotref02_simple_ok h99) ?_
            refine ck 1 ?_
            refine bx H fun l16 h100 H => ?_
            refine sp (at_appO eGRule 1 6 h100) ?_
            refine ck 1 ?_
            refine ae ?_
            refine qN ?_
            exact qs (Shift.trans (sh_nilc 0 2 6 (by kernel_rfl)) (sh_gc [2,3] (by kernel_rfl))) (hFSixdotref02_Base_J1 l16 H)
          · refine sr ?_
            refine ck 2 ?_
            refine en ?_
            refine cn H (fun H => ?_) (fun H => ?_)
            · refine sr ?_
              refine ck 2 ?_
              refine bx H fun r53 h101 H => ?_
              refine ca false (FSixdotref02_indicator_ok h101) ?_
              refine sF ?_
              refine ck 1 ?_
              refine bx H fun r54 h102 H => ?_
              refine ca false (FSixdotref02_simple_ok h102) ?_
              refine sF ?_
              refine ck 1 ?_
              refine bx H fun r55 h103 H => ?_
              refine ca false (FSixdotref02_simple_ok h103) ?_
              refine ck 1 ?_
              refine bx H fun l17 h104 H => ?_
              refine sp (at_appO eGRule 1 6 h104) ?_
              refine ck 1 ?_
              refine en ?_
              refine sr ?_
              refine ck 3 ?_
              refine en ?_
              refine re ?_
              refine qR ?_
              refine qr ?_
              injection H with H
              subst H
              exact pr (rO (v := .agg [.d (.int .i64 2), .d (.int .u8 1), .osl 7 6 0 (List.length l17)]) [7] (a1 (c1 vd (c1 vd (c1 vo (c0))))))
            · refine sr ?_
              refine ck 2 ?_
              refine en ?_
              refine cn H (fun H => ?_) (fun H => ?_)
              · refine rz ?_
                refine ck 1 ?_
                refine sF ?_
                refine ck 1 ?_
                refine bx H fun r56 h105 H => ?_
                refine ca false (FSixdotref02_simple_ok h105) ?_
                refine sF ?_
                refine ck 1 ?_
                refine bx H fun r57 h106 H => ?_
                refine ca false (FSixdotref02_simple_ok h106) ?_
                refine sF ?_
                refine ck 1 ?_
                refine bx H fun r58 h107 H => ?_
                refine ca false (FSixdotref02_simple_ok h107) ?_
                refine ck 1 ?_
                refine bx H fun l18 h108 H => ?_
                refine sp (at_appO eGRule 1 6 h108) ?_
                refine ck 1 ?_
                refine ae ?_
                refine qN ?_
                exact qs (Shift.trans (sh_nilc 0 2 6 (by kernel_rfl)) (sh_gc [2,3] (by kernel_rfl))) (hFSixdotref02_Base_J1 l18 H)
              · refine sk ?_
                refine qN ?_
                exact qs (Shift.trans (sh_nilc 0 2 6 (by kernel_rfl)) (sh_gc [2,3] (by kernel_rfl))) (hFSixdotref02_Base_J1 r38 H)
end
section
variable (p0_ : GRawRule) (p1_ : Int)
def f37_s1 : St := ⟨(0, .agg [.d (.sl (List.map eU8 p0_.P)), .d (.sl (List.map eU8 p0_.C)), .d (.int .u8 p0_.L), .d (.int .u8 p0_.R), .d (.int .u8 p0_.W.a0), .d (.int .u8 p0_.W.a1)]) :: (1, .d (.int .i64 p1_)) :: [], []⟩
variable (x20 : Int) (x21 : Int) (out_1 : (List UInt8)) (i_3 : Int)
def f37_s2 : St := ⟨(2, .ptr 0 0) :: (4, .ptr 1 0) :: (5, .d (.str [97,98,99,65,66,49,50,45,46])) :: (7, .ptr 2 0) :: (8, .d (.int .i64 i_3)) :: [], [some (.box [.d (.sl (List.map eU8 p0_.P)), .d (.sl (List.map eU8 p0_.C)), .d (.int .u8 p0_.L), .d (.int .u8 p0_.R), .d (.int .u8 p0_.W.a0), .d (.int .u8 p0_.W.a1)]), some (.box [.d (.str []), .osl 3 1 0 (List.length ([] : List Int)), .d (.int .u8 0), .d (.int .u8 0), .d (.int .i64 0), .d (.int .i64 0)]), some (.box [.d (.str out_1), .osl 4 1 0 (List.length ([] : List Int)), .d (.int .u8 x20), .d (.int .u8 x21), .d (.int .i64 (irem (IntKind.i64.wrap p0_.W.a0) p1_)), .d (.int .i64 (irem (IntKind.i64.wrap p0_.W.a1) p1_))]), some (.arr 1 (List.map eU8 ([] : List Int))), some (.arr 1 (List.map eU8 ([] : List Int)))]⟩
variable (out_2 : (List UInt8))
def f37_s3 : St := ⟨(2, .ptr 0 0) :: (4, .ptr 1 0) :: (7, .ptr 2 0) :: [], [some (.box [.d (.sl (List.map eU8 p0_.P)), .d (.sl (List.map eU8 p0_.C)), .d (.int .u8 p0_.L), .d (.int .u8 p0_.R), .d (.int .u8 p0_.W.a0), .d (.int .u8 p0_.W.a1)]), some (.box [.d (.str []), .osl 3 1 0 (List.length ([] : List Int)), .d (.int .u8 0), .d (.int .u8 0), .d (.int .i64 0), .d (.int .i64 0)]), some (.box [.d (.str out_2), .osl 4 1 0 (List.length ([] : List Int)), .d (.int .u8 x20), .d (.int .u8 x21), .d (.int .i64 (irem (IntKind.i64.wrap p0_.W.a0) p1_)), .d (.int .i64 (irem (IntKind.i64.wrap p0_.W.a1) p1_))]), some (.arr 1 (List.map eU8 ([] : List Int))), some (.arr 1 (List.map eU8 ([] : List Int)))]⟩
def FSixdotref02_Rule_L1_E (p0_ : GRawRule) (p1_ : Int) (x20 : Int) (x21 : Int) : (List UInt8) → Ex → St → Prop := fun (y : (List UInt8)) e s => e = Ex.exit 0 ∧ Shift s (f37_s3 p0_ p1_ x20 x21 y)
theorem FSixdotref02_Rule_L1_ok {n : Nat} {p0_ : GRawRule} {p1_ : Int} {x20 : Int} {x21 : Int} (x : ((List UInt8) × Int)) (z : (((List UInt8) × Int) ⊕ (List UInt8))) (H : FSixdotref02_Rule_L1 n p0_ p1_ x20 x21 x.1 x.2 = some z) : WP (cx 101) (bodyOf Try.f37) [1,1,1,0,1,0,0] (roundQ (fun (x : ((List UInt8) × Int)) => f37_s2 p0_ p1_ x20 x21 x.1 x.2) (FSixdotref02_Rule_L1_E p0_ p1_ x20 x21) z) (f37_s2 p0_ p1_ x20 x21 x.1 x.2) := by
  obtain ⟨out_1, i_3⟩ := x
  dsimp only [FSixdotref02_Rule_L1] at H
  refine sq ?_
  refine sr ?_
  refine ck 3 ?_
  refine sp (at_len eU8 p0_.P) ?_
  refine ck 3 ?_
  refine gc 1 (decide (i_3 < ((List.length p0_.P : Nat) : Int))) ?_
  refine pA ?_
  refine en ?_
  refine cn H (fun H => ?_) (fun H => ?_)
  · refine sk ?_
    refine qz ?_
    refine sq ?_
    refine bk 1 ?_
    refine sr ?_
    refine ck 3 ?_
    refine bx H fun x22 h113 H => ?_
    refine sp (at_idxD eU8 h113) ?_
    refine ck 4 ?_
    refine en ?_
    refine rz ?_
    refine ck 6 ?_
    refine bx H fun s2 h114 H => ?_
    refine sp (at_ssub h114) ?_
    refine bx H fun s3 h115 H => ?_
    refine sp (at_cat h115) ?_
    refine ck 2 ?_
    refine ae ?_
    refine qN ?_
    refine qz ?_
    refine rz ?_
    refine ck 3 ?_
    refine ae ?_
    cases H
    exact og (sh_gc [2,4,5,7,8] (by kernel_rfl))
  · refine ex 0 ?_
    refine qx ?_
    cases H
    exact oe ⟨rfl, sh_gc [2,4,7] (by kernel_rfl)⟩
variable (y13 : (List UInt8)) (out_3 : (List Int)) (i_4 : Int)
def f37_s4 : St := ⟨(2, .ptr 0 0) :: (4, .ptr 1 0) :: (7, .ptr 2 0) :: (10, .osl 3 1 0 (List.length [1,3,9,5,7,32,44,60])) :: (11, .d (.int .i64 i_4)) :: [], [some (.box [.d (.sl (List.map eU8 p0_.P)), .d (.sl (List.map eU8 p0_.C)), .d (.int .u8 p0_.L), .d (.int .u8 p0_.R), .d (.int .u8 p0_.W.a0), .d (.int .u8 p0_.W.a1)]), some (.box [.d (.str []), .osl 4 1 0 (List.length ([] : List Int)), .d (.int .u8 0), .d (.int .u8 0), .d (.int .i64 0), .d (.int .i64 0)]), some (.box [.d (.str y13), .osl 5 1 0 (List.length out_3), .d (.int .u8 x20), .d (.int .u8 x21), .d (.int .i64 (irem (IntKind.i64.wrap p0_.W.a0) p1_)), .d (.int .i64 (irem (IntKind.i64.wrap p0_.W.a1) p1_))]), some (.arr 1 (List.map eU8 [1,3,9,5,7,32,44,60])), some (.arr 1 (List.map eU8 ([] : List Int))), some (.arr 1 (List.map eU8 out_3))]⟩
variable (out_4 : (List Int))
def f37_s5 : St := ⟨(4, .ptr 0 0) :: (7, .ptr 1 0) :: [], [some (.box [.d (.str []), .osl 2 1 0 (List.length ([] : List Int)), .d (.int .u8 0), .d (.int .u8 0), .d (.int .i64 0), .d (.int .i64 0)]), some (.box [.d (.str y13), .osl 3 1 0 (List.length out_4), .d (.int .u8 x20), .d (.int .u8 x21), .d (.int .i64 (irem (IntKind.i64.wrap p0_.W.a0) p1_)), .d (.int .i64 (irem (IntKind.i64.wrap p0_.W.a1) p1_))]), some (.arr 1 (List.map eU8 ([] : List Int))), some (.arr 1 (List.map eU8 out_4))]⟩
def FSixdotref02_Rule_L2_E (p0_ : GRawRule) (p1_ : Int) (x20 : Int) (x21 : Int) (y13 : (List UInt8)) : (List Int) → Ex → St → Prop := fun (y : (List Int)) e s => e = Ex.exit 2 ∧ Shift s (f37_s5 p0_ p1_ x20 x21 y13 y)
theorem FSixdotref02_Rule_L2_ok {n : Nat} {p0_ : GRawRule} {p1_ : Int} {x20 : Int} {x21 : Int} {y13 : (List UInt8)} (x : ((List Int) × Int)) (z : (((List Int) × Int) ⊕ (List Int))) (H : FSixdotref02_Rule_L2 n p0_ p1_ x20 x21 y13 x.1 x.2 = some z) : WP (cx 101) (bodyOf Try.f37) [1,1,1,1,1,1,0,1,0,0] (roundQ (fun (x : ((List Int) × Int)) => f37_s4 p0_ p1_ x20 x21 y13 x.1 x.2) (FSixdotref02_Rule_L2_E p0_ p1_ x20 x21 y13) z) (f37_s4 p0_ p1_ x20 x21 y13 x.1 x.2) := by
  obtain ⟨out_3, i_4⟩ := x
  dsimp only [FSixdotref02_Rule_L2] at H
  refine sq ?_
  refine sr ?_
  refine ck 3 ?_
  refine sp (at_len eU8 p0_.C) ?_
  refine ck 3 ?_
  refine gc 1 (decide (i_4 < ((List.length p0_.C : Nat) : Int))) ?_
  refine pA ?_
  refine en ?_
  refine cn H (fun H => ?_) (fun H => ?_)
  · refine sk ?_
    refine qz ?_
    refine sq ?_
    refine bk 3 ?_
    refine rz ?_
    refine ck 6 ?_
    refine bx H fun x24 h118 H => ?_
    refine sp (at_idxD eU8 h118) ?_
    refine ck 2 ?_
    refine bx H fun x25 h119 H => ?_
    refine sp (at_idxO 3 1 h119) ?_
    refine sp (at_ldA eU8 3 0 (ty 64) h119) ?_
    refine ck 1 ?_
    refine bx H fun l19 h120 H => ?_
    refine sp (at_appO eU8 5 1 h120) ?_
    refine ck 2 ?_
    refine ae ?_
    refine qN ?_
    refine qz ?_
    refine rz ?_
    refine ck 3 ?_
    refine ae ?_
    cases H
    exact og (sh_gc [2,4,7,10,11] (by kernel_rfl))
  · refine ex 2 ?_
    refine qx ?_
    cases H
    exact oe ⟨rfl, sh_gc [4,7] (by kernel_rfl)⟩
theorem FSixdotref02_Rule_ok {n : Nat} {p0_ : GRawRule} {p1_ : Int} {z : GRule} (H : FSixdotref02_Rule n p0_ p1_ = some z) : CallOK Try.prog 37 [.agg [.d (.sl (List.map eU8 p0_.P)), .d (.sl (List.map eU8 p0_.C)), .d (.int .u8 p0_.L), .d (.int .u8 p0_.R), .d (.int .u8 p0_.W.a0), .d (.int .u8 p0_.W.a1)], .d (.int .i64 p1_)] (.agg [.d (.str z.Print), .own 1 (List.map eU8 z.Cells), .d (.int .u8 z.Left), .d (.int .u8 z.Right), .d (.int .i64 z.From), .d (.int .i64 z.To)]) := by
  dsimp only [FSixdotref02_Rule] at H
  refine fo (Γ := cx 101) (s := f37_s1 p0_ p1_) follows (cxOK 101) Try.func37 ?_
  refine sr ?_
  refine ck 2 ?_
  refine en ?_
  refine sr ?_
  refine ck 3 ?_
  refine en ?_
  refine sr ?_
  refine ck 4 ?_
  refine bx H fun x20 h109 H => ?_
  refine sp (at_idxO 2 1 h109) ?_
  refine sp (at_ldA eU8 2 0 (ty 5) h109) ?_
  refine ck 4 ?_
  refine bx H fun x21 h110 H => ?_
  refine sp (at_idxO 2 1 h110) ?_
  refine sp (at_ldA eU8 2 0 (ty 5) h110) ?_
  refine ck 5 ?_
  refine bx H fun u3 h111 H => ?_
  refine so (guard_nz h111) ?_
  refine ck 5 ?_
  refine bx H fun u4 h112 H => ?_
  refine so (guard_nz h112) ?_
  refine ck 3 ?_
  refine en ?_
  refine sq ?_
  refine sr ?_
  refine ck 1 ?_
  refine en ?_
  refine bk 0 ?_
  refine bx H fun y13 h116 H => ?_
  refine lp (fun (x : ((List UInt8) × Int)) => f37_s2 p0_ p1_ x20 x21 x.1 x.2) (FSixdotref02_Rule_L1_E p0_ p1_ x20 x21) h116 (Shift.trans (Shift.trans (sh_nilc 1 1 1 (by kernel_rfl)) (sh_nilc 3 1 1 (by kernel_rfl))) (sh_gc [2,4,5,7,8] (by kernel_rfl))) (fun x z => FSixdotref02_Rule_L1_ok x z) ?_
  intro e s hE11
  obtain ⟨rfl, hE11⟩ := hE11
  refine qH ?_
  refine qs (hE11) ?_
  refine sr ?_
  refine ck 2 ?_
  refine en ?_
  refine sr ?_
  refine ck 5 ?_
  refine bx H fun x23 h117 H => ?_
  refine sp (at_idxO 5 1 h117) ?_
  refine sp (at_ldA eU8 5 0 (ty 64) h117) ?_
  refine ck 3 ?_
  refine en ?_
  refine sq ?_
  refine sr ?_
  refine ck 1 ?_
  refine en ?_
  refine bk 2 ?_
  refine bx H fun y14 h121 H => ?_
  refine lp (fun (x : ((List Int) × Int)) => f37_s4 p0_ p1_ x20 x21 y13 x.1 x.2) (FSixdotref02_Rule_L2_E p0_ p1_ x20 x21 y13) h121 (sh_gc [2,4,7,10,11] (by kernel_rfl)) (fun x z => FSixdotref02_Rule_L2_ok x z) ?_
  intro e s hE12
  obtain ⟨rfl, hE12⟩ := hE12
  refine qH ?_
  refine qs (hE12) ?_
  refine sr ?_
  refine ck 2 ?_
  refine en ?_
  refine re ?_
  injection H with H
  subst H
  exact pr (rO (v := .agg [.d (.str y13), .osl 3 1 0 (List.length y14), .d (.int .u8 x20), .d (.int .u8 x21), .d (.int .i64 (irem (IntKind.i64.wrap p0_.W.a0) p1_)), .d (.int .i64 (irem (IntKind.i64.wrap p0_.W.a1) p1_))]) [3] (a1 (c1 vd (c1 vo (c1 vd (c1 vd (c1 vd (c1 vd (c0)))))))))
end
section
variable (p0_ : Int)
def f69_s1 : St := ⟨(0, .d (.int .u8 p0_)) :: [], []⟩
theorem FSixdotref02_Character_ok {n : Nat} {p0_ : Int} {z : Bool} (H : FSixdotref02_Character n p0_ = some z) : CallOK Try.prog 69 [.d (.int .u8 p0_)] (.d (.bool z)) := by
  dsimp only [FSixdotref02_Character] at H
  refine fo (Γ := cx 11) (s := f69_s1 p0_) follows (cxOK 11) Try.func69 ?_
  refine sr ?_
  refine ck 1 ?_
  refine en ?_
  refine sr ?_
  refine ck 5 ?_
  refine gc 2 (decide (iand .u8 p0_ 127 ≥ 32)) ?_
  refine pA ?_
  refine ck 1 ?_
  refine en ?_
  refine re ?_
  injection H with H
  subst H
  exact pr (rd)
end
section
variable (p0_ : (List UInt8))
def f56_s1 : St := ⟨(0, .d (.str p0_)) :: [], []⟩
variable (i_5 : Int)
def f56_s2 : St := ⟨(0, .d (.str p0_)) :: (4, .d (.int .i64 i_5)) :: [], []⟩
def f56_s3 : St := ⟨(0, .d (.str p0_)) :: [], []⟩
def FSixdotref02_Text_L1_E (p0_ : (List UInt8)) : (Unit ⊕ (Int × Int)) → Ex → St → Prop := fun y => Sum.casesOn y (fun (y : Unit) e s => e = Ex.exit 0 ∧ Shift s (f56_s3 p0_)) (fun (y : (Int × Int)) e s => e = Ex.ret ∧ RA ty (Try.f56).results.toList (.tup [.d (.int .i64 y.1), .d (.int .i64 y.2)]) s)
theorem FSixdotref02_Text_L1_ok {n : Nat} {p0_ : (List UInt8)} (x : Int) (z : (Int ⊕ (Unit ⊕ (Int × Int)))) (H : FSixdotref02_Text_L1 n p0_ x = some z) : WP (cx 19) (bodyOf Try.f56) [1,0,1,0,0] (roundQ (fun (x : Int) => f56_s2 p0_ x) (FSixdotref02_Text_L1_E p0_) z) (f56_s2 p0_ x) := by
  revert H
  generalize x = i_5
  intro H
  dsimp only [FSixdotref02_Text_L1] at H
  refine sq ?_
  refine sr ?_
  refine ck 4 ?_
  refine en ?_
  refine cn H (fun H => ?_) (fun H => ?_)
  · refine sk ?_
    refine qz ?_
    refine sq ?_
    refine bk 1 ?_
    refine sr ?_
    refine ck 2 ?_
    refine bx H fun b3 h122 H => ?_
    refine sp (at_sidx h122) ?_
    refine bx H fun r59 h123 H => ?_
    refine ca false (FSixdotref02_Character_ok h123) ?_
    refine ck 1 ?_
    refine en ?_
    refine cn H (fun H => ?_) (fun H => ?_)
    · refine sr ?_
      refine ck 3 ?_
      refine en ?_
      refine re ?_
      refine qR ?_
      refine qr ?_
      cases H
      exact or ⟨rfl, rdT⟩
    · refine sk ?_
      refine qN ?_
      refine qz ?_
      refine rz ?_
      refine ck 3 ?_
      refine ae ?_
      cases H
      exact og (sh_gc [0,4] (by kernel_rfl))
  · refine ex 0 ?_
    refine qx ?_
    cases H
    exact oe ⟨rfl, sh_gc [0] (by kernel_rfl)⟩
theorem FSixdotref02_Text_ok {n : Nat} {p0_ : (List UInt8)} {z : (Int × Int)} (H : FSixdotref02_Text n p0_ = some z) : CallOK Try.prog 56 [.d (.str p0_)] (.tup [.d (.int .i64 z.1), .d (.int .i64 z.2)]) := by
  dsimp only [FSixdotref02_Text] at H
  refine fo (Γ := cx 19) (s := f56_s1 p0_) follows (cxOK 19) Try.func56 ?_
  refine sr ?_
  refine ck 2 ?_
  refine en ?_
  refine sq ?_
  refine sr ?_
  refine ck 1 ?_
  refine en ?_
  refine bk 0 ?_
  refine bx H fun y15 h124 H => ?_
  rcases y15 with y16 | y17
  · refine lp (fun (x : Int) => f56_s2 p0_ x) (FSixdotref02_Text_L1_E p0_) h124 (sh_gc [0,4] (by kernel_rfl)) (fun x z => FSixdotref02_Text_L1_ok x z) ?_
    intro e s hE13
    obtain ⟨rfl, hE13⟩ := hE13
    refine qH ?_
    refine qs (hE13) ?_
    refine sr ?_
    refine ck 4 ?_
    refine en ?_
    refine re ?_
    injection H with H
    subst H
    exact pr (rdT)
  · refine lp (fun (x : Int) => f56_s2 p0_ x) (FSixdotref02_Text_L1_E p0_) h124 (sh_gc [0,4] (by kernel_rfl)) (fun x z => FSixdotref02_Text_L1_ok x z) ?_
    intro e s hE14
    obtain ⟨rfl, hE14⟩ := hE14
    refine qR ?_
    refine qr ?_
    cases H
    exact pr hE14
end
section
variable (p0_ : (List UInt8))
def f36_s1 : St := ⟨(0, .d (.str p0_)) :: [], []⟩
theorem FSixdotref02_IsText_ok {n : Nat} {p0_ : (List UInt8)} {z : Bool} (H : FSixdotref02_IsText n p0_ = some z) : CallOK Try.prog 36 [.d (.str p0_)] (.d (.bool z)) := by
  dsimp only [FSixdotref02_IsText] at H
  refine fo (Γ := cx 12) (s := f36_s1 p0_) follows (cxOK 12) Try.func36 ?_
  refine sr ?_
  refine ck 1 ?_
  refine en ?_
  refine sr ?_
  refine ck 1 ?_
  refine bx H fun r60 h125 H => ?_
  refine ca false (FSixdotref02_Text_ok h125) ?_
  refine ck 5 ?_
  refine en ?_
  refine sr ?_
  refine ck 3 ?_
  refine en ?_
  refine re ?_
  injection H with H
  subst H
  exact pr (rd)
end
section
variable (p0_ : Int)
def f35_s1 : St := ⟨(0, .d (.int .u8 p0_)) :: [], []⟩
theorem FSixdotref02_Space_ok {n : Nat} {p0_ : Int} {z : Bool} (H : FSixdotref02_Space n p0_ = some z) : CallOK Try.prog 35 [.d (.int .u8 p0_)] (.d (.bool z)) := by
  dsimp only [FSixdotref02_Space] at H
  refine fo (Γ := cx 6) (s := f35_s1 p0_) follows (cxOK 6) Try.func35 ?_
  refine sr ?_
  refine ck 1 ?_
  refine en ?_
  refine sr ?_
  refine ck 4 ?_
  refine en ?_
  refine re ?_
  injection H with H
  subst H
  exact pr (rd)
end
end Go.AI
end
