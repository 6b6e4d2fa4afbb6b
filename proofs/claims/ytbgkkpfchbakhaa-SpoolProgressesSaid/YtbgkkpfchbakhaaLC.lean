/- Part 3 of 4 of the proof: lemmas about the model and the program's functions, with no condition beyond those that each states. -/
import Derived.Test.YtbgkkpfchbakhaaLB
import Derived.Laws.StructEq
import GoSem.Core.View
import GoSem.Op.String
import Derived.KernelRfl
import Derived.Test.YtbgkkpfchbakhaaProg
section
namespace Go.AI
variable {P : Program} {F F' : Nat → Option Obj} {ρ ρ' : Nat → Option Loc} {N : Nat → Prop} {H0 F0 : Nat → Option Obj} {O objs objs' : List (Option Ob)} {w : World} {w0 : W0}
theorem mem_refsOp {ev : Operand → AV} {op : Op} {x : Operand} (hx : x ∈ op.operands.toList) {k : Nat} (hk : k ∈ refsC (cellsA (ev x))) : k ∈ refsOp ev op := by
  unfold refsOp
  rw [List.mem_flatMap]
  exact ⟨x, hx, hk⟩
def Ext (objs objs' : List (Option Ob)) (K : List Nat) : Prop := ∀ k ∈ K, ∀ ob, obA objs k = some ob → obA objs' k = some ob
theorem Ext.sub {K K' : List Nat} (h : Ext objs objs' K) (hs : ∀ k ∈ K', k ∈ K) : Ext objs objs' K' := fun k hk => h k (hs k hk)
theorem expD_mono {v : AV} {r : Rd D} (h : Ext objs objs' (refsA v)) (he : expD objs v = some r) : expD objs' v = some r := by
  cases v with
  | osl k sz lo n =>
    simp only [expD] at he ⊢
    split at he
    · rename_i sz' es ho
      rw [h k (by simp [refsA]) _ ho]
      exact he
    · cases he
  | d x => cases x <;> exact he
  | _ => exact he
theorem expDs_mono : ∀ {l : List AV} {r : Rd (List D)}, Ext objs objs' (refsC l) → expDs objs l = some r → expDs objs' l = some r := by
  intro l
  induction l with
  | nil => intro r _ he; exact he
  | cons v l ih =>
    intro r h he
    simp only [expDs] at he ⊢
    split at he
    · rename_i r1 r2 h1 h2
      rw [expD_mono (h.sub fun k hk => by simp [refsC, hk]) h1, ih (h.sub fun k hk => by simp [refsC, hk]) h2]
      exact he
    · cases he
theorem elemsA_mono {v : AV} {r : List (List D) × Prop} (h : Ext objs objs' (refsC (cellsA v))) (he : elemsA objs v = some r) : elemsA objs' v = some r := by
  cases v with
  | osl k sz lo n =>
    simp only [elemsA] at he ⊢
    split at he
    · rename_i sz' es ho
      rw [h k (by simp [cellsA, refsC, refsA]) _ ho]
      exact he
    · cases he
  | d x => cases x <;> exact he
  | _ => exact he
theorem loadA_mono {t : Ty} {v : AV} {e : Eff} (h : Ext objs objs' (refsC (cellsA v))) (he : loadA t objs v = some e) : loadA t objs' v = some e := by
  cases v with
  | ptr k off =>
    simp only [loadA] at he ⊢
    split at he
    · rename_i cells ho
      rw [h k (by simp [cellsA, refsC, refsA]) _ ho]
      exact he
    · cases he
  | eptr k sz i off =>
    simp only [loadA] at he ⊢
    split at he
    · rename_i sz' es ho
      rw [h k (by simp [cellsA, refsC, refsA]) _ ho]
      exact he
    · rename_i sz' es ho
      rw [h k (by simp [cellsA, refsC, refsA]) _ ho]
      exact he
    · cases he
  | _ => exact he
theorem storeA_mono {t : Ty} {a v : AV} {e : Eff} (h : Ext objs objs' (refsC (cellsA a))) (hv : Ext objs objs' (refsC (cellsA v))) (he : storeA t objs a v = some e) : storeA t objs' a v = some e := by
  cases a with
  | ptr k off =>
    simp only [storeA] at he ⊢
    split at he
    · rename_i cells ho
      rw [h k (by simp [cellsA, refsC, refsA]) _ ho]
      exact he
    · cases he
  | eptr k sz i off =>
    simp only [storeA] at he ⊢
    split at he
    · rename_i sz' es ho
      rw [h k (by simp [cellsA, refsC, refsA]) _ ho]
      exact he
    · rename_i sz' es r ho hx
      rw [h k (by simp [cellsA, refsC, refsA]) _ ho, expDs_mono hv hx]
      exact he
    · cases he
  | _ => exact he
theorem kvA_mono {agg : Bool} {v : AV} {r : Rd (List D)} (h : Ext objs objs' (refsC (cellsA v))) (he : kvA objs agg v = some r) : kvA objs' agg v = some r := by
  unfold kvA at he ⊢
  split at he
  · cases agg with
    | false => cases he
    | true => exact expDs_mono h he
  · rename_i hn
    cases agg with
    | true => cases he
    | false =>
      refine expDs_mono (h.sub fun k hk => ?_) he
      cases v with
      | agg l => exact absurd rfl (hn l)
      | _ => exact hk
theorem lookA_mono {kind : TK} {m key : AV} {ok : Bool} {e : Eff} (hm : Ext objs objs' (refsC (cellsA m))) (hk : Ext objs objs' (refsC (cellsA key))) (he : lookA kind objs m key ok = some e) : lookA kind objs' m key ok = some e := by
  unfold lookA at he ⊢
  split at he
  · rename_i ks ka va vz k
    split at he
    · rename_i ka' va' ents r ho hr
      rw [hm k (by simp [cellsA, refsC, refsA]) _ ho, kvA_mono hk hr]
      exact he
    · cases he
  · cases he
theorem mputA_mono {kind : TK} {m key v : AV} {e : Eff} (hm : Ext objs objs' (refsC (cellsA m))) (hk : Ext objs objs' (refsC (cellsA key))) (hv : Ext objs objs' (refsC (cellsA v))) (he : mputA kind objs m key v = some e) : mputA kind objs' m key v = some e := by
  unfold mputA at he ⊢
  split at he
  · rename_i ks ka va vz k
    split at he
    · rename_i ka' va' ents r s ho hr hs
      rw [hm k (by simp [cellsA, refsC, refsA]) _ ho, kvA_mono hk hr, kvA_mono hv hs]
      exact he
    · cases he
  · cases he
theorem fillE_mono {esz : Nat} : ∀ {parts : List (Nat × AV)} {es : List (List D)} {r : Rd (List (List D))}, (∀ p ∈ parts, Ext objs objs' (refsC (cellsA p.2))) → fillE objs esz es parts = some r → fillE objs' esz es parts = some r := by
  intro parts
  induction parts with
  | nil => intro es r _ he; exact he
  | cons p parts ih =>
    intro es r h he
    obtain ⟨i, v⟩ := p
    simp only [fillE] at he ⊢
    split at he
    · rename_i r1 h1
      rw [expDs_mono (h (i, v) (by simp)) h1]
      simp only
      cases hc : (cellsOk v && r1.x.length == esz && decide (i < es.length)) with
      | false => rw [hc] at he; cases he
      | true =>
        rw [hc, cond_true] at he
        rw [cond_true]
        split at he
        · rename_i r2 h2
          rw [ih (fun p hp => h p (by simp [hp])) h2]
          exact he
        · cases he
    · cases he
theorem appendA_mono {esz eb : Nat} {s : AV} {ys : List (List D)} {ob : Prop} {e : Eff} (hl : objs.length = objs'.length) (h : Ext objs objs' (refsC (cellsA s))) (he : appendA esz eb objs s ys ob = some e) : appendA esz eb objs' s ys ob = some e := by
  cases s with
  | osl k sz lo n =>
    simp only [appendA] at he ⊢
    split at he
    · rename_i sz' es ho
      rw [h k (by simp [cellsA, refsC, refsA]) _ ho, ← hl]
      exact he
    · rename_i sz' es ho
      rw [h k (by simp [cellsA, refsC, refsA]) _ ho, ← hl]
      exact he
    · cases he
  | d x =>
    cases x with
    | nil => simp only [appendA] at he ⊢; rw [← hl]; exact he
    | _ => exact he
  | _ => exact he
theorem cond_mono {b : Bool} {x y : Option Eff} {e : Eff} (h : x = some e → y = some e) (he : (bif b then x else none) = some e) : (bif b then y else none) = some e := by
  cases b with
  | false => cases he
  | true => exact h he
theorem opA_mono {Γ : Nat → Ty} {ev : Operand → AV} (op : Op) (hl : objs.length = objs'.length ∨ stOp op = true) (h : Ext objs objs' (refsOp ev op)) {e : Eff} (he : opA Γ ev objs op = some e) : opA Γ ev objs' op = some e := by
  have hx : ∀ x ∈ op.operands.toList, Ext objs objs' (refsC (cellsA (ev x))) := fun x hx => h.sub fun k hk => mem_refsOp hx hk
  by_cases hreg : memOp op = false ∧ isW op = false
  · rw [opA_reg op hreg.1 hreg.2] at he ⊢
    exact he
  cases op with
  | call c =>
    obtain ⟨callee, args, ts⟩ := c
    cases callee with
    | value f => cases he
    | invoke r m => cases he
    | builtin b =>
      cases b <;> first | exact absurd ⟨rfl, rfl⟩ hreg | skip
      have hl : objs.length = objs'.length := by rcases hl with h | h; exact h; cases h
      simp only [opA] at he ⊢
      split at he
      · rename_i s x t t' hargs hts
        have hs := hx s (by simp [Op.operands, Call.operands, hargs])
        have hxx := hx x (by simp [Op.operands, Call.operands, hargs])
        refine cond_mono (fun he => ?_) he
        split at he
        · rename_i hel
          rw [elemsA_mono hxx hel]
          simp only [*]
          exact cond_mono (appendA_mono hl hs) he
        · rename_i hel
          rw [elemsA_mono hxx hel]
          simp only [*]
          exact cond_mono (appendA_mono hl hs) he
        · cases he
      · cases he
  | load t x =>
    simp only [opA] at he ⊢
    exact cond_mono (loadA_mono (hx x (by simp [Op.operands]))) he
  | store t x y =>
    simp only [opA] at he ⊢
    exact cond_mono (storeA_mono (hx x (by simp [Op.operands])) (hx y (by simp [Op.operands]))) he
  | mapUpdate t m k v =>
    simp only [opA] at he ⊢
    exact cond_mono (mputA_mono (hx m (by simp [Op.operands])) (hx k (by simp [Op.operands])) (hx v (by simp [Op.operands]))) he
  | insert t m k v =>
    simp only [opA] at he ⊢
    exact cond_mono (mputA_mono (hx m (by simp [Op.operands])) (hx k (by simp [Op.operands])) (hx v (by simp [Op.operands]))) he
  | lookup t m k ok =>
    simp only [opA] at he ⊢
    exact cond_mono (lookA_mono (hx m (by simp [Op.operands])) (hx k (by simp [Op.operands]))) he
  | alloc t =>
    have hl : objs.length = objs'.length := by rcases hl with h | h; exact h; cases h
    simp only [opA, ← hl] at he ⊢
    exact he
  | box t x =>
    have hl : objs.length = objs'.length := by rcases hl with h | h; exact h; cases h
    simp only [opA, ← hl] at he ⊢
    exact he
  | makeSlice t x y =>
    have hl : objs.length = objs'.length := by rcases hl with h | h; exact h; cases h
    simp only [opA, ← hl] at he ⊢
    exact he
  | makeMap t x =>
    cases x with
    | none =>
      have hl' : objs.length = objs'.length := by rcases hl with h | h; exact h; cases h
      simp only [opA, ← hl'] at he ⊢
      exact he
    | some x =>
      have hl' : objs.length = objs'.length := by rcases hl with h | h; exact h; cases h
      simp only [opA, ← hl'] at he ⊢
      exact he
  | buildSlice t len parts =>
    have hl : objs.length = objs'.length := by rcases hl with h | h; exact h; cases h
    simp only [opA] at he ⊢
    refine cond_mono (fun he => ?_) he
    split at he
    · rename_i esz eb ez hk
      refine cond_mono (fun he => ?_) he
      split at he
      · rename_i r hr
        rw [fillE_mono (fun p hp => ?_) hr]
        · rw [← hl]; exact he
        · rw [List.mem_map] at hp
          obtain ⟨q, hq, rfl⟩ := hp
          exact hx q.2 (by simp only [Op.operands, List.mem_map]; exact ⟨q, hq, rfl⟩)
      · cases he
    · cases he
  | _ => exact absurd ⟨rfl, rfl⟩ hreg
theorem expA_mono {v : AV} {r : Rd AV} (h : Ext objs objs' (refsC (cellsA v))) (hp : isPt v = true → ∀ k ob, obA objs k = some ob → obA objs' k = some ob) (he : expA objs v = some r) : expA objs' v = some r := by
  unfold expA at he ⊢
  split at he
  · rename_i l
    split at he
    · rename_i r1 h1
      rw [expDs_mono (l := l) h h1]
      exact he
    · cases he
  · rename_i k off
    have hp := hp rfl
    split at he
    · rename_i cells hk
      rw [hp k _ hk]
      simp only
      split at he
      · rename_i r1 h1
        rw [expDs_mono (fun k _ => hp k) h1]
        exact he
      · cases he
    · cases he
  · rename_i k sz i off
    have hp := hp rfl
    split at he
    · rename_i sz' es hk
      rw [hp k _ hk]
      exact he
    · cases he
  · exact he
  · rename_i hn _ _ _
    split at he
    · rename_i r1 h1
      rw [expD_mono (h.sub fun k hk => ?_) h1]
      · exact he
      · cases v with
        | agg l => exact absurd rfl (hn l)
        | _ => simp only [cellsA, refsC, List.append_nil]; exact hk
    · cases he
theorem expAs_mono : ∀ {l : List AV} {r : Rd (List AV)}, (∀ v ∈ l, Ext objs objs' (refsC (cellsA v)) ∧ (isPt v = true → ∀ k ob, obA objs k = some ob → obA objs' k = some ob)) → expAs objs l = some r → expAs objs' l = some r := by
  intro l
  induction l with
  | nil => intro r _ he; exact he
  | cons v l ih =>
    intro r h he
    simp only [expAs] at he ⊢
    split at he
    · rename_i r1 r2 h1 h2
      rw [expA_mono (h v (by simp)).1 (h v (by simp)).2 h1, ih (fun v hv => h v (by simp [hv])) h2]
      exact he
    · cases he
end Go.AI
end
section
namespace Go.AI
variable {P : Program} {F F' : Nat → Option Obj} {ρ ρ' : Nat → Option Loc} {N : Nat → Prop} {H0 F0 : Nat → Option Obj} {O objs objs' : List (Option Ob)} {w : World} {w0 : W0}
def mkT (n : Nat) (f : Nat → Option Ob) : List (Option Ob) := (List.range n).map f
theorem mkT_length (n : Nat) (f : Nat → Option Ob) : (mkT n f).length = n := by simp [mkT]
theorem obA_mkT (n : Nat) (f : Nat → Option Ob) (k : Nat) : obA (mkT n f) k = if k < n then f k else none := by
  unfold obA mkT
  by_cases h : k < n
  · rw [if_pos h, List.getElem?_map, List.getElem?_range h]
    cases hf : f k <;> simp [hf]
  · rw [if_neg h, List.getElem?_map, List.getElem?_eq_none (by simp; omega)]
    rfl
def cutO (K : List Nat) (O : List (Option Ob)) : List (Option Ob) := mkT O.length fun k => bif K.contains k then obA O k else none
theorem cutO_length (K : List Nat) (O : List (Option Ob)) : (cutO K O).length = O.length := mkT_length _ _
theorem obA_cut (K : List Nat) (O : List (Option Ob)) (k : Nat) : obA (cutO K O) k = if k ∈ K then obA O k else none := by
  unfold cutO
  rw [obA_mkT]
  by_cases hk : k ∈ K
  · rw [if_pos hk, List.contains_iff_mem.2 hk, cond_true]
    split
    · rfl
    · rename_i hl
      cases ho : obA O k with
      | none => rfl
      | some ob => exact absurd (obA_lt ho) hl
  · rw [if_neg hk]
    have : K.contains k = false := by
      cases hc : K.contains k with
      | false => rfl
      | true => exact absurd (List.contains_iff_mem.1 hc) hk
    rw [this, cond_false]
    split <;> rfl
theorem Ext.cut {K : List Nat} : Ext objs (cutO K objs) K := fun k hk ob ho => by rw [obA_cut, if_pos hk]; exact ho
def refsS (s : St) (o : Oper) : List Nat := bif deepOp (fun x => unG (evalA s.env x)) o.op then List.range s.objs.length else refsOp (fun x => unG (evalA s.env x)) o.op
theorem refsS_ext {s : St} {o : Oper} {T : List (Option Ob)} (h : Ext s.objs T (refsS s o)) : Ext s.objs T (refsOp (fun x => unG (evalA s.env x)) o.op) ∧ (deepOp (fun x => unG (evalA s.env x)) o.op = true → ∀ k ob, obA s.objs k = some ob → obA T k = some ob) := by
  unfold refsS at h
  cases hd : deepOp (fun x => unG (evalA s.env x)) o.op with
  | true =>
    rw [hd, cond_true] at h
    have : ∀ k ob, obA s.objs k = some ob → obA T k = some ob := fun k ob ho => h k (List.mem_range.2 (obA_lt ho)) ob ho
    exact ⟨fun k _ => this k, fun _ => this⟩
  | false => rw [hd, cond_false] at h; exact ⟨h, fun h => by cases h⟩
theorem W_shallow {ev : Operand → AV} {op : Op} (h : isW op = true) : deepOp ev op = false := by
  cases op with
  | call c => obtain ⟨callee, args, ts⟩ := c; cases callee <;> first | rfl | cases h
  | _ => rfl
theorem refsS_W {s : St} {o : Oper} (h : isW o.op = true) : refsS s o = refsOp (fun x => unG (evalA s.env x)) o.op := by
  unfold refsS; rw [W_shallow h]; rfl
theorem rm_nil {e : Eff} {gd dr W : Bool} (hc : ((e.upd.isSome && gd) || (!e.rm.isEmpty && (gd || (dr && !W)))) = false) (hd : dr = true) (hW : W = false) : e.rm = [] := by
  subst hd; subst hW
  simp only [Bool.not_false, Bool.and_true, Bool.or_true, Bool.or_eq_false_iff] at hc
  exact isEmpty_nil (by simpa using hc.2)
theorem stepA_cut {Γ : Cx} {all : List Oper} {o : Oper} {s s' : St} (hnW : isW o.op = false) (h : stepA Γ true all o (fun x => x = s') s) :
    ∃ new, s'.objs = s.objs ++ new ∧ stepA Γ true all o (fun x => x = ⟨s'.env, cutO (refsS s o) s.objs ++ new⟩) ⟨s.env, cutO (refsS s o) s.objs⟩ := by
  unfold stepA at h ⊢
  cases hg : guardA all s.env o.guard with
  | none => rw [hg] at h; exact h.elim
  | some g =>
    rw [hg] at h
    simp only at h ⊢
    cases hdst : dstOk Γ.nt o.dst with
    | false => rw [hdst] at h; exact h.elim
    | true =>
      rw [hdst] at h
      simp only [Bool.not_true, cond_false] at h ⊢
      cases hgv : g with
      | false =>
        obtain ⟨v, obs, hm, hQ⟩ := h.2 hgv
        subst hQ
        refine ⟨obs.map some, rfl, ?_⟩
        exact ⟨fun h => by simp at h, fun _ => ⟨v, obs, hm, rfl⟩⟩
      | true =>
        rw [hgv] at h
        have h := h.1 rfl
        suffices hs : ∃ new, s'.objs = s.objs ++ new ∧ (stepG Γ true o (fun x => x = ⟨s'.env, cutO (refsS s o) s.objs ++ new⟩) ⟨s.env, cutO (refsS s o) s.objs⟩ true ∨ stepF Γ o (fun x => x = ⟨s'.env, cutO (refsS s o) s.objs ++ new⟩) ⟨s.env, cutO (refsS s o) s.objs⟩ true) by
          obtain ⟨new, h1, h2⟩ := hs
          exact ⟨new, h1, ⟨fun _ => Or.imp id Or.inl h2, fun h => by simp at h⟩⟩
        rcases h with h | h | h
        case inr.inr => exact absurd h.1 (by simp)
        case inr.inl =>
          unfold stepF at h ⊢
          split at h
          · rename_i es hes
            obtain ⟨h1, h2⟩ := h
            subst h2
            refine ⟨[], by simp, .inr ?_⟩
            simp only [hes]
            exact ⟨h1, by simp⟩
          · exact h.elim
        have hext : Ext s.objs (cutO (refsS s o) s.objs) (refsS s o) := Ext.cut
        have others : ∀ op, o.op = op → (match opA Γ.ty (fun x => unG (evalA s.env x)) s.objs op with
            | some e => gobA true (op.operands.toList.map (evalA s.env)) ∧ (true = true → e.ob) ∧ (bif (e.upd.isSome && o.guard.isSome) || (!e.rm.isEmpty && (o.guard.isSome || (true && !isW op))) then False else (effA o.dst o.guard.isSome true e s) = s')
            | none => False) → ∃ new, s'.objs = s.objs ++ new ∧ (match opA Γ.ty (fun x => unG (evalA s.env x)) (cutO (refsS s o) s.objs) op with
            | some e => gobA true (op.operands.toList.map (evalA s.env)) ∧ (true = true → e.ob) ∧ (bif (e.upd.isSome && o.guard.isSome) || (!e.rm.isEmpty && (o.guard.isSome || (true && !isW op))) then False else (effA o.dst o.guard.isSome true e ⟨s.env, cutO (refsS s o) s.objs⟩) = ⟨s'.env, cutO (refsS s o) s.objs ++ new⟩)
            | none => False) := by
          intro op hop h
          subst hop
          split at h
          · rename_i e he
            obtain ⟨h1, h2, h3⟩ := h
            cases hc : ((e.upd.isSome && o.guard.isSome) || (!e.rm.isEmpty && (o.guard.isSome || (true && !isW o.op)))) with
            | true => rw [hc] at h3; exact h3.elim
            | false =>
              rw [hc, cond_false] at h3
              have hrm := rm_nil hc rfl hnW
              have hup := opA_noupd hnW he
              subst h3
              refine ⟨e.obs.map some, by simp only [effA, hrm, hup, rmA, updA], ?_⟩
              rw [opA_mono o.op (.inl (cutO_length _ _).symm) (refsS_ext hext).1 he]
              simp only [hc, cond_false]
              exact ⟨h1, fun _ => h2 rfl, by simp only [effA, hrm, hup, rmA, updA]⟩
          · exact h.elim
        unfold stepG at h ⊢
        split at h
        · rename_i f args ts hop
          obtain ⟨h1, h⟩ := h
          unfold callA at h
          split at h
          · rename_i ra hra
            obtain ⟨hob, m, r, hcall, hflat, hQ⟩ := h
            subst hQ
            refine ⟨_, rfl, .inl ?_⟩
            simp only [hop]
            refine ⟨h1, ?_⟩
            unfold callA
            have he := expAs_mono (objs' := cutO (refsS s o) s.objs) (fun v hv => ?_) hra
            · simp only [he, cutO_length]
              exact ⟨fun _ => hob rfl, m, r, fun _ => hcall rfl, hflat, rfl⟩
            · rw [List.mem_map] at hv
              obtain ⟨x, hx, rfl⟩ := hv
              refine ⟨(refsS_ext hext).1.sub fun k hk => mem_refsOp (ev := fun x => unG (evalA s.env x)) (x := x) (by rw [hop]; simp [Op.operands, Call.operands]; exact .inr (by simpa using hx)) hk, fun hp => (refsS_ext hext).2 ?_⟩
              rw [hop]
              simp only [deepOp, List.any_eq_true]
              exact ⟨x, hx, hp⟩
          · exact h.elim
        · rename_i c x y hop
          have hreg : ∀ objs : List (Option Ob), opA Γ.ty (evalA s.env) objs (.pick c x y) = opA Γ.ty (evalA s.env) [] (.pick c x y) := fun objs => opA_reg _ rfl rfl
          rw [hreg] at h
          simp only [hop]
          split at h
          · rename_i e he
            obtain ⟨h2, h3⟩ := h
            subst h3
            have hq := opA_no (op := .pick c x y) rfl he
            have hrm : e.rm = [] := by
              have hpick : pickA (evalA s.env c) (evalA s.env x) (evalA s.env y) = some e := he
              unfold pickA at hpick
              split at hpick
              · split at hpick
                · exact (quiet_valOb hpick).1.2.1
                · cases hpick
              · cases hpick
            refine ⟨[], by simp only [effA, hrm, hq.1, hq.2, rmA, updA, List.map_nil], .inl ?_⟩
            rw [hreg, he]
            exact ⟨fun _ => h2 rfl, by simp only [effA, hrm, hq.1, hq.2, rmA, updA, List.map_nil]⟩
          · exact h.elim
        · obtain ⟨new, g1, g2⟩ := others _ rfl h
          refine ⟨new, g1, .inl ?_⟩
          exact g2
theorem expD_ks {v : AV} {r : Rd D} (he : expD objs v = some r) : ∀ k ∈ r.ks, k ∈ refsA v := by
  cases v with
  | osl k sz lo n =>
    simp only [expD] at he
    split at he
    · rename_i sz' es ho
      generalize Nat.beq sz sz' = b at he
      cases b with
      | false => cases he
      | true => cases he; intro j hj; simpa [refsA] using hj
    · cases he
  | d x => cases x <;> (cases he; intro j hj; simp at hj)
  | _ => cases he
theorem expDs_ks : ∀ {l : List AV} {r : Rd (List D)}, expDs objs l = some r → ∀ k ∈ r.ks, k ∈ refsC l := by
  intro l
  induction l with
  | nil => intro r he; cases he; intro k hk; simp at hk
  | cons v l ih =>
    intro r he
    simp only [expDs] at he
    split at he
    · rename_i r1 r2 h1 h2
      cases he
      intro k hk
      simp only [List.mem_append] at hk
      simp only [refsC, List.mem_append]
      exact hk.imp (expD_ks h1 k) (ih h2 k)
    · cases he
theorem kvA_ks {agg : Bool} {v : AV} {r : Rd (List D)} (he : kvA objs agg v = some r) : ∀ k ∈ r.ks, k ∈ refsC (cellsA v) := by
  unfold kvA at he
  split at he
  · cases agg with
    | false => cases he
    | true => exact expDs_ks he
  · rename_i hn
    cases agg with
    | true => cases he
    | false =>
      intro k hk
      have := expDs_ks he k hk
      cases v with
      | agg l => exact absurd rfl (hn l)
      | _ => exact this
structure Foot (objs : List (Option Ob)) (ev : Operand → AV) (op : Op) (e : Eff) : Prop where
  rm : ∀ k ∈ e.rm, k ∈ refsOp ev op ∧ k < objs.length
  upd : ∀ k ob, e.upd = some (k, ob) → k ∈ refsOp ev op ∧ k < objs.length ∧ ∀ (F : Nat → Option Obj) (ρ : Nat → Option Loc) (ρv : Operand → Value), (∀ x ∈ op.operands.toList, ARep F ρ (ev x) (ρv x)) → ∃ L, ρ k = some L
theorem append_foot {Γ : Nat → Ty} {ev : Operand → AV} {args : Array Operand} {ts : Array TypeId} {e : Eff} (he : opA Γ ev objs (.call ⟨.builtin .append, args, ts⟩) = some e) : Foot objs ev (.call ⟨.builtin .append, args, ts⟩) e := by
  simp only [opA] at he
  split at he
  · rename_i s x t t' hargs hts
    have hs : ∀ k ∈ refsC (cellsA (ev s)), k ∈ refsOp ev (.call ⟨.builtin .append, args, ts⟩) := fun k hk => mem_refsOp (x := s) (by simp [Op.operands, Call.operands, hargs]) hk
    have key : ∀ {esz eb : Nat} {ys : List (List D)} {ob : Prop} {b : Bool}, (bif b then appendA esz eb objs (ev s) ys ob else none) = some e → Foot objs ev (.call ⟨.builtin .append, args, ts⟩) e := by
      intro esz eb ys ob b h
      cases b with
      | false => cases h
      | true =>
        rw [cond_true] at h
        unfold appendA at h
        split at h
        · cases h; exact ⟨fun k hk => by simp at hk, fun k ob h => by cases h⟩
        · rename_i k sz lo n hsv
          have hk : k ∈ refsOp ev (.call ⟨.builtin .append, args, ts⟩) := hs k (by rw [hsv]; simp [cellsA, refsC, refsA])
          split at h
          · rename_i sz' es ho
            generalize (Nat.beq _ sz' && (Nat.beq _ esz || Nat.beq _ 0)) = b at h
            cases b with
            | false => cases h
            | true => cases h; exact ⟨fun j hj => by simp at hj; subst hj; exact ⟨hk, obA_lt ho⟩, fun k ob h => by cases h⟩
          · rename_i sz' es ho
            generalize (Nat.beq _ sz' && Nat.beq _ esz && Nat.beq _ 0) = b at h
            cases b with
            | false => cases h
            | true => cases h; exact ⟨fun j hj => by simp at hj; subst hj; exact ⟨hk, obA_lt ho⟩, fun k ob h => by cases h⟩
          · cases h
        · cases h
    generalize ((Γ t).ok && (Γ t').ok) = b at he
    cases b with
    | false => cases he
    | true =>
      rw [cond_true] at he
      split at he
      · exact key he
      · exact key he
      · cases he
  · cases he
theorem append_noupd {Γ : Nat → Ty} {ev : Operand → AV} {args : Array Operand} {ts : Array TypeId} {e : Eff} (he : opA Γ ev objs (.call ⟨.builtin .append, args, ts⟩) = some e) : e.upd = none := by
  simp only [opA] at he
  split at he
  · have he := cond_no he
    have key : ∀ {esz eb : Nat} {s : AV} {ys : List (List D)} {ob : Prop}, appendA esz eb objs s ys ob = some e → e.upd = none := by
      intro esz eb s ys ob h
      unfold appendA at h
      split at h
      · cases h; rfl
      · split at h
        · have h := cond_no h; cases h; rfl
        · have h := cond_no h; cases h; rfl
        · cases h
      · cases h
    split at he
    · exact key (cond_no he)
    · exact key (cond_no he)
    · cases he
  · cases he
theorem mput_foot {ev : Operand → AV} {kind : TK} {op : Op} {m key v : Operand} {e : Eff} (hm : m ∈ op.operands.toList) (hv : v ∈ op.operands.toList) (he : mputA kind objs (ev m) (ev key) (ev v) = some e) : Foot objs ev op e ∧ e.obs = [] := by
  unfold mputA at he
  split at he
  · rename_i ks ka va vz k hmv
    split at he
    · rename_i ka' va' ents r s ho hr hs
      generalize (r.ks.isEmpty && _ && _) = b at he
      cases b with
      | false => cases he
      | true =>
        cases he
        refine ⟨⟨fun j hj => ⟨mem_refsOp hv (kvA_ks hs j hj), ?_⟩, fun j ob hj => ?_⟩, rfl⟩
        · obtain ⟨ob, hob⟩ := kvA_alive hs j hj; exact obA_lt hob
        · cases hj
          refine ⟨mem_refsOp hm (by rw [hmv]; simp [cellsA, refsC, refsA]), obA_lt ho, fun F ρ ρv hev => ?_⟩
          have := hev m hm
          rw [hmv] at this
          generalize ρv m = x at this
          cases this with
          | mp _ L hL => exact ⟨L, hL⟩
    · cases he
  · cases he
theorem st_foot {Γ : Nat → Ty} {ev : Operand → AV} {op : Op} {e : Eff} (hst : stOp op = true) (he : opA Γ ev objs op = some e) : Foot objs ev op e ∧ e.obs = [] := by
  cases op with
  | mapUpdate t m k v =>
    simp only [opA] at he
    exact mput_foot (op := .mapUpdate t m k v) (by simp [Op.operands]) (by simp [Op.operands]) (cond_no he)
  | insert t m k v =>
    simp only [opA] at he
    exact mput_foot (op := .insert t m k v) (by simp [Op.operands]) (by simp [Op.operands]) (cond_no he)
  | store t a v =>
    simp only [opA] at he
    have he := cond_no he
    have hav : ∀ k ∈ refsC (cellsA (ev a)), k ∈ refsOp ev (.store t a v) := fun k hk => mem_refsOp (x := a) (by simp [Op.operands]) hk
    have hvv : ∀ k ∈ refsC (cellsA (ev v)), k ∈ refsOp ev (.store t a v) := fun k hk => mem_refsOp (x := v) (by simp [Op.operands]) hk
    unfold storeA at he
    split at he
    · rename_i k off ha
      split at he
      · rename_i cells ho
        have he := cond_no he
        cases he
        refine ⟨⟨fun j hj => by simp at hj, fun j ob hj => ?_⟩, rfl⟩
        cases hj
        refine ⟨hav k (by rw [ha]; simp [cellsA, refsC, refsA]), obA_lt ho, fun F ρ ρv hev => ?_⟩
        have := hev a (by simp [Op.operands])
        rw [ha] at this
        generalize ρv a = x at this
        cases this with
        | ptr _ _ L hL => exact ⟨L, hL⟩
      · cases he
    · rename_i k sz i off ha
      have born : ∀ (F : Nat → Option Obj) (ρ : Nat → Option Loc) (ρv : Operand → Value), (∀ x ∈ (Op.store t a v).operands.toList, ARep F ρ (ev x) (ρv x)) → ∃ L, ρ k = some L := fun F ρ ρv hev => by
        have := hev a (by simp [Op.operands])
        rw [ha] at this
        generalize ρv a = x at this
        cases this with
        | eptr _ _ _ _ L hL => exact ⟨L, hL⟩
      split at he
      · rename_i sz' es ho
        have he := cond_no he
        cases he
        refine ⟨⟨fun j hj => by simp at hj, fun j ob hj => ?_⟩, rfl⟩
        cases hj
        exact ⟨hav k (by rw [ha]; simp [cellsA, refsC, refsA]), obA_lt ho, born⟩
      · rename_i sz' es r ho hx
        have he := cond_no he
        cases he
        refine ⟨⟨fun j hj => ⟨hvv j (expDs_ks hx j hj), ?_⟩, fun j ob hj => ?_⟩, rfl⟩
        · obtain ⟨ob, hob⟩ := expDs_alive _ _ hx j hj; exact obA_lt hob
        · cases hj
          exact ⟨hav k (by rw [ha]; simp [cellsA, refsC, refsA]), obA_lt ho, born⟩
      · cases he
    · cases he
  | _ => cases hst
theorem W_kinds {op : Op} (h : isW op = true) : stOp op = true ∨ ∃ args ts, op = .call ⟨.builtin .append, args, ts⟩ := by
  cases op with
  | call c =>
    obtain ⟨callee, args, ts⟩ := c
    cases callee with
    | value f => cases h
    | invoke r m => cases h
    | builtin b => cases b <;> first | exact .inr ⟨args, ts, rfl⟩ | cases h
  | store => exact .inl rfl
  | mapUpdate => exact .inl rfl
  | insert => exact .inl rfl
  | _ => cases h
theorem updA_length (O : List (Option Ob)) (u : Option (Nat × Ob)) : (updA O u).length = O.length := by
  cases u with
  | none => rfl
  | some p => simp [updA]
theorem obA_upd (O : List (Option Ob)) (u : Option (Nat × Ob)) (k : Nat) : obA (updA O u) k = match u with
    | some (j, ob) => if k = j ∧ j < O.length then some ob else obA O k
    | none => obA O k := by
  cases u with
  | none => rfl
  | some p => obtain ⟨j, ob⟩ := p; simp only [updA, obA_set]
theorem step_wT {Γ : Cx} (hΓ : CxOK P Γ) {all : Array Oper} {o : Oper} {s s' : St} {a : Act} {T : List (Option Ob)} (hW : isW o.op = true) (h : stepA Γ true all.toList o (fun x => x = s') s) (hS : Sim N H0 F0 F ρ T w.heap) (hSl : Slots F ρ s.env a.tmps)
    (hT : Ext s.objs T (refsS s o)) (hfresh : ∀ k, s.objs.length ≤ k → k < s'.objs.length → ρ k = none) (hlen : s'.objs.length ≤ T.length) (hnew : ∀ k ob, s.objs.length ≤ k → obA s'.objs k = some ob → obA T k = some ob)
    {K : Act → World → Prop} {Qw : Exit → Act → World → Prop}
    (hK : ∀ v w' F' ρ' T', FLe F F' → RLe ρ ρ' → (∀ k, ¬(s.objs.length ≤ k ∧ k < s'.objs.length) → ρ' k = ρ k) → Sim N H0 F0 F' ρ' T' w'.heap → T'.length = T.length →
      (∀ k ob, k < s.objs.length → k ∈ refsS s o → obA s'.objs k = some ob → obA T' k = some ob) → (∀ k, ¬(k ∈ refsS s o ∧ k < s.objs.length) → obA T' k = obA T k) →
      (∀ k ob, ρ k = none → k < s.objs.length → obA s'.objs k = some ob → obA s.objs k = some ob) → (∀ d, o.dst = some d → ARep F' ρ' (lkA s'.env d) v) → Mu w w' → K (a.put o.dst v) w') :
    if Region.wanted o (yielded all a.tmps) then o.wp P a w K Qw else K (a.put o.dst undef) w := by
  unfold stepA at h
  split at h
  · exact h.elim
  · rename_i g hg
    have hw := guard_sound hSl hg
    rw [hw]
    have hgN : o.guard = none → g = true := fun hx => by rw [hx] at hg; cases hg; rfl
    cases hdst : dstOk Γ.nt o.dst with
    | false => rw [hdst] at h; exact h.elim
    | true =>
      rw [hdst, Bool.not_true, cond_false] at h
      have hlk : ∀ (v : AV) (d : Tmp), o.dst = some d → lkA (putA o.dst o.guard.isSome g v s.env) d = bif o.guard.isSome then .gv g v else v := fun v d hd => by
        rw [hd]; simp only [putA, lkA_cons, if_true]
      have skip : ∀ (v : AV) (obs : List (Option Ob)), s'.env = putA o.dst o.guard.isSome g v s.env → s'.objs = s.objs ++ obs → g = false → K (a.put o.dst undef) w := fun v obs he hob hgf => by
        have hgs : o.guard.isSome = true := by
          cases hgo : o.guard with
          | none => rw [hgN hgo] at hgf; cases hgf
          | some x => rfl
        refine hK undef w F ρ T (FLe.refl _) (RLe.refl _) (fun _ _ => rfl) hS rfl (fun k ob hk hr ho => ?_) (fun _ _ => rfl) (fun k ob _ hk ho => ?_) (fun d hd => ?_) (Mu.refl _)
        · rw [hob, obA_append, if_pos hk] at ho; exact hT k hr ob ho
        · rw [hob, obA_append, if_pos hk] at ho; exact ho
        · rw [he, hlk v d hd, hgs, hgf]; exact .gvF _
      by_cases hgc : g = true
      case neg =>
        have hgf : g = false := by simpa using hgc
        obtain ⟨v, obs, hm, hQ⟩ := h.2 hgf
        rw [if_neg hgc]
        exact skip v (obs.map some) (by rw [← hQ, hgf]) (by rw [← hQ]) hgf
      replace h := h.1 hgc
      rcases h with h | h | h
      case inr.inr => exact absurd h.1 (by simp)
      case inr.inl =>
        unfold stepF at h
        split at h
        · rename_i es hes
          cases hop : o.op with
          | buildSlice => rw [hop] at hW; cases hW
          | _ => rw [hop] at hes; cases hes
        · exact h.elim
      unfold stepG at h
      split at h
      · rename_i f args ts hop; rw [hop] at hW; cases hW
      · rename_i c x y hop; rw [hop] at hW; cases hW
      · split at h
        · rename_i e he
          obtain ⟨h1, h2, h3⟩ := h
          cases hc : ((e.upd.isSome && o.guard.isSome) || (!e.rm.isEmpty && (o.guard.isSome || (true && !isW o.op)))) with
          | true => rw [hc] at h3; exact h3.elim
          | false =>
            rw [hc, cond_false] at h3
            have hev : ∀ x ∈ o.op.operands.toList, ARep F ρ (unG (evalA s.env x)) (a.eval x) := fun x hx => gobA_sound hgc _ h1 _ (List.mem_map_of_mem hx) _ (evalA_sound hSl x)
            have henv : s'.env = putA o.dst o.guard.isSome g e.v s.env := by rw [← h3]; rfl
            have hobj : s'.objs = updA (rmA s.objs e.rm) e.upd ++ e.obs.map some := by rw [← h3]; rfl
            have hll : (updA (rmA s.objs e.rm) e.upd).length = s.objs.length := by rw [updA_length, rmA_length]
            rw [if_pos hgc]
            have hdv : ∀ F' ρ' v, ARep F' ρ' e.v v → ∀ d, o.dst = some d → ARep F' ρ' (lkA s'.env d) v := fun F' ρ' v hv d hd => by
              rw [henv, hlk e.v d hd]
              cases o.guard.isSome with
              | true => rw [hgc]; exact .gvT _ _ hv
              | false => exact hv
            -- the tables
            have tabs : Foot s.objs (fun x => unG (evalA s.env x)) o.op e → ∀ T', T' = updA (rmA T e.rm) e.upd → T'.length = T.length ∧ (∀ k ob, k < s.objs.length → k ∈ refsS s o → obA s'.objs k = some ob → obA T' k = some ob) ∧ (∀ k, ¬(k ∈ refsS s o ∧ k < s.objs.length) → obA T' k = obA T k) ∧
                (∀ k ob, ρ k = none → k < s.objs.length → obA s'.objs k = some ob → obA s.objs k = some ob) := by
              intro hf T' hT'
              have hTl : s.objs.length ≤ T.length := by rw [hobj, List.length_append, hll] at hlen; omega
              have hsk : ∀ k, k < s.objs.length → obA s'.objs k = obA (updA (rmA s.objs e.rm) e.upd) k := fun k hk => by rw [hobj, obA_append, if_pos (by rw [hll]; exact hk)]
              subst hT'
              refine ⟨by rw [updA_length, rmA_length], fun k ob hk hr ho => ?_, fun k hk => ?_, fun k ob hρ hk ho => ?_⟩
              · rw [hsk k hk, obA_upd] at ho
                rw [obA_upd]
                cases hu : e.upd with
                | none =>
                  rw [hu] at ho
                  simp only at ho ⊢
                  rw [obA_rm] at ho ⊢
                  split at ho
                  · cases ho
                  · rename_i hkr; rw [if_neg hkr]; exact hT k hr ob ho
                | some p =>
                  obtain ⟨j, ob1⟩ := p
                  rw [hu] at ho
                  simp only [rmA_length] at ho ⊢
                  by_cases hj : k = j
                  · subst hj
                    rw [if_pos ⟨rfl, hk⟩] at ho
                    rw [if_pos ⟨rfl, by omega⟩]; exact ho
                  · rw [if_neg (fun h => hj h.1)] at ho ⊢
                    rw [obA_rm] at ho ⊢
                    split at ho
                    · cases ho
                    · rename_i hkr; rw [if_neg hkr]; exact hT k hr ob ho
              · have hnr : k ∉ e.rm := fun hr => hk (by rw [refsS_W hW]; exact hf.rm k hr)
                rw [obA_upd]
                cases hu : e.upd with
                | none => simp only; rw [obA_rm, if_neg hnr]
                | some p =>
                  obtain ⟨j, ob1⟩ := p
                  simp only
                  rw [if_neg (fun h => ?_), obA_rm, if_neg hnr]
                  obtain ⟨q1, q2, _⟩ := hf.upd j ob1 hu
                  exact hk ⟨by rw [h.1, refsS_W hW]; exact q1, by rw [h.1]; exact q2⟩
              · rw [hsk k hk, obA_upd] at ho
                cases hu : e.upd with
                | none =>
                  rw [hu] at ho
                  simp only at ho
                  rw [obA_rm] at ho
                  split at ho
                  · cases ho
                  · exact ho
                | some p =>
                  obtain ⟨j, ob1⟩ := p
                  rw [hu] at ho
                  simp only at ho
                  by_cases hj : k = j
                  · subst hj
                    obtain ⟨L, hL⟩ := (hf.upd k ob1 hu).2.2 F ρ _ hev
                    rw [hρ] at hL; cases hL
                  · rw [if_neg (fun h => hj h.1), obA_rm] at ho
                    split at ho
                    · cases ho
                    · exact ho
            rcases W_kinds hW with hst | ⟨args, ts, hop⟩
            · obtain ⟨hf, hob0⟩ := st_foot hst he
              have he' := opA_mono o.op (.inr hst) (refsS_ext hT).1 he
              obtain ⟨_, hv0, w', F', hr, hle, hs', hmu⟩ := st_sound hΓ.ty hS o hst he' (h2 hgc) hev
              obtain ⟨t1, t2, t3, t4⟩ := tabs hf _ rfl
              unfold Oper.wp
              rw [hr, Oper.upon_skip]
              exact hK undef w' F' ρ _ hle (RLe.refl _) (fun _ _ => rfl) hs' t1 t2 t3 t4 (hdv F' ρ undef (by rw [hv0]; exact .top _)) hmu
            · have hf : Foot s.objs (fun x => unG (evalA s.env x)) o.op e := by
                rw [hop] at he ⊢
                exact append_foot he
              obtain ⟨ob, hone⟩ := append_one hop he
              have hl1 : s'.objs.length = s.objs.length + 1 := by rw [hobj, List.length_append, hll, hone]; rfl
              have hupd : e.upd = none := by
                rw [hop] at he
                have := append_noupd he
                exact this
              have hcut : opA Γ.ty (fun x => unG (evalA s.env x)) (cutO (refsS s o) s.objs) o.op = some e := opA_mono o.op (.inl (cutO_length _ _).symm) (refsS_ext Ext.cut).1 he
              have hcl := cutO_length (refsS s o) s.objs
              obtain ⟨_, v, w', ρ', hr, hs', hle, hkeep, hv, hmu⟩ := append_gen (O' := rmA T e.rm) hΓ.ty hS (objs := cutO (refsS s o) s.objs) (fun k ob hk => by
                rw [obA_cut] at hk
                split at hk
                · rename_i hm; exact hT k hm ob hk
                · cases hk) (by rw [hcl]; exact hfresh _ (Nat.le_refl _) (by omega)) (by rw [rmA_length]; exact Nat.le_refl _) (by rw [hcl, rmA_length]; omega) o (fun j ob' _ ho => by
                rw [obA_rm] at ho
                split at ho
                · cases ho
                · rename_i hj; exact ⟨ho, hj⟩) (fun ob' ho => by
                rw [hcl, obA_rm, if_neg (fun hm => by have := (hf.rm _ hm).2; omega)]
                refine hnew _ ob' (Nat.le_refl _) ?_
                rw [hobj, obA_append, hll, if_neg (by omega), ho, Nat.sub_self]
                simp [obA]) hop hcut (h2 hgc) hev
              obtain ⟨t1, t2, t3, t4⟩ := tabs hf (rmA T e.rm) (by rw [hupd]; rfl)
              unfold Oper.wp
              rw [hr, Oper.upon_value]
              exact hK v w' F ρ' _ (FLe.refl _) hle (fun k hk => hkeep k (fun e => hk (by rw [e, hcl]; omega))) hs' t1 t2 t3 t4 (hdv F ρ' v hv) hmu
        · exact h.elim
end Go.AI
end
section
namespace Go.AI
variable {P : Program} {F F' : Nat → Option Obj} {ρ ρ' : Nat → Option Loc} {N : Nat → Prop} {H0 F0 : Nat → Option Obj} {O objs objs' : List (Option Ob)} {w : World} {w0 : W0}
theorem step_out {Γ : Cx} {all : List Oper} {o : Oper} {s s' : St} (h : stepA Γ true all o (fun x => x = s') s) :
    s.objs.length ≤ s'.objs.length ∧ ∀ k, k < s.objs.length → ¬(isW o.op = true ∧ k ∈ refsS s o) → obA s'.objs k = obA s.objs k := by
  cases hW : isW o.op with
  | false =>
    obtain ⟨obs, ho⟩ := (step_shape h).2.1 hW
    rw [ho]
    exact ⟨by simp, fun k hk _ => by rw [obA_append, if_pos hk]⟩
  | true =>
    unfold stepA at h
    cases hg : guardA all s.env o.guard with
    | none => rw [hg] at h; exact h.elim
    | some g =>
      rw [hg] at h
      simp only at h
      have h := h
      cases hdst : dstOk Γ.nt o.dst with
      | false => rw [hdst] at h; exact h.elim
      | true =>
        rw [hdst] at h
        simp only [Bool.not_true, cond_false] at h
        cases hgv : g with
        | false =>
          obtain ⟨v, obs, hm, hQ⟩ := h.2 hgv
          subst hQ
          exact ⟨by simp, fun k hk _ => by rw [obA_append, if_pos hk]⟩
        | true =>
          rcases h.1 hgv with h | h | h
          case inr.inr => exact absurd h.1 (by simp)
          case inr.inl =>
            unfold stepF at h
            split at h
            · rename_i es hes
              cases hop : o.op with
              | buildSlice => rw [hop] at hW; cases hW
              | _ => rw [hop] at hes; cases hes
            · exact h.elim
          unfold stepG at h
          split at h
          · rename_i f args ts hop; rw [hop] at hW; cases hW
          · rename_i c x y hop; rw [hop] at hW; cases hW
          · split at h
            · rename_i e he
              obtain ⟨h1, h2, h3⟩ := h
              cases hc : ((e.upd.isSome && o.guard.isSome) || (!e.rm.isEmpty && (o.guard.isSome || (true && !isW o.op)))) with
              | true => rw [hc] at h3; exact h3.elim
              | false =>
                rw [hc, cond_false] at h3
                have hf : Foot s.objs (fun x => unG (evalA s.env x)) o.op e := by
                  rcases W_kinds hW with hst | ⟨args, ts, hop⟩
                  · exact (st_foot hst he).1
                  · rw [hop] at he ⊢
                    exact append_foot he
                have hll : (updA (rmA s.objs e.rm) e.upd).length = s.objs.length := by rw [updA_length, rmA_length]
                subst h3
                refine ⟨by simp only [effA, List.length_append, hll]; omega, fun k hk hn => ?_⟩
                simp only [effA]
                rw [obA_append, if_pos (by rw [hll]; exact hk), obA_upd]
                have hnr : k ∉ e.rm := fun hr => hn ⟨rfl, by rw [refsS_W hW]; exact (hf.rm k hr).1⟩
                cases hu : e.upd with
                | none => simp only; rw [obA_rm, if_neg hnr]
                | some p =>
                  obtain ⟨j, ob1⟩ := p
                  simp only
                  rw [if_neg (fun h => ?_), obA_rm, if_neg hnr]
                  exact hn ⟨rfl, by rw [h.1, refsS_W hW]; exact (hf.upd j ob1 hu).1⟩
            · exact h.elim
structure DrawOK2 (ops : Array Oper) (S : Nat → St) : Prop where
  back : ∀ (j : Nat) oj, ops[j]? = some oj → ∀ e ∈ oj.after.toList, Region.binds .any e = true → e.on < j
  dst : ∀ (i j : Nat) oi oj d, ops[i]? = some oi → ops[j]? = some oj → i ≠ j → oi.dst = some d → oj.dst ≠ some d
  deps : ∀ (i j : Nat) oi oj d, ops[i]? = some oi → ops[j]? = some oj → i < j → oi.dst = some d → d ∈ readsB ops.toList oj → Region.waitsFor .any ops j i = true
  anti : ∀ (i j : Nat) oi oj d, ops[i]? = some oi → ops[j]? = some oj → j < i → oi.dst = some d → d ∈ readsB ops.toList oj → Region.waitsFor .any ops i j = true
  conf : ∀ (i j : Nat) oi oj, ops[i]? = some oi → ops[j]? = some oj → i ≠ j → isW oj.op = true → (memOp oi.op = true ∨ isW oi.op = true) → Reach ops j i ∨ Reach ops i j ∨ ∀ k, k ∈ refsS (S i) oi → k ∉ refsS (S j) oj
section law
variable {Γ : Cx} {ops : Array Oper} {S : Nat → St}
theorem reach_lt (ok : DrawOK2 ops S) {j i : Nat} (h : Reach ops j i) : i < j := by
  induction h with
  | one h1 =>
    obtain ⟨o, ho, e, he, hb, hon⟩ := Region.waitsFor_spec h1
    rw [← hon]; exact ok.back _ o ho e (by simpa using he) hb
  | step h1 _ ih =>
    obtain ⟨o, ho, e, he, hb, hon⟩ := Region.waitsFor_spec h1
    have := ok.back _ o ho e (by simpa using he) hb
    omega
def Wr (ops : Array Oper) (S : Nat → St) (i k : Nat) : Prop := ∃ o, ops[i]? = some o ∧ isW o.op = true ∧ k ∈ refsS (S i) o ∧ k < (S i).objs.length
theorem len_mono (hst : ∀ (i : Nat) o, ops[i]? = some o → stepA Γ true ops.toList o (fun x => x = S (i + 1)) (S i)) : ∀ d i, i + d ≤ ops.size → (S i).objs.length ≤ (S (i + d)).objs.length := by
  intro d
  induction d with
  | zero => intro i _; exact Nat.le_refl _
  | succ d ih =>
    intro i hi
    have h1 := ih i (by omega)
    have ho := Array.getElem?_eq_getElem (show i + d < ops.size by omega)
    have := (step_out (hst (i + d) _ ho)).1
    rw [← Nat.add_assoc]; omega
theorem len_le (hst : ∀ (i : Nat) o, ops[i]? = some o → stepA Γ true ops.toList o (fun x => x = S (i + 1)) (S i)) {i j : Nat} (hij : i ≤ j) (hj : j ≤ ops.size) : (S i).objs.length ≤ (S j).objs.length := by
  have := len_mono hst (j - i) i (by omega)
  rwa [show i + (j - i) = j by omega] at this
theorem same_obj (hst : ∀ (i : Nat) o, ops[i]? = some o → stepA Γ true ops.toList o (fun x => x = S (i + 1)) (S i)) (k : Nat) : ∀ d i, i + d ≤ ops.size → k < (S i).objs.length → (∀ m, i ≤ m → m < i + d → ¬Wr ops S m k) → obA (S (i + d)).objs k = obA (S i).objs k := by
  intro d
  induction d with
  | zero => intro i _ _ _; rfl
  | succ d ih =>
    intro i hi hk hno
    have ho := Array.getElem?_eq_getElem (show i + d < ops.size by omega)
    have hkd : k < (S (i + d)).objs.length := Nat.lt_of_lt_of_le hk (len_mono hst d i (by omega))
    rw [← Nat.add_assoc, (step_out (hst (i + d) _ ho)).2 k hkd fun h => hno (i + d) (by omega) (by omega) ⟨_, ho, h.1, h.2, hkd⟩]
    exact ih i (by omega) hk fun m h1 h2 => hno m h1 (by omega)
theorem same_le (hst : ∀ (i : Nat) o, ops[i]? = some o → stepA Γ true ops.toList o (fun x => x = S (i + 1)) (S i)) {k i j : Nat} (hij : i ≤ j) (hj : j ≤ ops.size) (hk : k < (S i).objs.length) (hno : ∀ m, i ≤ m → m < j → ¬Wr ops S m k) : obA (S j).objs k = obA (S i).objs k := by
  have := same_obj hst k (j - i) i (by omega) hk (fun m h1 h2 => hno m h1 (by omega))
  rwa [show i + (j - i) = j by omega] at this
def bornA (S : Nat → St) (k : Nat) : Nat → Nat
  | 0 => 0
  | n + 1 => bif decide (k < (S n).objs.length) then bornA S k n else n + 1
theorem bornA_spec (k : Nat) : ∀ n, (∀ i j, i ≤ j → j ≤ n → (S i).objs.length ≤ (S j).objs.length) → k < (S n).objs.length → bornA S k n ≤ n ∧ k < (S (bornA S k n)).objs.length ∧ ∀ m, m < bornA S k n → (S m).objs.length ≤ k := by
  intro n
  induction n with
  | zero => intro _ hk; exact ⟨Nat.le_refl _, hk, fun m hm => by simp [bornA] at hm⟩
  | succ n ih =>
    intro hm hk
    simp only [bornA]
    by_cases h : k < (S n).objs.length
    · rw [decide_eq_true h, cond_true]
      obtain ⟨h1, h2, h3⟩ := ih (fun i j hij hj => hm i j hij (by omega)) h
      exact ⟨by omega, h2, h3⟩
    · rw [decide_eq_false h, cond_false]
      refine ⟨Nat.le_refl _, hk, fun m hmn => ?_⟩
      have := hm m n (by omega) (by omega)
      omega
structure DJ (N : Nat → Prop) (H0 F0 : Nat → Option Obj) (w0 : W0) (nt : Slt) (ops : Array Oper) (S : Nat → St) (listed : Array Bool) (a : Act) (w : World) : Prop where
  size : listed.size = ops.size
  closed : ∀ (j : Nat) oj, ops[j]? = some oj → listed.getD j false = true → ∀ e ∈ oj.after.toList, Region.binds .any e = true → listed.getD e.on false = true
  tsz : TS nt w0.kp a.tmps
  defers : a.defers = [] ∧ Mu w0.w w
  ex : ∃ (F : Nat → Option Obj) (ρ : Nat → Option Loc) (T : List (Option Ob)) (ver : Nat → Nat), Sim N H0 F0 F ρ T w.heap ∧ T.length = (S ops.size).objs.length ∧
    (∀ t, (∀ (i : Nat) o, ops[i]? = some o → o.dst = some t → listed.getD i false = true → ARep F ρ (lkA (S (i + 1)).env t) (a.tmps.getD t undef)) ∧ ((∀ (i : Nat) o, ops[i]? = some o → o.dst = some t → listed.getD i false = false) → ARep F ρ (lkA (S 0).env t) (a.tmps.getD t undef))) ∧
    (∀ k L, ρ k = some L → k < (S 0).objs.length ∨ ∃ i, listed.getD i false = true ∧ i < ops.size ∧ (S i).objs.length ≤ k ∧ k < (S (i + 1)).objs.length) ∧
    (∀ k ob, k < T.length → obA (S (ver k)).objs k = some ob → obA T k = some ob) ∧
    (∀ i k, listed.getD i false = true → Wr ops S i k → i < ver k) ∧
    (∀ i k, listed.getD i false = false → Wr ops S i k → ver k ≤ i) ∧
    (∀ k, k < T.length → k < (S (ver k)).objs.length ∧ ver k ≤ ops.size) ∧
    (∀ i k ob, i < ops.size → ρ k = none → (S i).objs.length ≤ k → obA (S (i + 1)).objs k = some ob → obA T k = some ob)
theorem env_track2 (hst : ∀ (i : Nat) o, ops[i]? = some o → stepA Γ true ops.toList o (fun x => x = S (i + 1)) (S i)) : ∀ j, j ≤ ops.size → ∀ t, (∃ i o, i < j ∧ ops[i]? = some o ∧ o.dst = some t ∧ lkA (S j).env t = lkA (S (i + 1)).env t) ∨ ((∀ i o, i < j → ops[i]? = some o → o.dst ≠ some t) ∧ lkA (S j).env t = lkA (S 0).env t) := by
  intro j
  induction j with
  | zero => intro _ t; exact .inr ⟨fun i o hi => by omega, rfl⟩
  | succ j ih =>
    intro hj t
    have hoj := Array.getElem?_eq_getElem (show j < ops.size by omega)
    obtain ⟨hsh, _⟩ := step_shape (hst j _ hoj)
    by_cases hd : (ops[j]).dst = some t
    · exact .inl ⟨j, _, by omega, hoj, hd, rfl⟩
    · have hlk : lkA (S (j + 1)).env t = lkA (S j).env t := by
        rcases hsh with ⟨_, h⟩ | ⟨d, x, hdd, h⟩
        · rw [h]
        · rw [h, lkA_cons, if_neg]
          intro e; subst e; exact hd hdd
      rcases ih (by omega) t with ⟨i, o, h1, h2, h3, h4⟩ | ⟨h1, h2⟩
      · exact .inl ⟨i, o, by omega, h2, h3, by rw [hlk, h4]⟩
      · refine .inr ⟨fun i o hi ho => ?_, by rw [hlk, h2]⟩
        by_cases e : i = j
        · subst e; rw [hoj] at ho; cases ho; exact hd
        · exact h1 i o (by omega) ho
theorem refsOp_congr {ev ev' : Operand → AV} {op : Op} (h : ∀ x ∈ op.operands.toList, ev x = ev' x) : refsOp ev op = refsOp ev' op := by
  unfold refsOp
  simp only [List.flatMap]
  congr 1
  exact List.map_congr_left fun x hx => by rw [h x hx]
theorem deepOp_congr {ev ev' : Operand → AV} {op : Op} (h : ∀ x ∈ op.operands.toList, ev x = ev' x) : deepOp ev op = deepOp ev' op := by
  cases op with
  | call c =>
    obtain ⟨callee, args, ts⟩ := c
    cases callee with
    | value f =>
      simp only [deepOp]
      have : ∀ x ∈ args.toList, ev x = ev' x := fun x hx => h x (by simp [Op.operands, Call.operands]; exact .inr (by simpa using hx))
      rw [Bool.eq_iff_iff, List.any_eq_true, List.any_eq_true]
      constructor
      · rintro ⟨x, hx, hp⟩; exact ⟨x, hx, by rw [← this x hx]; exact hp⟩
      · rintro ⟨x, hx, hp⟩; exact ⟨x, hx, by rw [this x hx]; exact hp⟩
    | _ => rfl
  | _ => rfl
theorem refsS_envR {s : St} {o : Oper} {ts : List Tmp} (h : ∀ t ∈ opTmps o.op, t ∈ ts) : refsS ⟨envR s.env ts, s.objs⟩ o = refsS s o := by
  have he : ∀ x ∈ o.op.operands.toList, unG (evalA (envR s.env ts) x) = unG (evalA s.env x) := fun x hx => by rw [evalA_envR fun t ht => h t (by subst ht; exact mem_opTmps hx)]
  unfold refsS
  rw [refsOp_congr he, deepOp_congr he]
theorem draw_law2 (hΓ : CxOK P Γ) (ok : DrawOK2 ops S) (hst : ∀ (i : Nat) o, ops[i]? = some o → stepA Γ true ops.toList o (fun x => x = S (i + 1)) (S i))
    {Qw : Exit → Act → World → Prop} (hQ : ∀ a w, Inv N H0 F0 w0 Γ.nt (S ops.size) a w → Qw .normal a w) :
    ∀ (fuel : Nat) (listed : Array Bool) (a : Act) (w : World), DJ N H0 F0 w0 Γ.nt ops S listed a w → unl listed ops.size = fuel → wpAny P .any ops Qw fuel listed a w := by
  -- where nothing is ready all is listed
  have hall : ∀ listed a w, DJ N H0 F0 w0 Γ.nt ops S listed a w → Region.ready .any ops listed = [] → ∀ k, k < ops.size → listed.getD k false = true := by
    intro listed a w hD hr k
    induction k using Nat.strongRecOn with
    | _ k ih =>
      intro hk
      cases hl : listed.getD k false with
      | true => rfl
      | false =>
        have : k ∈ Region.ready .any ops listed := by
          rw [mem_ready]
          refine ⟨getD_in (by rw [hD.size]; exact hk) hl, _, Array.getElem?_eq_getElem hk, fun e he hb => ?_⟩
          have hlt := ok.back k _ (Array.getElem?_eq_getElem hk) e (by simpa using he) hb
          exact ih e.on hlt (by omega)
        rw [hr] at this
        cases this
  have hfin : ∀ listed a w, DJ N H0 F0 w0 Γ.nt ops S listed a w → (∀ k, k < ops.size → listed.getD k false = true) → Qw .normal a w := by
    intro listed a w hD hl
    obtain ⟨F, ρ, T, ver, hS, hTl, hsl, hdom, hv0, hv1, hv2, hv3, hv4⟩ := hD.ex
    refine hQ a w ⟨F, ρ, ?_, fun t => ?_, hD.tsz, hD.defers⟩
    · refine hS.table (Nat.le_of_eq hTl) fun k L ob hk ho => ?_
      have hkl := obA_lt ho
      obtain ⟨q1, q2⟩ := hv3 k (by omega)
      rw [same_le hst q2 (Nat.le_refl _) q1 fun m h1 h2 hw => ?_] at ho
      · exact hv0 k ob (by omega) ho
      · have := hv1 m k (hl m h2) hw; omega
    · rcases env_track2 hst ops.size (Nat.le_refl _) t with ⟨i, o, h1, h2, h3, h4⟩ | ⟨h1, h2⟩
      · rw [h4]; exact (hsl t).1 i o h2 h3 (hl i h1)
      · rw [h2]
        refine (hsl t).2 fun i o ho hd => ?_
        exact absurd hd (h1 i o (getElem?_ltA ho) ho)
  intro fuel
  induction fuel with
  | zero =>
    intro listed a w hD hu
    have hl := unl_zero ops.size hu
    refine ⟨?_, hfin listed a w hD hl⟩
    rw [List.eq_nil_iff_forall_not_mem]
    intro k hk
    obtain ⟨h1, o, ho, _⟩ := mem_ready.1 hk
    have := hl k (getElem?_ltA ho)
    rw [getD_both h1] at this
    cases this
  | succ fuel ih =>
    intro listed a w hD hu
    refine ⟨fun hr => hfin listed a w hD (hall listed a w hD hr), fun i hi => ?_⟩
    obtain ⟨hun, o, ho, hedges⟩ := mem_ready.1 hi
    have hui := getD_both hun
    have hio := getElem?_ltA ho
    have hidx : i < listed.size := by rw [hD.size]; exact hio
    obtain ⟨F, ρ, T, ver, hS, hTl, hsl, hdom, hv0, hv1, hv2, hv3, hv4⟩ := hD.ex
    have hdirect : ∀ k, Region.waitsFor .any ops i k = true → listed.getD k false = true := fun k hk => by
      obtain ⟨o', ho', e, he, hb, hon⟩ := Region.waitsFor_spec hk
      rw [ho] at ho'; cases ho'
      rw [← hon]; exact hedges e he hb
    have hbehind : ∀ m, Reach ops m i → listed.getD m false = false := fun m hm => by
      cases hl : listed.getD m false with
      | false => rfl
      | true =>
        have := reach_listed hD.closed hm fun k hk => by
          obtain ⟨o', ho', e, he, hb, hon⟩ := Region.waitsFor_spec hk
          rw [← hon]
          exact hD.closed m o' ho' hl e (by simpa using he) hb
        rw [hui] at this; cases this
    -- the slots that it reads
    have hrs : RS F ρ (S i).env a.tmps (readsB ops.toList o) := by
      intro t ht
      rcases env_track2 hst i (by omega) t with ⟨k, ok', h1, h2, h3, h4⟩ | ⟨h1, h2⟩
      · rw [h4]
        exact (hsl t).1 k ok' h2 h3 (hdirect k (ok.deps k i ok' o t h2 ho h1 h3 ht))
      · rw [h2]
        refine (hsl t).2 fun k ok' hk hd => ?_
        rcases Nat.lt_trichotomy k i with hlt | heq | hgt
        · exact absurd hd (h1 k ok' hlt hk)
        · rw [heq]; exact hui
        · exact hbehind k (.one (ok.anti k i ok' o t hk ho hgt hd ht))
    have hstep := hst i o ho
    have hdst := step_dst hstep
    obtain ⟨s', ⟨s'', rfl, hobj', henv'⟩, hstep'⟩ := stepA_ex (stepA_envR rfl (ts := readsB ops.toList o) (fun t h => h) hstep)
    have hlk' : ∀ d, o.dst = some d → lkA s'.env d = lkA (S (i + 1)).env d := fun d hd => by
      rcases henv' with ⟨h, _⟩ | ⟨d', x, h1, h2, h3⟩
      · rw [h] at hd; cases hd
      · rw [h1] at hd; cases hd
        rw [h2, h3, lkA_cons, lkA_cons, if_pos rfl, if_pos rfl]
    have hSl : Slots F ρ (envR (S i).env (readsB ops.toList o)) a.tmps := Slots.ofRS hrs
    have hrefs : refsS ⟨envR (S i).env (readsB ops.toList o), (S i).objs⟩ o = refsS (S i) o := refsS_envR fun t ht => List.mem_append_left _ ht
    have hleni : (S i).objs.length ≤ (S (i + 1)).objs.length := (step_out hstep).1
    have hlenN : (S (i + 1)).objs.length ≤ T.length := by rw [hTl]; exact len_le hst (by omega) (Nat.le_refl _)
    -- the objects that it names are as it wants them
    have key : (memOp o.op = true ∨ isW o.op = true) → Ext (S i).objs T (refsS (S i) o) := by
      intro hmw k hk ob hob
      have hkl := obA_lt hob
      obtain ⟨q1, q2⟩ := hv3 k (by omega)
      refine hv0 k ob (by omega) ?_
      rcases Nat.le_total (ver k) i with hle | hle
      · rw [← same_le hst hle (by omega) q1 fun m h1 h2 hw => ?_]
        · exact hob
        · obtain ⟨om, hom, hW, hmk, _⟩ := hw
          rcases ok.conf i m o om ho hom (by omega) hW hmw with h | h | h
          · have := reach_lt ok h; omega
          · have := hv1 m k (reach_listed hD.closed h hdirect) ⟨om, hom, hW, hmk, by assumption⟩
            omega
          · exact h k hk hmk
      · rw [same_le hst hle q2 hkl fun m h1 h2 hw => ?_]
        · exact hob
        · obtain ⟨om, hom, hW, hmk, hmL⟩ := hw
          by_cases hmi : m = i
          · subst hmi
            have := hv2 m k hui ⟨om, hom, hW, hmk, hmL⟩
            omega
          · rcases ok.conf i m o om ho hom (fun e => hmi e.symm) hW hmw with h | h | h
            · have := hv2 m k (hbehind m h) ⟨om, hom, hW, hmk, hmL⟩
              omega
            · have := reach_lt ok h; omega
            · exact h k hk hmk
    have hfresh : ∀ k, (S i).objs.length ≤ k → k < (S (i + 1)).objs.length → ρ k = none := fun k h1 h2 => by
      cases hρ : ρ k with
      | none => rfl
      | some L =>
        rcases hdom k L hρ with h | ⟨i', g1, g2, g3, g4⟩
        · have := len_le hst (Nat.zero_le i) (by omega); omega
        · rcases Nat.lt_trichotomy i' i with hlt | heq' | hgt
          · have := len_le hst (show i' + 1 ≤ i by omega) (by omega); omega
          · rw [heq', hui] at g1; cases g1
          · have := len_le hst (show i + 1 ≤ i' by omega) (by omega); omega
    -- what is left to show behind it
    have hne : ∀ k, k ≠ i → (listed.setIfInBounds i true).getD k false = listed.getD k false := fun k hk => by
      rw [Array.getD_eq_getD_getElem?, Array.getD_eq_getD_getElem?, Array.getElem?_setIfInBounds_ne (Ne.symm hk)]
    have heq : (listed.setIfInBounds i true).getD i false = true := by simp [hidx]
    have next : ∀ (v : Value) (w' : World) (F' : Nat → Option Obj) (ρ' : Nat → Option Loc) (T' : List (Option Ob)) (ver' : Nat → Nat), FLe F F' → RLe ρ ρ' → (∀ k, ¬((S i).objs.length ≤ k ∧ k < (S (i + 1)).objs.length) → ρ' k = ρ k) → Sim N H0 F0 F' ρ' T' w'.heap → T'.length = T.length → (∀ d, o.dst = some d → ARep F' ρ' (lkA s'.env d) v) → Mu w w' →
        (∀ k ob, k < T.length → obA (S (ver' k)).objs k = some ob → obA T' k = some ob) → (∀ m k, (listed.setIfInBounds i true).getD m false = true → Wr ops S m k → m < ver' k) → (∀ m k, (listed.setIfInBounds i true).getD m false = false → Wr ops S m k → ver' k ≤ m) → (∀ k, k < T.length → k < (S (ver' k)).objs.length ∧ ver' k ≤ ops.size) → (∀ k, ρ k = none → obA T' k = obA T k) →
        wpAny P .any ops Qw fuel (listed.setIfInBounds i true) (a.put o.dst v) w' := by
      intro v w' F' ρ' T' ver' hF hρ hkeep hS' hTl' hv hmu u0 u1 u2 u3 u4
      refine ih _ _ _ { size := by simpa using hD.size, closed := fun j oj hj hl e he hb => ?_, tsz := hD.tsz.put hdst, defers := by rw [put_defers]; exact ⟨hD.defers.1, hD.defers.2.trans hmu⟩, ex := ⟨F', ρ', T', ver', hS', by rw [hTl', hTl], fun t => ?_, fun k L hk => ?_, by rw [hTl']; exact u0, u1, u2, by rw [hTl']; exact u3, fun m k ob hm hk h1 h2 => ?_⟩ } (by have := unl_set hidx hui ops.size hio; omega)
      · by_cases hji : j = i
        · subst hji
          rw [ho] at hj; cases hj
          have := hedges e (by simpa using he) hb
          by_cases hee : e.on = j
          · rw [hee]; exact heq
          · rw [hne _ hee]; exact this
        · rw [hne j hji] at hl
          have := hD.closed j oj hj hl e he hb
          by_cases hee : e.on = i
          · rw [hee]; exact heq
          · rw [hne _ hee]; exact this
      · by_cases hdt : o.dst = some t
        · have hval : (a.put o.dst v).tmps.getD t undef = v := by
            rw [hdt]
            have : t < a.tmps.size := by rw [hdt] at hdst; exact hD.tsz.lt hdst
            simp [Act.put, this]
          rw [hval]
          refine ⟨fun k ok' hk hd _ => ?_, fun hno => ?_⟩
          · by_cases hki : k = i
            · subst hki
              rw [← hlk' t hdt]; exact hv t hdt
            · exact absurd hd (ok.dst i k o ok' t ho hk (Ne.symm hki) hdt)
          · have := hno i o ho hdt
            rw [heq] at this; cases this
        · have hval : (a.put o.dst v).tmps.getD t undef = a.tmps.getD t undef := by
            cases hdd : o.dst with
            | none => rfl
            | some d =>
              have hdne : d ≠ t := fun e => hdt (by rw [hdd, e])
              rw [Array.getD_eq_getD_getElem?, Array.getD_eq_getD_getElem?]
              simp only [Act.put]
              rw [Array.getElem?_setIfInBounds_ne hdne]
          rw [hval]
          refine ⟨fun k ok' hk hd hl => ?_, fun hno => ?_⟩
          · have hki : k ≠ i := fun e => by subst e; rw [ho] at hk; cases hk; exact hdt hd
            rw [hne k hki] at hl
            exact ((hsl t).1 k ok' hk hd hl).mono hF hρ
          · refine ((hsl t).2 fun k ok' hk hd => ?_).mono hF hρ
            have hki : k ≠ i := fun e => by subst e; rw [ho] at hk; cases hk; exact hdt hd
            have := hno k ok' hk hd
            rwa [hne k hki] at this
      · by_cases hr : (S i).objs.length ≤ k ∧ k < (S (i + 1)).objs.length
        · exact .inr ⟨i, heq, hio, hr.1, hr.2⟩
        · rw [hkeep k hr] at hk
          rcases hdom k L hk with h | ⟨i', g1, g2⟩
          · exact .inl h
          · refine .inr ⟨i', ?_, g2⟩
            by_cases hii : i' = i
            · rw [hii]; exact heq
            · rw [hne i' hii]; exact g1
      · have hk0 : ρ k = none := by
          cases hr : ρ k with
          | none => rfl
          | some L => rw [hρ k L hr] at hk; cases hk
        rw [u4 k hk0]
        exact hv4 m k ob hm hk0 h1 h2
    unfold wpOp
    rw [ho]
    simp only
    have wrap : ∀ {A B C : Prop} {c : Bool}, (if c = true then A else B) → (if c = true then A ∨ C else B) := fun {A B C c} h => by
      cases c with
      | true => rw [if_pos rfl] at h ⊢; exact .inl h
      | false => rw [if_neg (by simp)] at h ⊢; exact h
    refine wrap ?_
    cases hW : isW o.op with
    | true =>
      have hkey := key (.inr hW)
      refine step_wT hΓ hW hstep' hS hSl (by rw [hrefs]; exact hkey) (fun k h1 h2 => hfresh k h1 (by rw [← hobj'] at h2; exact h2)) (by rw [← hobj']; exact hlenN) (fun k ob h1 h2 => by
        rw [← hobj'] at h2
        exact hv4 i k ob hio (hfresh k h1 (obA_lt h2)) h1 h2) fun v w' F' ρ' T2 hF hρ hkeep hS' hT2l t2 t3 t4 hv hmu => ?_
      rw [hrefs, ← hobj'] at t2
      rw [hrefs] at t3
      rw [← hobj'] at t4 hkeep
      have hwr : ∀ k, Wr ops S i k ↔ k ∈ refsS (S i) o ∧ k < (S i).objs.length := fun k => ⟨fun ⟨o', h1, _, h3, h4⟩ => by rw [ho] at h1; cases h1; exact ⟨h3, h4⟩, fun h => ⟨o, ho, hW, h.1, h.2⟩⟩
      have dec : ∀ k, Decidable (Wr ops S i k) := fun k => decidable_of_iff _ (hwr k).symm
      let T' := mkT T.length fun k => bif (ρ k).isSome then obA T2 k else obA T k
      have hT'n : ∀ k, ρ k = none → obA T' k = obA T k := fun k hk => by
        simp only [T', obA_mkT, hk, Option.isSome_none, cond_false]
        split
        · rfl
        · rename_i hl
          cases hx : obA T k with
          | none => rfl
          | some ob => exact absurd (obA_lt hx) hl
      have hT's : ∀ k L, ρ k = some L → obA T' k = obA T2 k := fun k L hk => by
        simp only [T', obA_mkT, hk, Option.isSome_some, cond_true]
        split
        · rfl
        · rename_i hl
          cases hx : obA T2 k with
          | none => rfl
          | some ob => exact absurd (obA_lt hx) (by omega)
      refine next v w' F' ρ' T' (fun k => if Wr ops S i k then i + 1 else ver k) hF hρ hkeep (hS'.table (by simp only [T', mkT_length]; omega) fun k L ob hk hob => ?_) (by simp only [T', mkT_length]) hv hmu (fun k ob hk hob => ?_) (fun m k hm hw => ?_) (fun m k hm hw => ?_) (fun k hk => ?_) hT'n
      · cases hr : ρ k with
        | some L' => rw [hT's k L' hr] at hob; exact hob
        | none =>
          rw [hT'n k hr] at hob
          rw [t3 k fun hh => ?_]
          · exact hob
          · by_cases hc : (S i).objs.length ≤ k ∧ k < (S (i + 1)).objs.length
            · have := hh.2; simp only at this; omega
            · rw [hkeep k hc, hr] at hk; cases hk
      · by_cases hw : Wr ops S i k
        · simp only [if_pos hw] at hob
          obtain ⟨c1, c2⟩ := (hwr k).1 hw
          cases hr : ρ k with
          | some L' => rw [hT's k L' hr]; exact t2 k ob c2 c1 hob
          | none => rw [hT'n k hr]; exact hkey k c1 ob (t4 k ob hr c2 hob)
        · simp only [if_neg hw] at hob
          have := hv0 k ob hk hob
          cases hr : ρ k with
          | some L' => rw [hT's k L' hr, t3 k fun hh => hw ((hwr k).2 hh)]; exact this
          | none => rw [hT'n k hr]; exact this
      · by_cases hmi : m = i
        · subst hmi
          simp only [if_pos hw]; omega
        · rw [hne m hmi] at hm
          by_cases hwi : Wr ops S i k
          · simp only [if_pos hwi]
            obtain ⟨om, hom, hWm, hmk, _⟩ := hw
            obtain ⟨c1, c2⟩ := (hwr k).1 hwi
            rcases ok.conf i m o om ho hom (fun e => hmi e.symm) hWm (.inr hW) with h | h | h
            · rw [hbehind m h] at hm; cases hm
            · have := reach_lt ok h; omega
            · exact absurd hmk (h k c1)
          · simp only [if_neg hwi]; exact hv1 m k hm hw
      · have hmi : m ≠ i := fun e => by rw [e, heq] at hm; cases hm
        rw [hne m hmi] at hm
        by_cases hwi : Wr ops S i k
        · simp only [if_pos hwi]
          obtain ⟨om, hom, hWm, hmk, _⟩ := hw
          obtain ⟨c1, c2⟩ := (hwr k).1 hwi
          rcases ok.conf i m o om ho hom (fun e => hmi e.symm) hWm (.inr hW) with h | h | h
          · have := reach_lt ok h; omega
          · have := reach_listed hD.closed h hdirect
            rw [hm] at this; cases this
          · exact absurd hmk (h k c1)
        · simp only [if_neg hwi]; exact hv2 m k hm hw
      · by_cases hwi : Wr ops S i k
        · simp only [if_pos hwi]
          have := (hwr k).1 hwi
          exact ⟨by omega, by omega⟩
        · simp only [if_neg hwi]; exact hv3 k hk
    | false =>
      obtain ⟨new, hn1, hcut⟩ := stepA_cut hW hstep'
      rw [hrefs] at hcut
      have hcl : (cutO (refsS (S i) o) (S i).objs).length = (S i).objs.length := cutO_length _ _
      have hlen2 : (cutO (refsS (S i) o) (S i).objs ++ new).length = (S (i + 1)).objs.length := by rw [hobj', hn1, List.length_append, List.length_append, hcl]
      refine step_tab hΓ hW hcut hS hSl (fun hm => ?_) fun v w' F' ρ' hF hρ hkeep hS' hv hmu => ?_
      · simp only [hcl, hlen2]
        refine ⟨fun k ob hk => ?_, hfresh, hlenN⟩
        rw [obA_append, hcl] at hk
        by_cases hkl : k < (S i).objs.length
        · rw [if_pos hkl, obA_cut] at hk
          split at hk
          · rename_i hmem; exact key (.inl hm) k hmem ob hk
          · cases hk
        · rw [if_neg hkl] at hk
          have hob : obA (S (i + 1)).objs k = some ob := by rw [hobj', hn1, obA_append, if_neg hkl]; exact hk
          exact hv4 i k ob hio (hfresh k (by omega) (obA_lt hob)) (by omega) hob
      · simp only [hcl, hlen2] at hkeep
        have hno : ∀ k, ¬Wr ops S i k := fun k ⟨o', h1, h2, _⟩ => by rw [ho] at h1; cases h1; rw [hW] at h2; cases h2
        refine next v w' F' ρ' T ver hF hρ hkeep hS' rfl hv hmu hv0 (fun m k hm hw => ?_) (fun m k hm hw => ?_) hv3 (fun _ _ => rfl)
        · have hmi : m ≠ i := fun e => hno k (by rw [← e]; exact hw)
          rw [hne m hmi] at hm; exact hv1 m k hm hw
        · have hmi : m ≠ i := fun e => hno k (by rw [← e]; exact hw)
          rw [hne m hmi] at hm; exact hv2 m k hm hw
end law
theorem valAt_eq {Γ : Cx} {ops : Array Oper} {S : Nat → St} (hst : ∀ (i : Nat) o, ops[i]? = some o → stepA Γ true ops.toList o (fun x => x = S (i + 1)) (S i)) (hd : ∀ (i j : Nat) oi oj d, ops[i]? = some oi → ops[j]? = some oj → i ≠ j → oi.dst = some d → oj.dst ≠ some d) {i : Nat} (hi : i ≤ ops.size) (x : Operand) :
    valAt ops.toList (S 0).env (S ops.size).env i x = evalA (S i).env x := by
  cases x with
  | tmp t =>
    simp only [valAt, evalA]
    cases hany : (ops.toList.take i).any (fun o => match o.dst with | some d => Nat.beq d t | none => false) with
    | true =>
      rw [cond_true]
      rw [List.any_eq_true] at hany
      obtain ⟨o, ho, hot⟩ := hany
      obtain ⟨j, hj⟩ := List.getElem?_of_mem ho
      have hji : j < i := by have := getElem?_lt hj; simp at this; omega
      rw [List.getElem?_take_of_lt hji] at hj
      have hoj : ops[j]? = some o := by simpa using hj
      have hdt : o.dst = some t := by
        cases hdo : o.dst with
        | none => rw [hdo] at hot; cases hot
        | some d => rw [hdo] at hot; rw [Nat.eq_of_beq_eq_true hot]
      have one : ∀ n, j < n → n ≤ ops.size → lkA (S n).env t = lkA (S (j + 1)).env t := fun n h1 h2 => by
        rcases env_track2 hst n h2 t with ⟨k, ok', q1, q2, q3, q4⟩ | ⟨q1, _⟩
        · by_cases hkj : k = j
          · rw [q4, hkj]
          · exact absurd q3 (hd j k o ok' t hoj q2 (Ne.symm hkj) hdt)
        · exact absurd hdt (q1 j o h1 hoj)
      rw [one i hji hi, one ops.size (by omega) (Nat.le_refl _)]
    | false =>
      rw [cond_false]
      rcases env_track2 hst i hi t with ⟨k, ok', q1, q2, q3, q4⟩ | ⟨_, q2⟩
      · exfalso
        rw [List.any_eq_false] at hany
        refine hany ok' ?_ ?_
        · apply List.mem_of_getElem? (i := k)
          rw [List.getElem?_take_of_lt q1]
          simpa using q2
        · simp [q3]
      · rw [q2]
  | _ => rfl
theorem draw_sound2 {Γ : Cx} (hfol : P.follows .mixedOrders = true) (hΓ : CxOK P Γ) {id : Nat} {ops : Array Oper} {Q : St → Prop} {st : St} {a : Act} (hB : drawB ops = false) (h : runA Γ true ops.toList ops.toList (fun s => drawQ true ops st.env s.env = true ∧ Q s) st) (hI : Inv N H0 F0 w0 Γ.nt st a w)
    {Qw : Exit → Act → World → Prop} (hQ : ∀ st' a' w', Q st' → Inv N H0 F0 w0 Γ.nt st' a' w' → Qw .normal a' w') : (Code.region id ops true).wp P Qw a w := by
  obtain ⟨S, h0, hst, hC, hQS⟩ := run_states _ _ _ h
  have hst : ∀ (i : Nat) o, ops[i]? = some o → stepA Γ true ops.toList o (fun x => x = S (i + 1)) (S i) := fun i o hi => hst i o (by simpa using hi)
  simp only [Array.length_toList] at hC hQS
  replace hC : drawC ops st.env (S ops.size).env = true := by simpa [drawQ, hB] using hC
  rw [← h0] at hC hI
  have hz : ∀ (j : Nat) oj, ops[j]? = some oj → (oj, j) ∈ ops.toList.zipIdx := fun j oj hj => by
    rw [List.mem_zipIdx_iff_getElem?]
    simpa using hj
  have h1 : ∀ (j : Nat) oj, ops[j]? = some oj → (∀ e ∈ oj.after.toList, Region.binds .any e = true → e.on < j) ∧ ∀ (i : Nat) oi, ops[i]? = some oi → pairC ops (S 0).env (S ops.size).env (Region.before ops) i j oi oj = true := by
    intro j oj hj
    unfold drawC at hC
    have := List.all_eq_true.1 hC _ (hz j oj hj)
    simp only [Bool.and_eq_true] at this
    refine ⟨fun e he hb => ?_, fun i oi hi => List.all_eq_true.1 this.2 _ (hz i oi hi)⟩
    have := Array.all_eq_true'.1 this.1 e (by simpa using he)
    simpa [hb] using this
  have hdst : ∀ (i j : Nat) oi oj d, ops[i]? = some oi → ops[j]? = some oj → i ≠ j → oi.dst = some d → oj.dst ≠ some d := fun i j oi oj d hi hj hne hd => by
    have := (h1 j oj hj).2 i oi hi
    simp only [pairC, hd, Bool.or_eq_true, beq_iff_eq, hne, false_or, Bool.and_eq_true, bne_iff_ne] at this
    exact this.1.1
  have hrefs : ∀ (i : Nat) o, ops[i]? = some o → deepAt ops.toList (S 0).env (S ops.size).env i o = false → refsAt ops.toList (S 0).env (S ops.size).env i o = refsS (S i) o := fun i o hi hd => by
    unfold refsAt refsS
    unfold deepAt at hd
    simp only [valAt_eq hst hdst (Nat.le_of_lt (getElem?_ltA hi))] at hd ⊢
    rw [hd]; rfl
  have ok : DrawOK2 ops S := by
    refine { back := fun j oj hj => (h1 j oj hj).1, dst := hdst, deps := fun i j oi oj d hi hj hlt hd hr => ?_, anti := fun i j oi oj d hi hj hlt hd hr => ?_, conf := fun i j oi oj hi hj hne hW hm => ?_ }
    · have := (h1 j oj hj).2 i oi hi
      simp only [pairC, hd, Bool.or_eq_true, beq_iff_eq, show i ≠ j by omega, false_or, Bool.and_eq_true] at this
      have := this.1.2
      simpa [hr, hlt] using this
    · have := (h1 j oj hj).2 i oi hi
      simp only [pairC, hd, Bool.or_eq_true, beq_iff_eq, show i ≠ j by omega, false_or, Bool.and_eq_true] at this
      have := this.1.2
      simpa [hr, show ¬ i < j by omega] using this
    · have := (h1 j oj hj).2 i oi hi
      have hmm : (memOp oi.op || isW oi.op) = true := by simpa using hm
      simp only [pairC, Bool.or_eq_true, beq_iff_eq, hne, false_or, Bool.and_eq_true, hW, hmm, Bool.not_true, Bool.false_eq_true] at this
      rcases this.2 with (h | h) | h
      · exact .inl (before_reach ops j i h)
      · exact .inr (.inl (before_reach ops i j h))
      · refine .inr (.inr fun k hk hk' => ?_)
        simp only [Bool.and_eq_true, Bool.not_eq_true'] at h
        obtain ⟨hdi, h⟩ := h
        rw [hrefs i oi hi hdi, hrefs j oj hj (W_shallow hW)] at h
        have := List.all_eq_true.1 h k hk
        rw [List.contains_iff_mem.2 hk'] at this
        cases this
  refine wp_region_any hfol ?_
  obtain ⟨F, ρ, hS, hSl, hn, hd⟩ := hI
  have hz : ∀ k, (Array.replicate ops.size false).getD k false = false := fun k => getD_replicate_false _ _
  have hmono : ∀ i j, i ≤ j → j ≤ ops.size → (S i).objs.length ≤ (S j).objs.length := fun i j h h' => len_le hst h h'
  have hb := fun k (hk : k < (S ops.size).objs.length) => bornA_spec (S := S) k ops.size hmono hk
  have h0n := hmono 0 ops.size (Nat.zero_le _) (Nat.le_refl _)
  refine draw_law2 (S := S) hΓ ok hst (fun a' w' hI' => hQ _ _ _ hQS hI') ops.size _ a _ ?_ ?_
  · refine { size := by simp, closed := (fun j oj _ hl => by rw [hz] at hl; cases hl), tsz := hn, defers := hd, ex := ⟨F, ρ, mkT (S ops.size).objs.length (fun k => obA (S (bornA S k ops.size)).objs k), fun k => bornA S k ops.size, hS.table (by rw [mkT_length]; exact h0n) fun k L ob hk ho => ?_, mkT_length _ _, fun t => ⟨(fun i o _ _ hl => by rw [hz] at hl; cases hl), fun _ => hSl t⟩, fun k L hk => .inl (hS.dom k L hk), fun k ob hk ho => ?_, fun i k hl => by (rw [hz] at hl; cases hl), fun i k _ hw => ?_, fun k hk => ?_, fun i k ob hi _ hk ho => ?_⟩ }
    · have hk0 := hS.dom k L hk
      obtain ⟨q1, q2, q3⟩ := hb k (by omega)
      have : bornA S k ops.size = 0 := by
        cases hbk : bornA S k ops.size with
        | zero => rfl
        | succ m => have := q3 0 (by omega); omega
      rw [obA_mkT, if_pos (by omega), this] at ho
      exact ho
    · rw [mkT_length] at hk
      rw [obA_mkT, if_pos hk]; exact ho
    · obtain ⟨o, ho, _, _, hkl⟩ := hw
      have hil := getElem?_ltA ho
      have := hmono i ops.size (by omega) (Nat.le_refl _)
      obtain ⟨q1, q2, q3⟩ := hb k (by omega)
      rcases Nat.lt_or_ge i (bornA S k ops.size) with h | h
      · have := q3 i h; omega
      · exact h
    · rw [mkT_length] at hk
      obtain ⟨q1, q2, q3⟩ := hb k hk
      exact ⟨q2, q1⟩
    · have hkl := obA_lt ho
      have := hmono (i + 1) ops.size (by omega) (Nat.le_refl _)
      obtain ⟨q1, q2, q3⟩ := hb k (by omega)
      have hbi : bornA S k ops.size = i + 1 := by
        rcases Nat.lt_trichotomy (bornA S k ops.size) (i + 1) with h | h | h
        · have := hmono (bornA S k ops.size) i (by omega) (by omega); omega
        · exact h
        · have := q3 (i + 1) h; omega
      rw [obA_mkT, if_pos (by omega), hbi]; exact ho
  · have : ∀ n, unl (Array.replicate ops.size false) n = n := by
      intro n
      induction n with
      | zero => rfl
      | succ n ih => simp only [unl, ih, hz]; rfl
    exact this _
end Go.AI
end
section
namespace Go.AI
variable {P : Program} {F F' : Nat → Option Obj} {ρ ρ' : Nat → Option Loc} {N : Nat → Prop} {H0 F0 : Nat → Option Obj} {O objs : List (Option Ob)} {w : World} {w0 : W0}
def exM : Ex → Exit
  | .normal => .normal
  | .exit i => .exit i
  | .ret => .ret
def PostM (N : Nat → Prop) (H0 F0 : Nat → Option Obj) (w0 : W0) (nt : Slt) (Q : Ex → St → Prop) : Exit → Act → World → Prop := fun e a w => ∃ e' st', e = exM e' ∧ Q e' st' ∧ Inv N H0 F0 w0 nt st' a w
theorem wp_sound {Γ : Cx} (hfol : P.follows .mixedOrders = true) (hΓ : CxOK P Γ) : ∀ (c : Code) (Q : Ex → St → Prop) (st : St) (a : Act) (w : World), wpA Γ c Q st → Inv N H0 F0 w0 Γ.nt st a w → c.wp P (PostM N H0 F0 w0 Γ.nt Q) a w := by
  intro c
  induction c with
  | skip => intro Q st a w h hI; exact wp_skip ⟨.normal, st, rfl, h, hI⟩
  | region id ops draw =>
    intro Q st a w h hI
    obtain ⟨s1, hsh, h⟩ := h
    replace hI := desc_sound hsh hI
    cases draw with
    | false => exact wp_region_list (run_seq hΓ ops.toList _ s1 a w h hI fun st' a' w' hq hI' => ⟨.normal, st', rfl, hq.2, hI'⟩)
    | true =>
      cases hB : drawB ops with
      | true => exact draw_sound (Q := fun s => drawQ true ops s1.env s.env = true ∧ Q .normal s) hfol hΓ hB h hI fun st' a' w' hq hI' => ⟨.normal, st', rfl, hq.2, hI'⟩
      | false => exact draw_sound2 hfol hΓ hB h hI fun st' a' w' hq hI' => ⟨.normal, st', rfl, hq, hI'⟩
  | seq x y ihx ihy =>
    intro Q st a w h hI
    refine wp_seq (wp_mono (ihx _ st a w h hI) fun e a' w' hp => ?_)
    obtain ⟨e', st', rfl, hq, hI'⟩ := hp
    cases e' with
    | normal =>
      obtain ⟨s1, hsh, hq⟩ := hq
      exact ihy Q s1 a' w' hq (desc_sound hsh hI')
    | exit i => exact ⟨.exit i, st', rfl, hq, hI'⟩
    | ret => exact ⟨.ret, st', rfl, hq, hI'⟩
  | cond c x y ihx ihy =>
    intro Q st a w h hI
    obtain ⟨F, ρ, hS, hSl, hn, hdf⟩ := hI
    simp only [wpA] at h
    unfold condA at h
    split at h
    · rename_i t ht
      have hc := evalA_sound hSl c
      rw [ht] at hc
      refine wp_cond_split hc.bool (fun e => ihx Q st a w (h.1 e) ⟨F, ρ, hS, hSl, hn, hdf⟩) (fun e => ihy Q st a w (h.2 e) ⟨F, ρ, hS, hSl, hn, hdf⟩)
    · exact h.elim
  | block id c ih =>
    intro Q st a w h hI
    refine wp_block (wp_mono (ih _ st a w h hI) fun e a' w' hp => ?_)
    obtain ⟨e', st', rfl, hq, hI'⟩ := hp
    cases e' with
    | normal => exact ⟨.normal, st', rfl, hq, hI'⟩
    | ret => exact ⟨.ret, st', rfl, hq, hI'⟩
    | exit i =>
      simp only [blockQ] at hq
      show if i = id then _ else _
      cases hb : Nat.beq i id with
      | true =>
        rw [hb, cond_true] at hq
        rw [if_pos (Nat.eq_of_beq_eq_true hb)]
        exact ⟨.normal, st', rfl, hq, hI'⟩
      | false =>
        rw [hb, cond_false] at hq
        have hne : i ≠ id := fun e => by subst e; simp at hb
        rw [if_neg hne]
        exact ⟨.exit i, st', rfl, hq, hI'⟩
  | loop c ih =>
    intro Q st a w h hI
    obtain ⟨I, n, ⟨s0, hsh0, h0⟩, hround⟩ := h
    have key : ∀ (k m : Nat) (st : St) (a : Act) (w : World), m < k → I m st → Inv N H0 F0 w0 Γ.nt st a w → Code.rounds P c (PostM N H0 F0 w0 Γ.nt Q) k a w := by
      intro k
      induction k with
      | zero => intro m st a w hm; omega
      | succ k ihk =>
        intro m st a w hm hIm hI
        refine wp_mono (ih _ st a w (hround m st hIm) hI) fun e a' w' hp => ?_
        obtain ⟨e', st', rfl, hq, hI'⟩ := hp
        cases e' with
        | normal =>
          obtain ⟨m', s1, hm', hsh, hq⟩ := hq
          exact ihk m' s1 a' w' (by omega) hq (desc_sound hsh hI')
        | exit i => exact ⟨.exit i, st', rfl, hq, hI'⟩
        | ret => exact ⟨.ret, st', rfl, hq, hI'⟩
    exact wp_loop_rounds (n + 1) (key (n + 1) n s0 a w (by omega) h0 (desc_sound hsh0 hI))
  | exit id => intro Q st a w h hI; exact wp_exit ⟨.exit id, st, rfl, h, hI⟩
  | ret => intro Q st a w h hI; exact wp_ret ⟨.ret, st, rfl, h, hI⟩
  | _ => intro Q st a w h; exact h.elim
def resV (Γ : Nat → Ty) (st : St) : ResultVar → Option (AV × Prop)
  | .tmp t => some (lkA st.env t, True)
  | .cell a t => bif (Γ t).ok then (match loadA (Γ t) st.objs (lkA st.env a) with
    | some e => some (e.v, e.ob)
    | none => none) else none
def resVs (Γ : Nat → Ty) (st : St) : List ResultVar → Option (List AV × Prop)
  | [] => some ([], True)
  | r :: rs => match resV Γ st r, resVs Γ st rs with
    | some (v, p), some (vs, q) => some (v :: vs, p ∧ q)
    | _, _ => none
def retA (Γ : Nat → Ty) (rs : List ResultVar) (r : AV) (st : St) : Prop :=
  match resVs Γ st rs with
  | some ([v], p) => p ∧ outA st.objs v r ∧ (ksE (entA v r)).Nodup
  | some (vs, p) => match r with
    | .tup l => p ∧ outT st.objs vs l ∧ (ksE (entT vs l)).Nodup
    | _ => False
  | none => False
def postA (Γ : Nat → Ty) (rs : List ResultVar) (r : AV) : Ex → St → Prop
  | .exit _, _ => False
  | _, st => retA Γ rs r st
def resS (tmps : Array Value) : ResultVar → Sem Value
  | .tmp t => pure (tmps.getD t undef)
  | .cell a t => do loadVar t (← asAddr (tmps.getD a undef))
theorem results_eq (fn : Func) (tmps : Array Value) : results fn tmps = (do let vs ← fn.results.mapM (resS tmps); pure (if h : vs.size = 1 then vs[0] else .tuple vs)) := by
  rfl
theorem resV_sound {Γ : Nat → Ty} (hΓ : TyOK P Γ) {st : St} {tmps : Array Value} (hS : Sim N H0 F0 F ρ st.objs w.heap) (hSl : Slots F ρ st.env tmps) {r : ResultVar} {v : AV} {p : Prop} (h : resV Γ st r = some (v, p)) (hp : p) :
    ∃ x, (resS tmps r).run P w = .ok x w ∧ ARep F ρ v x := by
  cases r with
  | tmp t => simp only [resV, Option.some.injEq, Prod.mk.injEq] at h; obtain ⟨rfl, rfl⟩ := h; exact ⟨_, rfl, hSl t⟩
  | cell a t =>
    simp only [resV] at h
    cases hok : (Γ t).ok with
    | false => rw [hok] at h; cases h
    | true =>
      rw [hok, cond_true] at h
      split at h
      · rename_i e he
        simp only [Option.some.injEq, Prod.mk.injEq] at h
        obtain ⟨rfl, rfl⟩ := h
        obtain ⟨_, _, _, x, hx, hr⟩ := loadA_sound (hΓ t hok) hS (fun _ _ h => h) he hp (hSl a)
        refine ⟨x, ?_, hr⟩
        simp only [Instr.loadAt, resS, Sem.run_bind] at hx ⊢
        cases hv : tmps.getD a undef with
        | pointer q =>
          cases q with
          | none => rw [hv] at hx; simp [Instr.sureAddr] at hx
          | some q => rw [hv] at hx; simpa [Instr.sureAddr, asAddr] using hx
        | _ => rw [hv] at hx; simp [Instr.sureAddr] at hx
      · cases h
theorem resVs_sound {Γ : Nat → Ty} (hΓ : TyOK P Γ) {st : St} {tmps : Array Value} (hS : Sim N H0 F0 F ρ st.objs w.heap) (hSl : Slots F ρ st.env tmps) : ∀ (rs : List ResultVar) (vs : List AV) (p : Prop), resVs Γ st rs = some (vs, p) → p →
    ∃ xs : List Value, (rs.mapM (resS tmps)).run P w = .ok xs w ∧ CR F ρ vs xs := by
  intro rs
  induction rs with
  | nil => intro vs p h _; cases h; exact ⟨[], rfl, rfl, fun i a v ha => by simp at ha⟩
  | cons r rs ih =>
    intro vs p h hp
    simp only [resVs] at h
    split at h
    · rename_i v p1 vs' q h1 h2
      cases h
      obtain ⟨x, hx, hr⟩ := resV_sound hΓ hS hSl h1 hp.1
      obtain ⟨xs, hxs, hc⟩ := ih vs' q h2 hp.2
      refine ⟨x :: xs, ?_, by simp [hc.1], fun i a u ha hu => ?_⟩
      · rw [List.mapM_cons]
        simp only [Sem.run_bind, hx, Result.andThen_ok, hxs, Sem.run_pure]
      · cases i with
        | zero => simp at ha hu; subst ha; subst hu; exact hr
        | succ i => exact hc.2 i a u (by simpa using ha) (by simpa using hu)
    · cases h
theorem callOK_of {Γ : Cx} (hfol : P.follows .mixedOrders = true) (hΓ : CxOK P Γ) {f : FuncId} {fn : Func} {c : Code} {args : List AV} {r : AV} (hf : P.funcs[f]? = some fn) (hb : fn.body = some c) (hnm : (fn.name == "runtime.NumGoroutine") = false)
    (hnt : Γ.nt.n = fn.ntmps) (hlen : args.length ≤ fn.ntmps) (h : wpA Γ c (postA Γ.ty fn.results.toList r) ⟨(List.range args.length).zip args, []⟩) : CallOK P f args r := by
  refine ⟨⟨fn, c, hf, hb, hnm⟩, fun F w vs hvs hF => ?_⟩
  have hvl : args.length = vs.size := by have := hvs.1; simpa using this
  refine calls_of_wp hf hb ?_
  have hS : Sim (fun b => w.heap.size ≤ b) (fun b => w.heap[b]?) F F noR [] w.heap := { size := fun b hb => hb, old := fun b _ => rfl, f0 := FLe.refl _, fnew := fun b o h _ => h, frz := hF, loc := fun k L h => by simp [noR] at h, dom := fun k L h => by simp [noR] at h, obj := fun k L ob h => by simp [noR] at h, sep := fun k k' L L' ob ob' h => by simp [noR] at h, inn := ⟨fun _ _ => none, ⟨(fun k c M h => by cases h), (fun k c M k' L ob h => by cases h), (fun k c M k' c' M' h => by cases h), (fun k L sz es h => by simp [noR] at h)⟩⟩ }
  have hSl : Slots F noR ((List.range args.length).zip args) (vs ++ Array.replicate (fn.ntmps - vs.size) undef) := by
    intro t
    rcases lkA_zip (List.range args.length) args t (by simp) with h | ⟨i, a, h1, h2, h3⟩
    · rw [h]; exact .top _
    · rw [h3]
      have hi := getElem?_lt h2
      have : i = t := by
        rw [List.getElem?_range hi] at h1
        exact Option.some.inj h1
      subst this
      have hv : vs[i]? = some vs[i] := Array.getElem?_eq_getElem (by omega)
      have : (vs ++ Array.replicate (fn.ntmps - vs.size) undef).getD i undef = vs[i] := by
        rw [Array.getD_eq_getD_getElem?, Array.getElem?_append_left (by omega), hv]; rfl
      rw [this]
      exact hvs.2 i a _ h2 (by simp)
  refine wp_mono (wp_sound (w0 := ⟨w, fun _ => none⟩) hfol hΓ c _ _ _ w h ⟨F, noR, hS, hSl, ⟨by simp [hnt]; omega, fun t v h => by cases h⟩, rfl, Mu.refl w⟩) fun e a' w' hp => ?_
  obtain ⟨e', st', rfl, hq, F', ρ', hS', hSl', hn', hdf'⟩ := hp
  have fin : retA Γ.ty fn.results.toList r st' → a'.defers = [] ∧ ∃ v, (results fn a'.tmps).run P w' = .ok v w' ∧ ∃ v' F' ρ, Ending.returned v = .returned v' ∧ Sim (fun b => w.heap.size ≤ b) (fun b => w.heap[b]?) F F' ρ ((impR true 0 r).2.map some) w'.heap ∧ ARep F' ρ (impR true 0 r).1 v' ∧ Mu w w' := by
    intro hr
    refine ⟨hdf'.1, ?_⟩
    unfold retA at hr
    have hmap : ∀ (xs : List Value), (fn.results.toList.mapM (resS a'.tmps)).run P w' = .ok xs w' → (results fn a'.tmps).run P w' = .ok (if h : xs.toArray.size = 1 then xs.toArray[0] else .tuple xs.toArray) w' := by
      intro xs hxs
      rw [results_eq, Array.mapM_eq_mapM_toList]
      simp only [Sem.run_bind, Sem.run_map, hxs, Result.andThen_ok, Sem.run_pure]
    split at hr
    · rename_i v p hres
      obtain ⟨hp, ho, hnd⟩ := hr
      obtain ⟨xs, hxs, hcr⟩ := resVs_sound hΓ.ty hS' hSl' _ _ _ hres hp
      match xs, hcr.1 with
      | [x], _ =>
        obtain ⟨g1, g2⟩ := outA_ok ho 0
        refine ⟨x, by rw [hmap _ hxs]; rfl, x, F', outRho ρ' (entA v r), rfl, ?_, ?_⟩
        · have hi : (impR true 0 r).2 = (impA true 0 r).2 := by
            cases r with
            | tup l =>
              cases v <;> simp [outA, outV] at ho
              all_goals (rename_i y; cases y <;> simp at ho)
            | _ => rfl
          rw [hi]
          exact hS'.out (by rw [g1]) hnd g2
        · have hi : (impR true 0 r).1 = (impA true 0 r).1 := by
            cases r with
            | tup l =>
              cases v <;> simp [outA, outV] at ho
              all_goals (rename_i y; cases y <;> simp at ho)
            | _ => rfl
          rw [hi]
          exact ⟨outA_rep ho (fun j x hx => by rw [Nat.zero_add]; exact hx) (hcr.2 0 v x rfl rfl), hdf'.2⟩
    · rename_i vs' p hne hres
      split at hr
      · rename_i l
        obtain ⟨hp, ho, hnd⟩ := hr
        obtain ⟨xs, hxs, hcr⟩ := resVs_sound hΓ.ty hS' hSl' _ _ _ hres hp
        obtain ⟨g1, g2⟩ := outT_ok vs' l 0 ho
        have hne1 : xs.toArray.size ≠ 1 := by
          intro h1
          have : vs'.length = 1 := by rw [hcr.1]; simpa using h1
          match vs', this with
          | [y], _ => exact hne y rfl
        refine ⟨.tuple xs.toArray, by rw [hmap _ hxs, dif_neg hne1], _, F', outRho ρ' (entT vs' l), rfl, hS'.out (by rw [g1]; rfl) hnd g2, ?_⟩
        have := outT_rep (F := F') (ρ := ρ') (E := entT vs' l) vs' l 0 xs ho (fun j x hx => by rw [Nat.zero_add]; exact hx) hcr
        exact ⟨.tup _ _ (by have := this.1; simpa using this) fun j a v ha hv => this.2 j a v ha (by simpa using hv), hdf'.2⟩
      · exact hr.elim
    · exact hr.elim
  cases e' with
  | normal => exact fin hq
  | ret => exact fin hq
  | exit i => exact hq.elim
def retL (Γ : Nat → Ty) (rs : List ResultVar) (kl : List Nat) (r : AV) (objs1 : List (Option Ob)) (st : St) : Prop :=
  st.objs = objs1 ∧ (∀ (i t : Nat), kl[i]? = some t → lkA st.env t = .ptr i 0) ∧ match resVs Γ st rs with
    | some ([v], p) => p ∧ v = r
    | some (vs, p) => p ∧ r = .tup vs
    | none => False
def postL (Γ : Nat → Ty) (rs : List ResultVar) (kl : List Nat) (r : AV) (objs1 : List (Option Ob)) : Ex → St → Prop
  | .exit _, _ => False
  | _, st => ∃ s', Shift st s' ∧ retL Γ rs kl r objs1 s'
def boxLen : Option Ob → Option Nat
  | some (.box cells) => some cells.length
  | _ => none
theorem lentOK_of {Γ : Cx} (hfol : P.follows .mixedOrders = true) (hΓ : CxOK P Γ) {f : FuncId} {fn : Func} {c : Code} {args : List AV} {objs objs1 : List (Option Ob)} {kl : List Nat} {r : AV} (hf : P.funcs[f]? = some fn) (hb : fn.body = some c) (hnm : (fn.name == "runtime.NumGoroutine") = false)
    (hnt : Γ.nt = ⟨fn.ntmps, kl⟩) (hlen : args.length ≤ fn.ntmps) (hkl : ∀ (i t : Nat), kl[i]? = some t → args[t]? = some (.ptr i 0)) (hbx : ∀ i, i < kl.length → ∃ n, boxLen (obA objs i) = some n ∧ boxLen (obA objs1 i) = some n)
    (h : wpA Γ c (postL Γ.ty fn.results.toList kl r objs1) ⟨(List.range args.length).zip args, objs⟩) : LentOK P f args objs kl.length r objs1 := by
  refine ⟨⟨fn, c, hf, hb, hnm⟩, fun N F ρ w vs hS hvs => ?_⟩
  have hvl : args.length = vs.size := by have := hvs.1; simpa using this
  refine calls_of_wp hf hb ?_
  have hget : ∀ i, i < vs.size → (vs ++ Array.replicate (fn.ntmps - vs.size) undef)[i]? = vs[i]? := fun i hi => Array.getElem?_append_left hi
  have hSl : Slots F ρ ((List.range args.length).zip args) (vs ++ Array.replicate (fn.ntmps - vs.size) undef) := by
    intro t
    rcases lkA_zip (List.range args.length) args t (by simp) with h | ⟨i, a, h1, h2, h3⟩
    · rw [h]; exact .top _
    · rw [h3]
      have hi := getElem?_lt h2
      have : i = t := by
        rw [List.getElem?_range hi] at h1
        exact Option.some.inj h1
      subst this
      have hv : vs[i]? = some vs[i] := Array.getElem?_eq_getElem (by omega)
      rw [Array.getD_eq_getD_getElem?, hget i (by omega), hv]
      exact hvs.2 i a _ h2 (by simp)
  have hts : TS Γ.nt (fun t => if t ∈ kl then vs[t]? else none) (vs ++ Array.replicate (fn.ntmps - vs.size) undef) := by
    rw [hnt]
    refine ⟨by simp; omega, fun t v ht => ?_⟩
    simp only at ht
    split at ht
    · rename_i hm; exact ⟨hm, by rw [hget t (getElem?_ltA ht)]; exact ht⟩
    · cases ht
  refine wp_mono (wp_sound (w0 := ⟨w, fun t => if t ∈ kl then vs[t]? else none⟩) hfol hΓ c _ _ _ w h ⟨F, ρ, hS, hSl, hts, rfl, Mu.refl w⟩) fun e a' w' hp => ?_
  obtain ⟨e', st', rfl, hq, hI⟩ := hp
  have fin : (∃ s', Shift st' s' ∧ retL Γ.ty fn.results.toList kl r objs1 s') → a'.defers = [] ∧ ∃ v, (results fn a'.tmps).run P w' = .ok v w' ∧ ∃ v' F' ρ', Ending.returned v = .returned v' ∧ Sim N (fun b => w.heap[b]?) F F' ρ' objs1 w'.heap ∧ (∀ j, j < kl.length → ρ' j = ρ j) ∧ ARep F' ρ' r v' ∧ Mu w w' := by
    rintro ⟨s', hsh, ho, hkp, hr⟩
    obtain ⟨F', ρ', hS', hSl', hn', hdf'⟩ := desc_sound hsh hI
    refine ⟨hdf'.1, ?_⟩
    have hmap : ∀ (xs : List Value), (fn.results.toList.mapM (resS a'.tmps)).run P w' = .ok xs w' → (results fn a'.tmps).run P w' = .ok (if h : xs.toArray.size = 1 then xs.toArray[0] else .tuple xs.toArray) w' := by
      intro xs hxs
      rw [results_eq, Array.mapM_eq_mapM_toList]
      simp only [Sem.run_bind, Sem.run_map, hxs, Result.andThen_ok, Sem.run_pure]
    have hS1 : Sim N (fun b => w.heap[b]?) F F' ρ' objs1 w'.heap := by rw [← ho]; exact hS'
    have hkeep : ∀ j, j < kl.length → ρ' j = ρ j := fun j hj => by
      have ht := List.getElem?_eq_getElem hj
      have hat := hkl j _ ht
      have htl : kl[j] < vs.size := by have := getElem?_lt hat; omega
      have hv := Array.getElem?_eq_getElem htl
      have h0 := hvs.2 _ _ vs[kl[j]] hat (by simp)
      have h1 := (hn'.2 kl[j] vs[kl[j]] (by simp only; rw [if_pos (List.getElem_mem hj)]; exact hv)).2
      have h2 := hSl' kl[j]
      rw [hkp j _ ht, Array.getD_eq_getD_getElem?, h1, Option.getD_some] at h2
      obtain ⟨n, b1, b2⟩ := hbx j hj
      generalize vs[kl[j]] = x at h0 h2
      cases h0 with
      | ptr _ _ L hL =>
        generalize hx : Value.pointer (some ⟨L.b, L.base + 0, none⟩) = y at h2
        cases h2 with
        | ptr _ _ L' hL' =>
          have e1 : L.b = L'.b ∧ L.base = L'.base := by
            simp only [Value.pointer.injEq, Option.some.injEq, Addr.mk.injEq, Nat.add_zero, and_true] at hx
            exact hx
          have sz : ∀ {ob : Option Ob} {n : Nat}, boxLen ob = some n → ∃ cells, ob = some (.box cells) ∧ cells.length = n := fun {ob n} h => by
            unfold boxLen at h
            split at h
            · cases h; exact ⟨_, rfl, rfl⟩
            · cases h
          obtain ⟨c1, o1, l1⟩ := sz b1
          obtain ⟨c2, o2, l2⟩ := sz b2
          have s1 := (hS.obj j L _ hL o1).1.2.1
          have s2 := (hS1.obj j L' _ hL' o2).1.2.1
          rw [hL, hL']
          obtain ⟨b, base, size⟩ := L
          obtain ⟨b', base', size'⟩ := L'
          simp only at e1 s1 s2
          simp only [Option.some.injEq, Loc.mk.injEq]
          exact ⟨e1.1.symm, e1.2.symm, by omega⟩
    split at hr
    · rename_i v p hres
      obtain ⟨hp, rfl⟩ := hr
      obtain ⟨xs, hxs, hcr⟩ := resVs_sound hΓ.ty hS' hSl' _ _ _ hres hp
      match xs, hcr.1 with
      | [x], _ => exact ⟨x, by rw [hmap _ hxs]; rfl, x, F', ρ', rfl, hS1, hkeep, hcr.2 0 v x rfl rfl, hdf'.2⟩
    · rename_i vs' p hne hres
      obtain ⟨hp, rfl⟩ := hr
      obtain ⟨xs, hxs, hcr⟩ := resVs_sound hΓ.ty hS' hSl' _ _ _ hres hp
      have hne1 : xs.toArray.size ≠ 1 := by
        intro h1
        have : vs'.length = 1 := by rw [hcr.1]; simpa using h1
        match vs', this with
        | [y], _ => exact hne y rfl
      exact ⟨.tuple xs.toArray, by rw [hmap _ hxs, dif_neg hne1], _, F', ρ', rfl, hS1, hkeep, .tup _ _ (by simpa using hcr.1) fun j a v ha hv => hcr.2 j a v ha (by simpa using hv), hdf'.2⟩
    · exact hr.elim
  cases e' with
  | normal => exact fin hq
  | ret => exact fin hq
  | exit i => exact hq.elim
end Go.AI
end
section
namespace Go.AI
variable {P : Program} {F F' : Nat → Option Obj} {ρ ρ' : Nat → Option Loc} {w : World}
def plainK (P : Program) (t : TypeId) : Prop := (∃ k, P.underlying t = some (.int k)) ∨ P.underlying t = some .bool ∨ P.underlying t = some .string
theorem run_part_plain {t : TypeId} (h : plainK P t) {cs : Array Value} {o : Nat} {v : Value} (hv : cs[o]? = some v) : (part t cs o).run P w = .ok v w := by
  have hag : (isAgg t).run P w = .ok false w := by
    rcases h with ⟨k, h⟩ | h | h <;> rw [run_isAgg w h] <;> rfl
  simp only [part, Sem.run_bind, hag, Result.andThen_ok, Bool.false_eq_true, if_false, hv, Sem.run_pure]
def fitT (P : Program) (t : TypeId) : TK → Prop
  | .int _ => ∃ k, P.underlying t = some (.int k)
  | .bool => P.underlying t = some .bool
  | .string => P.underlying t = some .string
  | _ => False
theorem fitT_plain {t : TypeId} {k : TK} (h : fitT P t k) : plainK P t := by
  cases k with
  | int _ => exact .inl h
  | bool => exact .inr (.inl h)
  | string => exact .inr (.inr h)
  | _ => exact h.elim
theorem eqFields_run (d : Nat) (xs ys : Array Value) : ∀ (fs : List Field) (ks : List TK) (i : Nat) (l l' : List AV) (r : Bool), fs.length = ks.length →
    (∀ (j : Nat) f k, fs[j]? = some f → ks[j]? = some k → f.name ≠ "_" ∧ f.offset = i + j ∧ fitT P f.type k) → eqCells ks l l' = some r →
    (∀ (j : Nat) a, l[j]? = some a → ∃ v, xs[i + j]? = some v ∧ ARep F ρ a v) → (∀ (j : Nat) a, l'[j]? = some a → ∃ v, ys[i + j]? = some v ∧ ARep F ρ a v) → (Op.eqFields (d + 1) xs ys fs).run P w = .ok r w := by
  intro fs
  induction fs with
  | nil =>
    intro ks i l l' r hn _ h _ _
    cases ks with
    | cons => cases hn
    | nil =>
      cases l with
      | cons => simp [eqCells] at h
      | nil => cases l' with
        | cons => simp [eqCells] at h
        | nil => simp [eqCells] at h; subst h; rfl
  | cons f fs ih =>
    intro ks i l l' r hn hf h hl hl'
    cases ks with
    | nil => cases hn
    | cons k ks =>
      obtain ⟨hname, hoff, hfit⟩ := hf 0 f k rfl rfl
      have hrec : ∀ (m m' : List AV) (x y : AV) (r' : Bool), l = x :: m → l' = y :: m' → eqCells ks m m' = some r' → (Op.eqFields (d + 1) xs ys fs).run P w = .ok r' w := by
        intro m m' x y r' e1 e2 hr'
        subst e1; subst e2
        refine ih ks (i + 1) m m' r' (by simpa using hn) (fun j f k hf' hk' => ?_) hr' (fun j a ha => ?_) (fun j a ha => ?_)
        · obtain ⟨a1, a2, a3⟩ := hf (j + 1) f k (by simpa using hf') (by simpa using hk'); exact ⟨a1, by omega, a3⟩
        · obtain ⟨v, h1, h2⟩ := hl (j + 1) a (by simpa using ha); exact ⟨v, by rw [← h1]; congr 1; omega, h2⟩
        · obtain ⟨v, h1, h2⟩ := hl' (j + 1) a (by simpa using ha); exact ⟨v, by rw [← h1]; congr 1; omega, h2⟩
      have step : ∀ (x y : AV) (m m' : List AV) (b r' : Bool), l = x :: m → l' = y :: m' → eqCells ks m m' = some r' → r = (b && r') → (∀ u v, ARep F ρ x u → ARep F ρ y v → (Op.equalIn (d + 1) f.type u v).run P w = .ok b w) → (Op.eqFields (d + 1) xs ys (f :: fs)).run P w = .ok r w := by
        intro x y m m' b r' e1 e2 hr' hb hrun
        obtain ⟨u, hu1, hu2⟩ := hl 0 x (by rw [e1]; rfl)
        obtain ⟨v, hv1, hv2⟩ := hl' 0 y (by rw [e2]; rfl)
        have hpl := fitT_plain hfit
        simp only [Op.eqFields]
        rw [if_pos hname]
        have hp1 := run_part_plain (P := P) (w := w) hpl (o := f.offset) (cs := xs) (v := u) (by rw [hoff]; simpa using hu1)
        have hp2 := run_part_plain (P := P) (w := w) hpl (o := f.offset) (cs := ys) (v := v) (by rw [hoff]; simpa using hv1)
        simp only [Sem.run_bind, hp1, hp2, Result.andThen_ok, hrun u v hu2 hv2]
        cases b with
        | false => simp [hb]
        | true => simp only [Bool.not_true, Bool.false_eq_true, if_false]; rw [hrec m m' x y r' e1 e2 hr', hb]; rfl
      unfold eqCells at h
      split at h
      · rename_i heq; cases heq
      · rename_i k0 ks0 k1 a xs0 k2 b ys0 e0
        cases e0
        split at h
        · rename_i r' hr'
          cases hk : (k1 == k2) with
          | false => rw [hk] at h; cases h
          | true =>
            rw [hk, cond_true] at h
            have : k1 = k2 := by simpa using hk
            subst this
            cases h
            refine step _ _ _ _ (a == b) r' rfl rfl hr' rfl fun u v hu hv => ?_
            rw [hu.int, hv.int]
            obtain ⟨k3, hk3⟩ := hfit
            exact run_equalIn_int w d f.type k1 k3 a b hk3
        · cases h
      · rename_i ks0 a xs0 b ys0 e0
        cases e0
        split at h
        · rename_i r' hr'
          cases h
          refine step _ _ _ _ (a == b) r' rfl rfl hr' rfl fun u v hu hv => ?_
          rw [hu.bool, hv.bool]
          exact run_equalIn_bool' w d f.type a b hfit
        · cases h
      · rename_i ks0 a xs0 b ys0 e0
        cases e0
        split at h
        · rename_i r' hr'
          cases h
          refine step _ _ _ _ (a == b) r' rfl rfl hr' rfl fun u v hu hv => ?_
          rw [hu.str, hv.str, run_equalIn_string w d f.type _ _ hfit, bytes_toList, bytes_toList]
        · cases h
      · cases h
theorem eq_flat {t : TypeId} {fields : Array Field} {ks : List TK} (hd : P.underlying t = some (.struct fields)) (hst : P.stoodInHeld t = false) (hg : P.eqGuardType P.depth t = false) (hn : fields.size = ks.length)
    (hf : ∀ (j : Nat) f k, fields[j]? = some f → ks[j]? = some k → f.name ≠ "_" ∧ f.offset = j ∧ fitT P f.type k) : EqFacts P t ks := by
  intro l l' r xs ys F ρ w x y h hx hy
  have hfo : P.fieldsOf t = fields := by simp [Program.fieldsOf, hd]
  have hrun : (Op.equalIn 10000 t (.agg xs) (.agg ys)).run P w = .ok r w := by
    rw [run_equalIn_struct w 9999 t xs ys (by rw [hfo]; exact hd) hst, hfo]
    cases hx with
    | agg _ _ hxl hxr =>
      cases hy with
      | agg _ _ hyl hyr =>
        refine eqFields_run (F := F) (ρ := ρ) 9998 xs ys fields.toList ks 0 l l' r (by simpa using hn) (fun j f k h1 h2 => ?_) h (fun j a ha => ?_) (fun j a ha => ?_)
        · obtain ⟨a1, a2, a3⟩ := hf j f k (by simpa using h1) h2; exact ⟨a1, by omega, a3⟩
        · have hj := getElem?_lt ha
          refine ⟨xs[j], ?_, hxr j a _ ha (Array.getElem?_eq_getElem (by omega))⟩
          rw [Nat.zero_add]; exact Array.getElem?_eq_getElem (by omega)
        · have hj := getElem?_lt ha
          refine ⟨ys[j], ?_, hyr j a _ ha (Array.getElem?_eq_getElem (by omega))⟩
          rw [Nat.zero_add]; exact Array.getElem?_eq_getElem (by omega)
  constructor
  · simp only [Sem.run_bind, run_eqGuard_agg w .eql t x y xs ys hg, Result.andThen_ok]
    rw [run_eql_struct, hrun]; rfl
  · simp only [Sem.run_bind, run_eqGuard_agg w .neq t x y xs ys hg, Result.andThen_ok]
    rw [run_neq_struct, hrun]; rfl
theorem info_of {t : TypeId} {z : Value} {s b : Nat} (h : (P.info? t).map (fun i => (i.zero, i.size, i.bytes)) = some (some z, s, b)) : ∃ i, P.info? t = some i ∧ i.size = s ∧ i.bytes = b ∧ i.zero = some z := by
  rw [Option.map_eq_some_iff] at h
  obtain ⟨i, h1, h2⟩ := h
  simp only [Prod.mk.injEq] at h2
  exact ⟨i, h1, h2.2.1, h2.2.2, h2.1⟩
end Go.AI
end
section
namespace Go.AI
def iadd (k : IntKind) (a b : Int) : Int := k.wrap (a + b)
def isub (k : IntKind) (a b : Int) : Int := k.wrap (a - b)
def imul (k : IntKind) (a b : Int) : Int := k.wrap (a * b)
def iquo (k : IntKind) (a b : Int) : Int := k.wrap (a.tdiv b)
def irem (a b : Int) : Int := a.tmod b
def idx {α : Type} (xs : List α) (i : Int) : Option α := if 0 ≤ i then xs[i.toNat]? else none
def app {α : Type} (eb : Nat) (xs ys : List α) : Option (List α) := if (xs.length + ys.length) * eb ≤ 70368744177664 then some (xs ++ ys) else none
def sub {α : Type} (xs : List α) (l h : Int) : Option (List α) := if 0 ≤ l ∧ l ≤ h ∧ h ≤ xs.length then some ((xs.take h.toNat).drop l.toNat) else none
def put {α : Type} (xs : List α) (i : Int) (y : α) : Option (List α) := if 0 ≤ i ∧ i < xs.length then some (xs.set i.toNat y) else none
def mkl {α : Type} (eb : Nat) (n : Int) (z : α) : Option (List α) := if 0 ≤ n ∧ n.toNat * eb ≤ 70368744177664 then some (List.replicate n.toNat z) else none
def cpy {α : Type} (xs ys : List α) : Option (List α) := if ys.length ≤ xs.length then some (ys ++ xs.drop ys.length) else none
theorem bind_some {α β : Type} {x : Option α} {f : α → Option β} {r : β} (h : x.bind f = some r) : ∃ a, x = some a ∧ f a = some r := Option.bind_eq_some_iff.1 h
theorem idx_some {α : Type} {xs : List α} {i : Int} {x : α} (h : idx xs i = some x) : 0 ≤ i ∧ i < xs.length ∧ xs[i.toNat]? = some x := by
  unfold idx at h
  split at h
  · rename_i h0
    have := (List.getElem?_eq_some_iff.1 h).1
    exact ⟨h0, by omega, h⟩
  · cases h
theorem app_some {α : Type} {eb : Nat} {xs ys zs : List α} (h : app eb xs ys = some zs) : (xs.length + ys.length) * eb ≤ 70368744177664 ∧ zs = xs ++ ys := by
  unfold app at h
  split at h
  · rename_i h0; cases h; exact ⟨h0, rfl⟩
  · cases h
def whl {σ ρ : Type} (body : σ → Option (σ ⊕ ρ)) : Nat → σ → Option ρ
  | 0, _ => none
  | n + 1, x => match body x with
    | none => none
    | some (.inl y) => whl body n y
    | some (.inr r) => some r
end Go.AI
end
section
namespace Go.AI
def bodyOf (f : Func) : Code := f.body.getD .skip
def child : Code → Nat → Code
  | .seq a b, i => bif Nat.beq i 0 then a else b
  | .cond _ a b, i => bif Nat.beq i 0 then a else b
  | .block _ c, _ => c
  | .loop c, _ => c
  | _, _ => .skip
def nav : List Nat → Code → Code
  | [], c => c
  | i :: p, c => nav p (child c i)
def opsIn : Code → List Oper
  | .region _ ops _ => ops.toList
  | _ => []
def arrIn : Code → Array Oper
  | .region _ ops _ => ops
  | _ => #[]
def drIn : Code → Bool
  | .region _ _ d => d
  | _ => false
def isReg : Code → Bool
  | .region _ _ _ => true
  | _ => false
def condOp : Code → Operand
  | .cond c _ _ => c
  | _ => .tmp 0
def runFrom (Γ : Cx) (C : Code) (p : List Nat) (i : Nat) (K : St → Prop) (s : St) : Prop := runA Γ (drIn (nav p C)) (opsIn (nav p C)) ((opsIn (nav p C)).drop i) K s
theorem stepA_mono {Γ : Cx} {d : Bool} {all : List Oper} {o : Oper} {Q Q' : St → Prop} {s : St} (hQ : ∀ s, Q s → Q' s) (h : stepA Γ d all o Q s) : stepA Γ d all o Q' s := by
  unfold stepA at h ⊢
  cases hg : guardA all s.env o.guard with
  | none => rw [hg] at h; exact h.elim
  | some g =>
    rw [hg] at h
    simp only at h ⊢
    cases hdst : dstOk Γ.nt o.dst with
    | false => rw [hdst] at h; exact h.elim
    | true =>
      rw [hdst] at h
      simp only [Bool.not_true, cond_false] at h ⊢
      refine ⟨fun hgt => ?_, fun hgf => by obtain ⟨v, obs, hm, hq⟩ := h.2 hgf; exact ⟨v, obs, hm, hQ _ hq⟩⟩
      rcases h.1 hgt with h | h | h
      case inr.inr =>
        refine .inr (.inr ?_)
        obtain ⟨hdr, ⟨st', h1, h2⟩ | ⟨hgn, h⟩⟩ := h
        · exact ⟨hdr, .inl ⟨st', h1, hQ _ h2⟩⟩
        refine ⟨hdr, .inr ⟨hgn, ?_⟩⟩
        rcases h with h | h
        · left
          split at h
          · obtain ⟨h1, h2⟩ := h
            exact ⟨h1, h2.imp (hQ _) (hQ _)⟩
          · exact h.elim
        · right
          split at h
          · obtain ⟨h1, nb, r, O1, g1, g2, g3, g4, g5⟩ := h
            exact ⟨h1, nb, r, O1, g1, g2, g3, g4, hQ _ g5⟩
          · exact h.elim
      case inr.inl =>
        refine .inr (.inl ?_)
        unfold stepF at h ⊢
        split at h
        · exact ⟨h.1, hQ _ h.2⟩
        · exact h.elim
      refine .inl ?_
      unfold stepG at h ⊢
      split at h
      · obtain ⟨h1, h⟩ := h
        unfold callA at h ⊢
        split at h
        · obtain ⟨hob, m, r, hcall, hflat, hq⟩ := h
          exact ⟨h1, hob, m, r, hcall, hflat, hQ _ hq⟩
        · exact h.elim
      · split at h
        · exact ⟨h.1, hQ _ h.2⟩
        · exact h.elim
      · split at h
        · rename_i e he
          obtain ⟨h1, h2, h3⟩ := h
          refine ⟨h1, h2, ?_⟩
          cases hc : ((e.upd.isSome && o.guard.isSome) || (!e.rm.isEmpty && (o.guard.isSome || (d && !isW o.op)))) with
          | true => rw [hc] at h3; exact h3.elim
          | false => rw [hc, cond_false] at h3; rw [cond_false]; exact hQ _ h3
        · exact h.elim
theorem runA_mono {Γ : Cx} {d : Bool} {all : List Oper} {Q Q' : St → Prop} (hQ : ∀ s, Q s → Q' s) : ∀ (l : List Oper) (s : St), runA Γ d all l Q s → runA Γ d all l Q' s := by
  intro l
  induction l with
  | nil => intro s h; exact hQ s h
  | cons o l ih => intro s h; exact stepA_mono ih h
theorem wpA_mono {Γ : Cx} : ∀ {c : Code} {Q Q' : Ex → St → Prop} {s : St}, (∀ e s, Q e s → Q' e s) → wpA Γ c Q s → wpA Γ c Q' s := by
  intro c
  induction c with
  | skip => intro Q Q' s hQ h; exact hQ _ _ h
  | region id ops d => intro Q Q' s hQ h; obtain ⟨s', h1, h2⟩ := h; exact ⟨s', h1, runA_mono (fun s hs => ⟨hs.1, hQ _ s hs.2⟩) _ _ h2⟩
  | seq a b iha ihb =>
    intro Q Q' s hQ h
    refine iha (fun e s h => ?_) h
    cases e with
    | normal => obtain ⟨s', h1, h2⟩ := h; exact ⟨s', h1, ihb hQ h2⟩
    | exit i => exact hQ _ _ h
    | ret => exact hQ _ _ h
  | cond c a b iha ihb =>
    intro Q Q' s hQ h
    simp only [wpA] at h ⊢
    unfold condA at h ⊢
    split at h
    · exact ⟨fun e => iha hQ (h.1 e), fun e => ihb hQ (h.2 e)⟩
    · exact h.elim
  | block id c ih =>
    intro Q Q' s hQ h
    refine ih (fun e s h => ?_) h
    cases e with
    | normal => exact hQ _ _ h
    | ret => exact hQ _ _ h
    | exit i =>
      simp only [blockQ] at h ⊢
      cases hb : Nat.beq i id with
      | true => rw [hb] at h; exact hQ _ _ h
      | false => rw [hb] at h; exact hQ _ _ h
  | loop c ih =>
    intro Q Q' s hQ h
    obtain ⟨I, n, h0, h⟩ := h
    refine ⟨I, n, h0, fun n s hI => ih (fun e s h => ?_) (h n s hI)⟩
    cases e with
    | normal => exact h
    | exit i => exact hQ _ _ h
    | ret => exact hQ _ _ h
  | exit id => intro Q Q' s hQ h; exact hQ _ _ h
  | ret => intro Q Q' s hQ h; exact hQ _ _ h
  | _ => intro Q Q' s hQ h; exact h.elim
variable {Γ : Cx} {C : Code} {p p0 p1 : List Nat} {Q : Ex → St → Prop} {s s' : St} {K : St → Prop}
theorem at_seq (h : nav p C = .seq (nav p0 C) (nav p1 C)) (hw : wpA Γ (nav p0 C) (seqQ (wpA Γ (nav p1 C) Q) Q) s) : wpA Γ (nav p C) Q s := by rw [h]; exact hw
theorem at_block (id : Nat) (h : nav p C = .block id (nav p0 C)) (hw : wpA Γ (nav p0 C) (blockQ id Q) s) : wpA Γ (nav p C) Q s := by rw [h]; exact hw
theorem at_cond (t : Bool) (h : nav p C = .cond (condOp (nav p C)) (nav p0 C) (nav p1 C)) (hc : evalA s.env (condOp (nav p C)) = .d (.bool t)) (h1 : t = true → wpA Γ (nav p0 C) Q s) (h2 : t = false → wpA Γ (nav p1 C) Q s) : wpA Γ (nav p C) Q s := by
  rw [h]; simp only [wpA, hc, condA]; exact ⟨h1, h2⟩
theorem at_exit (i : Nat) (h : nav p C = .exit i) (hq : Q (.exit i) s) : wpA Γ (nav p C) Q s := by rw [h]; exact hq
theorem at_ret (h : nav p C = .ret) (hq : Q .ret s) : wpA Γ (nav p C) Q s := by rw [h]; exact hq
theorem at_skip (h : nav p C = .skip) (hq : Q .normal s) : wpA Γ (nav p C) Q s := by rw [h]; exact hq
def regQ (C : Code) (p : List Nat) (s0 : St) (Q : Ex → St → Prop) : Ex → St → Prop := fun e s => drawQ (drIn (nav p C)) (arrIn (nav p C)) s0.env s.env = true ∧ Q e s
theorem at_region (h : isReg (nav p C) = true) (hs : Shift s s') (hk : runFrom Γ C p 0 (regQ C p s' Q .normal) s') : wpA Γ (nav p C) Q s := by
  unfold runFrom regQ at hk
  cases hc : nav p C with
  | region id ops d => rw [hc] at hk; exact ⟨s', hs, hk⟩
  | _ => rw [hc] at h; cases h
theorem at_end (n : Nat) (h : Nat.ble (opsIn (nav p C)).length n = true) (hk : K s) : runFrom Γ C p n K s := by
  unfold runFrom
  rw [List.drop_eq_nil_of_le (Nat.le_of_ble_eq_true h)]
  exact hk
theorem q_blockH {id : Nat} (h : Q .normal s) : blockQ id Q (.exit id) s := by
  show bif Nat.beq id id then _ else _
  have : Nat.beq id id = true := Nat.beq_refl id
  rw [this]; exact h
def roundQ {σ ρ : Type} (st : σ → St) (E : ρ → Ex → St → Prop) (z : σ ⊕ ρ) : Ex → St → Prop
  | .normal, s => ∃ y, z = .inl y ∧ Shift s (st y)
  | e, s => ∃ r, z = .inr r ∧ E r e s
theorem round_go {σ ρ : Type} {st : σ → St} {E : ρ → Ex → St → Prop} {y : σ} (h : Shift s (st y)) : roundQ st E (.inl y) .normal s := ⟨y, rfl, h⟩
theorem round_exit {σ ρ : Type} {st : σ → St} {E : ρ → Ex → St → Prop} {r : ρ} {i : Nat} (h : E r (.exit i) s) : roundQ st E (.inr r) (.exit i) s := ⟨r, rfl, h⟩
theorem round_ret {σ ρ : Type} {st : σ → St} {E : ρ → Ex → St → Prop} {r : ρ} (h : E r .ret s) : roundQ st E (.inr r) .ret s := ⟨r, rfl, h⟩
theorem at_loop {σ ρ : Type} {body : σ → Option (σ ⊕ ρ)} {n : Nat} {x : σ} {r : ρ} (st : σ → St) (E : ρ → Ex → St → Prop) (h : nav p C = .loop (nav p0 C)) (hr : whl body n x = some r) (hs : Shift s (st x))
    (hb : ∀ x z, body x = some z → wpA Γ (nav p0 C) (roundQ st E z) (st x)) (hE : ∀ e s, E r e s → Q e s) : wpA Γ (nav p C) Q s := by
  rw [h]
  refine ⟨fun m s => ∃ x, s = st x ∧ whl body m x = some r, n, ⟨_, hs, x, rfl, hr⟩, ?_⟩
  rintro m _ ⟨x, rfl, hm⟩
  cases m with
  | zero => cases hm
  | succ m =>
    unfold whl at hm
    split at hm
    · cases hm
    · rename_i y hy
      have := hb x _ hy
      refine wpA_mono ?_ this
      intro e s' hq
      cases e with
      | normal =>
        obtain ⟨y', e1, hsh⟩ := hq
        cases e1
        exact ⟨m, _, Nat.lt_succ_self m, hsh, y, rfl, hm⟩
      | exit i => obtain ⟨_, e1, _⟩ := hq; cases e1
      | ret => obtain ⟨_, e1, _⟩ := hq; cases e1
    · rename_i r' hy
      cases hm
      have := hb x _ hy
      refine wpA_mono ?_ this
      intro e s' hq
      cases e with
      | normal => obtain ⟨_, e1, _⟩ := hq; cases e1
      | exit i => obtain ⟨r', e1, he⟩ := hq; cases e1; exact hE _ _ he
      | ret => obtain ⟨r', e1, he⟩ := hq; cases e1; exact hE _ _ he
end Go.AI
end
section
namespace Go.AI
def binOK (op : BinOp) (x y : AV) : Bool :=
  match op with
  | .quo => match y with | .d (.int _ b) => !(b == 0) | _ => false
  | .rem => match y with | .d (.int _ b) => !(b == 0) | _ => false
  | .shl => match y with | .d (.int _ b) => decide (0 ≤ b) | _ => false
  | .shr => match y with | .d (.int _ b) => decide (0 ≤ b) | _ => false
  | .add => match x with | .d (.int _ _) => true | _ => false
  | _ => true
def obOK (ty : Nat → Ty) (ev : Operand → AV) (objs : List (Option Ob)) : Op → Bool
  | .move _ => true
  | .assign _ => true
  | .alloc _ => true
  | .box _ _ => true
  | .build _ _ => true
  | .nilCheck _ => true
  | .unOp _ _ _ => true
  | .fieldAddr _ _ _ => true
  | .field _ _ _ => true
  | .extract _ _ => true
  | .makeMap _ _ => true
  | .load t a => match ev a with
    | .ptr k off => match obA objs k with
      | some (.box cells) => Nat.ble (off + (ty t).size) cells.length
      | _ => false
    | .dptr e off => Nat.ble (off + (ty t).size) e.length
    | _ => false
  | .store t a v => match ev a with
    | .ptr k off => match obA objs k with
      | some (.box cells) => Nat.beq (cellsA (ev v)).length (ty t).size && Nat.ble (off + (ty t).size) cells.length
      | _ => false
    | _ => false
  | .binOp op _ x y _ => binOK op (ev x) (ev y)
  | .convert s _ x => match (ty s).kind, ev x with
    | .int _, .d (.int _ _) => true
    | .string, .d (.str _) => true
    | _, _ => false
  | .call ⟨.builtin .len, _, _⟩ => true
  | .call ⟨.builtin .min, _, _⟩ => true
  | .call ⟨.builtin .max, _, _⟩ => true
  | .buildSlice _ _ parts => parts.toList.all fun p => (cellsA (ev p.2)).all isDD
  | .indexAddr t x i => match (ty t).kind, ev x, ev i with
    | .array n _, .ptr _ _, .d (.int _ m) => decide (0 ≤ m) && decide (m < n)
    | .array n _, .eptr _ _ _ _, .d (.int _ m) => decide (0 ≤ m) && decide (m < n)
    | .array n _, .dptr _ _, .d (.int _ m) => decide (0 ≤ m) && decide (m < n)
    | _, _, _ => false
  | _ => false
theorem val_ob {v : AV} {e : Eff} (h : val v = some e) : e.ob := by cases h; trivial
theorem valOb_ob {v : AV} {ob : Prop} {e : Eff} (h : valOb v ob = some e) (ho : ob) : e.ob := by cases h; exact ho
theorem bif_some {α : Type} {b : Bool} {x : Option α} {e : α} (h : (bif b then x else none) = some e) : b = true ∧ x = some e := by
  cases b with
  | true => exact ⟨rfl, h⟩
  | false => cases h
theorem intA_ob {op : BinOp} {k k' k'' : IntKind} {a b : Int} {e : Eff} (h : intA op k a b = some e) (ho : binOK op (.d (.int k' a)) (.d (.int k'' b)) = true) : e.ob := by
  cases op <;> simp only [intA] at h <;> first | exact val_ob h | (refine valOb_ob h ?_; simpa [binOK] using ho) | cases h
theorem binA_ob {t : Ty} {op : BinOp} {x y : AV} {e : Eff} (h : binA t op x y = some e) (ho : binOK op x y = true) : e.ob := by
  unfold binA at h
  split at h
  · split at h
    · exact valOb_ob h (by simpa [binOK] using ho)
    · exact valOb_ob h (by simpa [binOK] using ho)
    · obtain ⟨_, h⟩ := bif_some h
      exact intA_ob h ho
  · cases op <;> simp only [strA] at h <;> first | exact val_ob h | (simp [binOK] at ho; done) | cases h
  · split at h
    · obtain ⟨_, h⟩ := bif_some h
      split at h
      · exact val_ob h
      · exact val_ob h
      · cases h
    · cases h
  · obtain ⟨_, h⟩ := bif_some h
    split at h
    · exact val_ob h
    · exact val_ob h
    · cases h
  · cases h
theorem expD_ob {objs : List (Option Ob)} {v : AV} {r : Rd D} (hd : isDD v = true) (h : expD objs v = some r) : r.ob ∧ r.ks = [] := by
  cases v with
  | d x => cases x <;> (cases h; exact ⟨trivial, rfl⟩)
  | _ => cases hd
theorem expDs_ob {objs : List (Option Ob)} : ∀ {l : List AV} {r : Rd (List D)}, l.all isDD = true → expDs objs l = some r → r.ob ∧ r.ks = [] := by
  intro l
  induction l with
  | nil => intro r _ h; cases h; exact ⟨trivial, rfl⟩
  | cons v l ih =>
    intro r hd h
    simp only [List.all_cons, Bool.and_eq_true] at hd
    simp only [expDs] at h
    split at h
    · rename_i r1 r2 h1 h2
      cases h
      obtain ⟨a1, a2⟩ := expD_ob hd.1 h1
      obtain ⟨b1, b2⟩ := ih hd.2 h2
      exact ⟨⟨a1, b1⟩, by simp [a2, b2]⟩
    · cases h
theorem fillE_ob {objs : List (Option Ob)} {esz : Nat} : ∀ {parts : List (Nat × AV)} {es : List (List D)} {r : Rd (List (List D))}, (parts.all fun p => (cellsA p.2).all isDD) = true → fillE objs esz es parts = some r → r.ob := by
  intro parts
  induction parts with
  | nil => intro es r _ h; cases h; trivial
  | cons p parts ih =>
    intro es r hd h
    obtain ⟨i, v⟩ := p
    simp only [List.all_cons, Bool.and_eq_true] at hd
    simp only [fillE] at h
    split at h
    · rename_i r1 h1
      obtain ⟨_, h⟩ := bif_some h
      split at h
      · rename_i r2 h2
        cases h
        exact ⟨(expDs_ob hd.1 h1).1, ih hd.2 h2⟩
      · cases h
    · cases h
theorem obOK_sound {ty : Nat → Ty} {ev : Operand → AV} {objs : List (Option Ob)} {op : Op} {e : Eff} (ho : obOK ty ev objs op = true) (h : opA ty ev objs op = some e) : e.ob := by
  cases op with
  | move x => exact val_ob h
  | assign x => exact val_ob h
  | alloc t => obtain ⟨_, h⟩ := bif_some h; cases h; trivial
  | box t v => obtain ⟨_, h⟩ := bif_some h; cases h; trivial
  | build t parts =>
    obtain ⟨_, h⟩ := bif_some h
    split at h
    · exact val_ob h
    · cases h
  | nilCheck x =>
    simp only [opA] at h
    split at h <;> first | exact val_ob h | cases h
  | unOp op t x =>
    cases op <;> simp only [opA] at h <;> first | (split at h <;> first | exact val_ob h | cases h) | cases h
  | fieldAddr t x f =>
    obtain ⟨_, h⟩ := bif_some h
    unfold fieldAtA at h
    split at h
    · split at h
      · split at h <;> first | exact val_ob h | cases h
      · cases h
    · cases h
  | field t x f =>
    simp only [opA] at h
    obtain ⟨_, h⟩ := bif_some h
    unfold fieldA at h
    split at h
    · split at h
      · split at h
        · split at h <;> first | exact val_ob h | cases h
        · cases h
      · cases h
    · cases h
  | extract x i =>
    simp only [opA] at h
    split at h
    · split at h
      · exact val_ob h
      · cases h
    · cases h
  | makeMap t r =>
    cases r with
    | none =>
      obtain ⟨_, h⟩ := bif_some h
      split at h
      · cases h; trivial
      · cases h
    | some x =>
      obtain ⟨_, h⟩ := bif_some h
      split at h
      · cases h; trivial
      · cases h
  | load t a =>
    obtain ⟨_, h⟩ := bif_some h
    simp only [obOK] at ho
    split at ho
    · rename_i k off ha
      rw [ha] at h
      simp only [loadA] at h
      split at ho
      · rename_i cells hc
        rw [hc] at h
        simp only at h
        split at h
        · exact valOb_ob h (Nat.le_of_ble_eq_true ho)
        · cases h
      · cases ho
    · rename_i e' off ha
      rw [ha] at h
      simp only [loadA] at h
      split at h
      · exact valOb_ob h (Nat.le_of_ble_eq_true ho)
      · cases h
    · cases ho
  | store t a v =>
    obtain ⟨_, h⟩ := bif_some h
    simp only [obOK] at ho
    split at ho
    · rename_i k off ha
      rw [ha] at h
      simp only [storeA] at h
      split at ho
      · rename_i cells hc
        rw [hc] at h
        simp only at h
        obtain ⟨_, h⟩ := bif_some h
        cases h
        simp only [Bool.and_eq_true] at ho
        exact ⟨Nat.eq_of_beq_eq_true ho.1, Nat.le_of_ble_eq_true ho.2⟩
      · cases ho
    · cases ho
  | binOp op t x y t' => exact binA_ob h ho
  | convert a b x =>
    obtain ⟨_, h⟩ := bif_some h
    simp only [obOK] at ho
    split at ho
    · rename_i k1 k2 n hk hx
      rw [hk, hx] at h
      unfold convA at h
      split at h
      · rename_i heq _; cases heq
      · exact val_ob h
      · exact val_ob h
      · cases h
    · rename_i n hk hx
      rw [hk, hx] at h
      unfold convA at h
      split at h
      · rename_i heq _; cases heq
      · exact val_ob h
      · exact val_ob h
      · cases h
    · cases ho
  | call c =>
    obtain ⟨callee, args, ts⟩ := c
    cases callee with
    | value f => cases ho
    | invoke r m => cases ho
    | builtin b =>
      cases b <;> first | (cases ho; done) | skip
      all_goals simp only [opA] at h
      · split at h
        · obtain ⟨_, h⟩ := bif_some h
          unfold lenA at h
          split at h <;> first | exact val_ob h | cases h
        · cases h
      · split at h
        · exact val_ob h
        · cases h
      · split at h
        · exact val_ob h
        · cases h
  | buildSlice t len parts =>
    obtain ⟨_, h⟩ := bif_some h
    split at h
    · obtain ⟨_, h⟩ := bif_some h
      split at h
      · rename_i r hr
        cases h
        refine fillE_ob (parts := parts.toList.map fun p => (p.1, ev p.2)) ?_ hr
        rw [List.all_map]
        exact ho
      · cases h
    · cases h
  | indexAddr t x i =>
    obtain ⟨_, h⟩ := bif_some h
    simp only [obOK] at ho
    split at ho
    · rename_i n esz k off k' m hk hx hi
      rw [hk, hx, hi] at h
      simp only [intOf, idxA] at h
      exact valOb_ob h (by simpa using ho)
    · rename_i n esz a b c d k' m hk hx hi
      rw [hk, hx, hi] at h
      simp only [intOf, idxA] at h
      exact valOb_ob h (by simpa using ho)
    · rename_i n esz a b k' m hk hx hi
      rw [hk, hx, hi] at h
      simp only [intOf, idxA] at h
      exact valOb_ob h (by simpa using ho)
    · cases ho
  | _ => cases ho
end Go.AI
end
section
namespace Go.AI
def notGv : AV → Bool
  | .gv _ _ => false
  | _ => true
theorem gobA_of {g : Bool} : ∀ {l : List AV}, l.all notGv = true → gobA g l := by
  intro l
  induction l with
  | nil => intro _; trivial
  | cons v l ih =>
    intro h
    simp only [List.all_cons, Bool.and_eq_true] at h
    cases v <;> first | exact ih h.2 | (cases h.1; done)
def isPC : Op → Bool
  | .pick _ _ _ => true
  | .call ⟨.value _, _, _⟩ => true
  | _ => false
def stepP (Γ : Cx) (all : List Oper) (o : Oper) (st : St) : Option St :=
  match guardA all st.env o.guard with
  | none => none
  | some g => bif dstOk Γ.nt o.dst && !isPC o.op && obOK Γ.ty (fun x => unG (evalA st.env x)) st.objs o.op && (o.op.operands.toList.map (evalA st.env)).all notGv && !(o.guard.isSome && isW o.op) then
      (match opA Γ.ty (fun x => unG (evalA st.env x)) st.objs o.op with
      | some e => bif (e.upd.isSome && o.guard.isSome) || !e.rm.isEmpty then none else some (effA o.dst o.guard.isSome g e st)
      | none => none)
    else none
theorem stepG_of {Γ : Cx} {d : Bool} {o : Oper} {Q : St → Prop} {st : St} {g : Bool} (hpc : isPC o.op = false) (h : match opA Γ.ty (fun x => unG (evalA st.env x)) st.objs o.op with
      | some e => gobA g (o.op.operands.toList.map (evalA st.env)) ∧ (g = true → e.ob) ∧ (bif (e.upd.isSome && o.guard.isSome) || (!e.rm.isEmpty && (o.guard.isSome || (d && !isW o.op))) then False else Q (effA o.dst o.guard.isSome g e st))
      | none => False) : stepG Γ d o Q st g := by
  unfold stepG
  split
  · rename_i hop; rw [hop] at hpc; cases hpc
  · rename_i hop; rw [hop] at hpc; cases hpc
  · exact h
theorem stepP_ok {Γ : Cx} {d : Bool} {all : List Oper} {o : Oper} {st st' : St} {Q : St → Prop} (h : stepP Γ all o st = some st') (hq : Q st') : stepA Γ d all o Q st := by
  unfold stepP at h
  unfold stepA
  cases hg : guardA all st.env o.guard with
  | none => rw [hg] at h; cases h
  | some g =>
    rw [hg] at h
    obtain ⟨hc, h⟩ := bif_some h
    simp only [Bool.and_eq_true, Bool.not_eq_true'] at hc
    obtain ⟨⟨⟨⟨h1, h2⟩, h3⟩, h4⟩, h5⟩ := hc
    simp only [h1, Bool.not_true, cond_false]
    split at h
    · rename_i e he
      cases hb : (e.upd.isSome && o.guard.isSome) || !e.rm.isEmpty with
      | true => rw [hb] at h; cases h
      | false =>
        rw [hb, cond_false] at h
        cases h
        simp only [Bool.or_eq_false_iff, Bool.not_eq_false'] at hb
        obtain ⟨hb1, hb2⟩ := hb
        have hrm : e.rm = [] := isEmpty_nil hb2
        refine ⟨fun _ => .inl (stepG_of h2 ?_), fun hgf => ?_⟩
        · rw [he]
          refine ⟨gobA_of h4, fun _ => obOK_sound h3 he, ?_⟩
          rw [hb1, hrm]
          exact hq
        · have hgs : o.guard.isSome = true := by
            cases hgo : o.guard with
            | none => rw [hgo] at hg; cases hg; cases hgf
            | some x => rfl
          have hupd : e.upd = none := by
            rw [hgs, Bool.and_true] at hb1
            cases hu : e.upd with
            | none => rfl
            | some x => rw [hu] at hb1; cases hb1
          refine ⟨e.v, e.obs, fun hm => ?_, ?_⟩
          · rw [hgs, Bool.true_and] at h5
            exact opA_noobs h5 hm he
          · subst hgf
            simp only [effA, hrm, hupd, rmA, updA] at hq
            exact hq
    · cases h
def runP (Γ : Cx) (all : List Oper) : List Oper → St → Option St
  | [], st => some st
  | o :: l, st => match stepP Γ all o st with
    | some st' => runP Γ all l st'
    | none => none
variable {Γ : Cx} {C : Code} {p p0 p1 : List Nat} {Q : Ex → St → Prop} {s s' : St} {K : St → Prop} {i : Nat}
theorem runP_ok {d : Bool} {all : List Oper} : ∀ (l m : List Oper) (st : St), runP Γ all l st = some s' → runA Γ d all m K s' → runA Γ d all (l ++ m) K st := by
  intro l
  induction l with
  | nil => intro m st h hk; cases h; exact hk
  | cons o l ih =>
    intro m st h hk
    simp only [runP] at h
    split at h
    · rename_i st1 h1
      exact stepP_ok h1 (ih m st1 h hk)
    · cases h
theorem chunk (n j : Nat) (h : runP Γ (opsIn (nav p C)) (((opsIn (nav p C)).drop i).take n) s = some s') (hj : i + n = j) (hk : runFrom Γ C p j K s') : runFrom Γ C p i K s := by
  unfold runFrom at hk ⊢
  have : (opsIn (nav p C)).drop i = ((opsIn (nav p C)).drop i).take n ++ (opsIn (nav p C)).drop j := by
    rw [← hj, ← List.drop_drop, List.take_append_drop]
  rw [this]
  exact runP_ok _ _ _ h hk
def OpIs (x : Option Eff) (v : AV) (obs : List Ob) (rm : List Nat) (upd : Option (Nat × Ob)) : Prop := ∃ ob, x = some ⟨v, obs, rm, upd, ob⟩ ∧ ob
def opOf (Γ : Cx) (c : Code) (i : Nat) (s : St) : Option Eff :=
  match (opsIn c)[i]? with
  | some o => opA Γ.ty (fun x => unG (evalA s.env x)) s.objs o.op
  | none => none
def nextS (Γ : Cx) (c : Code) (i : Nat) (v : AV) (obs : List Ob) (rm : List Nat) (upd : Option (Nat × Ob)) (s : St) : Option St :=
  match (opsIn c)[i]? with
  | some o => bif o.guard.isNone && dstOk Γ.nt o.dst && !isPC o.op && (o.op.operands.toList.map (evalA s.env)).all notGv && !(!rm.isEmpty && (drIn c && !isW o.op)) then some ⟨putA o.dst false true v s.env, updA (rmA s.objs rm) upd ++ obs.map some⟩ else none
  | none => none
theorem drop_cons {all : List Oper} {o : Oper} (h : all[i]? = some o) : all.drop i = o :: all.drop (i + 1) := by
  have hl := getElem?_lt h
  rw [List.getElem?_eq_getElem hl] at h
  cases h
  exact List.drop_eq_getElem_cons hl
theorem spec {v : AV} {obs : List Ob} {rm : List Nat} {upd : Option (Nat × Ob)} {x : Option Eff} (j : Nat) (hx : opOf Γ (nav p C) i s = x) (ho : OpIs x v obs rm upd) (hn : nextS Γ (nav p C) i v obs rm upd s = some s') (hj : i + 1 = j) (hk : runFrom Γ C p j K s') : runFrom Γ C p i K s := by
  subst hj
  unfold runFrom at hk ⊢
  unfold opOf at hx
  unfold nextS at hn
  split at hn
  · rename_i o hi
    rw [hi] at hx
    obtain ⟨hc, hn⟩ := bif_some hn
    simp only [Bool.and_eq_true, Bool.not_eq_true'] at hc
    obtain ⟨⟨⟨⟨h1, h2⟩, h3⟩, h4⟩, h5⟩ := hc
    cases hn
    rw [drop_cons hi]
    show stepA _ _ _ _ _ _
    have hgN : o.guard = none := by simpa using h1
    unfold stepA
    rw [hgN]
    simp only [guardA, h2, Bool.not_true, cond_false]
    refine ⟨fun _ => .inl (stepG_of h3 ?_), fun h => by cases h⟩
    obtain ⟨ob, e1, hob⟩ := ho
    simp only [hx, e1]
    refine ⟨gobA_of h4, fun _ => hob, ?_⟩
    rw [hgN]
    simp only [Option.isSome_none, Bool.and_false, Bool.false_or, h5, cond_false]
    exact hk
  · cases hn
def impAll (g : Bool) : List Bool → Prop
  | [] => True
  | b :: r => (g = true → b = true) ∧ impAll g r
theorem impZ {g : Bool} : impAll g [] := trivial
theorem impK {g b : Bool} {r : List Bool} (h : g = true → b = true) (hr : impAll g r) : impAll g (b :: r) := ⟨h, hr⟩
def gvs : List AV → List Bool
  | [] => []
  | .gv g _ :: r => g :: gvs r
  | _ :: r => gvs r
theorem gobA_imp {g : Bool} : ∀ {l : List AV}, impAll g (gvs l) → gobA g l := by
  intro l
  induction l with
  | nil => intro _; trivial
  | cons v l ih =>
    intro h
    cases v <;> first | exact ih h | exact ⟨h.1, ih h.2⟩
def gAt (c : Code) (i : Nat) (s : St) : Option Bool :=
  match (opsIn c)[i]? with
  | some o => match o.guard with
    | some x => guardA (opsIn c) s.env (some x)
    | none => none
  | none => none
def gvsAt (c : Code) (i : Nat) (s : St) : List Bool :=
  match (opsIn c)[i]? with
  | some o => gvs (o.op.operands.toList.map (evalA s.env))
  | none => []
def nextG (Γ : Cx) (c : Code) (i : Nat) (g : Bool) (v : AV) (obs : List Ob) (s : St) : Option St :=
  match (opsIn c)[i]? with
  | some o => bif o.guard.isSome && dstOk Γ.nt o.dst && !isPC o.op && (memOp o.op || obs.isEmpty) then some ⟨putA o.dst true g v s.env, s.objs ++ obs.map some⟩ else none
  | none => none
theorem specG {g : Bool} {v : AV} {obs : List Ob} {x : Option Eff} {gs : List Bool} (j : Nat) (hg : gAt (nav p C) i s = some g) (hx : opOf Γ (nav p C) i s = x) (ho : g = true → OpIs x v obs [] none) (hgs : gvsAt (nav p C) i s = gs) (hi : impAll g gs) (hn : nextG Γ (nav p C) i g v obs s = some s') (hj : i + 1 = j) (hk : runFrom Γ C p j K s') : runFrom Γ C p i K s := by
  subst hj
  unfold runFrom at hk ⊢
  unfold opOf at hx
  unfold nextG at hn
  unfold gAt at hg
  unfold gvsAt at hgs
  split at hn
  · rename_i o hii
    rw [hii] at hx hg hgs
    simp only at hx hg hgs
    obtain ⟨hc, hn⟩ := bif_some hn
    simp only [Bool.and_eq_true, Bool.not_eq_true'] at hc
    obtain ⟨⟨⟨h1, h2⟩, h3⟩, h4⟩ := hc
    cases hn
    rw [drop_cons hii]
    show stepA _ _ _ _ _ _
    unfold stepA
    cases hgo : o.guard with
    | none => rw [hgo] at h1; cases h1
    | some y =>
      rw [hgo] at hg
      simp only at hg
      simp only [hg, h2, Bool.not_true, cond_false]
      refine ⟨fun hgt => .inl (stepG_of h3 ?_), fun hgf => ⟨v, obs, fun hm => ?_, ?_⟩⟩
      · obtain ⟨ob, e1, hob⟩ := ho hgt
        simp only [hx, e1]
        refine ⟨gobA_imp (by rw [hgs]; exact hi), fun _ => hob, ?_⟩
        simp only [Option.isSome_none, Bool.false_and, List.isEmpty_nil, Bool.not_true, Bool.or_self, cond_false, hgo]
        exact hk
      · rw [hm, Bool.false_or] at h4
        exact isEmpty_nil h4
      · subst hgf; exact hk
  · cases hn
def pickOf (c : Code) (i : Nat) (s : St) : Option Eff :=
  match (opsIn c)[i]? with
  | some o => match o.op with
    | .pick x y z => pickA (evalA s.env x) (evalA s.env y) (evalA s.env z)
    | _ => none
  | none => none
def nextP (Γ : Cx) (c : Code) (i : Nat) (v : AV) (s : St) : Option St :=
  match (opsIn c)[i]? with
  | some o => bif o.guard.isNone && dstOk Γ.nt o.dst then some ⟨putA o.dst false true v s.env, s.objs⟩ else none
  | none => none
def nextPG (Γ : Cx) (c : Code) (i : Nat) (g : Bool) (v : AV) (s : St) : Option St :=
  match (opsIn c)[i]? with
  | some o => bif o.guard.isSome && dstOk Γ.nt o.dst then some ⟨putA o.dst true g v s.env, s.objs⟩ else none
  | none => none
theorem specP {v : AV} {x : Option Eff} (j : Nat) (hx : pickOf (nav p C) i s = x) (ho : OpIs x v [] [] none) (hn : nextP Γ (nav p C) i v s = some s') (hj : i + 1 = j) (hk : runFrom Γ C p j K s') : runFrom Γ C p i K s := by
  subst hj
  unfold runFrom at hk ⊢
  unfold pickOf at hx
  unfold nextP at hn
  split at hn
  · rename_i o hi
    rw [hi] at hx
    simp only at hx
    obtain ⟨hc, hn⟩ := bif_some hn
    simp only [Bool.and_eq_true] at hc
    obtain ⟨h1, h2⟩ := hc
    cases hn
    obtain ⟨ob, e1, hob⟩ := ho
    rw [drop_cons hi]
    show stepA _ _ _ _ _ _
    have hgN : o.guard = none := by simpa using h1
    split at hx
    · rename_i a b c hop
      unfold stepA
      rw [hgN]
      simp only [guardA, h2, Bool.not_true, cond_false]
      refine ⟨fun _ => .inl ?_, fun h => by cases h⟩
      unfold stepG
      rw [hop]
      have : opA Γ.ty (evalA s.env) s.objs (.pick a b c) = some ⟨v, [], [], none, ob⟩ := by rw [← e1, ← hx]; rfl
      simp only [this]
      refine ⟨fun _ => hob, ?_⟩
      rw [hgN]
      simpa [effA, rmA, updA] using hk
    · rw [← hx] at e1; cases e1
  · cases hn
theorem specPG {g : Bool} {v : AV} {x : Option Eff} (j : Nat) (hg : gAt (nav p C) i s = some g) (hx : pickOf (nav p C) i s = x) (ho : g = true → OpIs x v [] [] none) (hn : nextPG Γ (nav p C) i g v s = some s') (hj : i + 1 = j) (hk : runFrom Γ C p j K s') : runFrom Γ C p i K s := by
  subst hj
  unfold runFrom at hk ⊢
  unfold pickOf at hx
  unfold gAt at hg
  unfold nextPG at hn
  split at hn
  · rename_i o hi
    rw [hi] at hx hg
    simp only at hx hg
    obtain ⟨hc, hn⟩ := bif_some hn
    simp only [Bool.and_eq_true] at hc
    obtain ⟨h1, h2⟩ := hc
    cases hn
    rw [drop_cons hi]
    show stepA _ _ _ _ _ _
    cases hgo : o.guard with
    | none => rw [hgo] at h1; cases h1
    | some y =>
      rw [hgo] at hg
      simp only at hg
      unfold stepA
      rw [hgo]
      simp only [hg, h2, Bool.not_true, cond_false]
      refine ⟨fun hgt => .inl ?_, fun hgf => ⟨v, [], fun _ => rfl, ?_⟩⟩
      · obtain ⟨ob, e1, hob⟩ := ho hgt
        split at hx
        · rename_i a b c hop
          unfold stepG
          rw [hop]
          have : opA Γ.ty (evalA s.env) s.objs (.pick a b c) = some ⟨v, [], [], none, ob⟩ := by rw [← e1, ← hx]; rfl
          simp only [this]
          refine ⟨fun _ => hob, ?_⟩
          rw [hgo]
          simpa [effA, rmA, updA] using hk
        · rw [← hx] at e1; cases e1
      · subst hgf; simpa using hk
  · cases hn
end Go.AI
end
section
namespace Go.AI
def leAll : List (Nat × Nat) → Prop
  | [] => True
  | (a, b) :: r => a ≤ b ∧ leAll r
theorem leZ : leAll [] := trivial
theorem leK {a b : Nat} {r : List (Nat × Nat)} (h : a ≤ b) (hr : leAll r) : leAll ((a, b) :: r) := ⟨h, hr⟩
theorem leAll_append {l m : List (Nat × Nat)} (h : leAll (l ++ m)) : leAll l ∧ leAll m := by
  induction l with
  | nil => exact ⟨trivial, h⟩
  | cons a l ih => exact ⟨⟨h.1, (ih h.2).1⟩, (ih h.2).2⟩
def xD (objs : List (Option Ob)) : AV → Option (D × List Nat × List (Nat × Nat))
  | .d .nil => some (.sl [], [], [])
  | .d x => some (x, [], [])
  | .osl k sz lo n => match obA objs k with
    | some (.arr sz' es) => bif Nat.beq sz sz' then some (.sl ((es.drop lo).take n), [k], [(lo + n, es.length)]) else none
    | _ => none
  | _ => none
def xDs (objs : List (Option Ob)) : List AV → Option (List D × List Nat × List (Nat × Nat))
  | [] => some ([], [], [])
  | v :: vs => match xD objs v, xDs objs vs with
    | some (x, k, o), some (xs, ks, os) => some (x :: xs, k ++ ks, o ++ os)
    | _, _ => none
def xA (objs : List (Option Ob)) : AV → Option (AV × List Nat × List (Nat × Nat))
  | .agg l => match xDs objs l with
    | some (x, k, o) => some (.agg (x.map .d), k, o)
    | none => none
  | .ptr k off => match obA objs k with
    | some (.box cells) => match xDs objs cells with
      | some (x, ks, o) => bif ks.contains k then none else some (.dptr x off, k :: ks, o)
      | none => none
    | _ => none
  | .eptr k sz i off => match obA objs k with
    | some (.arr sz' es) => bif Nat.beq sz sz' then some (.dptr (es[i]?.getD []) off, [k], [(i + 1, es.length)]) else none
    | _ => none
  | .dptr e off => some (.dptr e off, [], [])
  | v => match xD objs v with
    | some (x, k, o) => some (.d x, k, o)
    | none => none
def xAs (objs : List (Option Ob)) : List AV → Option (List AV × List Nat × List (Nat × Nat))
  | [] => some ([], [], [])
  | v :: vs => match xA objs v, xAs objs vs with
    | some (x, k, o), some (xs, ks, os) => some (x :: xs, k ++ ks, o ++ os)
    | _, _ => none
theorem xD_ok {objs : List (Option Ob)} {v : AV} {x : D} {ks : List Nat} {o : List (Nat × Nat)} (h : xD objs v = some (x, ks, o)) (ho : leAll o) : ∃ ob, expD objs v = some ⟨x, ks, ob⟩ ∧ ob := by
  unfold xD at h
  split at h
  · cases h; exact ⟨_, rfl, trivial⟩
  · rename_i y hy
    cases h
    refine ⟨True, ?_, trivial⟩
    unfold expD
    split
    · rename_i e; cases e; exact absurd rfl hy
    · rename_i e; cases e; rfl
    · rename_i e; cases e
    · rename_i e1 _; exact absurd rfl (e1 _)
  · rename_i k sz lo n
    split at h
    · rename_i sz' es hob
      obtain ⟨hb, h⟩ := bif_some h
      cases h
      refine ⟨_, ?_, ho.1⟩
      simp only [expD, hob, hb, cond_true]
    · cases h
  · cases h
theorem xDs_ok {objs : List (Option Ob)} : ∀ {l : List AV} {x : List D} {ks : List Nat} {o : List (Nat × Nat)}, xDs objs l = some (x, ks, o) → leAll o → ∃ ob, expDs objs l = some ⟨x, ks, ob⟩ ∧ ob := by
  intro l
  induction l with
  | nil => intro x ks o h _; cases h; exact ⟨_, rfl, trivial⟩
  | cons v l ih =>
    intro x ks o h ho
    simp only [xDs] at h
    split at h
    · rename_i a b c a' b' c' h1 h2
      cases h
      obtain ⟨o1, o2⟩ := leAll_append ho
      obtain ⟨p1, e1, q1⟩ := xD_ok h1 o1
      obtain ⟨p2, e2, q2⟩ := ih h2 o2
      exact ⟨p1 ∧ p2, by simp only [expDs, e1, e2], q1, q2⟩
    · cases h
theorem xA_ok {objs : List (Option Ob)} {v x : AV} {ks : List Nat} {o : List (Nat × Nat)} (h : xA objs v = some (x, ks, o)) (ho : leAll o) : ∃ ob, expA objs v = some ⟨x, ks, ob⟩ ∧ ob := by
  unfold xA at h
  split at h
  · split at h
    · rename_i h1
      cases h
      obtain ⟨p1, e1, q1⟩ := xDs_ok h1 ho
      exact ⟨_, by simp only [expA, e1], q1⟩
    · cases h
  · rename_i k off
    split at h
    · rename_i cells hk
      split at h
      · rename_i x ks' o' h1
        cases hc : ks'.contains k with
        | true => rw [hc] at h; cases h
        | false =>
          rw [hc, cond_false] at h
          cases h
          obtain ⟨p1, e1, q1⟩ := xDs_ok h1 ho
          refine ⟨k ∉ ks' ∧ p1, by simp only [expA, hk, e1], ?_, q1⟩
          intro hm
          rw [List.contains_iff_mem.2 hm] at hc
          cases hc
      · cases h
    · cases h
  · rename_i k sz i off
    split at h
    · rename_i sz' es hk
      obtain ⟨hb, h⟩ := bif_some h
      cases h
      exact ⟨sz = sz' ∧ i < es.length, by simp only [expA, hk], Nat.eq_of_beq_eq_true hb, ho.1⟩
    · cases h
  · cases h; exact ⟨_, rfl, trivial⟩
  · rename_i hn1 hn2 hn3 hn4
    split at h
    · rename_i h1
      cases h
      obtain ⟨p1, e1, q1⟩ := xD_ok h1 ho
      refine ⟨p1, ?_, q1⟩
      unfold expA
      split
      · exact absurd rfl (hn1 _)
      · exact absurd rfl (hn2 _ _)
      · exact absurd rfl (hn3 _ _ _ _)
      · exact absurd rfl (hn4 _ _)
      · rw [e1]
    · cases h
theorem xAs_ok {objs : List (Option Ob)} : ∀ {l : List AV} {x : List AV} {ks : List Nat} {o : List (Nat × Nat)}, xAs objs l = some (x, ks, o) → leAll o → ∃ ob, expAs objs l = some ⟨x, ks, ob⟩ ∧ ob := by
  intro l
  induction l with
  | nil => intro x ks o h _; cases h; exact ⟨_, rfl, trivial⟩
  | cons v l ih =>
    intro x ks o h ho
    simp only [xAs] at h
    split at h
    · rename_i a b c a' b' c' h1 h2
      cases h
      obtain ⟨o1, o2⟩ := leAll_append ho
      obtain ⟨p1, e1, q1⟩ := xA_ok h1 o1
      obtain ⟨p2, e2, q2⟩ := ih h2 o2
      exact ⟨p1 ∧ p2, by simp only [expAs, e1, e2], q1, q2⟩
    · cases h
def callAt (c : Code) (i : Nat) (s : St) : Option (FuncId × List AV × List Nat × List (Nat × Nat)) :=
  match (opsIn c)[i]? with
  | some o => match o.op with
    | .call ⟨.value (.func f), args, _⟩ => match xAs s.objs (args.toList.map fun x => unG (evalA s.env x)) with
      | some (x, ks, os) => some (f, x, ks, os)
      | none => none
    | _ => none
  | none => none
def lensC : List AV → List Nat
  | [] => []
  | .own _ es :: r => es.length :: lensC r
  | _ :: r => lensC r
def lensA : AV → List Nat
  | .own _ es => [es.length]
  | .agg l => lensC l
  | _ => []
def lensT : List AV → List Nat
  | [] => []
  | v :: r => lensA v ++ lensT r
def lensR : AV → List Nat
  | .tup l => lensT l
  | v => lensA v
def ilC (m : Bool) (n : Nat) : List Nat → List AV → List AV × List Nat
  | ls, [] => ([], ls)
  | ls, .own sz es :: r => bif m then (.osl n sz 0 (ls.headD 0) :: (ilC m (n + 1) ls.tail r).1, (ilC m (n + 1) ls.tail r).2) else (.d (.sl es) :: (ilC m n ls.tail r).1, (ilC m n ls.tail r).2)
  | ls, .d x :: r => (.d x :: (ilC m n ls r).1, (ilC m n ls r).2)
  | ls, _ :: r => (.top :: (ilC m n ls r).1, (ilC m n ls r).2)
def ilA (m : Bool) (n : Nat) (ls : List Nat) : AV → AV × List Nat
  | .own sz es => bif m then (.osl n sz 0 (ls.headD 0), ls.tail) else (.d (.sl es), ls.tail)
  | .agg l => (.agg (ilC m n ls l).1, (ilC m n ls l).2)
  | .d x => (.d x, ls)
  | _ => (.top, ls)
def ilT (m : Bool) (n : Nat) : List Nat → List AV → List AV
  | _, [] => []
  | ls, v :: r => (ilA m n ls v).1 :: ilT m (n + (impA m n v).2.length) (ilA m n ls v).2 r
def ilR (m : Bool) (n : Nat) (ls : List Nat) : AV → AV
  | .tup l => .tup (ilT m n ls l)
  | v => (ilA m n ls v).1
theorem ilC_ok (m : Bool) : ∀ (l : List AV) (n : Nat) (rest : List Nat), ilC m n (lensC l ++ rest) l = ((impC m n l).1, rest) := by
  intro l
  induction l with
  | nil => intro n rest; rfl
  | cons v l ih =>
    intro n rest
    cases v <;> simp only [lensC, List.cons_append, ilC, impC, List.headD_cons, List.tail_cons, ih] <;> try rfl
    cases m <;> simp only [cond_true, cond_false]
theorem ilA_ok (m : Bool) (v : AV) (n : Nat) (rest : List Nat) : ilA m n (lensA v ++ rest) v = ((impA m n v).1, rest) := by
  cases v with
  | own sz es => cases m <;> rfl
  | agg l => simp only [lensA, ilA, impA, ilC_ok]
  | _ => rfl
theorem ilT_ok (m : Bool) : ∀ (l : List AV) (n : Nat), ilT m n (lensT l) l = (impT m n l).1 := by
  intro l
  induction l with
  | nil => intro n; rfl
  | cons v l ih => intro n; simp only [lensT, ilT, impT, ilA_ok, ih]
theorem ilR_ok (m : Bool) (n : Nat) (r : AV) {ls : List Nat} (h : lensR r = ls) : ilR m n ls r = (impR m n r).1 := by
  subst h
  cases r with
  | tup l => simp only [lensR, ilR, impR, ilT_ok]
  | own sz es => have := ilA_ok m (.own sz es) n []; simp only [List.append_nil] at this; simp only [lensR, ilR, impR, this]
  | agg l => have := ilA_ok m (.agg l) n []; simp only [List.append_nil] at this; simp only [lensR, ilR, impR, this]
  | _ => rfl
def nextC (Γ : Cx) (c : Code) (i : Nat) (m : Bool) (ls : List Nat) (r : AV) (s : St) : Option St :=
  match (opsIn c)[i]? with
  | some o => bif o.guard.isNone && dstOk Γ.nt o.dst && (o.op.operands.toList.map (evalA s.env)).all notGv then some ⟨putA o.dst false true (ilR m s.objs.length ls r) s.env, s.objs ++ (impR m s.objs.length r).2.map some⟩ else none
  | none => none
def nextCG (Γ : Cx) (c : Code) (i : Nat) (g m : Bool) (ls : List Nat) (r : AV) (s : St) : Option St :=
  match (opsIn c)[i]? with
  | some o => bif o.guard.isSome && dstOk Γ.nt o.dst then some ⟨putA o.dst true g (ilR m s.objs.length ls r) s.env, s.objs ++ (impR m s.objs.length r).2.map some⟩ else none
  | none => none
variable {Γ : Cx} {C : Code} {p p0 p1 : List Nat} {Q : Ex → St → Prop} {s s' : St} {K : St → Prop} {i : Nat}
theorem args_gv {o : Oper} {f : FuncId} {args : Array Operand} {ts : Array TypeId} (hop : o.op = .call ⟨.value (.func f), args, ts⟩) {env : List (Nat × AV)} (h : (o.op.operands.toList.map (evalA env)).all notGv = true) : (args.toList.map (evalA env)).all notGv = true := by
  rw [hop] at h
  simp only [Op.operands, Call.operands] at h
  simp only [Array.toList_append, List.map_append, List.all_append, Bool.and_eq_true] at h
  exact h.2
theorem callS (j : Nat) (m : Bool) {f : FuncId} {xs ys : List AV} {ks : List Nat} {obl : List (Nat × Nat)} {r : AV} (hc : callAt (nav p C) i s = some (f, xs, ks, obl)) (hob : leAll obl) (hxs : xs = ys) (hr : Γ.calls f ys r) (hf : ks = [] ∨ flatR r) {ls : List Nat} (hls : lensR r = ls) (hn : nextC Γ (nav p C) i m ls r s = some s') (hj : i + 1 = j) (hk : runFrom Γ C p j K s') : runFrom Γ C p i K s := by
  subst hj
  subst hxs
  unfold runFrom at hk ⊢
  unfold callAt at hc
  unfold nextC at hn
  rw [ilR_ok m _ r hls] at hn
  split at hn
  · rename_i o hi
    rw [hi] at hc
    simp only at hc
    obtain ⟨hcc, hn⟩ := bif_some hn
    simp only [Bool.and_eq_true] at hcc
    obtain ⟨⟨h1, h2⟩, h3⟩ := hcc
    cases hn
    rw [drop_cons hi]
    show stepA _ _ _ _ _ _
    have hgN : o.guard = none := by simpa using h1
    split at hc
    · rename_i f' args ts hop
      split at hc
      · rename_i x ks' os hx
        cases hc
        obtain ⟨ob, e1, q1⟩ := xAs_ok hx hob
        unfold stepA
        rw [hgN]
        simp only [guardA, h2, Bool.not_true, cond_false]
        refine ⟨fun _ => .inl ?_, fun h => by cases h⟩
        unfold stepG
        rw [hop]
        refine ⟨gobA_of (args_gv hop h3), ?_⟩
        unfold callA
        rw [e1]
        refine ⟨fun _ => q1, m, r, fun _ => hr, ?_, ?_⟩
        · rcases hf with rfl | hf
          · trivial
          · cases ks.isEmpty <;> first | trivial | exact hf
        · rw [hgN]; exact hk
      · cases hc
    · cases hc
  · cases hn
theorem callG {g : Bool} {gs : List Bool} (j : Nat) (m : Bool) {f : FuncId} {xs ys : List AV} {ks : List Nat} {obl : List (Nat × Nat)} {r : AV} (hg : gAt (nav p C) i s = some g) (hc : callAt (nav p C) i s = some (f, xs, ks, obl)) (hob : leAll obl) (hxs : xs = ys) (hr : g = true → Γ.calls f ys r) (hf : ks = [] ∨ flatR r) (hgs : gvsAt (nav p C) i s = gs) (hi : impAll g gs) {ls : List Nat} (hls : lensR r = ls) (hn : nextCG Γ (nav p C) i g m ls r s = some s') (hj : i + 1 = j) (hk : runFrom Γ C p j K s') : runFrom Γ C p i K s := by
  subst hj
  subst hxs
  unfold runFrom at hk ⊢
  unfold callAt at hc
  unfold gAt at hg
  unfold gvsAt at hgs
  unfold nextCG at hn
  rw [ilR_ok m _ r hls] at hn
  split at hn
  · rename_i o hii
    rw [hii] at hc hg hgs
    simp only at hc hg hgs
    obtain ⟨hcc, hn⟩ := bif_some hn
    simp only [Bool.and_eq_true] at hcc
    obtain ⟨h1, h2⟩ := hcc
    cases hn
    rw [drop_cons hii]
    show stepA _ _ _ _ _ _
    cases hgo : o.guard with
    | none => rw [hgo] at h1; cases h1
    | some y =>
      rw [hgo] at hg
      simp only at hg
      split at hc
      · rename_i f' args ts hop
        split at hc
        · rename_i x ks' os hx
          cases hc
          obtain ⟨ob, e1, q1⟩ := xAs_ok hx hob
          unfold stepA
          rw [hgo]
          simp only [hg, h2, Bool.not_true, cond_false]
          refine ⟨fun hgt => .inl ?_, fun hgf => ⟨(impR m s.objs.length r).1, (impR m s.objs.length r).2, (fun hm => by rw [hop] at hm; cases hm), ?_⟩⟩
          · unfold stepG
            rw [hop]
            refine ⟨?_, ?_⟩
            · have := gobA_imp (g := g) (l := o.op.operands.toList.map (evalA s.env)) (by rw [hgs]; exact hi)
              rw [hop] at this
              simp only [Op.operands, Call.operands, Array.toList_append, List.map_append] at this
              exact this
            · unfold callA
              rw [e1]
              refine ⟨fun _ => q1, m, r, hr, ?_, ?_⟩
              · rcases hf with rfl | hf
                · trivial
                · cases ks.isEmpty <;> first | trivial | exact hf
              · rw [hgo]; exact hk
          · subst hgf; exact hk
        · cases hc
      · cases hc
  · cases hn
def resB1 (ty : Nat → Ty) (s : St) : ResultVar → Option AV
  | .tmp t => some (lkA s.env t)
  | .cell a t => match lkA s.env a with
    | .ptr k off => match obA s.objs k with
      | some (.box cells) => bif (ty t).ok && Nat.ble (off + (ty t).size) cells.length then ldCells cells off (ty t) else none
      | _ => none
    | _ => none
def resB (ty : Nat → Ty) (s : St) : List ResultVar → Option (List AV)
  | [] => some []
  | r :: rs => match resB1 ty s r, resB ty s rs with
    | some v, some vs => some (v :: vs)
    | _, _ => none
theorem resB1_ok {ty : Nat → Ty} {r : ResultVar} {v : AV} (h : resB1 ty s r = some v) : ∃ q, resV ty s r = some (v, q) ∧ q := by
  cases r with
  | tmp t => cases h; exact ⟨_, rfl, trivial⟩
  | cell a t =>
    simp only [resB1] at h
    split at h
    · rename_i k off ha
      split at h
      · rename_i cells hc
        obtain ⟨hb, h⟩ := bif_some h
        simp only [Bool.and_eq_true] at hb
        refine ⟨_, ?_, Nat.le_of_ble_eq_true hb.2⟩
        simp only [resV, hb.1, cond_true, ha, loadA, hc, h, valOb]
      · cases h
    · cases h
theorem resB_ok {ty : Nat → Ty} : ∀ {rs : List ResultVar} {vs : List AV}, resB ty s rs = some vs → ∃ q, resVs ty s rs = some (vs, q) ∧ q := by
  intro rs
  induction rs with
  | nil => intro vs h; cases h; exact ⟨_, rfl, trivial⟩
  | cons r rs ih =>
    intro vs h
    simp only [resB] at h
    split at h
    · rename_i v vs' h1 h2
      cases h
      obtain ⟨p1, e1, q1⟩ := resB1_ok h1
      obtain ⟨p2, e2, q2⟩ := ih h2
      exact ⟨p1 ∧ p2, by simp only [resVs, e1, e2], q1, q2⟩
    · cases h
theorem ret1 {ty : Nat → Ty} {rs : List ResultVar} {v r : AV} (ks : List Nat) (h : resB ty s rs = some [v]) (ho : outA s.objs v r) (hks : ksE (entA v r) = ks) (hnd : ks.Nodup) : retA ty rs r s := by
  have hn : (ksE (entA v r)).Nodup := by rw [hks]; exact hnd
  obtain ⟨q, e, hq⟩ := resB_ok h
  unfold retA
  rw [e]
  exact ⟨hq, ho, hn⟩
theorem retT {ty : Nat → Ty} {rs : List ResultVar} {vs l : List AV} (h : resB ty s rs = some vs) (hl : Nat.beq vs.length 1 = false) (ho : outT s.objs vs l) (ks : List Nat) (hks : ksE (entT vs l) = ks) (hnd : ks.Nodup) : retA ty rs (.tup l) s := by
  have hn : (ksE (entT vs l)).Nodup := by rw [hks]; exact hnd
  obtain ⟨q, e, hq⟩ := resB_ok h
  unfold retA
  rw [e]
  split
  · rename_i heq
    simp only [Option.some.injEq, Prod.mk.injEq] at heq
    obtain ⟨rfl, _⟩ := heq
    cases hl
  · rename_i heq
    simp only [Option.some.injEq, Prod.mk.injEq] at heq
    obtain ⟨rfl, rfl⟩ := heq
    exact ⟨hq, ho, hn⟩
  · rename_i heq; cases heq
theorem outV_d {objs : List (Option Ob)} {x : D} : outV objs (.d x) (.d x) := by
  cases x <;> first | rfl | exact .inl rfl
theorem outV_nilO {objs : List (Option Ob)} {sz : Nat} : outV objs (.d .nil) (.own sz []) := rfl
theorem outV_own {α : Type} {enc : α → List D} {xs : List α} {objs : List (Option Ob)} {k sz : Nat} (h : obA objs k = some (.arr sz (xs.map enc))) : outV objs (.osl k sz 0 xs.length) (.own sz (xs.map enc)) := by
  have hb : Nat.beq sz sz = true := Nat.beq_refl sz
  simp only [outV, h, hb, cond_true, List.length_map, Nat.zero_add, Nat.le_refl, List.drop_zero, true_and]
  exact (List.take_of_length_le (by simp)).symm
def lentAt (c : Code) (i : Nat) (s : St) : Option (FuncId × List AV × List Nat) :=
  match (opsIn c)[i]? with
  | some o => match o.op with
    | .call ⟨.value (.func f), args, _⟩ => some (f, args.toList.map fun x => unG (evalA s.env x), orderA s.objs (args.toList.map fun x => unG (evalA s.env x)))
    | _ => none
  | none => none
def nextL (Γ : Cx) (c : Code) (i : Nat) (ord : List Nat) (nb : Nat) (r : AV) (O1 : List (Option Ob)) (s : St) : Option St :=
  match (opsIn c)[i]? with
  | some o => bif !drIn c && o.guard.isNone && dstOk Γ.nt o.dst && (o.op.operands.toList.map (evalA s.env)).all notGv && Nat.ble nb ord.length && Nat.ble nb O1.length && ord.all (fun k => Nat.blt k s.objs.length) then
      some ⟨putA o.dst false true (mapR (backN ord s.objs.length nb) r) s.env, backO s.objs ord nb O1⟩ else none
  | none => none
theorem lentS {f : FuncId} {xs ys : List AV} {ord : List Nat} {O0 O1 : List (Option Ob)} {nb : Nat} {r : AV} (hc : lentAt (nav p C) i s = some (f, xs, ord)) (hxs : xs.map (renV ord) = ys) (hO : lendO s.objs ord = O0) (hr : Γ.lent f ys O0 nb r O1) (hn : nextL Γ (nav p C) i ord nb r O1 s = some s') (hk : runFrom Γ C p (i + 1) K s') : runFrom Γ C p i K s := by
  subst hxs
  subst hO
  unfold runFrom at hk ⊢
  unfold lentAt at hc
  unfold nextL at hn
  split at hn
  · rename_i o hi
    rw [hi] at hc
    simp only at hc
    obtain ⟨hcc, hn⟩ := bif_some hn
    simp only [Bool.and_eq_true, Bool.not_eq_true'] at hcc
    obtain ⟨⟨⟨⟨⟨⟨h0, h1⟩, h2⟩, h3⟩, h4⟩, h5⟩, h6⟩ := hcc
    cases hn
    rw [drop_cons hi]
    show stepA _ _ _ _ _ _
    have hgN : o.guard = none := by simpa using h1
    split at hc
    · rename_i f' args ts hop
      cases hc
      unfold stepA
      rw [hgN]
      simp only [guardA, h2, Bool.not_true, cond_false]
      refine ⟨fun _ => .inr (.inr ?_), fun h => by cases h⟩
      unfold stepK
      refine ⟨h0, .inr ⟨hgN, .inr ?_⟩⟩
      rw [hop]
      refine ⟨gobA_of (args_gv hop h3), nb, r, O1, hr, Nat.le_of_ble_eq_true h4, Nat.le_of_ble_eq_true h5, fun k hk => ?_, hk⟩
      have := List.all_eq_true.1 h6 k hk
      have := Nat.le_of_ble_eq_true this
      omega
    · cases hc
  · cases hn
theorem fn_ok {P : Program} (hfol : P.follows .mixedOrders = true) (hΓ : CxOK P Γ) {f : FuncId} {fn : Func} {args : List AV} {r : AV} (hf : P.funcs[f]? = some fn) (hb : fn.body = some (bodyOf fn)) (hnm : (fn.name == "runtime.NumGoroutine") = false)
    (hnt : Γ.nt.n = fn.ntmps) (hlen : Nat.ble args.length fn.ntmps = true) (hs : (⟨(List.range args.length).zip args, []⟩ : St) = s) (h : wpA Γ (nav [] (bodyOf fn)) (postA Γ.ty fn.results.toList r) s) : CallOK P f args r :=
  callOK_of hfol hΓ hf hb hnm hnt (Nat.le_of_ble_eq_true hlen) (by rw [hs]; exact h)
theorem fn_lent {P : Program} (hfol : P.follows .mixedOrders = true) (hΓ : CxOK P Γ) {f : FuncId} {fn : Func} {args : List AV} {objs objs1 : List (Option Ob)} {kl : List Nat} {r : AV} (hf : P.funcs[f]? = some fn) (hb : fn.body = some (bodyOf fn)) (hnm : (fn.name == "runtime.NumGoroutine") = false)
    (hnt : Γ.nt = ⟨fn.ntmps, kl⟩) (hlen : Nat.ble args.length fn.ntmps = true) (hkl : ∀ (i t : Nat), kl[i]? = some t → args[t]? = some (.ptr i 0)) (hbx : ∀ i, i < kl.length → ∃ n, boxLen (obA objs i) = some n ∧ boxLen (obA objs1 i) = some n)
    (hs : (⟨(List.range args.length).zip args, objs⟩ : St) = s) (h : wpA Γ (nav [] (bodyOf fn)) (postL Γ.ty fn.results.toList kl r objs1) s) : LentOK P f args objs kl.length r objs1 :=
  lentOK_of hfol hΓ hf hb hnm hnt (Nat.le_of_ble_eq_true hlen) hkl hbx (by rw [hs]; exact h)
theorem sh_gc (ts : List Nat) (h : gcA ts s = s') : Shift s s' := by subst h; exact .gc ts
theorem sh_refl : Shift s s := .refl s
def boxAt (s : St) (k : Nat) : List AV :=
  match obA s.objs k with
  | some (.box cells) => cells
  | _ => []
def isBox (s : St) (k : Nat) : Bool :=
  match obA s.objs k with
  | some (.box _) => true
  | _ => false
theorem boxAt_ok {k : Nat} (h : isBox s k = true) : obA s.objs k = some (.box (boxAt s k)) := by
  unfold isBox at h
  unfold boxAt
  split at h
  · rename_i hh; rw [hh]
  · cases h
theorem sh_nilc (k i sz : Nat) (h : (isBox s k, (boxAt s k)[i]?) = (true, some (.d .nil))) : Shift s ⟨s.env, s.objs.set k (some (.box ((boxAt s k).set i (.osl s.objs.length sz 0 0)))) ++ [some (.arr sz [])]⟩ := by
  simp only [Prod.mk.injEq] at h
  exact .nilc k i sz _ (boxAt_ok h.1) h.2
def arrOf (s : St) : AV → Option (Nat × Nat × Nat × Nat × List (List D))
  | .osl k sz lo n => match obA s.objs k with
    | some (.arr sz' es) => bif Nat.beq sz sz' then some (k, sz, lo, n, es) else none
    | _ => none
  | _ => none
theorem arrOf_ok {v : AV} {k sz lo n : Nat} {es : List (List D)} (h : arrOf s v = some (k, sz, lo, n, es)) : v = .osl k sz lo n ∧ obA s.objs k = some (.arr sz es) := by
  unfold arrOf at h
  split at h
  · split at h
    · rename_i hob
      obtain ⟨hb, h1⟩ := bif_some h
      clear h
      have h := h1
      have := Nat.eq_of_beq_eq_true hb
      subst this
      simp only [Option.some.injEq, Prod.mk.injEq] at h
      obtain ⟨rfl, rfl, rfl, rfl, rfl⟩ := h
      exact ⟨rfl, hob⟩
    · cases h
  · cases h
theorem sh_subc (kb i : Nat) (E : List (List D)) (M : Nat) {k sz lo n : Nat} {es : List (List D)} (h : (isBox s kb, ((boxAt s kb)[i]?).bind (arrOf s)) = (true, some (k, sz, lo, n, es))) (hE : (es.drop lo).take n = E) (hn : lo + n ≤ es.length) (hM : n = M) : Shift s ⟨s.env, (s.objs.set k none).set kb (some (.box ((boxAt s kb).set i (.osl s.objs.length sz 0 M)))) ++ [some (.arr sz E)]⟩ := by
  subst hE
  subst hM
  simp only [Prod.mk.injEq, Option.bind_eq_some_iff] at h
  obtain ⟨h0, v, hv, h⟩ := h
  obtain ⟨h1, h2⟩ := arrOf_ok h
  subst h1
  exact .subC kb i k sz lo n _ es (boxAt_ok h0) hv h2 hn
theorem take_all {α : Type} {enc : α → List D} {xs : List α} : ((xs.map enc).drop 0).take xs.length = xs.map enc := by
  rw [List.drop_zero]; exact List.take_of_length_le (by simp)
theorem takeE {α : Type} {enc : α → List D} {xs : List α} : AV.d (.sl (((xs.map enc).drop 0).take xs.length)) = AV.d (.sl (xs.map enc)) := by rw [take_all]
theorem consE {a b : AV} {l m : List AV} (h : a = b) (h' : l = m) : a :: l = b :: m := by rw [h, h']
theorem aggE {l m : List AV} (h : l = m) : AV.agg l = AV.agg m := by rw [h]
def freshOf (Γ : Cx) (c : Code) (i : Nat) (s : St) : Option (List (List D)) :=
  match (opsIn c)[i]? with
  | some o => opF Γ.ty (fun x => unG (evalA s.env x)) o.op
  | none => none
def nextF (Γ : Cx) (c : Code) (i : Nat) (es : List (List D)) (s : St) : Option St :=
  match (opsIn c)[i]? with
  | some o => bif o.guard.isNone && dstOk Γ.nt o.dst && (o.op.operands.toList.map (evalA s.env)).all notGv then some ⟨putA o.dst false true (.d (.sl es)) s.env, s.objs⟩ else none
  | none => none
theorem specF (j : Nat) (es : List (List D)) (hx : freshOf Γ (nav p C) i s = some es) (hn : nextF Γ (nav p C) i es s = some s') (hj : i + 1 = j) (hk : runFrom Γ C p j K s') : runFrom Γ C p i K s := by
  subst hj
  unfold runFrom at hk ⊢
  unfold freshOf at hx
  unfold nextF at hn
  split at hn
  · rename_i o hi
    rw [hi] at hx
    simp only at hx
    obtain ⟨hc, hn⟩ := bif_some hn
    simp only [Bool.and_eq_true] at hc
    obtain ⟨⟨h1, h2⟩, h3⟩ := hc
    cases hn
    rw [drop_cons hi]
    show stepA _ _ _ _ _ _
    have hgN : o.guard = none := by simpa using h1
    unfold stepA
    rw [hgN]
    simp only [guardA, h2, Bool.not_true, cond_false]
    refine ⟨fun _ => .inr (.inl ?_), fun h => by cases h⟩
    unfold stepF
    rw [hx]
    refine ⟨gobA_of h3, ?_⟩
    rw [hgN]
    exact hk
  · cases hn
def opPl (Γ : Cx) (c : Code) (i : Nat) (s : St) : Option (AV × List Ob) :=
  match (opsIn c)[i]? with
  | some o => bif obOK Γ.ty (fun x => unG (evalA s.env x)) s.objs o.op then (match opA Γ.ty (fun x => unG (evalA s.env x)) s.objs o.op with
    | some ⟨v, obs, [], none, _⟩ => some (v, obs)
    | _ => none) else none
  | none => none
theorem is_pl {v : AV} {obs : List Ob} (h : opPl Γ (nav p C) i s = some (v, obs)) : OpIs (opOf Γ (nav p C) i s) v obs [] none := by
  unfold opPl at h
  unfold opOf
  split at h
  · rename_i o hi
    try rw [hi]
    obtain ⟨hb, h⟩ := bif_some h
    split at h
    · rename_i he
      cases h
      exact ⟨_, he, obOK_sound hb he⟩
    · cases h
  · cases h
theorem gimp {α : Type} {g : Bool} {x y : Option α} {z : α} (h : (if g = true then x else y) = some z) : g = true → x = some z := fun e => by rw [if_pos e] at h; exact h
end Go.AI
end
section
namespace Go.AI
def eI64 (n : Int) : List D := [.int .i64 n]
def eU8 (n : Int) : List D := [.int .u8 n]
def eB (b : Bool) : List D := [.bool b]
def eL {α : Type} (e : α → List D) (l : List α) : List D := [.sl (l.map e)]
variable {α κ : Type} {enc : α → List D} {objs : List (Option Ob)}
theorem OpIs.of {x : Option Eff} {v : AV} {obs : List Ob} {rm : List Nat} {upd : Option (Nat × Ob)} {ob : Prop} (h : x = some ⟨v, obs, rm, upd, ob⟩) (ho : ob) : OpIs x v obs rm upd := ⟨ob, h, ho⟩
theorem map_idx {xs : List α} {i : Int} {x : α} (h : idx xs i = some x) : (xs.map enc)[i.toNat]? = some (enc x) := by
  rw [List.getElem?_map, (idx_some h).2.2]; rfl
theorem is_idxD {xs : List α} {i : Int} {x : α} {esz eb : Nat} {ez : List D} (h : idx xs i = some x) (hl : Nat.beq (enc x).length esz = true) : OpIs (idxA (.slice esz eb ez) (.d (.sl (xs.map enc))) i) (.dptr (enc x) 0) [] [] none := by
  obtain ⟨h0, h1, _⟩ := idx_some h
  refine .of (ob := 0 ≤ i ∧ i < (xs.map enc).length ∧ (enc x).length = esz) ?_ ⟨h0, by simpa using h1, Nat.eq_of_beq_eq_true hl⟩
  simp only [idxA, valOb, map_idx (enc := enc) h, Option.getD_some]
theorem is_idxO {xs : List α} {i : Int} {x : α} {esz eb k : Nat} {ez : List D} (h : idx xs i = some x) : OpIs (idxA (.slice esz eb ez) (.osl k esz 0 xs.length) i) (.eptr k esz (0 + i.toNat) 0) [] [] none := by
  obtain ⟨h0, h1, _⟩ := idx_some h
  exact .of rfl ⟨h0, h1, rfl⟩
theorem is_ldA {xs : List α} {i : Int} {x : α} {k sz off : Nat} {t : Ty} {v : AV} (hk : obA objs k = some (.arr sz (xs.map enc))) (h : idx xs i = some x) (hv : ldCells ((enc x).map .d) off t = some v) (hl : Nat.ble (off + t.size) (enc x).length = true) :
    OpIs (loadA t objs (.eptr k sz (0 + i.toNat) off)) v [] [] none := by
  obtain ⟨h0, h1, _⟩ := idx_some h
  have e := map_idx (enc := enc) h
  refine .of (ob := sz = sz ∧ 0 + i.toNat < (xs.map enc).length ∧ off + t.size ≤ (enc x).length) ?_ ⟨rfl, ?_, Nat.le_of_ble_eq_true hl⟩
  · simp only [loadA, hk, Nat.zero_add, e, Option.getD_some, hv, valOb]
  · have := getElem?_lt e; omega
theorem is_stA {xs zs : List α} {i : Int} {x y : α} {k sz off : Nat} {t : Ty} {v : AV} {r : List D} {ks : List Nat} {obl : List (Nat × Nat)} (hk : obA objs k = some (.arr sz (xs.map enc))) (h : idx xs i = some x) (hz : put xs i y = some zs) (hx : xDs objs (cellsA v) = some (r, ks, obl)) (hob : leAll obl)
    (hc : (cellsOk v && (cellsA v).all solid && !ks.contains k) = true) (hy : spliceD (enc x) off r = enc y) (hl : (Nat.beq r.length t.size && Nat.ble (off + t.size) sz) = true) :
    OpIs (storeA t objs (.eptr k sz (0 + i.toNat) off) v) .top [] ks (some (k, .arr sz (zs.map enc))) := by
  obtain ⟨h0, h1, _⟩ := idx_some h
  have e := map_idx (enc := enc) h
  obtain ⟨ob, e1, q1⟩ := xDs_ok hx hob
  simp only [Bool.and_eq_true] at hl
  have hzz : zs = xs.set i.toNat y := by
    unfold put at hz
    split at hz
    · cases hz; rfl
    · cases hz
  refine .of (ob := sz = sz ∧ r.length = t.size ∧ 0 + i.toNat < (xs.map enc).length ∧ off + t.size ≤ sz ∧ ob) ?_ ⟨rfl, Nat.eq_of_beq_eq_true hl.1, ?_, Nat.le_of_ble_eq_true hl.2, q1⟩
  · simp only [storeA, hk, e1, hc, cond_true, Nat.zero_add, e, Option.getD_some, hy, hzz, List.map_set]
  · have := getElem?_lt e; omega
theorem app_ob {xs ys zs : List α} {eb : Nat} (h : app eb xs ys = some zs) : (xs.length + (ys.map enc).length) * eb ≤ 70368744177664 ∧ xs.length + (ys.map enc).length = zs.length ∧ zs = xs ++ ys := by
  obtain ⟨h1, h2⟩ := app_some h
  subst h2
  exact ⟨by simpa using h1, by simp, rfl⟩
theorem is_app {xs ys zs : List α} {esz eb k : Nat} {E : List (List D)} {ob : Prop} (hk : obA objs k = some (.arr esz (xs.map enc))) (hE : E = ys.map enc) (hl : ∀ y, (enc y).length = esz) (ho : ob) (h : app eb xs ys = some zs) :
    OpIs (appendA esz eb objs (.osl k esz 0 xs.length) E ob) (.osl objs.length esz 0 zs.length) [.arr esz (zs.map enc)] [k] none := by
  subst hE
  obtain ⟨h1, h2, h3⟩ := app_ob (enc := enc) h
  subst h3
  have hb : Nat.beq esz esz = true := Nat.beq_refl esz
  refine .of (ob := 0 + xs.length ≤ (xs.map enc).length ∧ (∀ e ∈ ys.map enc, e.length = esz) ∧ (xs.length + (ys.map enc).length) * eb ≤ 70368744177664 ∧ ob) ?_ ⟨by simp, ?_, h1, ho⟩
  · simp only [appendA, hk, hb, Bool.true_or, Bool.and_self, cond_true, List.drop_zero, h2]
    have e1 : List.take xs.length (List.map enc xs) = List.map enc xs := List.take_of_length_le (by simp)
    simp only [e1, List.map_append]
  · intro e he
    simp only [List.mem_map] at he
    obtain ⟨y, _, rfl⟩ := he
    exact hl y
theorem is_mk {zs : List α} {n : Int} {z : α} {esz eb : Nat} {ez : List D} (h : mkl eb n z = some zs) (he : enc z = ez) : OpIs (some ⟨.osl objs.length esz 0 n.toNat, [.arr esz (List.replicate n.toNat ez)], [], none, 0 ≤ n ∧ n = n ∧ n.toNat * eb ≤ 70368744177664⟩) (.osl objs.length esz 0 zs.length) [.arr esz (zs.map enc)] [] none := by
  unfold mkl at h
  split at h
  · rename_i h0
    cases h
    refine .of (ob := 0 ≤ n ∧ n = n ∧ n.toNat * eb ≤ 70368744177664) ?_ ⟨h0.1, rfl, h0.2⟩
    simp [he]
  · cases h
theorem is_len {xs : List α} {esz eb : Nat} {ez : List D} : OpIs (lenA (.slice esz eb ez) (.d (.sl (xs.map enc)))) (.d (.int .i64 xs.length)) [] [] none := by
  refine .of (ob := True) ?_ trivial
  simp only [lenA, val, List.length_map]
theorem put_len {xs zs : List α} {i : Int} {y : α} (hz : put xs i y = some zs) : xs.length = zs.length := by
  unfold put at hz
  split at hz
  · cases hz; simp
  · cases hz
theorem cut_put {xs zs : List α} (h : xs.length = zs.length) : ((zs.map enc).drop 0).take xs.length = zs.map enc := by
  rw [h]; exact take_all
theorem le_put {xs zs : List α} (h : xs.length = zs.length) : 0 + xs.length ≤ (zs.map enc).length := by simp [h]
theorem pick_and {t x y : Bool} : OpIs (pickA (.d (.bool t)) (.gv t (.d (.bool x))) (.d (.bool y))) (.d (.bool (bif t then x else y))) [] [] none := .of rfl ⟨trivial, fun h => h, trivial⟩
theorem pick_or {t x y : Bool} : OpIs (pickA (.d (.bool t)) (.d (.bool x)) (.gv (!t) (.d (.bool y)))) (.d (.bool (bif t then x else y))) [] [] none := .of rfl ⟨trivial, trivial, fun h => h⟩
theorem pick_gen {c a b : AV} {t x y : Bool} {r q q' : Prop} (hc : condB c = some (t, r)) (ha : unP t a = some (x, q)) (hb : unP (!t) b = some (y, q')) (hr : r) (hq : q) (hq' : q') : OpIs (pickA c a b) (.d (.bool (bif t then x else y))) [] [] none := by
  refine .of (ob := r ∧ q ∧ q') ?_ ⟨hr, hq, hq'⟩
  simp only [pickA, hc, ha, hb, valOb]
variable {encK : κ → List D} [DecidableEq κ]
end Go.AI
end
section
namespace Go.AI
variable {Γ : Cx} {C : Code} {p : List Nat} {Q : Ex → St → Prop} {s s' : St} {K : St → Prop} {i : Nat}
variable {α β ζ : Type}
theorem getD_ok {x : Option α} {d : α} (h : x.isSome = true) : x = some (x.getD d) := by
  cases x with
  | none => cases h
  | some x => rfl
structure WP (Γ : Cx) (C : Code) (p : List Nat) (Q : Ex → St → Prop) (s : St) : Prop where
  out : wpA Γ (nav p C) Q s
structure RF (Γ : Cx) (C : Code) (p : List Nat) (i : Nat) (Q : Ex → St → Prop) (s : St) : Prop where
  out : runFrom Γ C p i (Q .normal) s
structure PQ (Q : Ex → St → Prop) (e : Ex) (s : St) : Prop where
  out : Q e s
structure RA (ty : Nat → Ty) (rs : List ResultVar) (r : AV) (s : St) : Prop where
  out : retA ty rs r s
theorem RF.of {Γ : Cx} {C : Code} {p : List Nat} {i : Nat} {Q : Ex → St → Prop} {s s' : St} {j : Nat} (h : runFrom Γ C p j (Q .normal) s' → runFrom Γ C p i (Q .normal) s) (hk : RF Γ C p j Q s') : RF Γ C p i Q s := ⟨h hk.out⟩
theorem nav_snoc (k : Nat) : ∀ (p : List Nat) (C : Code), nav (p ++ [k]) C = child (nav p C) k := by
  intro p
  induction p with
  | nil => intro C; rfl
  | cons a p ih => intro C; exact ih (child C a)
def isSeq : Code → Bool
  | .seq _ _ => true
  | _ => false
def isCond : Code → Bool
  | .cond _ _ _ => true
  | _ => false
def isBlk (id : Nat) : Code → Bool
  | .block i _ => Nat.beq i id
  | _ => false
def isLoop : Code → Bool
  | .loop _ => true
  | _ => false
theorem seq_nav (h : isSeq (nav p C) = true) : nav p C = .seq (nav (p ++ [0]) C) (nav (p ++ [1]) C) := by
  rw [nav_snoc, nav_snoc]
  cases hc : nav p C <;> rw [hc] at h <;> first | rfl | cases h
theorem cond_nav (h : isCond (nav p C) = true) : nav p C = .cond (condOp (nav p C)) (nav (p ++ [0]) C) (nav (p ++ [1]) C) := by
  rw [nav_snoc, nav_snoc]
  cases hc : nav p C <;> rw [hc] at h <;> first | rfl | cases h
theorem blk_nav {id : Nat} (h : isBlk id (nav p C) = true) : nav p C = .block id (nav (p ++ [0]) C) := by
  rw [nav_snoc]
  cases hc : nav p C with
  | block j c => rw [hc] at h; have := Nat.eq_of_beq_eq_true h; subst this; rfl
  | _ => rw [hc] at h; cases h
theorem loop_nav (h : isLoop (nav p C) = true) : nav p C = .loop (nav (p ++ [0]) C) := by
  rw [nav_snoc]
  cases hc : nav p C <;> rw [hc] at h <;> first | rfl | cases h
theorem sq (hw : WP Γ C (p ++ [0]) (seqQ (wpA Γ (nav (p ++ [1]) C) Q) Q) s) (h : isSeq (nav p C) = true := by kernel_rfl) : WP Γ C p Q s := ⟨at_seq (seq_nav h) hw.out⟩
theorem rg (hs : Shift s s') (hk : RF Γ C p 0 (regQ C p s' Q) s') (h : isReg (nav p C) = true := by kernel_rfl) : WP Γ C p Q s := ⟨at_region h hs hk.out⟩
theorem rz (hk : RF Γ C p 0 (regQ C p s Q) s) (h : isReg (nav p C) = true := by kernel_rfl) : WP Γ C p Q s := ⟨at_region h sh_refl hk.out⟩
theorem sr (hk : RF Γ C (p ++ [0]) 0 (regQ C (p ++ [0]) s (seqQ (wpA Γ (nav (p ++ [1]) C) Q) Q)) s) (h : (isSeq (nav p C) && isReg (nav (p ++ [0]) C)) = true := by kernel_rfl) : WP Γ C p Q s := by
  simp only [Bool.and_eq_true] at h
  exact sq (rz hk h.2) h.1
theorem ae {s0 : St} (hk : PQ Q .normal s) (h : Nat.ble (opsIn (nav p C)).length i = true := by kernel_rfl) (hd : drawQ (drIn (nav p C)) (arrIn (nav p C)) s0.env s.env = true := by kernel_rfl) : RF Γ C p i (regQ C p s0 Q) s := ⟨at_end i h ⟨hd, hk.out⟩⟩
theorem en {s0 : St} {p' : List Nat} (hk : WP Γ C p' Q s) (h : Nat.ble (opsIn (nav p C)).length i = true := by kernel_rfl) (hd : drawQ (drIn (nav p C)) (arrIn (nav p C)) s0.env s.env = true := by kernel_rfl) : RF Γ C p i (regQ C p s0 (seqQ (wpA Γ (nav p' C) Q) Q)) s := ⟨at_end i h ⟨hd, ⟨s, .refl s, hk.out⟩⟩⟩
theorem bk (id : Nat) (hw : WP Γ C (p ++ [0]) (blockQ id Q) s) (h : isBlk id (nav p C) = true := by kernel_rfl) : WP Γ C p Q s := ⟨at_block id (blk_nav h) hw.out⟩
theorem ex (k : Nat) (hq : PQ Q (.exit k) s) (h : nav p C = .exit k := by kernel_rfl) : WP Γ C p Q s := ⟨at_exit k h hq.out⟩
theorem re (hq : PQ Q .ret s) (h : nav p C = .ret := by kernel_rfl) : WP Γ C p Q s := ⟨at_ret h hq.out⟩
theorem sk (hq : PQ Q .normal s) (h : nav p C = .skip := by kernel_rfl) : WP Γ C p Q s := ⟨at_skip h hq.out⟩
theorem cn {c : Bool} {x y : Option ζ} {r : ζ} (H : (if c = true then x else y) = some r) (h1 : x = some r → WP Γ C (p ++ [0]) Q s) (h2 : y = some r → WP Γ C (p ++ [1]) Q s) (h : isCond (nav p C) = true := by kernel_rfl) (hc : evalA s.env (condOp (nav p C)) = .d (.bool c) := by kernel_rfl) : WP Γ C p Q s := by
  refine ⟨at_cond c (cond_nav h) hc (fun e => ?_) (fun e => ?_)⟩
  · rw [if_pos e] at H; exact (h1 H).out
  · rw [if_neg (by rw [e]; simp)] at H; exact (h2 H).out
theorem sj {σ ζ : Type} (sJ : σ → St) (F : σ → Option ζ) (z : ζ) (hb : ∀ x, F x = some z → WP Γ C (p ++ [1]) Q (sJ x)) (ha : (∀ x, F x = some z → WP Γ C (p ++ [1]) Q (sJ x)) → WP Γ C (p ++ [0]) (seqQ (wpA Γ (nav (p ++ [1]) C) Q) Q) s) (h : isSeq (nav p C) = true := by kernel_rfl) : WP Γ C p Q s := sq (ha hb) h
theorem lp {σ ρ : Type} {body : σ → Option (σ ⊕ ρ)} {n : Nat} {x : σ} {r : ρ} (st : σ → St) (E : ρ → Ex → St → Prop) (hr : whl body n x = some r) (hs : Shift s (st x))
    (hb : ∀ x z, body x = some z → WP Γ C (p ++ [0]) (roundQ st E z) (st x)) (hE : ∀ e s, E r e s → PQ Q e s) (h : isLoop (nav p C) = true := by kernel_rfl) : WP Γ C p Q s := ⟨at_loop st E (loop_nav h) hr hs (fun x z hx => (hb x z hx).out) (fun e s he => (hE e s he).out)⟩
theorem fo {P : Program} {fn : Func} {f : FuncId} {args : List AV} {r : AV} (hfol : P.follows .mixedOrders = true) (hΓ : CxOK P Γ) (hf : P.funcs[f]? = some fn) (h : WP Γ (bodyOf fn) [] (postA Γ.ty fn.results.toList r) s)
    (hb : fn.body = some (bodyOf fn) := by kernel_rfl) (hnm : (fn.name == "runtime.NumGoroutine") = false := by kernel_rfl) (hnt : Γ.nt.n = fn.ntmps := by kernel_rfl) (hlen : Nat.ble args.length fn.ntmps = true := by kernel_rfl) (hs : (⟨(List.range args.length).zip args, []⟩ : St) = s := by kernel_rfl) : CallOK P f args r :=
  fn_ok hfol hΓ hf hb hnm hnt hlen hs h.out
theorem pick_genz {c a b : AV} {t x y z : Bool} {r q q' : Prop} (hc : condB c = some (t, r)) (ha : unP t a = some (x, q)) (hb : unP (!t) b = some (y, q')) (hr : r) (hq : q) (hq' : q') (hz : (bif t then x else y) = z := by kernel_rfl) : OpIs (pickA c a b) (.d (.bool z)) [] [] none := hz ▸ pick_gen hc ha hb hr hq hq'
theorem bx {G : Prop} {x : Option α} {f : α → Option β} {r : β} (h : x.bind f = some r) (k : ∀ a, x = some a → f a = some r → G) : G := by obtain ⟨a, h1, h2⟩ := bind_some h; exact k a h1 h2
theorem qs (hs : Shift s s') (h : WP Γ C p Q s') : PQ (seqQ (wpA Γ (nav p C) Q) Q) .normal s := ⟨s', hs, h.out⟩
theorem qz (h : WP Γ C p Q s) : PQ (seqQ (wpA Γ (nav p C) Q) Q) .normal s := ⟨s, .refl s, h.out⟩
theorem qx {B : St → Prop} {k : Nat} (h : PQ Q (.exit k) s) : PQ (seqQ B Q) (.exit k) s := ⟨h.out⟩
theorem qr {B : St → Prop} (h : PQ Q .ret s) : PQ (seqQ B Q) .ret s := ⟨h.out⟩
theorem qN {id : Nat} (h : PQ Q .normal s) : PQ (blockQ id Q) .normal s := ⟨h.out⟩
theorem qH {id : Nat} (h : PQ Q .normal s) : PQ (blockQ id Q) (.exit id) s := ⟨q_blockH h.out⟩
theorem qR {id : Nat} (h : PQ Q .ret s) : PQ (blockQ id Q) .ret s := ⟨h.out⟩
theorem og {σ ρ : Type} {st : σ → St} {E : ρ → Ex → St → Prop} {y : σ} (h : Shift s (st y)) : PQ (roundQ st E (.inl y)) .normal s := ⟨round_go h⟩
theorem oe {σ ρ : Type} {st : σ → St} {E : ρ → Ex → St → Prop} {r : ρ} {k : Nat} (h : E r (.exit k) s) : PQ (roundQ st E (.inr r)) (.exit k) s := ⟨round_exit h⟩
theorem or {σ ρ : Type} {st : σ → St} {E : ρ → Ex → St → Prop} {r : ρ} (h : E r .ret s) : PQ (roundQ st E (.inr r)) .ret s := ⟨round_ret h⟩
theorem pr {ty : Nat → Ty} {rs : List ResultVar} {r : AV} (h : RA ty rs r s) : PQ (postA ty rs r) .ret s := ⟨h.out⟩
def nxP (Γ : Cx) (C : Code) (p : List Nat) (i n : Nat) (s : St) : St := (runP Γ (opsIn (nav p C)) (((opsIn (nav p C)).drop i).take n) s).getD s
theorem ck (n : Nat) (hk : RF Γ C p (i + n) Q (nxP Γ C p i n s)) (h : (runP Γ (opsIn (nav p C)) (((opsIn (nav p C)).drop i).take n) s).isSome = true := by kernel_rfl) : RF Γ C p i Q s := ⟨chunk n _ (getD_ok h) rfl hk.out⟩
def OpAt (_ : St) (x : Option Eff) (v : AV) (obs : List Ob) (rm : List Nat) (upd : Option (Nat × Ob)) : Prop := OpIs x v obs rm upd
theorem sp {v : AV} {obs : List Ob} {rm : List Nat} {upd : Option (Nat × Ob)} {x : Option Eff} (ho : OpAt s x v obs rm upd) (hk : RF Γ C p (i + 1) Q ((nextS Γ (nav p C) i v obs rm upd s).getD s)) (hx : opOf Γ (nav p C) i s = x := by kernel_rfl) (hn : (nextS Γ (nav p C) i v obs rm upd s).isSome = true := by kernel_rfl) : RF Γ C p i Q s := ⟨spec _ hx ho (getD_ok hn) rfl hk.out⟩
theorem sG {g : Bool} {v : AV} {obs : List Ob} {x : Option Eff} {gs : List Bool} (ho : g = true → OpAt s x v obs [] none) (hi : impAll g gs) (hk : RF Γ C p (i + 1) Q ((nextG Γ (nav p C) i g v obs s).getD s)) (hg : gAt (nav p C) i s = some g := by kernel_rfl) (hx : opOf Γ (nav p C) i s = x := by kernel_rfl) (hgs : gvsAt (nav p C) i s = gs := by kernel_rfl) (hn : (nextG Γ (nav p C) i g v obs s).isSome = true := by kernel_rfl) : RF Γ C p i Q s := ⟨specG _ hg hx ho hgs hi (getD_ok hn) rfl hk.out⟩
def plV (Γ : Cx) (c : Code) (i : Nat) (s : St) : AV × List Ob := (opPl Γ c i s).getD (.top, [])
theorem gp (g : Bool) {gs : List Bool} (hi : impAll g gs) (hk : RF Γ C p (i + 1) Q ((nextG Γ (nav p C) i g (plV Γ (nav p C) i s).1 (plV Γ (nav p C) i s).2 s).getD s)) (hg : gAt (nav p C) i s = some g := by kernel_rfl) (hp : (opPl Γ (nav p C) i s).isSome = true := by kernel_rfl) (hgs : gvsAt (nav p C) i s = gs := by kernel_rfl) (hn : (nextG Γ (nav p C) i g (plV Γ (nav p C) i s).1 (plV Γ (nav p C) i s).2 s).isSome = true := by kernel_rfl) : RF Γ C p i Q s :=
  ⟨specG _ hg rfl (fun _ => is_pl (getD_ok (d := (.top, [])) hp)) hgs hi (getD_ok hn) rfl hk.out⟩
def gl (Γ : Cx) (c : Code) (g : Bool) : Nat → Nat → St → Option (List Bool × St)
  | 0, _, s => some ([], s)
  | n + 1, i, s => match gAt c i s, (opPl Γ c i s).isSome, nextG Γ c i g (plV Γ c i s).1 (plV Γ c i s).2 s with
    | some g', true, some s1 => match gl Γ c g n (i + 1) s1 with
      | some (l, s2) => some (g' :: (gvsAt c i s ++ l), s2)
      | none => none
    | _, _, _ => none
theorem impAll_of {g : Bool} : ∀ {l : List Bool}, (∀ b ∈ l, b = g) → impAll g l := by
  intro l
  induction l with
  | nil => intro _; trivial
  | cons b l ih => intro h; exact ⟨fun e => by rw [h b (by simp)]; exact e, ih fun x hx => h x (by simp [hx])⟩
theorem gl_ok {g : Bool} : ∀ (n i : Nat) (s : St) (l : List Bool) (s2 : St), gl Γ (nav p C) g n i s = some (l, s2) → (∀ b ∈ l, b = g) → RF Γ C p (i + n) Q s2 → RF Γ C p i Q s := by
  intro n
  induction n with
  | zero => intro i s l s2 h _ hk; cases h; exact hk
  | succ n ih =>
    intro i s l s2 h hl hk
    simp only [gl] at h
    split at h
    · rename_i g' s1 h1 h2 h3
      split at h
      · rename_i l' s2' h4
        cases h
        have e : g' = g := hl g' (by simp)
        subst e
        have hlast := ih (i + 1) s1 l' s2 h4 (fun b hb => hl b (by simp [hb])) (by rw [Nat.add_assoc, Nat.add_comm 1 n]; exact hk)
        refine gp g' (impAll_of fun b hb => hl b (by simp [hb])) ?_ h1 h2 rfl (by rw [h3]; rfl)
        rw [h3]
        exact hlast
      · cases h
    · cases h
theorem gc (n : Nat) (g : Bool) (hk : RF Γ C p (i + n) Q ((gl Γ (nav p C) g n i s).getD ([], s)).2) (h1 : (gl Γ (nav p C) g n i s).isSome = true := by kernel_rfl) (h2 : ((gl Γ (nav p C) g n i s).getD ([], s)).1 = List.replicate ((gl Γ (nav p C) g n i s).getD ([], s)).1.length g := by kernel_rfl) : RF Γ C p i Q s := by
  refine gl_ok n i s _ _ (getD_ok (d := ([], s)) h1) (fun b hb => ?_) hk
  have hb' : b ∈ ((gl Γ (nav p C) g n i s).getD ([], s)).1 := hb
  rw [h2] at hb'
  exact List.eq_of_mem_replicate hb'
def bo : AV → Bool
  | .d (.bool b) => b
  | .gv _ (.d (.bool b)) => b
  | _ => false
def pkO (c : Code) (i : Nat) (s : St) : AV × AV × AV :=
  match (opsIn c)[i]? with
  | some o => match o.op with
    | .pick x y z => (evalA s.env x, evalA s.env y, evalA s.env z)
    | _ => (.top, .top, .top)
  | none => (.top, .top, .top)
def pkT (c : Code) (i : Nat) (s : St) : Bool := bo (pkO c i s).1
def pkX (c : Code) (i : Nat) (s : St) : Bool := bo (pkO c i s).2.1
def pkY (c : Code) (i : Nat) (s : St) : Bool := bo (pkO c i s).2.2
def pkV (c : Code) (i : Nat) (s : St) : AV := .d (.bool (bif pkT c i s then pkX c i s else pkY c i s))
theorem pA (hk : RF Γ C p (i + 1) Q ((nextP Γ (nav p C) i (pkV (nav p C) i s) s).getD s)) (h : pickOf (nav p C) i s = pickA (.d (.bool (pkT (nav p C) i s))) (.gv (pkT (nav p C) i s) (.d (.bool (pkX (nav p C) i s)))) (.d (.bool (pkY (nav p C) i s))) := by kernel_rfl) (hn : (nextP Γ (nav p C) i (pkV (nav p C) i s) s).isSome = true := by kernel_rfl) : RF Γ C p i Q s := ⟨specP _ h pick_and (getD_ok hn) rfl hk.out⟩
theorem pO (hk : RF Γ C p (i + 1) Q ((nextP Γ (nav p C) i (pkV (nav p C) i s) s).getD s)) (h : pickOf (nav p C) i s = pickA (.d (.bool (pkT (nav p C) i s))) (.d (.bool (pkX (nav p C) i s))) (.gv (!(pkT (nav p C) i s)) (.d (.bool (pkY (nav p C) i s)))) := by kernel_rfl) (hn : (nextP Γ (nav p C) i (pkV (nav p C) i s) s).isSome = true := by kernel_rfl) : RF Γ C p i Q s := ⟨specP _ h pick_or (getD_ok hn) rfl hk.out⟩
theorem pG {g : Bool} {v : AV} {x : Option Eff} (ho : g = true → OpIs x v [] [] none) (hk : RF Γ C p (i + 1) Q ((nextPG Γ (nav p C) i g v s).getD s)) (hg : gAt (nav p C) i s = some g := by kernel_rfl) (hx : pickOf (nav p C) i s = x := by kernel_rfl) (hn : (nextPG Γ (nav p C) i g v s).isSome = true := by kernel_rfl) : RF Γ C p i Q s := ⟨specPG _ hg hx ho (getD_ok hn) rfl hk.out⟩
theorem sF (hk : RF Γ C p (i + 1) Q ((nextF Γ (nav p C) i ((freshOf Γ (nav p C) i s).getD []) s).getD s)) (hx : (freshOf Γ (nav p C) i s).isSome = true := by kernel_rfl) (hn : (nextF Γ (nav p C) i ((freshOf Γ (nav p C) i s).getD []) s).isSome = true := by kernel_rfl) : RF Γ C p i Q s := ⟨specF _ _ (getD_ok hx) (getD_ok hn) rfl hk.out⟩
theorem ca (m : Bool) {f : FuncId} {ys : List AV} {r : AV} (hr : Γ.calls f ys r) (hk : RF Γ C p (i + 1) Q ((nextC Γ (nav p C) i m (lensR r) r s).getD s)) (hc : callAt (nav p C) i s = some (f, ys, [], []) := by kernel_rfl) (hn : (nextC Γ (nav p C) i m (lensR r) r s).isSome = true := by kernel_rfl) : RF Γ C p i Q s := ⟨callS _ m hc leZ rfl hr (.inl rfl) rfl (getD_ok hn) rfl hk.out⟩
theorem cb (m : Bool) {f : FuncId} {xs ys : List AV} {ks : List Nat} {obl : List (Nat × Nat)} {r : AV} {ls : List Nat} (hob : leAll obl) (hxs : xs = ys) (hr : Γ.calls f ys r) (hf : ks = [] ∨ flatR r) (hls : lensR r = ls) (hk : RF Γ C p (i + 1) Q ((nextC Γ (nav p C) i m ls r s).getD s)) (hc : callAt (nav p C) i s = some (f, xs, ks, obl) := by kernel_rfl) (hn : (nextC Γ (nav p C) i m ls r s).isSome = true := by kernel_rfl) : RF Γ C p i Q s := ⟨callS _ m hc hob hxs hr hf hls (getD_ok hn) rfl hk.out⟩
theorem cG (m : Bool) {g : Bool} {gs : List Bool} {f : FuncId} {xs ys : List AV} {ks : List Nat} {obl : List (Nat × Nat)} {r : AV} {ls : List Nat} (hob : leAll obl) (hxs : xs = ys) (hr : g = true → Γ.calls f ys r) (hf : ks = [] ∨ flatR r) (hi : impAll g gs) (hls : lensR r = ls) (hk : RF Γ C p (i + 1) Q ((nextCG Γ (nav p C) i g m ls r s).getD s)) (hg : gAt (nav p C) i s = some g := by kernel_rfl) (hc : callAt (nav p C) i s = some (f, xs, ks, obl) := by kernel_rfl) (hgs : gvsAt (nav p C) i s = gs := by kernel_rfl) (hn : (nextCG Γ (nav p C) i g m ls r s).isSome = true := by kernel_rfl) : RF Γ C p i Q s := ⟨callG _ m hg hc hob hxs hr hf hgs hi hls (getD_ok hn) rfl hk.out⟩
theorem at_idxD (e : α → List D) {xs : List α} {n : Int} {x : α} (h : idx xs n = some x) : OpAt s (valOb (.dptr ((xs.map e)[n.toNat]?.getD []) 0) (0 ≤ n ∧ n < (xs.map e).length ∧ ((xs.map e)[n.toNat]?.getD []).length = (e x).length)) (.dptr (e x) 0) [] [] none :=
  is_idxD (esz := (e x).length) (eb := 0) (ez := []) h (Nat.beq_refl _)
theorem at_idxO (k esz : Nat) {xs : List α} {n : Int} {x : α} (h : idx xs n = some x) : OpAt s (valOb (.eptr k esz (0 + n.toNat) 0) (0 ≤ n ∧ n < (xs.length : Nat) ∧ esz = esz)) (.eptr k esz (0 + n.toNat) 0) [] [] none := is_idxO (esz := esz) (eb := 0) (ez := []) h
def ldV (l : List D) (off : Nat) (t : Ty) : AV := (ldCells (l.map .d) off t).getD .top
theorem at_ldA (e : α → List D) (k off : Nat) (t : Ty) {xs : List α} {n : Int} {x : α} (h : idx xs n = some x) (hk : obA s.objs k = some (.arr (e x).length (xs.map e)) := by kernel_rfl) (hv : (ldCells ((e x).map .d) off t).isSome = true := by kernel_rfl) (hl : Nat.ble (off + t.size) (e x).length = true := by kernel_rfl) :
    OpAt s (loadA t s.objs (.eptr k (e x).length (0 + n.toNat) off)) (ldV (e x) off t) [] [] none := is_ldA hk h (getD_ok hv) hl
def stV (c : Code) (i : Nat) (s : St) : AV :=
  match (opsIn c)[i]? with
  | some o => match o.op with
    | .store _ _ v => unG (evalA s.env v)
    | _ => .top
  | none => .top
def stR (c : Code) (i : Nat) (s : St) : List D := ((xDs s.objs (cellsA (stV c i s))).getD ([], [], [])).1
theorem stA (e : α → List D) (k off : Nat) (t : Ty) {xs zs : List α} {n : Int} {x y : α} (h : idx xs n = some x) (hz : put xs n y = some zs) (hk : RF Γ C p (i + 1) Q ((nextS Γ (nav p C) i .top [] [] (some (k, .arr (e x).length (zs.map e))) s).getD s))
    (h1 : obA s.objs k = some (.arr (e x).length (xs.map e)) := by kernel_rfl) (h2 : xDs s.objs (cellsA (stV (nav p C) i s)) = some (stR (nav p C) i s, [], []) := by kernel_rfl) (h3 : (cellsOk (stV (nav p C) i s) && (cellsA (stV (nav p C) i s)).all solid) = true := by kernel_rfl) (h4 : spliceD (e x) off (stR (nav p C) i s) = e y := by kernel_rfl) (h5 : (Nat.beq (stR (nav p C) i s).length t.size && Nat.ble (off + t.size) (e x).length) = true := by kernel_rfl)
    (hx : opOf Γ (nav p C) i s = storeA t s.objs (.eptr k (e x).length (0 + n.toNat) off) (stV (nav p C) i s) := by kernel_rfl) (hn : (nextS Γ (nav p C) i .top [] [] (some (k, .arr (e x).length (zs.map e))) s).isSome = true := by kernel_rfl) : RF Γ C p i Q s :=
  sp (is_stA h1 h hz h2 leZ (by rw [h3]; rfl) h4 h5) hk hx hn
theorem at_app (e : α → List D) (k esz : Nat) {xs ys zs : List α} {eb : Nat} (h : app eb xs ys = some zs) (hk : obA s.objs k = some (.arr esz (xs.map e)) := by kernel_rfl) (hl : ∀ y, (e y).length = esz := by intro _; rfl) : OpAt s (appendA esz eb s.objs (.osl k esz 0 xs.length) (ys.map e) True) (.osl s.objs.length esz 0 zs.length) [.arr esz (zs.map e)] [k] none := is_app hk rfl hl trivial h
theorem at_appO (e : α → List D) (k esz : Nat) {xs ys zs : List α} {eb : Nat} (h : app eb xs ys = some zs) (hk : obA s.objs k = some (.arr esz (xs.map e)) := by kernel_rfl) (hl : ∀ y, (e y).length = esz := by intro _; rfl) : OpAt s (appendA esz eb s.objs (.osl k esz 0 xs.length) (((ys.map e).drop 0).take ys.length) (0 + ys.length ≤ (ys.map e).length)) (.osl s.objs.length esz 0 zs.length) [.arr esz (zs.map e)] [k] none := is_app hk take_all hl (by simp) h
theorem at_mk (e : α → List D) (esz : Nat) {zs : List α} {n : Int} {z : α} {eb : Nat} (h : mkl eb n z = some zs) : OpAt s (some ⟨.osl s.objs.length esz 0 n.toNat, [.arr esz (List.replicate n.toNat (e z))], [], none, 0 ≤ n ∧ n = n ∧ n.toNat * eb ≤ 70368744177664⟩) (.osl s.objs.length esz 0 zs.length) [.arr esz (zs.map e)] [] none := is_mk h rfl
theorem at_len (e : α → List D) (xs : List α) : OpAt s (val (.d (.int .i64 (xs.map e).length))) (.d (.int .i64 xs.length)) [] [] none := is_len (esz := 0) (eb := 0) (ez := [])
theorem cl (ls : List Nat) {f : FuncId} {ys : List AV} {r : AV} (hr : Γ.calls f ys r) (hk : RF Γ C p (i + 1) Q ((nextC Γ (nav p C) i true ls r s).getD s)) (hls : lensR r = ls := by simp only [lensR, lensT, lensA, lensC, List.length_map, List.nil_append, List.append_nil, List.cons_append]) (hc : callAt (nav p C) i s = some (f, ys, [], []) := by kernel_rfl) (hn : (nextC Γ (nav p C) i true ls r s).isSome = true := by kernel_rfl) : RF Γ C p i Q s := ⟨callS _ true hc leZ rfl hr (.inl rfl) hls (getD_ok hn) rfl hk.out⟩
def isDat : AV → Bool
  | .d _ => true
  | .agg l => l.all isDD
  | _ => false
theorem ksE_append (l m : List (Option (Nat × Nat × Nat))) : ksE (l ++ m) = ksE l ++ ksE m := by
  induction l with
  | nil => rfl
  | cons a l ih => cases a <;> simp [ksE, ih]
theorem entV_d {a : AV} (h : isDD a = true) : ksE (entV a a) = [] := by
  cases a with
  | d x => cases x <;> rfl
  | _ => cases h
theorem outV_dd {objs : List (Option Ob)} {a : AV} (h : isDD a = true) : outV objs a a := by
  cases a with
  | d x => exact outV_d
  | _ => cases h
theorem dat_C {objs : List (Option Ob)} : ∀ {l : List AV}, l.all isDD = true → outC objs l l ∧ ksE (entC l l) = [] := by
  intro l
  induction l with
  | nil => intro _; exact ⟨trivial, rfl⟩
  | cons a l ih =>
    intro h
    simp only [List.all_cons, Bool.and_eq_true] at h
    obtain ⟨h1, h2⟩ := ih h.2
    exact ⟨⟨outV_dd h.1, h1⟩, by simp only [entC, ksE_append, entV_d h.1, h2, List.append_nil]⟩
theorem dat_A {objs : List (Option Ob)} {a : AV} (h : isDat a = true) : outA objs a a ∧ ksE (entA a a) = [] := by
  cases a with
  | d x => exact ⟨outV_d, entV_d (a := .d x) rfl⟩
  | agg l => exact dat_C h
  | _ => cases h
theorem dat_T {objs : List (Option Ob)} : ∀ {l : List AV}, l.all isDat = true → outT objs l l ∧ ksE (entT l l) = [] := by
  intro l
  induction l with
  | nil => intro _; exact ⟨trivial, rfl⟩
  | cons a l ih =>
    intro h
    simp only [List.all_cons, Bool.and_eq_true] at h
    obtain ⟨h1, h2⟩ := ih h.2
    obtain ⟨h3, h4⟩ := dat_A (objs := objs) h.1
    exact ⟨⟨h3, h1⟩, by simp only [entT, ksE_append, h4, h2, List.append_nil]⟩
theorem rd {ty : Nat → Ty} {rs : List ResultVar} {r : AV} (hd : isDat r = true := by kernel_rfl) (h : resB ty s rs = some [r] := by kernel_rfl) : RA ty rs r s := ⟨ret1 [] h (dat_A hd).1 (dat_A (objs := []) hd).2 (by simp)⟩
theorem rdT {ty : Nat → Ty} {rs : List ResultVar} {l : List AV} (hd : l.all isDat = true := by kernel_rfl) (h : resB ty s rs = some l := by kernel_rfl) (hl : Nat.beq l.length 1 = false := by kernel_rfl) : RA ty rs (.tup l) s := ⟨retT h hl (dat_T hd).1 [] (dat_T (objs := []) hd).2 (by simp)⟩
structure OV (s : St) (a r : AV) : Prop where
  out : outV s.objs a r
structure OC (s : St) (a r : List AV) : Prop where
  out : outC s.objs a r
structure OA (s : St) (a r : AV) : Prop where
  out : outA s.objs a r
structure OT (s : St) (a r : List AV) : Prop where
  out : outT s.objs a r
theorem c0 : OC s [] [] := ⟨trivial⟩
theorem c1 {a r : AV} {l m : List AV} (h : OV s a r) (h' : OC s l m) : OC s (a :: l) (r :: m) := ⟨⟨h.out, h'.out⟩⟩
theorem a1 {l m : List AV} (h : OC s l m) : OA s (.agg l) (.agg m) := ⟨h.out⟩
theorem ad {x : D} {r : AV} (h : OV s (.d x) r) : OA s (.d x) r := ⟨h.out⟩
theorem ao {k sz lo n : Nat} {r : AV} (h : OV s (.osl k sz lo n) r) : OA s (.osl k sz lo n) r := ⟨h.out⟩
theorem t0 : OT s [] [] := ⟨trivial⟩
theorem t1 {a r : AV} {l m : List AV} (h : OA s a r) (h' : OT s l m) : OT s (a :: l) (r :: m) := ⟨⟨h.out, h'.out⟩⟩
theorem vd {x : D} : OV s (.d x) (.d x) := ⟨outV_d⟩
theorem vz {sz : Nat} : OV s (.d .nil) (.own sz []) := ⟨outV_nilO⟩
theorem vo {enc : α → List D} {xs : List α} {k sz : Nat} (h : obA s.objs k = some (.arr sz (xs.map enc)) := by kernel_rfl) : OV s (.osl k sz 0 xs.length) (.own sz (xs.map enc)) := ⟨outV_own h⟩
theorem rO {ty : Nat → Ty} {rs : List ResultVar} {v r : AV} (ks : List Nat) (ho : OA s v r) (h : resB ty s rs = some [v] := by kernel_rfl) (hks : ksE (entA v r) = ks := by kernel_rfl) (hnd : ks.Nodup := by decide) : RA ty rs r s := ⟨ret1 ks h ho.out hks hnd⟩
theorem rT {ty : Nat → Ty} {rs : List ResultVar} {vs l : List AV} (ks : List Nat) (ho : OT s vs l) (h : resB ty s rs = some vs := by kernel_rfl) (hl : Nat.beq vs.length 1 = false := by kernel_rfl) (hks : ksE (entT vs l) = ks := by kernel_rfl) (hnd : ks.Nodup := by decide) : RA ty rs (.tup l) s := ⟨retT h hl ho.out ks hks hnd⟩
structure RL (ty : Nat → Ty) (rs : List ResultVar) (kl : List Nat) (r : AV) (O1 : List (Option Ob)) (s : St) : Prop where
  out : ∃ s', Shift s s' ∧ retL ty rs kl r O1 s'
def isPtrTo (i : Nat) : AV → Bool
  | .ptr k off => Nat.beq k i && Nat.beq off 0
  | _ => false
def keptB (env : List (Nat × AV)) : Nat → List Nat → Bool
  | _, [] => true
  | i, t :: ts => isPtrTo i (lkA env t) && keptB env (i + 1) ts
theorem keptB_ok {env : List (Nat × AV)} : ∀ (kl : List Nat) (i0 : Nat), keptB env i0 kl = true → ∀ (i t : Nat), kl[i]? = some t → lkA env t = .ptr (i0 + i) 0 := by
  intro kl
  induction kl with
  | nil => intro i0 _ i t h; simp at h
  | cons x kl ih =>
    intro i0 h i t hi
    simp only [keptB, Bool.and_eq_true] at h
    cases i with
    | zero =>
      simp only [List.getElem?_cons_zero, Option.some.injEq] at hi
      subst hi
      have h1 := h.1
      unfold isPtrTo at h1
      split at h1
      · rename_i k off he
        simp only [Bool.and_eq_true] at h1
        rw [he, Nat.eq_of_beq_eq_true h1.1, Nat.eq_of_beq_eq_true h1.2]; rfl
      · cases h1
    | succ i =>
      have := ih (i0 + 1) h.2 i t (by simpa using hi)
      rw [this]; congr 1; omega
def resR (vs : List AV) : AV := match vs with
  | [v] => v
  | vs => .tup vs
theorem rl {ty : Nat → Ty} {rs : List ResultVar} {kl : List Nat} {r : AV} {O1 : List (Option Ob)} (sh : Shift s s') (h : (resB ty s' rs).map resR = some r := by kernel_rfl) (hO : s'.objs = O1 := by kernel_rfl) (hk : keptB s'.env 0 kl = true := by kernel_rfl) : RL ty rs kl r O1 s := by
  refine ⟨s', sh, hO, fun i t ht => by have := keptB_ok kl 0 hk i t ht; rwa [Nat.zero_add] at this, ?_⟩
  cases hb : resB ty s' rs with
  | none => rw [hb] at h; cases h
  | some vs =>
    rw [hb] at h
    obtain ⟨p, e1, q1⟩ := resB_ok hb
    rw [e1]
    simp only [Option.map_some, Option.some.injEq] at h
    match vs, h with
    | [], h => exact ⟨q1, h.symm⟩
    | [v], h => exact ⟨q1, h⟩
    | v :: v' :: l, h => exact ⟨q1, h.symm⟩
theorem pL {ty : Nat → Ty} {rs : List ResultVar} {kl : List Nat} {r : AV} {O1 : List (Option Ob)} (h : RL ty rs kl r O1 s) : PQ (postL ty rs kl r O1) .ret s := ⟨h.out⟩
def klB (args : List AV) : Nat → List Nat → Bool
  | _, [] => true
  | i, t :: ts => isPtrTo i (args.getD t .top) && klB args (i + 1) ts
def bxB (O0 O1 : List (Option Ob)) : Nat → Nat → Bool
  | _, 0 => true
  | i, n + 1 => (match boxLen (obA O0 i), boxLen (obA O1 i) with
    | some a, some b => Nat.beq a b
    | _, _ => false) && bxB O0 O1 (i + 1) n
theorem klB_ok {args : List AV} : ∀ (kl : List Nat) (i0 : Nat), klB args i0 kl = true → ∀ (i t : Nat), kl[i]? = some t → args[t]? = some (.ptr (i0 + i) 0) := by
  intro kl
  induction kl with
  | nil => intro i0 _ i t h; simp at h
  | cons x kl ih =>
    intro i0 h i t hi
    simp only [klB, Bool.and_eq_true] at h
    cases i with
    | zero =>
      simp only [List.getElem?_cons_zero, Option.some.injEq] at hi
      subst hi
      have h1 := h.1
      rw [List.getD_eq_getElem?_getD] at h1
      unfold isPtrTo at h1
      split at h1
      · rename_i k off he
        simp only [Bool.and_eq_true] at h1
        cases hx : args[x]? with
        | none => rw [hx] at he; cases he
        | some a =>
          rw [hx] at he
          simp only [Option.getD_some] at he
          rw [he, Nat.eq_of_beq_eq_true h1.1, Nat.eq_of_beq_eq_true h1.2]; rfl
      · cases h1
    | succ i =>
      have := ih (i0 + 1) h.2 i t (by simpa using hi)
      rw [this]; congr 2; omega
theorem bxB_ok {O0 O1 : List (Option Ob)} : ∀ (n i0 : Nat), bxB O0 O1 i0 n = true → ∀ i, i < n → ∃ m, boxLen (obA O0 (i0 + i)) = some m ∧ boxLen (obA O1 (i0 + i)) = some m := by
  intro n
  induction n with
  | zero => intro i0 _ i hi; omega
  | succ n ih =>
    intro i0 h i hi
    simp only [bxB, Bool.and_eq_true] at h
    cases i with
    | zero =>
      have h1 := h.1
      split at h1
      · rename_i a b ha hb
        have := Nat.eq_of_beq_eq_true h1
        subst this
        exact ⟨a, ha, hb⟩
      · cases h1
    | succ i =>
      have := ih (i0 + 1) h.2 i (by omega)
      rwa [show i0 + 1 + i = i0 + (i + 1) by omega] at this
theorem fl {P : Program} {fn : Func} {f : FuncId} {args : List AV} {O0 O1 : List (Option Ob)} {kl : List Nat} {nb : Nat} {r : AV} (hfol : P.follows .mixedOrders = true) (hΓ : CxOK P Γ) (hf : P.funcs[f]? = some fn) (h : WP Γ (bodyOf fn) [] (postL Γ.ty fn.results.toList kl r O1) s)
    (hb : fn.body = some (bodyOf fn) := by kernel_rfl) (hnm : (fn.name == "runtime.NumGoroutine") = false := by kernel_rfl) (hnt : Γ.nt = ⟨fn.ntmps, kl⟩ := by kernel_rfl) (hlen : Nat.ble args.length fn.ntmps = true := by kernel_rfl) (hkl : klB args 0 kl = true := by kernel_rfl) (hbx : bxB O0 O1 0 kl.length = true := by kernel_rfl) (hnb : kl.length = nb := by kernel_rfl) (hs : (⟨(List.range args.length).zip args, O0⟩ : St) = s := by kernel_rfl) : LentOK P f args O0 nb r O1 := by
  subst hnb
  exact fn_lent hfol hΓ hf hb hnm hnt hlen (fun i t ht => by have := klB_ok kl 0 hkl i t ht; rwa [Nat.zero_add] at this) (fun i hi => by have := bxB_ok _ 0 hbx i hi; rwa [Nat.zero_add] at this) hs h.out
theorem lt (ord : List Nat) {f : FuncId} {ys : List AV} {O0 O1 : List (Option Ob)} {nb : Nat} {r : AV} (hr : Γ.lent f ys O0 nb r O1) (hk : RF Γ C p (i + 1) Q ((nextL Γ (nav p C) i ord nb r O1 s).getD s)) (hc : lentAt (nav p C) i s = some (f, ((lentAt (nav p C) i s).getD (0, [], [])).2.1, ord) := by kernel_rfl)
    (hxs : ((lentAt (nav p C) i s).getD (0, [], [])).2.1.map (renV ord) = ys := by kernel_rfl) (hO : lendO s.objs ord = O0 := by kernel_rfl) (hn : (nextL Γ (nav p C) i ord nb r O1 s).isSome = true := by kernel_rfl) : RF Γ C p i Q s := ⟨lentS hc hxs hO hr (getD_ok hn) hk.out⟩
theorem takeD {enc : α → List D} {xs : List α} : D.sl (((xs.map enc).drop 0).take xs.length) = D.sl (xs.map enc) := by rw [take_all]
theorem consD {a b : D} {l l' : List D} (h : a = b) (h' : l = l') : a :: l = b :: l' := by rw [h, h']
theorem dptrE {l l' : List D} {o : Nat} (h : l = l') : AV.dptr l o = .dptr l' o := by rw [h]
end Go.AI
end
section
namespace Go.AI
variable {P : Program} {F F' : Nat → Option Obj} {ρ ρ' : Nat → Option Loc} {N : Nat → Prop} {H0 F0 : Nat → Option Obj} {O objs : List (Option Ob)} {w : World} {w0 : W0} {Γ : Nat → Ty} {nt : Slt} {o : Oper} {st : St}
theorem DRep.one {x : D} {v : Value} (h : DRep F x v) : v.oneCell' = true := (solid_one (F := F) (ρ := noR) (.d x v h) rfl).1
theorem copy_ext (hΓ : TyOK P Γ) {d s : Operand} {t t' : TypeId} {k sz eb n : Nat} {ez : List D} {es ys : List (List D)} {ob : Prop} (hop : o.op = .call ⟨.builtin .copy, #[d, s], #[t, t']⟩) (hok : (Γ t).ok = true) (hkind : (Γ t).kind = .slice sz eb ez) (h1 : 1 ≤ sz)
    (hd : evalA st.env d = .osl k sz 0 n) (ho : obA st.objs k = some (.arr sz es)) (hnl : n = es.length) (hs : elemsA st.objs (evalA st.env s) = some (ys, ob)) (hob : ob) (hys : ∀ e ∈ ys, e.length = sz) (hle : ys.length ≤ es.length) :
    ExtOK P nt o true st ⟨putA o.dst false true (.d (.int .i64 (ys.length : Int))) st.env, st.objs.set k (some (.arr sz (ys ++ es.drop ys.length)))⟩ := by
  intro N H0 F0 w0 a w _ hI hdst K Qw hK
  obtain ⟨F, ρ, hS, hSl, hn, hdf⟩ := hI
  obtain ⟨desc, hde, _, hk⟩ := (hΓ t hok).desc
  rw [hkind] at hk
  obtain ⟨elem, i, z, rfl, p1, p2, p3, p4, p5, p6, p7⟩ := hk
  have hdr := evalA_sound hSl d
  have hsr := evalA_sound hSl s
  rw [hd] at hdr
  obtain ⟨cs, hrun, hER, hcs⟩ := src_sound (P := P) h1 hS (fun _ _ h => h) hs hob hsr hys
  obtain ⟨hl1, hf1⟩ := hrun w rfl
  generalize hxs : a.eval s = xs at hl1 hf1
  generalize hxd : a.eval d = xd at hdr
  -- the run of copy
  have hcopy : ∀ (base : Option Addr) (cap : Nat) (w' : World), xd = .slice base n cap → (match base with | some b => (storeCells b cs.toList).run P w = .ok () w' | none => w' = w) →
      (execOp a.eval o).run P w = .ok (.value (.int .i64 (ys.length : Int))) w' := by
    intro base cap w' hxd' hst
    have hmin : Nat.min ys.length n = ys.length := Nat.min_eq_left (by omega)
    have hr : (Builtin.copy_ #[t, t'] o.type #[xd, xs]).run P w = .ok (.int .i64 (ys.length : Int)) w' := by
      rw [hxd']
      simp only [Builtin.copy_, List.getElem?_toArray, List.getElem?_cons_zero, List.getElem?_cons_succ, Sem.run_bind, run_underlying hde, Result.andThen_ok, hl1, hmin, run_sizeOf' w p1, p2, hf1]
      cases base with
      | none => simp only at hst; subst hst; rfl
      | some b => simp only [Sem.run_bind, hst, Result.andThen_ok]; rfl
    simp only [execOp, hop, resolve, invoke, builtin, Sem.run_bind, Sem.run_pure, Result.andThen_ok, List.map_toArray, List.map_cons, List.map_nil, hxd, hxs, hr]
  have fin : ∀ w', Sim N H0 F0 F ρ (st.objs.set k (some (.arr sz (ys ++ es.drop ys.length)))) w'.heap → Mu w w' → (execOp a.eval o).run P w = .ok (.value (.int .i64 (ys.length : Int))) w' → o.wp P a w K Qw := by
    intro w' hS' hmu hr
    unfold Oper.wp
    rw [hr, Oper.upon_value]
    exact hK _ _ ⟨F, ρ, hS', hSl.putA hn hdst (.mkInt _ _), hn.put hdst, by rw [put_defers]; exact ⟨hdf.1, hdf.2.trans hmu⟩⟩
  have hstay : ys = [] → Sim N H0 F0 F ρ (st.objs.set k (some (.arr sz (ys ++ es.drop ys.length)))) w.heap := fun h => by
    subst h
    refine hS.table (by simp) fun j L ob' hj hob' => ?_
    by_cases e : j = k
    · subst e; rw [obA_set, if_pos ⟨rfl, obA_lt ho⟩] at hob'; cases hob'; simpa using ho
    · rw [obA_set, if_neg (fun hh => e hh.1)] at hob'; exact hob'
  cases hdr with
  | osl0 _ _ _ ad =>
    have hy : ys = [] := List.length_eq_zero_iff.1 (by omega)
    have hcs0 : cs.toList = [] := by have : cs.size = 0 := by rw [hcs, hy]; simp
                                     simpa using this
    refine fin w (hstay hy) (Mu.refl w) (hcopy ad 0 w rfl ?_)
    cases ad with
    | none => rfl
    | some b => simp only; rw [hcs0]; rfl
  | osl _ _ _ _ cap L hL hc hss hz =>
    obtain ⟨⟨g1, g2, cur, t0, fr, g3, g4, g5, g6⟩, gN, gF⟩ := hS.obj k L _ hL ho
    have hin : L.base + ys.length * sz ≤ cur.size := by
      have : ys.length * sz ≤ es.length * sz := Nat.mul_le_mul_right _ hle
      omega
    have hst := run_storeCells_blk P L.b (L.base + 0 * sz) t0 fr cs.toList 0 cur w g3 (by simp [hcs]; omega) (by rw [g4]; exact g5) (hER.ones hcs)
    simp only [Nat.zero_mul, Nat.add_zero] at hst
    refine fin { w with heap := w.heap.setIfInBounds L.b (.cells (putAt cur L.base cs.toList) t0 fr) } ?_ (Mu.set g3) (hcopy (some ⟨L.b, L.base, none⟩) cap _ (by simp) hst)
    have := hS.rewrite (k' := k) (L' := L) (x := .cells (putAt cur L.base cs.toList) t0 fr) (O' := st.objs.set k (some (.arr sz (ys ++ es.drop ys.length)))) hL ho (by rw [upR_self hL]; exact RLe.refl _) rfl (fun j ob' hj hob' => by
        rw [obA_set, if_neg (fun hh => hj hh.1)] at hob'; exact ⟨hob', hj⟩) (by simp) (by simpa using obA_lt ho) (fun ob' hob' => by
        rw [obA_set, if_pos ⟨rfl, obA_lt ho⟩] at hob'
        cases hob'
        have hlen : (ys ++ es.drop ys.length).length = es.length := by simp; omega
        have hps : (putAt cur L.base cs.toList).size = L.size := by rw [putAt_size, g4]
        refine ⟨fun e he => ?_, by rw [hlen]; exact g2, _, t0, fr, by rw [set_get, if_pos ⟨rfl, getElem?_ltA g3⟩], hps, g5, fun i e hi j x hx => ?_⟩
        · rcases List.mem_append.1 he with h | h
          · exact hys e h
          · exact g1 e (List.mem_of_mem_drop h)
        · have hjs : j < sz := by
            have := getElem?_lt hx
            have he : e.length = sz := by
              rcases List.mem_append.1 (List.mem_of_getElem? hi) with h | h
              · exact hys e h
              · exact g1 e (List.mem_of_mem_drop h)
            omega
          rw [putAt_get _ _ _ _ (by simp [hcs]; omega)]
          simp only [Array.length_toList, hcs]
          by_cases hlt : i < ys.length
          · rw [List.getElem?_append_left hlt] at hi
            obtain ⟨u, hu, hdu⟩ := hER.2.2 i e hi j x hx
            have hb : i * sz + j < ys.length * sz := by
              have : (i + 1) * sz ≤ ys.length * sz := Nat.mul_le_mul_right _ hlt
              rw [Nat.add_mul, Nat.one_mul] at this; omega
            refine ⟨u, ?_, hdu⟩
            rw [if_pos (by omega), show L.base + i * sz + j - L.base = 0 + i * sz + j by omega]
            simpa using hu
          · rw [List.getElem?_append_right (by omega), List.getElem?_drop, show ys.length + (i - ys.length) = i by omega] at hi
            obtain ⟨u, hu, hdu⟩ := g6 i e hi j x hx
            have hb : ys.length * sz ≤ i * sz := Nat.mul_le_mul_right _ (by omega)
            exact ⟨u, by rw [if_neg (by omega)]; exact hu, hdu⟩) (fun ob' hob' => by
        rw [obA_set, if_pos ⟨rfl, obA_lt ho⟩] at hob'
        cases hob'; rfl)
    rw [upR_self hL] at this
    exact this
def metB (P : Program) (t : TypeId) (name : String) (f : FuncId) : Bool :=
  match P.info? t, P.underlying t with
  | some i, some d => (match i.methods.find? (·.name == name) with
    | some m => m.path.isEmpty && (match m.func with | some (f', b) => Nat.beq f' f && !b | none => false)
    | none => false) && (match d with | .pointer _ => false | _ => true)
  | _, _ => false
theorem metB_run {t : TypeId} {name : String} {f : FuncId} (h : metB P t name f = true) (v : Value) (w : World) : ∀ n, (method (n + 1) t v name).run P w = .ok (f, v) w := by
  intro n
  unfold metB at h
  split at h
  · rename_i i d hi hd
    simp only [Bool.and_eq_true] at h
    obtain ⟨h1, h2⟩ := h
    split at h1
    · rename_i m hm
      simp only [Bool.and_eq_true] at h1
      obtain ⟨hp, hf⟩ := h1
      have hp : m.path.toList = [] := by simpa using hp
      split at hf
      · rename_i f' b hmf
        simp only [Bool.and_eq_true, Bool.not_eq_true'] at hf
        obtain ⟨e1, rfl⟩ := hf
        have e1 := Nat.eq_of_beq_eq_true e1
        subst e1
        have hpe : m.path.isEmpty = true := by simpa using hp
        have hrec : (receiverAt t (.val v) false (some ((name.splitOn ".").getLastD name))).run P w = .ok v w := by
          simp only [receiverAt, Sem.run_bind, run_underlying hd, Result.andThen_ok]
          cases d with
          | pointer e => cases h2
          | _ => rfl
        unfold method
        simp only [Sem.run_bind, run_typeInfo w hi, Result.andThen_ok, hm, hp, follow, Sem.run_pure, hmf, hpe, if_true, hrec]
      · cases hf
    · cases h1
  · cases h
def calleeA (ev : Operand → AV) : Op → Option ((Nat × String) ⊕ FuncId) × List AV
  | .call ⟨.value x, args, _⟩ => match ev x with
    | .clo f l => (some (.inr f), args.toList.map ev ++ l)
    | _ => (none, [])
  | .call ⟨.invoke x m, args, _⟩ => match ev x with
    | .ifc t v => (some (.inl (t, m)), v :: args.toList.map ev)
    | _ => (none, [])
  | _ => (none, [])
def metX (P : Program) (c : Option ((Nat × String) ⊕ FuncId)) (f : FuncId) : Bool :=
  match c with
  | some (.inl (t, m)) => metB P t m f
  | some (.inr f') => Nat.beq f' f
  | none => false
theorem call_ext {f : FuncId} {c : Option ((Nat × String) ⊕ FuncId)} {xs : List AV} {nb : Nat} {r : AV} {O1 : List (Option Ob)} (hc : calleeA (evalA st.env) o.op = (c, xs)) (hm : metX P c f = true)
    (hcall : LentOK P f (xs.map (renV (orderA st.objs xs))) (lendO st.objs (orderA st.objs xs)) nb r O1) (hnb : nb ≤ (orderA st.objs xs).length) (hnb1 : nb ≤ O1.length) (hord : ∀ k ∈ orderA st.objs xs, k < st.objs.length) :
    ExtOK P nt o true st ⟨putA o.dst false true (mapR (backN (orderA st.objs xs) st.objs.length nb) r) st.env, backO st.objs (orderA st.objs xs) nb O1⟩ := by
  intro N H0 F0 w0 a w _ hI hdst K Qw hK
  obtain ⟨F, ρ, hS, hSl, hn, hdf⟩ := hI
  have hk : ∀ v w' F' ρ'', FLe F F' → RLe ρ ρ'' → Sim N H0 F0 F' ρ'' (backO st.objs (orderA st.objs xs) nb O1) w'.heap → ARep F' ρ'' (mapR (backN (orderA st.objs xs) st.objs.length nb) r) v → Mu w w' → K (a.put o.dst v) w' :=
    fun v w' F' ρ'' hF hρ hS' hv hmu => hK _ _ ⟨F', ρ'', hS', (hSl.mono hF hρ).putA hn hdst hv, hn.put hdst, by rw [put_defers]; exact ⟨hdf.1, hdf.2.trans hmu⟩⟩
  have hev : ∀ x, ARep F ρ (evalA st.env x) (a.eval x) := evalA_sound hSl
  unfold calleeA at hc
  split at hc
  · rename_i x args ts hop
    split at hc
    · rename_i f' l hx
      cases hc
      have e1 := Nat.eq_of_beq_eq_true hm
      subst e1
      have hxr := hev x
      rw [hx] at hxr
      generalize hxv : a.eval x = xv at hxr
      cases hxr with
      | clo _ _ vs hl hr =>
        have hcr0 := args_rep (args := args) (a := a) (fun x _ => hev x)
        refine lent_enter (vs := args.map a.eval ++ vs) (fun fn c hf hb hnm => ?_) hS ⟨by simp [hl], fun i y v hy hv => ?_⟩ hcall hnb hnb1 hord hk
        · simp only [execOp, hop, resolve, hxv, Deferred.ofValue, Sem.run_bind, Sem.run_pure, Result.andThen_ok, invoke, callFunc, run_program, hf, hnm, hb, Bool.false_eq_true, if_false, Option.isNone_some, Array.empty_append, Array.append_empty]
        · rw [Array.toList_append] at hv
          have hl0 := hcr0.1
          by_cases hi : i < (args.toList.map (evalA st.env)).length
          · rw [List.getElem?_append_left hi] at hy
            rw [List.getElem?_append_left (by omega)] at hv
            exact hcr0.2 i y v hy hv
          · rw [List.getElem?_append_right (by omega)] at hy
            rw [List.getElem?_append_right (by omega)] at hv
            exact hr _ y v hy (by rw [hl0]; simpa using hv)
    · cases hc; cases hm
  · rename_i x m args ts hop
    split at hc
    · rename_i t v0 hx
      cases hc
      have hxr := hev x
      rw [hx] at hxr
      generalize hxv : a.eval x = xv at hxr
      cases hxr with
      | ifc _ _ y hy =>
        have hcr0 := args_rep (args := args) (a := a) (fun x _ => hev x)
        refine lent_enter (vs := #[y] ++ args.map a.eval) (fun fn c hf hb hnm => ?_) hS ⟨by simp, fun i z v hz hv => ?_⟩ hcall hnb hnb1 hord hk
        · obtain ⟨n, hn'⟩ : ∃ n, P.types.size + Made.depth = n + 1 := ⟨P.types.size + (Made.depth - 1), by simp [Made.depth]⟩
          have hmet := metB_run hm y w n
          rw [← hn'] at hmet
          have hex : (#[Value.iface t y] ++ args.map a.eval).extract 1 (#[Value.iface t y] ++ args.map a.eval).size = args.map a.eval := by
            apply Array.ext'
            simp [Array.toList_extract]
            exact List.take_of_length_le (by simp)
          have h0 : (#[Value.iface t y] ++ args.map a.eval)[0]? = some (Value.iface t y) := by rw [Array.getElem?_append_left (by simp)]; rfl
          simp only [execOp, hop, resolve, hxv, Sem.run_bind, Sem.run_pure, Result.andThen_ok, invoke, h0, hex, callMethod, Sem.run_bind, run_program, Result.andThen_ok, hmet, callFunc, hf, hnm, hb, Bool.false_eq_true, if_false, Option.isNone_some, Sem.run_pure]
        · rw [Array.toList_append] at hv
          cases i with
          | zero => simp at hz hv; subst hz; subst hv; exact hy
          | succ i => exact hcr0.2 i z v (by simpa using hz) (by simpa using hv)
    · cases hc; cases hm
  · cases hc; cases hm
def solidK : TK → Bool
  | .other => false
  | _ => true
theorem iface_ext (hΓ : TyOK P Γ) {t : TypeId} {x : Operand} (hop : o.op = .makeInterface t x) (hok : (Γ t).ok = true) (hk : solidK (Γ t).kind = true) : ExtOK P nt o true st ⟨putA o.dst false true (.ifc t (evalA st.env x)) st.env, st.objs⟩ := by
  intro N H0 F0 w0 a w _ hI hdst K Qw hK
  obtain ⟨F, ρ, hS, hSl, hn, hdf⟩ := hI
  obtain ⟨d, hd, _, hf⟩ := (hΓ t hok).desc
  have hni : ∀ l, d ≠ .interface l := fun l e => by
    subst e
    cases hkk : (Γ t).kind <;> rw [hkk] at hf hk <;> simp [KindFacts, solidK] at hf hk
  have hr : (execOp a.eval o).run P w = .ok (.value (.iface t (a.eval x))) w := by
    simp only [execOp, hop, Instr.makeInterface, Sem.run_bind, run_underlying hd, Result.andThen_ok]
    cases d with
    | interface l => exact absurd rfl (hni l)
    | _ => rfl
  unfold Oper.wp
  rw [hr, Oper.upon_value]
  exact hK _ _ ⟨F, ρ, hS, hSl.putA hn hdst (.ifc _ _ _ (evalA_sound hSl x)), hn.put hdst, by rw [put_defers]; exact hdf⟩
theorem func_ext {f : FuncId} {cap : Array Operand} (hop : o.op = .makeFunc (.func f) #[] cap) : ExtOK P nt o true st ⟨putA o.dst false true (.clo f (cap.toList.map (evalA st.env))) st.env, st.objs⟩ := by
  intro N H0 F0 w0 a w _ hI hdst K Qw hK
  obtain ⟨F, ρ, hS, hSl, hn, hdf⟩ := hI
  have hr : (execOp a.eval o).run P w = .ok (.value (.func (.func f) #[] (cap.map a.eval))) w := by
    simp only [execOp, hop, Instr.makeFunc, Sem.run_bind, Sem.run_pure, Result.andThen_ok, List.map_toArray, List.map_nil]
  have hc := args_rep (args := cap) (a := a) fun x _ => evalA_sound hSl x
  unfold Oper.wp
  rw [hr, Oper.upon_value]
  exact hK _ _ ⟨F, ρ, hS, hSl.putA hn hdst (.clo f _ _ (by simp) fun i x v hx hv => hc.2 i x v hx (by simpa using hv)), hn.put hdst, by rw [put_defers]; exact hdf⟩
end Go.AI
end
section
namespace Go.AI
variable {P : Program} {Γ : Cx} {C : Code} {p : List Nat} {Q : Ex → St → Prop} {s s' : St} {K : St → Prop} {i : Nat}
variable {α β ζ : Type}
structure XOK (P : Program) (Γ : Cx) : Prop where
  ty : TyOK P Γ.ty
  ext : Γ.ext = ExtOK P
def oneB (Γ : Cx) (c : Code) (o : Oper) : Bool := !drIn c && o.guard.isNone && dstOk Γ.nt o.dst
theorem ext_step (hX : XOK P Γ) {o : Oper} (ho : (opsIn (nav p C))[i]? = some o) (h0 : oneB Γ (nav p C) o = true) (hx : ExtOK P Γ.nt o true s s') (hk : RF Γ C p (i + 1) Q s') : RF Γ C p i Q s := by
  refine ⟨?_⟩
  have hk := hk.out
  unfold runFrom at hk ⊢
  simp only [oneB, Bool.and_eq_true, Bool.not_eq_true'] at h0
  obtain ⟨⟨h1, h2⟩, h3⟩ := h0
  rw [drop_cons ho]
  show stepA _ _ _ _ _ _
  have hgN : o.guard = none := by simpa using h2
  unfold stepA
  rw [hgN]
  simp only [guardA, h3, Bool.not_true, cond_false]
  exact ⟨fun _ => .inr (.inr ⟨h1, .inl ⟨s', by rw [hX.ext]; exact hx, hk⟩⟩), fun h => by cases h⟩
def nxI (Γ : Cx) (c : Code) (i : Nat) (s : St) : Option St :=
  match (opsIn c)[i]? with
  | some o => bif oneB Γ c o then (match o.op with
    | .makeInterface t x => bif (Γ.ty t).ok && solidK (Γ.ty t).kind then some ⟨putA o.dst false true (.ifc t (evalA s.env x)) s.env, s.objs⟩ else none
    | .makeFunc (.func f) first cap => bif first.toList.isEmpty then some ⟨putA o.dst false true (.clo f (cap.toList.map (evalA s.env))) s.env, s.objs⟩ else none
    | _ => none) else none
  | none => none
theorem xm (hX : XOK P Γ) (hk : RF Γ C p (i + 1) Q ((nxI Γ (nav p C) i s).getD s)) (h : (nxI Γ (nav p C) i s).isSome = true := by kernel_rfl) : RF Γ C p i Q s := by
  have h := getD_ok (d := s) h
  generalize (nxI Γ (nav p C) i s).getD s = s' at h hk
  unfold nxI at h
  split at h
  · rename_i o ho
    obtain ⟨h0, h⟩ := bif_some h
    split at h
    · rename_i t x hop
      obtain ⟨h1, h⟩ := bif_some h
      simp only [Bool.and_eq_true] at h1
      cases h
      exact ext_step hX ho h0 (iface_ext hX.ty hop h1.1 h1.2) hk
    · rename_i f first cap hop
      obtain ⟨h1, h⟩ := bif_some h
      cases h
      have : first = #[] := by have := List.isEmpty_iff.1 h1; simpa using this
      subst this
      exact ext_step hX ho h0 (func_ext hop) hk
    · cases h
  · cases h
def calX (c : Code) (i : Nat) (s : St) : Option ((Option ((Nat × String) ⊕ FuncId) × List AV) × List Nat) :=
  match (opsIn c)[i]? with
  | some o => some (calleeA (evalA s.env) o.op, orderA s.objs (calleeA (evalA s.env) o.op).2)
  | none => none
def nxC (Γ : Cx) (c : Code) (i : Nat) (ord : List Nat) (nb : Nat) (r : AV) (O1 : List (Option Ob)) (s : St) : Option St :=
  match (opsIn c)[i]? with
  | some o => bif oneB Γ c o && Nat.ble nb ord.length && Nat.ble nb O1.length && ord.all (fun k => Nat.blt k s.objs.length) then
      some ⟨putA o.dst false true (mapR (backN ord s.objs.length nb) r) s.env, backO s.objs ord nb O1⟩ else none
  | none => none
theorem xc (hX : XOK P Γ) (ord : List Nat) {f : FuncId} {ys : List AV} {O0 O1 : List (Option Ob)} {nb : Nat} {r : AV} (hr : LentOK P f ys O0 nb r O1) (hk : RF Γ C p (i + 1) Q ((nxC Γ (nav p C) i ord nb r O1 s).getD s))
    (hc : calX (nav p C) i s = some (((calX (nav p C) i s).getD ((none, []), [])).1, ord) := by kernel_rfl) (hm : metX P ((calX (nav p C) i s).getD ((none, []), [])).1.1 f = true := by kernel_rfl)
    (hxs : ((calX (nav p C) i s).getD ((none, []), [])).1.2.map (renV ord) = ys := by kernel_rfl) (hO : lendO s.objs ord = O0 := by kernel_rfl) (hn : (nxC Γ (nav p C) i ord nb r O1 s).isSome = true := by kernel_rfl) : RF Γ C p i Q s := by
  generalize ((calX (nav p C) i s).getD ((none, []), [])).1 = cx at hc hm hxs
  have hn := getD_ok (d := s) hn
  generalize (nxC Γ (nav p C) i ord nb r O1 s).getD s = s' at hn hk
  unfold calX at hc
  unfold nxC at hn
  split at hn
  · rename_i o ho
    rw [ho] at hc
    simp only [Option.some.injEq, Prod.mk.injEq] at hc
    obtain ⟨hc, hord⟩ := hc
    rw [hc] at hord
    obtain ⟨h0, hn⟩ := bif_some hn
    simp only [Bool.and_eq_true] at h0
    obtain ⟨⟨⟨h1, h2⟩, h3⟩, h4⟩ := h0
    cases hn
    subst hord
    subst hxs
    subst hO
    refine ext_step hX ho h1 (call_ext (c := cx.1) (xs := cx.2) (by rw [hc]) hm hr (Nat.le_of_ble_eq_true h2) (Nat.le_of_ble_eq_true h3) fun k hk => ?_) hk
    have := Nat.le_of_ble_eq_true (List.all_eq_true.1 h4 k hk)
    omega
  · cases hn
def SrcIs (objs : List (Option Ob)) (v : AV) (ys : List (List D)) : Prop := ∃ ob, elemsA objs v = some (ys, ob) ∧ ob
theorem srcD {objs : List (Option Ob)} {ys : List (List D)} : SrcIs objs (.d (.sl ys)) ys := ⟨_, rfl, trivial⟩
def cpOp (c : Code) (i : Nat) : Option (Operand × Operand × Nat) :=
  match (opsIn c)[i]? with
  | some o => match o.op with
    | .call ⟨.builtin .copy, args, ts⟩ => match args.toList, ts.toList with
      | [d, x], [t, _] => some (d, x, t)
      | _, _ => none
    | _ => none
  | none => none
def cpV (c : Code) (i : Nat) (s : St) : AV × AV := match cpOp c i with
  | some (d, x, _) => (evalA s.env d, evalA s.env x)
  | none => (.top, .top)
def nxP' (Γ : Cx) (c : Code) (i k sz : Nat) (zs : List (List D)) (n : Nat) (s : St) : Option St :=
  match (opsIn c)[i]?, cpOp c i with
  | some o, some (_, _, t) => bif oneB Γ c o && (Γ.ty t).ok && (match (Γ.ty t).kind with | .slice z _ _ => Nat.beq z sz | _ => false) && Nat.ble 1 sz then some ⟨putA o.dst false true (.d (.int .i64 (n : Int))) s.env, s.objs.set k (some (.arr sz zs))⟩ else none
  | _, _ => none
theorem cpy_some {xs ys zs : List α} (h : cpy xs ys = some zs) : ys.length ≤ xs.length ∧ zs = ys ++ xs.drop ys.length := by
  unfold cpy at h
  split at h
  · rename_i h0; cases h; exact ⟨h0, rfl⟩
  · cases h
theorem cpy_len {xs ys zs : List α} (h : cpy xs ys = some zs) : xs.length = zs.length := by
  obtain ⟨h1, rfl⟩ := cpy_some h
  simp; omega
theorem xp (hX : XOK P Γ) (enc : α → List D) {xs ys zs : List α} (k sz : Nat) {v : AV} (h : cpy xs ys = some zs) (hs : SrcIs s.objs v (ys.map enc)) (hl : ∀ y, (enc y).length = sz) (hk : RF Γ C p (i + 1) Q ((nxP' Γ (nav p C) i k sz (zs.map enc) ys.length s).getD s))
    (hv : (cpV (nav p C) i s).2 = v := by kernel_rfl) (hd : (cpV (nav p C) i s).1 = .osl k sz 0 xs.length := by kernel_rfl) (ho : obA s.objs k = some (.arr sz (xs.map enc)) := by kernel_rfl) (hn : (nxP' Γ (nav p C) i k sz (zs.map enc) ys.length s).isSome = true := by kernel_rfl) : RF Γ C p i Q s := by
  subst hv
  have hn := getD_ok (d := s) hn
  generalize (nxP' Γ (nav p C) i k sz (zs.map enc) ys.length s).getD s = s' at hn hk
  obtain ⟨hle, rfl⟩ := cpy_some h
  unfold nxP' at hn
  split at hn
  · rename_i o d x t hoo hcp
    obtain ⟨h0, hn⟩ := bif_some hn
    simp only [Bool.and_eq_true] at h0
    obtain ⟨⟨⟨h1, h2⟩, h3⟩, h4⟩ := h0
    cases hn
    unfold cpV at hs hd
    rw [hcp] at hs hd
    simp only at hs hd
    obtain ⟨ob, e1, e2⟩ := hs
    unfold cpOp at hcp
    rw [hoo] at hcp
    simp only at hcp
    split at hcp
    · rename_i args ts hop
      split at hcp
      · rename_i d' x' t1 t2 ha ht
        cases hcp
        have ha : args = #[d, x] := by rw [← Array.toArray_toList (xs := args), ha]
        have ht : ts = #[t, t2] := by rw [← Array.toArray_toList (xs := ts), ht]
        subst ha; subst ht
        split at h3
        · rename_i z eb ez hkd
          have := Nat.eq_of_beq_eq_true h3
          subst this
          have hx := copy_ext (nt := Γ.nt) hX.ty hop h2 hkd (Nat.le_of_ble_eq_true h4) hd ho (by simp) e1 e2 (by simp [hl]) (by simpa using hle)
          rw [List.length_map, ← List.map_drop, ← List.map_append] at hx
          exact ext_step hX hoo h1 hx hk
        · cases h3
      · cases hcp
    · cases hcp
  · cases hn
end Go.AI
end
section
namespace Go.AI
open Go.Proofs
theorem inf3 : ∃ i, Try.prog.info? 3 = some i ∧ i.size = 1 ∧ i.bytes = 8 ∧ i.zero = some (.int .i64 0) := info_of (by kernel_rfl)
theorem inf4 : ∃ i, Try.prog.info? 4 = some i ∧ i.size = 1 ∧ i.bytes = 1 ∧ i.zero = some (.bool false) := info_of (by kernel_rfl)
theorem inf5 : ∃ i, Try.prog.info? 5 = some i ∧ i.size = 1 ∧ i.bytes = 1 ∧ i.zero = some (.int .u8 0) := info_of (by kernel_rfl)
theorem inf9 : ∃ i, Try.prog.info? 9 = some i ∧ i.size = 1 ∧ i.bytes = 16 ∧ i.zero = some (.string ⟨#[]⟩) := info_of (by kernel_rfl)
theorem inf22 : ∃ i, Try.prog.info? 22 = some i ∧ i.size = 1 ∧ i.bytes = 24 ∧ i.zero = some (.slice none 0 0) := info_of (by kernel_rfl)
theorem inf24 : ∃ i, Try.prog.info? 24 = some i ∧ i.size = 3 ∧ i.bytes = 56 ∧ i.zero = some (.agg #[.int .u8 0, .slice none 0 0, .slice none 0 0]) := info_of (by kernel_rfl)
theorem inf27 : ∃ i, Try.prog.info? 27 = some i ∧ i.size = 1 ∧ i.bytes = 24 ∧ i.zero = some (.slice none 0 0) := info_of (by kernel_rfl)
theorem inf29 : ∃ i, Try.prog.info? 29 = some i ∧ i.size = 1 ∧ i.bytes = 24 ∧ i.zero = some (.slice none 0 0) := info_of (by kernel_rfl)
theorem inf31 : ∃ i, Try.prog.info? 31 = some i ∧ i.size = 2 ∧ i.bytes = 32 ∧ i.zero = some (.agg #[.slice none 0 0, .int .i64 0]) := info_of (by kernel_rfl)
theorem inf33 : ∃ i, Try.prog.info? 33 = some i ∧ i.size = 1 ∧ i.bytes = 24 ∧ i.zero = some (.slice none 0 0) := info_of (by kernel_rfl)
theorem inf35 : ∃ i, Try.prog.info? 35 = some i ∧ i.size = 5 ∧ i.bytes = 88 ∧ i.zero = some (.agg #[.slice none 0 0, .slice none 0 0, .slice none 0 0, .int .i64 0, .bool false]) := info_of (by kernel_rfl)
theorem inf41 : ∃ i, Try.prog.info? 41 = some i ∧ i.size = 3 ∧ i.bytes = 24 ∧ i.zero = some (.agg #[.int .i64 0, .int .i64 0, .int .i64 0]) := info_of (by kernel_rfl)
theorem inf45 : ∃ i, Try.prog.info? 45 = some i ∧ i.size = 1 ∧ i.bytes = 8 ∧ i.zero = some (.int .i64 0) := info_of (by kernel_rfl)
theorem inf52 : ∃ i, Try.prog.info? 52 = some i ∧ i.size = 1 ∧ i.bytes = 2 ∧ i.zero = some (.int .u16 0) := info_of (by kernel_rfl)
theorem inf60 : ∃ i, Try.prog.info? 60 = some i ∧ i.size = 1 ∧ i.bytes = 8 ∧ i.zero = some (.pointer none) := info_of (by kernel_rfl)
theorem inf72 : ∃ i, Try.prog.info? 72 = some i ∧ i.size = 3 ∧ i.bytes = 24 ∧ i.zero = some (.agg #[.int .i64 0, .int .i64 0, .int .i64 0]) := info_of (by kernel_rfl)
theorem inf73 : ∃ i, Try.prog.info? 73 = some i ∧ i.size = 3 ∧ i.bytes = 24 ∧ i.zero = some (.agg #[.int .i64 0, .int .i64 0, .int .i64 0]) := info_of (by kernel_rfl)
theorem inf74 : ∃ i, Try.prog.info? 74 = some i ∧ i.size = 3 ∧ i.bytes = 24 ∧ i.zero = some (.agg #[.int .i64 0, .int .i64 0, .int .i64 0]) := info_of (by kernel_rfl)
theorem inf75 : ∃ i, Try.prog.info? 75 = some i ∧ i.size = 3 ∧ i.bytes = 24 ∧ i.zero = some (.agg #[.int .i64 0, .int .i64 0, .int .i64 0]) := info_of (by kernel_rfl)
theorem inf76 : ∃ i, Try.prog.info? 76 = some i ∧ i.size = 3 ∧ i.bytes = 24 ∧ i.zero = some (.agg #[.int .i64 0, .int .i64 0, .int .i64 0]) := info_of (by kernel_rfl)
theorem inf81 : ∃ i, Try.prog.info? 81 = some i ∧ i.size = 1 ∧ i.bytes = 4 ∧ i.zero = some (.int .u32 0) := info_of (by kernel_rfl)
def ty : Nat → Ty
  | 3 => ⟨true, [], 1, false, [.int .i64 0], .int .i64⟩
  | 4 => ⟨true, [], 1, false, [.bool false], .bool⟩
  | 5 => ⟨true, [], 1, false, [.int .u8 0], .int .u8⟩
  | 9 => ⟨true, [], 1, false, [.str []], .string⟩
  | 22 => ⟨true, [], 1, false, [.nil], .slice 1 1 [.int .u8 0]⟩
  | 24 => ⟨true, [], 3, true, [.int .u8 0, .nil, .nil], .struct [(0, 1), (1, 1), (2, 1)]⟩
  | 27 => ⟨true, [], 1, false, [.nil], .slice 3 24 [.int .i64 0, .int .i64 0, .int .i64 0]⟩
  | 29 => ⟨true, [], 1, false, [.nil], .slice 1 8 [.int .i64 0]⟩
  | 31 => ⟨true, [], 2, true, [.nil, .int .i64 0], .struct [(0, 1), (1, 1)]⟩
  | 33 => ⟨true, [], 1, false, [.nil], .slice 1 1 [.bool false]⟩
  | 35 => ⟨true, [], 5, true, [.nil, .nil, .nil, .int .i64 0, .bool false], .struct [(0, 1), (1, 1), (2, 1), (3, 1), (4, 1)]⟩
  | 41 => ⟨true, [.int .i64, .int .i64, .int .i64], 3, true, [.int .i64 0, .int .i64 0, .int .i64 0], .struct [(0, 1), (1, 1), (2, 1)]⟩
  | 45 => ⟨true, [], 1, false, [.int .i64 0], .int .i64⟩
  | 52 => ⟨true, [], 1, false, [.int .u16 0], .int .u16⟩
  | 60 => ⟨true, [], 1, false, [.nilp], .other⟩
  | 72 => ⟨true, [.int .i64, .int .i64, .int .i64], 3, true, [.int .i64 0, .int .i64 0, .int .i64 0], .struct [(0, 1), (1, 1), (2, 1)]⟩
  | 73 => ⟨true, [.int .i64, .int .i64, .int .i64], 3, true, [.int .i64 0, .int .i64 0, .int .i64 0], .struct [(0, 1), (1, 1), (2, 1)]⟩
  | 74 => ⟨true, [.int .i64, .int .i64, .int .i64], 3, true, [.int .i64 0, .int .i64 0, .int .i64 0], .struct [(0, 1), (1, 1), (2, 1)]⟩
  | 75 => ⟨true, [.int .i64, .int .i64, .int .i64], 3, true, [.int .i64 0, .int .i64 0, .int .i64 0], .struct [(0, 1), (1, 1), (2, 1)]⟩
  | 76 => ⟨true, [.int .i64, .int .i64, .int .i64], 3, true, [.int .i64 0, .int .i64 0, .int .i64 0], .struct [(0, 1), (1, 1), (2, 1)]⟩
  | 81 => ⟨true, [], 1, false, [.int .u32 0], .int .u32⟩
  | _ => ⟨false, [], 0, false, [], .other⟩
theorem tf3 : TyFacts Try.prog 3 (ty 3) := {
  info := by obtain ⟨i, h1, h2, _, h4⟩ := inf3; exact ⟨i, _, h1, h2, h4, rfl⟩
  plain := rfl
  desc := ⟨_, Try.underlying3, rfl, rfl⟩
  one := fun h => by first | rfl | cases h
  pos := by decide
  eq := fun h => absurd rfl h }
theorem tf4 : TyFacts Try.prog 4 (ty 4) := {
  info := by obtain ⟨i, h1, h2, _, h4⟩ := inf4; exact ⟨i, _, h1, h2, h4, rfl⟩
  plain := rfl
  desc := ⟨_, Try.underlying4, rfl, rfl⟩
  one := fun h => by first | rfl | cases h
  pos := by decide
  eq := fun h => absurd rfl h }
theorem tf5 : TyFacts Try.prog 5 (ty 5) := {
  info := by obtain ⟨i, h1, h2, _, h4⟩ := inf5; exact ⟨i, _, h1, h2, h4, rfl⟩
  plain := rfl
  desc := ⟨_, Try.underlying5, rfl, rfl⟩
  one := fun h => by first | rfl | cases h
  pos := by decide
  eq := fun h => absurd rfl h }
theorem tf9 : TyFacts Try.prog 9 (ty 9) := {
  info := by obtain ⟨i, h1, h2, _, h4⟩ := inf9; exact ⟨i, _, h1, h2, h4, rfl⟩
  plain := rfl
  desc := ⟨_, Try.underlying9, rfl, rfl⟩
  one := fun h => by first | rfl | cases h
  pos := by decide
  eq := fun h => absurd rfl h }
theorem tf22 : TyFacts Try.prog 22 (ty 22) := {
  info := by obtain ⟨i, h1, h2, _, h4⟩ := inf22; exact ⟨i, _, h1, h2, h4, rfl⟩
  plain := rfl
  desc := ⟨_, Try.underlying22, rfl, (by obtain ⟨j, h1, h2, h3, h4⟩ := inf5; exact ⟨_, j, _, rfl, h1, h2, h3, h4, rfl, rfl, rfl, fun _ => Try.underlying5⟩)⟩
  one := fun h => by first | rfl | cases h
  pos := by decide
  eq := fun h => absurd rfl h }
theorem tf24 : TyFacts Try.prog 24 (ty 24) := {
  info := by obtain ⟨i, h1, h2, _, h4⟩ := inf24; exact ⟨i, _, h1, h2, h4, rfl⟩
  plain := rfl
  desc := ⟨_, Try.underlying24, rfl, ⟨_, rfl, rfl, fun i o s h => match i, h with | 0, h => (by cases h; exact (by obtain ⟨j, h1, h2, _⟩ := inf5; exact ⟨_, j, rfl, rfl, h1, h2, by decide, _, Try.underlying5, by decide⟩)) | 1, h => (by cases h; exact (by obtain ⟨j, h1, h2, _⟩ := inf22; exact ⟨_, j, rfl, rfl, h1, h2, by decide, _, Try.underlying22, by decide⟩)) | 2, h => (by cases h; exact (by obtain ⟨j, h1, h2, _⟩ := inf22; exact ⟨_, j, rfl, rfl, h1, h2, by decide, _, Try.underlying22, by decide⟩)) | n + 3, h => by simp at h⟩⟩
  one := fun h => by first | rfl | cases h
  pos := by decide
  eq := fun h => absurd rfl h }
theorem tf27 : TyFacts Try.prog 27 (ty 27) := {
  info := by obtain ⟨i, h1, h2, _, h4⟩ := inf27; exact ⟨i, _, h1, h2, h4, rfl⟩
  plain := rfl
  desc := ⟨_, Try.underlying27, rfl, (by obtain ⟨j, h1, h2, h3, h4⟩ := inf41; exact ⟨_, j, _, rfl, h1, h2, h3, h4, rfl, rfl, rfl, fun h => by cases h⟩)⟩
  one := fun h => by first | rfl | cases h
  pos := by decide
  eq := fun h => absurd rfl h }
theorem tf29 : TyFacts Try.prog 29 (ty 29) := {
  info := by obtain ⟨i, h1, h2, _, h4⟩ := inf29; exact ⟨i, _, h1, h2, h4, rfl⟩
  plain := rfl
  desc := ⟨_, Try.underlying29, rfl, (by obtain ⟨j, h1, h2, h3, h4⟩ := inf3; exact ⟨_, j, _, rfl, h1, h2, h3, h4, rfl, rfl, rfl, fun h => by cases h⟩)⟩
  one := fun h => by first | rfl | cases h
  pos := by decide
  eq := fun h => absurd rfl h }
theorem tf31 : TyFacts Try.prog 31 (ty 31) := {
  info := by obtain ⟨i, h1, h2, _, h4⟩ := inf31; exact ⟨i, _, h1, h2, h4, rfl⟩
  plain := rfl
  desc := ⟨_, Try.underlying31, rfl, ⟨_, rfl, rfl, fun i o s h => match i, h with | 0, h => (by cases h; exact (by obtain ⟨j, h1, h2, _⟩ := inf29; exact ⟨_, j, rfl, rfl, h1, h2, by decide, _, Try.underlying29, by decide⟩)) | 1, h => (by cases h; exact (by obtain ⟨j, h1, h2, _⟩ := inf3; exact ⟨_, j, rfl, rfl, h1, h2, by decide, _, Try.underlying3, by decide⟩)) | n + 2, h => by simp at h⟩⟩
  one := fun h => by first | rfl | cases h
  pos := by decide
  eq := fun h => absurd rfl h }
theorem tf33 : TyFacts Try.prog 33 (ty 33) := {
  info := by obtain ⟨i, h1, h2, _, h4⟩ := inf33; exact ⟨i, _, h1, h2, h4, rfl⟩
  plain := rfl
  desc := ⟨_, Try.underlying33, rfl, (by obtain ⟨j, h1, h2, h3, h4⟩ := inf4; exact ⟨_, j, _, rfl, h1, h2, h3, h4, rfl, rfl, rfl, fun h => by cases h⟩)⟩
  one := fun h => by first | rfl | cases h
  pos := by decide
  eq := fun h => absurd rfl h }
theorem tf35 : TyFacts Try.prog 35 (ty 35) := {
  info := by obtain ⟨i, h1, h2, _, h4⟩ := inf35; exact ⟨i, _, h1, h2, h4, rfl⟩
  plain := rfl
  desc := ⟨_, Try.underlying35, rfl, ⟨_, rfl, rfl, fun i o s h => match i, h with | 0, h => (by cases h; exact (by obtain ⟨j, h1, h2, _⟩ := inf29; exact ⟨_, j, rfl, rfl, h1, h2, by decide, _, Try.underlying29, by decide⟩)) | 1, h => (by cases h; exact (by obtain ⟨j, h1, h2, _⟩ := inf33; exact ⟨_, j, rfl, rfl, h1, h2, by decide, _, Try.underlying33, by decide⟩)) | 2, h => (by cases h; exact (by obtain ⟨j, h1, h2, _⟩ := inf29; exact ⟨_, j, rfl, rfl, h1, h2, by decide, _, Try.underlying29, by decide⟩)) | 3, h => (by cases h; exact (by obtain ⟨j, h1, h2, _⟩ := inf3; exact ⟨_, j, rfl, rfl, h1, h2, by decide, _, Try.underlying3, by decide⟩)) | 4, h => (by cases h; exact (by obtain ⟨j, h1, h2, _⟩ := inf4; exact ⟨_, j, rfl, rfl, h1, h2, by decide, _, Try.underlying4, by decide⟩)) | n + 5, h => by simp at h⟩⟩
  one := fun h => by first | rfl | cases h
  pos := by decide
  eq := fun h => absurd rfl h }
theorem tf41 : TyFacts Try.prog 41 (ty 41) := {
  info := by obtain ⟨i, h1, h2, _, h4⟩ := inf41; exact ⟨i, _, h1, h2, h4, rfl⟩
  plain := rfl
  desc := ⟨_, Try.underlying41, rfl, ⟨_, rfl, rfl, fun i o s h => match i, h with | 0, h => (by cases h; exact (by obtain ⟨j, h1, h2, _⟩ := inf3; exact ⟨_, j, rfl, rfl, h1, h2, by decide, _, Try.underlying3, by decide⟩)) | 1, h => (by cases h; exact (by obtain ⟨j, h1, h2, _⟩ := inf3; exact ⟨_, j, rfl, rfl, h1, h2, by decide, _, Try.underlying3, by decide⟩)) | 2, h => (by cases h; exact (by obtain ⟨j, h1, h2, _⟩ := inf3; exact ⟨_, j, rfl, rfl, h1, h2, by decide, _, Try.underlying3, by decide⟩)) | n + 3, h => by simp at h⟩⟩
  one := fun h => by first | rfl | cases h
  pos := by decide
  eq := fun _ => eq_flat Try.underlying41 (by kernel_rfl) (by kernel_rfl) rfl fun j f k h1 h2 => match j, h1, h2 with | 0, h1, h2 => (by cases h1; cases h2; exact ⟨by decide, rfl, ⟨_, Try.underlying3⟩⟩) | 1, h1, h2 => (by cases h1; cases h2; exact ⟨by decide, rfl, ⟨_, Try.underlying3⟩⟩) | 2, h1, h2 => (by cases h1; cases h2; exact ⟨by decide, rfl, ⟨_, Try.underlying3⟩⟩) | n + 3, h1, _ => by simp at h1 }
theorem tf45 : TyFacts Try.prog 45 (ty 45) := {
  info := by obtain ⟨i, h1, h2, _, h4⟩ := inf45; exact ⟨i, _, h1, h2, h4, rfl⟩
  plain := rfl
  desc := ⟨_, Try.underlying45, rfl, rfl⟩
  one := fun h => by first | rfl | cases h
  pos := by decide
  eq := fun h => absurd rfl h }
theorem tf52 : TyFacts Try.prog 52 (ty 52) := {
  info := by obtain ⟨i, h1, h2, _, h4⟩ := inf52; exact ⟨i, _, h1, h2, h4, rfl⟩
  plain := rfl
  desc := ⟨_, Try.underlying52, rfl, rfl⟩
  one := fun h => by first | rfl | cases h
  pos := by decide
  eq := fun h => absurd rfl h }
theorem tf60 : TyFacts Try.prog 60 (ty 60) := {
  info := by obtain ⟨i, h1, h2, _, h4⟩ := inf60; exact ⟨i, _, h1, h2, h4, rfl⟩
  plain := rfl
  desc := ⟨_, Try.underlying60, rfl, trivial⟩
  one := fun h => by first | rfl | cases h
  pos := by decide
  eq := fun h => absurd rfl h }
theorem tf72 : TyFacts Try.prog 72 (ty 72) := {
  info := by obtain ⟨i, h1, h2, _, h4⟩ := inf72; exact ⟨i, _, h1, h2, h4, rfl⟩
  plain := rfl
  desc := ⟨_, Try.underlying72, rfl, ⟨_, rfl, rfl, fun i o s h => match i, h with | 0, h => (by cases h; exact (by obtain ⟨j, h1, h2, _⟩ := inf3; exact ⟨_, j, rfl, rfl, h1, h2, by decide, _, Try.underlying3, by decide⟩)) | 1, h => (by cases h; exact (by obtain ⟨j, h1, h2, _⟩ := inf3; exact ⟨_, j, rfl, rfl, h1, h2, by decide, _, Try.underlying3, by decide⟩)) | 2, h => (by cases h; exact (by obtain ⟨j, h1, h2, _⟩ := inf3; exact ⟨_, j, rfl, rfl, h1, h2, by decide, _, Try.underlying3, by decide⟩)) | n + 3, h => by simp at h⟩⟩
  one := fun h => by first | rfl | cases h
  pos := by decide
  eq := fun _ => eq_flat Try.underlying72 (by kernel_rfl) (by kernel_rfl) rfl fun j f k h1 h2 => match j, h1, h2 with | 0, h1, h2 => (by cases h1; cases h2; exact ⟨by decide, rfl, ⟨_, Try.underlying3⟩⟩) | 1, h1, h2 => (by cases h1; cases h2; exact ⟨by decide, rfl, ⟨_, Try.underlying3⟩⟩) | 2, h1, h2 => (by cases h1; cases h2; exact ⟨by decide, rfl, ⟨_, Try.underlying3⟩⟩) | n + 3, h1, _ => by simp at h1 }
theorem tf73 : TyFacts Try.prog 73 (ty 73) := {
  info := by obtain ⟨i, h1, h2, _, h4⟩ := inf73; exact ⟨i, _, h1, h2, h4, rfl⟩
  plain := rfl
  desc := ⟨_, Try.underlying73, rfl, ⟨_, rfl, rfl, fun i o s h => match i, h with | 0, h => (by cases h; exact (by obtain ⟨j, h1, h2, _⟩ := inf3; exact ⟨_, j, rfl, rfl, h1, h2, by decide, _, Try.underlying3, by decide⟩)) | 1, h => (by cases h; exact (by obtain ⟨j, h1, h2, _⟩ := inf3; exact ⟨_, j, rfl, rfl, h1, h2, by decide, _, Try.underlying3, by decide⟩)) | 2, h => (by cases h; exact (by obtain ⟨j, h1, h2, _⟩ := inf3; exact ⟨_, j, rfl, rfl, h1, h2, by decide, _, Try.underlying3, by decide⟩)) | n + 3, h => by simp at h⟩⟩
  one := fun h => by first | rfl | cases h
  pos := by decide
  eq := fun _ => eq_flat Try.underlying73 (by kernel_rfl) (by kernel_rfl) rfl fun j f k h1 h2 => match j, h1, h2 with | 0, h1, h2 => (by cases h1; cases h2; exact ⟨by decide, rfl, ⟨_, Try.underlying3⟩⟩) | 1, h1, h2 => (by cases h1; cases h2; exact ⟨by decide, rfl, ⟨_, Try.underlying3⟩⟩) | 2, h1, h2 => (by cases h1; cases h2; exact ⟨by decide, rfl, ⟨_, Try.underlying3⟩⟩) | n + 3, h1, _ => by simp at h1 }
theorem tf74 : TyFacts Try.prog 74 (ty 74) := {
  info := by obtain ⟨i, h1, h2, _, h4⟩ := inf74; exact ⟨i, _, h1, h2, h4, rfl⟩
  plain := rfl
  desc := ⟨_, Try.underlying74, rfl, ⟨_, rfl, rfl, fun i o s h => match i, h with | 0, h => (by cases h; exact (by obtain ⟨j, h1, h2, _⟩ := inf3; exact ⟨_, j, rfl, rfl, h1, h2, by decide, _, Try.underlying3, by decide⟩)) | 1, h => (by cases h; exact (by obtain ⟨j, h1, h2, _⟩ := inf3; exact ⟨_, j, rfl, rfl, h1, h2, by decide, _, Try.underlying3, by decide⟩)) | 2, h => (by cases h; exact (by obtain ⟨j, h1, h2, _⟩ := inf3; exact ⟨_, j, rfl, rfl, h1, h2, by decide, _, Try.underlying3, by decide⟩)) | n + 3, h => by simp at h⟩⟩
  one := fun h => by first | rfl | cases h
  pos := by decide
  eq := fun _ => eq_flat Try.underlying74 (by kernel_rfl) (by kernel_rfl) rfl fun j f k h1 h2 => match j, h1, h2 with | 0, h1, h2 => (by cases h1; cases h2; exact ⟨by decide, rfl, ⟨_, Try.underlying3⟩⟩) | 1, h1, h2 => (by cases h1; cases h2; exact ⟨by decide, rfl, ⟨_, Try.underlying3⟩⟩) | 2, h1, h2 => (by cases h1; cases h2; exact ⟨by decide, rfl, ⟨_, Try.underlying3⟩⟩) | n + 3, h1, _ => by simp at h1 }
theorem tf75 : TyFacts Try.prog 75 (ty 75) := {
  info := by obtain ⟨i, h1, h2, _, h4⟩ := inf75; exact ⟨i, _, h1, h2, h4, rfl⟩
  plain := rfl
  desc := ⟨_, Try.underlying75, rfl, ⟨_, rfl, rfl, fun i o s h => match i, h with | 0, h => (by cases h; exact (by obtain ⟨j, h1, h2, _⟩ := inf3; exact ⟨_, j, rfl, rfl, h1, h2, by decide, _, Try.underlying3, by decide⟩)) | 1, h => (by cases h; exact (by obtain ⟨j, h1, h2, _⟩ := inf3; exact ⟨_, j, rfl, rfl, h1, h2, by decide, _, Try.underlying3, by decide⟩)) | 2, h => (by cases h; exact (by obtain ⟨j, h1, h2, _⟩ := inf3; exact ⟨_, j, rfl, rfl, h1, h2, by decide, _, Try.underlying3, by decide⟩)) | n + 3, h => by simp at h⟩⟩
  one := fun h => by first | rfl | cases h
  pos := by decide
  eq := fun _ => eq_flat Try.underlying75 (by kernel_rfl) (by kernel_rfl) rfl fun j f k h1 h2 => match j, h1, h2 with | 0, h1, h2 => (by cases h1; cases h2; exact ⟨by decide, rfl, ⟨_, Try.underlying3⟩⟩) | 1, h1, h2 => (by cases h1; cases h2; exact ⟨by decide, rfl, ⟨_, Try.underlying3⟩⟩) | 2, h1, h2 => (by cases h1; cases h2; exact ⟨by decide, rfl, ⟨_, Try.underlying3⟩⟩) | n + 3, h1, _ => by simp at h1 }
theorem tf76 : TyFacts Try.prog 76 (ty 76) := {
  info := by obtain ⟨i, h1, h2, _, h4⟩ := inf76; exact ⟨i, _, h1, h2, h4, rfl⟩
  plain := rfl
  desc := ⟨_, Try.underlying76, rfl, ⟨_, rfl, rfl, fun i o s h => match i, h with | 0, h => (by cases h; exact (by obtain ⟨j, h1, h2, _⟩ := inf3; exact ⟨_, j, rfl, rfl, h1, h2, by decide, _, Try.underlying3, by decide⟩)) | 1, h => (by cases h; exact (by obtain ⟨j, h1, h2, _⟩ := inf3; exact ⟨_, j, rfl, rfl, h1, h2, by decide, _, Try.underlying3, by decide⟩)) | 2, h => (by cases h; exact (by obtain ⟨j, h1, h2, _⟩ := inf3; exact ⟨_, j, rfl, rfl, h1, h2, by decide, _, Try.underlying3, by decide⟩)) | n + 3, h => by simp at h⟩⟩
  one := fun h => by first | rfl | cases h
  pos := by decide
  eq := fun _ => eq_flat Try.underlying76 (by kernel_rfl) (by kernel_rfl) rfl fun j f k h1 h2 => match j, h1, h2 with | 0, h1, h2 => (by cases h1; cases h2; exact ⟨by decide, rfl, ⟨_, Try.underlying3⟩⟩) | 1, h1, h2 => (by cases h1; cases h2; exact ⟨by decide, rfl, ⟨_, Try.underlying3⟩⟩) | 2, h1, h2 => (by cases h1; cases h2; exact ⟨by decide, rfl, ⟨_, Try.underlying3⟩⟩) | n + 3, h1, _ => by simp at h1 }
theorem tf81 : TyFacts Try.prog 81 (ty 81) := {
  info := by obtain ⟨i, h1, h2, _, h4⟩ := inf81; exact ⟨i, _, h1, h2, h4, rfl⟩
  plain := rfl
  desc := ⟨_, Try.underlying81, rfl, rfl⟩
  one := fun h => by first | rfl | cases h
  pos := by decide
  eq := fun h => absurd rfl h }
theorem tyOK : TyOK Try.prog ty := by
  intro t h
  unfold ty at h
  split at h
  · exact tf3
  · exact tf4
  · exact tf5
  · exact tf9
  · exact tf22
  · exact tf24
  · exact tf27
  · exact tf29
  · exact tf31
  · exact tf33
  · exact tf35
  · exact tf41
  · exact tf45
  · exact tf52
  · exact tf60
  · exact tf72
  · exact tf73
  · exact tf74
  · exact tf75
  · exact tf76
  · exact tf81
  · cases h
theorem follows : Try.prog.follows .mixedOrders = true := by kernel_rfl
def cxk (n : Nat) (kl : List Nat) : Cx := ⟨ty, ⟨n, kl⟩, CallOK Try.prog, LentOK Try.prog, ExtOK Try.prog⟩
def cx (n : Nat) : Cx := cxk n []
theorem cxkOK (n : Nat) (kl : List Nat) : CxOK Try.prog (cxk n kl) := ⟨tyOK, fun _ _ _ h => h, fun _ _ _ _ _ _ h => h, fun _ _ _ _ _ h => h⟩
end Go.AI
end
section
namespace Go.AI
structure GSpool where
  Tries : (List Int)
  Done : (List Bool)
  Taken : (List Int)
  Now : Int
  Sealed : Bool
  deriving DecidableEq, Inhabited
structure GRecord where
  Kind : Int
  A : Int
  B : Int
  deriving DecidableEq, Inhabited
structure GMatching where
  From : (List Int)
  Missing : Int
  deriving DecidableEq, Inhabited
structure GRaw where
  N : Int
  From : (List Int)
  L : (List Int)
  deriving DecidableEq, Inhabited
def FSixdotref29_New_L1 (_ : Nat) (p0_ : Int) (s_1 : (List Int)) (s_2 : (List Bool)) (s_3 : (List Int)) (i_1 : Int) : Option (((List Int) × (List Bool) × (List Int) × Int) ⊕ ((List Int) × (List Bool) × (List Int))) :=
  if decide (i_1 < p0_) = true then
    (app 8 s_1 [0]).bind fun (l1 : (List Int)) =>
    (app 1 s_2 [false]).bind fun (l2 : (List Bool)) =>
    (app 8 s_3 [(-1)]).bind fun (l3 : (List Int)) =>
    some (Sum.inl (l1, l2, l3, (iadd .i64 i_1 1)))
  else
    some (Sum.inr (s_1, s_2, s_3))
def FSixdotref29_New (n : Nat) (p0_ : Int) : Option GSpool :=
  (whl (fun (x : ((List Int) × (List Bool) × (List Int) × Int)) => FSixdotref29_New_L1 n p0_ x.1 x.2.1 x.2.2.1 x.2.2.2) n (([] : List Int), ([] : List Bool), ([] : List Int), 0)).bind fun (y1 : ((List Int) × (List Bool) × (List Int))) =>
  some ({ Tries := y1.1, Done := y1.2.1, Taken := y1.2.2, Now := (-1), Sealed := false } : GSpool)
def FSixdotlaw29_record (_ : Nat) (p0_ : Int) (p1_ : Int) (p2_ : Int) : Option GRecord :=
  some ({ Kind := p0_, A := p1_, B := p2_ } : GRecord)
def FSpool_copied (_ : Nat) (p0_ : GSpool) : Option GSpool :=
  (mkl 8 ((List.length p0_.Tries : Nat) : Int) (0 : Int)).bind fun (l4 : (List Int)) =>
  (mkl 1 ((List.length p0_.Done : Nat) : Int) (false : Bool)).bind fun (l5 : (List Bool)) =>
  (mkl 8 ((List.length p0_.Taken : Nat) : Int) (0 : Int)).bind fun (l6 : (List Int)) =>
  (cpy l4 p0_.Tries).bind fun (l7 : (List Int)) =>
  (cpy l5 p0_.Done).bind fun (l8 : (List Bool)) =>
  (cpy l6 p0_.Taken).bind fun (l9 : (List Int)) =>
  some ({ Tries := l7, Done := l8, Taken := l9, Now := p0_.Now, Sealed := p0_.Sealed } : GSpool)
def FSpool_known (_ : Nat) (p0_ : GSpool) (p1_ : Int) : Option Bool :=
  some ((((decide (p1_ ≥ 0)) && (decide (p1_ < ((List.length p0_.Tries : Nat) : Int)))) && (decide (p1_ < ((List.length p0_.Done : Nat) : Int)))) && (decide (p1_ < ((List.length p0_.Taken : Nat) : Int))))
def FSpool_idle (n : Nat) (p0_ : GSpool) (p1_ : Int) : Option Bool :=
  (if (p0_.Now == (-1)) = true then FSpool_known n p0_ p1_ else some default).bind fun (r1 : Bool) =>
  (if ((p0_.Now == (-1)) && r1) = true then idx p0_.Done p1_ else some default).bind fun (x1 : Bool) =>
  some (((p0_.Now == (-1)) && r1) && (!x1))
def FSpool_began_apply (n : Nat) (p0_ : GRecord) (p1_ : GSpool) : Option (Bool × GSpool) :=
  (FSpool_idle n p1_ p0_.A).bind fun (r2 : Bool) =>
  (if (!(!r2)) = true then idx p1_.Tries p0_.A else some default).bind fun (x2 : Int) =>
  if ((!r2) || (p0_.B != (iadd .i64 x2 1))) = true then
    some (false, p1_)
  else
    (idx p1_.Tries p0_.A).bind fun (_ : Int) =>
    (put p1_.Tries p0_.A p0_.B).bind fun (l10 : (List Int)) =>
    some (true, ({ Tries := l10, Done := p1_.Done, Taken := p1_.Taken, Now := p0_.A, Sealed := p1_.Sealed } : GSpool))
def FSpool_busy (n : Nat) (p0_ : GSpool) (p1_ : Int) (p2_ : Int) : Option Bool :=
  (if (p0_.Now == p1_) = true then FSpool_known n p0_ p1_ else some default).bind fun (r3 : Bool) =>
  (if ((p0_.Now == p1_) && r3) = true then idx p0_.Tries p1_ else some default).bind fun (x4 : Int) =>
  some (((p0_.Now == p1_) && r3) && (x4 == p2_))
def FSpool_finished_apply (n : Nat) (p0_ : GRecord) (p1_ : GSpool) : Option (Bool × GSpool) :=
  (FSpool_busy n p1_ p0_.A p0_.B).bind fun (r4 : Bool) =>
  if (!r4) = true then
    some (false, p1_)
  else
    (idx p1_.Done p0_.A).bind fun (_ : Bool) =>
    (put p1_.Done p0_.A true).bind fun (l11 : (List Bool)) =>
    some (true, ({ Tries := p1_.Tries, Done := l11, Taken := p1_.Taken, Now := (-1), Sealed := p1_.Sealed } : GSpool))
def FSpool_spoilt_apply (n : Nat) (p0_ : GRecord) (p1_ : GSpool) : Option (Bool × GSpool) :=
  (FSpool_busy n p1_ p0_.A p0_.B).bind fun (r5 : Bool) =>
  if (!r5) = true then
    some (false, p1_)
  else
    some (true, ({ Tries := p1_.Tries, Done := p1_.Done, Taken := p1_.Taken, Now := (-1), Sealed := p1_.Sealed } : GSpool))
def FSlices_Index_int_int_L1 (_ : Nat) (p0_ : (List Int)) (p1_ : Int) (x_1 : Int) : Option (Int ⊕ (Unit ⊕ Int)) :=
  if decide (x_1 < ((List.length p0_ : Nat) : Int)) = true then
    (idx p0_ x_1).bind fun (x6 : Int) =>
    if (p1_ == x6) = true then
      some (Sum.inr (Sum.inr x_1))
    else
      some (Sum.inl (iadd .i64 x_1 1))
  else
    some (Sum.inr (Sum.inl ()))
def FSlices_Index_int_int (n : Nat) (p0_ : (List Int)) (p1_ : Int) : Option Int :=
  (whl (fun (x : Int) => FSlices_Index_int_int_L1 n p0_ p1_ x) n 0).bind fun (y2 : (Unit ⊕ Int)) =>
  match y2 with
  | Sum.inl _ =>
    some (-1)
  | Sum.inr y4 =>
    some y4
def FSlices_Contains_int_int (n : Nat) (p0_ : (List Int)) (p1_ : Int) : Option Bool :=
  (FSlices_Index_int_int n p0_ p1_).bind fun (r6 : Int) =>
  some (decide (r6 ≥ 0))
def FSpool_reused_apply (n : Nat) (p0_ : GRecord) (p1_ : GSpool) : Option (Bool × GSpool) :=
  (FSpool_idle n p1_ p0_.A).bind fun (r7 : Bool) =>
  (if (!((!r7) || (decide (p0_.B < 0)))) = true then FSlices_Contains_int_int n p1_.Taken p0_.B else some default).bind fun (r8 : Bool) =>
  if (((!r7) || (decide (p0_.B < 0))) || r8) = true then
    some (false, p1_)
  else
    (idx p1_.Done p0_.A).bind fun (_ : Bool) =>
    (put p1_.Done p0_.A true).bind fun (l12 : (List Bool)) =>
    (idx p1_.Taken p0_.A).bind fun (_ : Int) =>
    (put p1_.Taken p0_.A p0_.B).bind fun (l13 : (List Int)) =>
    some (true, ({ Tries := p1_.Tries, Done := l12, Taken := l13, Now := p1_.Now, Sealed := p1_.Sealed } : GSpool))
def FSlices_Index_bool_bool_L1 (_ : Nat) (p0_ : (List Bool)) (p1_ : Bool) (x_2 : Int) : Option (Int ⊕ (Unit ⊕ Int)) :=
  if decide (x_2 < ((List.length p0_ : Nat) : Int)) = true then
    (idx p0_ x_2).bind fun (x9 : Bool) =>
    if (p1_ == x9) = true then
      some (Sum.inr (Sum.inr x_2))
    else
      some (Sum.inl (iadd .i64 x_2 1))
  else
    some (Sum.inr (Sum.inl ()))
def FSlices_Index_bool_bool (n : Nat) (p0_ : (List Bool)) (p1_ : Bool) : Option Int :=
  (whl (fun (x : Int) => FSlices_Index_bool_bool_L1 n p0_ p1_ x) n 0).bind fun (y5 : (Unit ⊕ Int)) =>
  match y5 with
  | Sum.inl _ =>
    some (-1)
  | Sum.inr y7 =>
    some y7
def FSlices_Contains_bool_bool (n : Nat) (p0_ : (List Bool)) (p1_ : Bool) : Option Bool :=
  (FSlices_Index_bool_bool n p0_ p1_).bind fun (r9 : Int) =>
  some (decide (r9 ≥ 0))
def FSpool_sealed_apply (n : Nat) (p0_ : GRecord) (p1_ : GSpool) : Option (Bool × GSpool) :=
  (if (!(p1_.Now != (-1))) = true then FSlices_Contains_bool_bool n p1_.Done false else some default).bind fun (r10 : Bool) =>
  if ((((p1_.Now != (-1)) || r10) || (p0_.A != 0)) || (p0_.B != 0)) = true then
    some (false, p1_)
  else
    some (true, ({ Tries := p1_.Tries, Done := p1_.Done, Taken := p1_.Taken, Now := p1_.Now, Sealed := true } : GSpool))
def FSpool_perform (n : Nat) (p0_ : GSpool) (p1_ : GRecord) : Option (Bool × GSpool) :=
  if p0_.Sealed = true then
    some (false, p0_)
  else
    if (p1_.Kind == 1) = true then
      (FSpool_began_apply n p1_ p0_).bind fun (r11 : (Bool × GSpool)) =>
      some (r11.1, r11.2)
    else
      if (p1_.Kind == 2) = true then
        (FSpool_finished_apply n p1_ p0_).bind fun (r12 : (Bool × GSpool)) =>
        some (r12.1, r12.2)
      else
        if (p1_.Kind == 3) = true then
          (FSpool_spoilt_apply n p1_ p0_).bind fun (r13 : (Bool × GSpool)) =>
          some (r13.1, r13.2)
        else
          if (p1_.Kind == 4) = true then
            (FSpool_reused_apply n p1_ p0_).bind fun (r14 : (Bool × GSpool)) =>
            some (r14.1, r14.2)
          else
            if (p1_.Kind == 5) = true then
              (FSpool_sealed_apply n p1_ p0_).bind fun (r15 : (Bool × GSpool)) =>
              some (r15.1, r15.2)
            else
              some (false, p0_)
def FSpool_Step (n : Nat) (p0_ : GSpool) (p1_ : GRecord) : Option (GSpool × Int) :=
  (FSpool_copied n p0_).bind fun (r16 : GSpool) =>
  (FSpool_perform n r16 p1_).bind fun (r17 : (Bool × GSpool)) =>
  if (!r17.1) = true then
    some (({ Tries := [], Done := [], Taken := [], Now := 0, Sealed := false } : GSpool), 290)
  else
    some (r17.2, 0)
def FSixdotref29_Same_L1 (_ : Nat) (p0_ : GSpool) (p1_ : GSpool) (i_2 : Int) : Option (Int ⊕ (Unit ⊕ Bool)) :=
  if decide (i_2 < ((List.length p0_.Tries : Nat) : Int)) = true then
    (idx p0_.Tries i_2).bind fun (x10 : Int) =>
    (idx p1_.Tries i_2).bind fun (x11 : Int) =>
    if (x10 != x11) = true then
      some (Sum.inr (Sum.inr false))
    else
      some (Sum.inl (iadd .i64 i_2 1))
  else
    some (Sum.inr (Sum.inl ()))
def FSixdotref29_Same_L2 (_ : Nat) (p0_ : GSpool) (p1_ : GSpool) (i_3 : Int) : Option (Int ⊕ (Unit ⊕ Bool)) :=
  if decide (i_3 < ((List.length p0_.Done : Nat) : Int)) = true then
    (idx p0_.Done i_3).bind fun (x12 : Bool) =>
    (idx p1_.Done i_3).bind fun (x13 : Bool) =>
    if (!(x12 == x13)) = true then
      some (Sum.inr (Sum.inr false))
    else
      some (Sum.inl (iadd .i64 i_3 1))
  else
    some (Sum.inr (Sum.inl ()))
def FSixdotref29_Same_L3 (_ : Nat) (p0_ : GSpool) (p1_ : GSpool) (i_4 : Int) : Option (Int ⊕ (Unit ⊕ Bool)) :=
  if decide (i_4 < ((List.length p0_.Taken : Nat) : Int)) = true then
    (idx p0_.Taken i_4).bind fun (x14 : Int) =>
    (idx p1_.Taken i_4).bind fun (x15 : Int) =>
    if (x14 != x15) = true then
      some (Sum.inr (Sum.inr false))
    else
      some (Sum.inl (iadd .i64 i_4 1))
  else
    some (Sum.inr (Sum.inl ()))
def FSixdotref29_Same (n : Nat) (p0_ : GSpool) (p1_ : GSpool) : Option Bool :=
  if (((((((List.length p0_.Tries : Nat) : Int) != ((List.length p1_.Tries : Nat) : Int)) || (((List.length p0_.Done : Nat) : Int) != ((List.length p1_.Done : Nat) : Int))) || (((List.length p0_.Taken : Nat) : Int) != ((List.length p1_.Taken : Nat) : Int))) || (p0_.Now != p1_.Now)) || (!(p0_.Sealed == p1_.Sealed))) = true then
    some false
  else
    (whl (fun (x : Int) => FSixdotref29_Same_L1 n p0_ p1_ x) n 0).bind fun (y8 : (Unit ⊕ Bool)) =>
    match y8 with
    | Sum.inl _ =>
      (whl (fun (x : Int) => FSixdotref29_Same_L2 n p0_ p1_ x) n 0).bind fun (y11 : (Unit ⊕ Bool)) =>
      match y11 with
      | Sum.inl _ =>
        (whl (fun (x : Int) => FSixdotref29_Same_L3 n p0_ p1_ x) n 0).bind fun (y14 : (Unit ⊕ Bool)) =>
        match y14 with
        | Sum.inl _ =>
          some true
        | Sum.inr y16 =>
          some y16
      | Sum.inr y13 =>
        some y13
    | Sum.inr y10 =>
      some y10
def FSixdotref29_taken_L1 (_ : Nat) (p0_ : GSpool) (p1_ : Int) (i_5 : Int) : Option (Int ⊕ (Unit ⊕ Bool)) :=
  if decide (i_5 < ((List.length p0_.Taken : Nat) : Int)) = true then
    (idx p0_.Taken i_5).bind fun (x16 : Int) =>
    if (x16 == p1_) = true then
      some (Sum.inr (Sum.inr true))
    else
      some (Sum.inl (iadd .i64 i_5 1))
  else
    some (Sum.inr (Sum.inl ()))
def FSixdotref29_taken (n : Nat) (p0_ : GSpool) (p1_ : Int) : Option Bool :=
  (whl (fun (x : Int) => FSixdotref29_taken_L1 n p0_ p1_ x) n 0).bind fun (y17 : (Unit ⊕ Bool)) =>
  match y17 with
  | Sum.inl _ =>
    some false
  | Sum.inr y19 =>
    some y19
def FSixdotref29_All_L1 (_ : Nat) (p0_ : GSpool) (i_6 : Int) : Option (Int ⊕ (Unit ⊕ Bool)) :=
  if decide (i_6 < ((List.length p0_.Done : Nat) : Int)) = true then
    (idx p0_.Done i_6).bind fun (x17 : Bool) =>
    if (!x17) = true then
      some (Sum.inr (Sum.inr false))
    else
      some (Sum.inl (iadd .i64 i_6 1))
  else
    some (Sum.inr (Sum.inl ()))
def FSixdotref29_All (n : Nat) (p0_ : GSpool) : Option Bool :=
  (whl (fun (x : Int) => FSixdotref29_All_L1 n p0_ x) n 0).bind fun (y20 : (Unit ⊕ Bool)) =>
  match y20 with
  | Sum.inl _ =>
    some true
  | Sum.inr y22 =>
    some y22
def FSixdotref29_Applies_J1 (n : Nat) (p0_ : GSpool) (p1_ : GRecord) (x_3 : Bool) : Option Bool :=
  if x_3 = true then
    (if (((decide (p1_.A ≥ 0)) && (decide (p1_.A < ((List.length p0_.Done : Nat) : Int)))) && (p0_.Now == p1_.A)) = true then idx p0_.Tries p1_.A else some default).bind fun (x20 : Int) =>
    some ((((decide (p1_.A ≥ 0)) && (decide (p1_.A < ((List.length p0_.Done : Nat) : Int)))) && (p0_.Now == p1_.A)) && (p1_.B == x20))
  else
    if (p1_.Kind == 4) = true then
      (if ((p0_.Now == (-1)) && ((decide (p1_.A ≥ 0)) && (decide (p1_.A < ((List.length p0_.Done : Nat) : Int))))) = true then idx p0_.Done p1_.A else some default).bind fun (x21 : Bool) =>
      (if ((((p0_.Now == (-1)) && ((decide (p1_.A ≥ 0)) && (decide (p1_.A < ((List.length p0_.Done : Nat) : Int))))) && (!x21)) && (decide (p1_.B ≥ 0))) = true then FSixdotref29_taken n p0_ p1_.B else some default).bind fun (r18 : Bool) =>
      some (((((p0_.Now == (-1)) && ((decide (p1_.A ≥ 0)) && (decide (p1_.A < ((List.length p0_.Done : Nat) : Int))))) && (!x21)) && (decide (p1_.B ≥ 0))) && (!r18))
    else
      if (p1_.Kind == 5) = true then
        (if (p0_.Now == (-1)) = true then FSixdotref29_All n p0_ else some default).bind fun (r19 : Bool) =>
        some ((((p0_.Now == (-1)) && r19) && (p1_.A == 0)) && (p1_.B == 0))
      else
        some false
def FSixdotref29_Applies (n : Nat) (p0_ : GSpool) (p1_ : GRecord) : Option Bool :=
  if p0_.Sealed = true then
    some false
  else
    if (p1_.Kind == 1) = true then
      (if ((p0_.Now == (-1)) && ((decide (p1_.A ≥ 0)) && (decide (p1_.A < ((List.length p0_.Done : Nat) : Int))))) = true then idx p0_.Done p1_.A else some default).bind fun (x18 : Bool) =>
      (if (((p0_.Now == (-1)) && ((decide (p1_.A ≥ 0)) && (decide (p1_.A < ((List.length p0_.Done : Nat) : Int))))) && (!x18)) = true then idx p0_.Tries p1_.A else some default).bind fun (x19 : Int) =>
      some ((((p0_.Now == (-1)) && ((decide (p1_.A ≥ 0)) && (decide (p1_.A < ((List.length p0_.Done : Nat) : Int))))) && (!x18)) && (p1_.B == (iadd .i64 x19 1)))
    else
      if (p1_.Kind == 2) = true then
        FSixdotref29_Applies_J1 n p0_ p1_ (p1_.Kind == 2)
      else
        FSixdotref29_Applies_J1 n p0_ p1_ (p1_.Kind == 3)
def FSixdotref29_Copied (_ : Nat) (p0_ : GSpool) : Option GSpool :=
  (app 8 ([] : List Int) p0_.Tries).bind fun (l14 : (List Int)) =>
  (app 1 ([] : List Bool) p0_.Done).bind fun (l15 : (List Bool)) =>
  (app 8 ([] : List Int) p0_.Taken).bind fun (l16 : (List Int)) =>
  some ({ Tries := l14, Done := l15, Taken := l16, Now := p0_.Now, Sealed := p0_.Sealed } : GSpool)
def FSixdotref29_Step_J1 (_ : Nat) (s_7 : Int) (s_8 : Bool) (s_9 : (List Int)) (s_10 : (List Bool)) (s_11 : (List Int)) : Option (GSpool × Int) :=
  some (({ Tries := s_9, Done := s_10, Taken := s_11, Now := s_7, Sealed := s_8 } : GSpool), 0)
def FSixdotref29_Step (n : Nat) (p0_ : GSpool) (p1_ : GRecord) : Option (GSpool × Int) :=
  (FSixdotref29_Applies n p0_ p1_).bind fun (r20 : Bool) =>
  if (!r20) = true then
    some (({ Tries := [], Done := [], Taken := [], Now := 0, Sealed := false } : GSpool), 290)
  else
    (FSixdotref29_Copied n p0_).bind fun (r21 : GSpool) =>
    if (p1_.Kind == 1) = true then
      (idx r21.Tries p1_.A).bind fun (_ : Int) =>
      (put r21.Tries p1_.A p1_.B).bind fun (l17 : (List Int)) =>
      FSixdotref29_Step_J1 n p1_.A r21.Sealed l17 r21.Done r21.Taken
    else
      if (p1_.Kind == 2) = true then
        (idx r21.Done p1_.A).bind fun (_ : Bool) =>
        (put r21.Done p1_.A true).bind fun (l18 : (List Bool)) =>
        FSixdotref29_Step_J1 n (-1) r21.Sealed r21.Tries l18 r21.Taken
      else
        if (p1_.Kind == 3) = true then
          FSixdotref29_Step_J1 n (-1) r21.Sealed r21.Tries r21.Done r21.Taken
        else
          if (p1_.Kind == 4) = true then
            (idx r21.Done p1_.A).bind fun (_ : Bool) =>
            (put r21.Done p1_.A true).bind fun (l19 : (List Bool)) =>
            (idx r21.Taken p1_.A).bind fun (_ : Int) =>
            (put r21.Taken p1_.A p1_.B).bind fun (l20 : (List Int)) =>
            FSixdotref29_Step_J1 n r21.Now r21.Sealed r21.Tries l19 l20
          else
            if (p1_.Kind == 5) = true then
              FSixdotref29_Step_J1 n r21.Now true r21.Tries r21.Done r21.Taken
            else
              FSixdotref29_Step_J1 n r21.Now r21.Sealed r21.Tries r21.Done r21.Taken
def FSixdotref29_Replay_L1 (n : Nat) (p1_ : (List GRecord)) (s_12 : GSpool) (i_7 : Int) : Option ((GSpool × Int) ⊕ (GSpool ⊕ (GSpool × Int))) :=
  if decide (i_7 < ((List.length p1_ : Nat) : Int)) = true then
    (idx p1_ i_7).bind fun (x26 : GRecord) =>
    (FSixdotref29_Step n s_12 x26).bind fun (r23 : (GSpool × Int)) =>
    if (r23.2 != 0) = true then
      some (Sum.inr (Sum.inr (s_12, i_7)))
    else
      some (Sum.inl (r23.1, (iadd .i64 i_7 1)))
  else
    some (Sum.inr (Sum.inl s_12))
def FSixdotref29_Replay (n : Nat) (p0_ : Int) (p1_ : (List GRecord)) : Option (GSpool × Int) :=
  (FSixdotref29_New n p0_).bind fun (r22 : GSpool) =>
  (whl (fun (x : (GSpool × Int)) => FSixdotref29_Replay_L1 n p1_ x.1 x.2) n (r22, 0)).bind fun (y23 : (GSpool ⊕ (GSpool × Int))) =>
  match y23 with
  | Sum.inl y24 =>
    some (y24, ((List.length p1_ : Nat) : Int))
  | Sum.inr y25 =>
    some y25
def FSpool_New_L1 (_ : Nat) (_ : (List Int)) (_ : (List Bool)) (l23 : (List Int)) (s_14 : (List Int)) (x_4 : Int) : Option (((List Int) × Int) ⊕ (List Int)) :=
  if decide (x_4 < ((List.length l23 : Nat) : Int)) = true then
    (idx s_14 x_4).bind fun (_ : Int) =>
    (put s_14 x_4 (-1)).bind fun (l24 : (List Int)) =>
    some (Sum.inl (l24, (iadd .i64 x_4 1)))
  else
    some (Sum.inr s_14)
def FSpool_New (n : Nat) (p0_ : Int) : Option GSpool :=
  (mkl 8 (if 0 > p0_ then 0 else p0_) (0 : Int)).bind fun (l21 : (List Int)) =>
  (mkl 1 (if 0 > p0_ then 0 else p0_) (false : Bool)).bind fun (l22 : (List Bool)) =>
  (mkl 8 (if 0 > p0_ then 0 else p0_) (0 : Int)).bind fun (l23 : (List Int)) =>
  (whl (fun (x : ((List Int) × Int)) => FSpool_New_L1 n l21 l22 l23 x.1 x.2) n (l23, 0)).bind fun (y26 : (List Int)) =>
  some ({ Tries := l21, Done := l22, Taken := y26, Now := (-1), Sealed := false } : GSpool)
def FSpool_Replay_L1 (n : Nat) (p1_ : (List GRecord)) (s_16 : Int) (s_17 : Bool) (s_18 : (List Int)) (s_19 : (List Bool)) (s_20 : (List Int)) (x_5 : Int) : Option ((Int × Bool × (List Int) × (List Bool) × (List Int) × Int) ⊕ ((Int × Bool × (List Int) × (List Bool) × (List Int)) ⊕ (GSpool × Int))) :=
  if decide (x_5 < ((List.length p1_ : Nat) : Int)) = true then
    (idx p1_ x_5).bind fun (x28 : GRecord) =>
    (FSpool_perform n ({ Tries := s_18, Done := s_19, Taken := s_20, Now := s_16, Sealed := s_17 } : GSpool) x28).bind fun (r25 : (Bool × GSpool)) =>
    if (!r25.1) = true then
      some (Sum.inr (Sum.inr (r25.2, x_5)))
    else
      some (Sum.inl (r25.2.Now, r25.2.Sealed, r25.2.Tries, r25.2.Done, r25.2.Taken, (iadd .i64 x_5 1)))
  else
    some (Sum.inr (Sum.inl (s_16, s_17, s_18, s_19, s_20)))
def FSpool_Replay (n : Nat) (p0_ : Int) (p1_ : (List GRecord)) : Option (GSpool × Int) :=
  (FSpool_New n p0_).bind fun (r24 : GSpool) =>
  (whl (fun (x : (Int × Bool × (List Int) × (List Bool) × (List Int) × Int)) => FSpool_Replay_L1 n p1_ x.1 x.2.1 x.2.2.1 x.2.2.2.1 x.2.2.2.2.1 x.2.2.2.2.2) n (r24.Now, r24.Sealed, r24.Tries, r24.Done, r24.Taken, 0)).bind fun (y27 : ((Int × Bool × (List Int) × (List Bool) × (List Int)) ⊕ (GSpool × Int))) =>
  match y27 with
  | Sum.inl y28 =>
    some (({ Tries := y28.2.2.1, Done := y28.2.2.2.1, Taken := y28.2.2.2.2, Now := y28.1, Sealed := y28.2.1 } : GSpool), ((List.length p1_ : Nat) : Int))
  | Sum.inr y29 =>
    some y29
def FSpool_Next_J1 (_ : Nat) (r_1 : GRecord) : Option GRecord :=
  some r_1
def FSpool_Next_J2 (_ : Nat) (r_2 : GRecord) : Option GRecord :=
  some r_2
def FSpool_Next (n : Nat) (p0_ : GSpool) (p1_ : GMatching) : Option GRecord :=
  if p0_.Sealed = true then
    some ({ Kind := 0, A := 0, B := 0 } : GRecord)
  else
    if (p0_.Now != (-1)) = true then
      (FSpool_known n p0_ p0_.Now).bind fun (r26 : Bool) =>
      if r26 = true then
        (idx p0_.Tries p0_.Now).bind fun (x29 : Int) =>
        FSpool_Next_J1 n ({ Kind := 3, A := p0_.Now, B := x29 } : GRecord)
      else
        FSpool_Next_J1 n ({ Kind := 3, A := p0_.Now, B := 0 } : GRecord)
    else
      (FSlices_Index_bool_bool n p0_.Done false).bind fun (r27 : Int) =>
      if decide (r27 < 0) = true then
        some ({ Kind := 5, A := 0, B := 0 } : GRecord)
      else
        (if decide (r27 < ((List.length p1_.From : Nat) : Int)) = true then idx p1_.From r27 else some default).bind fun (x30 : Int) =>
        (if ((decide (r27 < ((List.length p1_.From : Nat) : Int))) && (decide (x30 ≥ 0))) = true then idx p1_.From r27 else some default).bind fun (x31 : Int) =>
        (if ((decide (r27 < ((List.length p1_.From : Nat) : Int))) && (decide (x30 ≥ 0))) = true then FSlices_Contains_int_int n p0_.Taken x31 else some default).bind fun (r28 : Bool) =>
        if (((decide (r27 < ((List.length p1_.From : Nat) : Int))) && (decide (x30 ≥ 0))) && (!r28)) = true then
          (idx p1_.From r27).bind fun (x32 : Int) =>
          some ({ Kind := 4, A := r27, B := x32 } : GRecord)
        else
          (FSpool_known n p0_ r27).bind fun (r29 : Bool) =>
          if r29 = true then
            (idx p0_.Tries r27).bind fun (x33 : Int) =>
            FSpool_Next_J2 n ({ Kind := 1, A := r27, B := iadd .i64 x33 1 } : GRecord)
          else
            FSpool_Next_J2 n ({ Kind := 1, A := r27, B := 1 } : GRecord)
def FSpool_Rest (_ : Nat) (p0_ : GSpool) : Option Bool :=
  some p0_.Sealed
def FSixdotlaw29_sanity_L1 (n : Nat) (r30 : GSpool) (_ : (GSpool × Int)) (_ : (GSpool × Int)) (_ : (GSpool × Int)) (r39 : GRecord) (r40 : GRecord) (r41 : GRecord) (r42 : GRecord) (i_8 : Int) : Option (Int ⊕ (Unit ⊕ Bool)) :=
  if decide (i_8 < ((List.length [r39, r40, r41, r42, ({ Kind := 0, A := 0, B := 0 } : GRecord)] : Nat) : Int)) = true then
    (idx [r39, r40, r41, r42, ({ Kind := 0, A := 0, B := 0 } : GRecord)] i_8).bind fun (x34 : GRecord) =>
    (FSpool_Step n r30 x34).bind fun (r43 : (GSpool × Int)) =>
    if (r43.2 != 290) = true then
      some (Sum.inr (Sum.inr false))
    else
      some (Sum.inl (iadd .i64 i_8 1))
  else
    some (Sum.inr (Sum.inl ()))
def FSixdotlaw29_sanity (n : Nat)  : Option Bool :=
  (FSixdotref29_New n 1).bind fun (r30 : GSpool) =>
  (FSixdotlaw29_record n 1 0 1).bind fun (r31 : GRecord) =>
  (FSpool_Step n r30 r31).bind fun (r32 : (GSpool × Int)) =>
  (FSixdotref29_Same n r32.1 ({ Tries := [1], Done := [false], Taken := [(-1)], Now := 0, Sealed := false } : GSpool)).bind fun (r33 : Bool) =>
  if (!r33) = true then
    some false
  else
    (FSixdotlaw29_record n 2 0 1).bind fun (r34 : GRecord) =>
    (FSpool_Step n r32.1 r34).bind fun (r35 : (GSpool × Int)) =>
    (FSixdotref29_Same n r35.1 ({ Tries := [1], Done := [true], Taken := [(-1)], Now := (-1), Sealed := false } : GSpool)).bind fun (r36 : Bool) =>
    if (!r36) = true then
      some false
    else
      (FSixdotlaw29_record n 5 0 0).bind fun (r37 : GRecord) =>
      (FSpool_Step n r35.1 r37).bind fun (r38 : (GSpool × Int)) =>
      (FSixdotlaw29_record n 1 0 2).bind fun (r39 : GRecord) =>
      (FSixdotlaw29_record n 1 1 1).bind fun (r40 : GRecord) =>
      (FSixdotlaw29_record n 5 0 0).bind fun (r41 : GRecord) =>
      (FSixdotlaw29_record n 2 0 0).bind fun (r42 : GRecord) =>
      (whl (fun (x : Int) => FSixdotlaw29_sanity_L1 n r30 r32 r35 r38 r39 r40 r41 r42 x) n 0).bind fun (y30 : (Unit ⊕ Bool)) =>
      match y30 with
      | Sum.inl _ =>
        (FSixdotlaw29_record n 4 0 4).bind fun (r44 : GRecord) =>
        (FSixdotlaw29_record n 1 1 1).bind fun (r45 : GRecord) =>
        (FSixdotref29_Replay n 2 [r44, r45]).bind fun (r46 : (GSpool × Int)) =>
        (FSixdotlaw29_record n 1 0 1).bind fun (r47 : GRecord) =>
        (FSixdotlaw29_record n 1 0 2).bind fun (r48 : GRecord) =>
        (FSpool_Replay n 1 [r47, r48]).bind fun (r49 : (GSpool × Int)) =>
        (FSixdotref29_New n 2).bind fun (r50 : GSpool) =>
        (FSpool_Next n r50 ({ From := [4, (-1)], Missing := 0 } : GMatching)).bind fun (r51 : GRecord) =>
        (FSixdotlaw29_record n 4 0 4).bind fun (r52 : GRecord) =>
        (if ((r51.Kind == r52.Kind) && ((r51.A == r52.A) && ((r51.B == r52.B) && true))) = true then FSpool_Next n r46.1 ({ From := [4, (-1)], Missing := 0 } : GMatching) else some default).bind fun (r53 : GRecord) =>
        (if ((r51.Kind == r52.Kind) && ((r51.A == r52.A) && ((r51.B == r52.B) && true))) = true then FSixdotlaw29_record n 3 1 1 else some default).bind fun (r54 : GRecord) =>
        (if ((((r32.2 == 0) && (r35.2 == 0)) && (r38.2 == 0)) && r38.1.Sealed) = true then FSpool_Rest n r38.1 else some default).bind fun (r55 : Bool) =>
        (if (((((r32.2 == 0) && (r35.2 == 0)) && (r38.2 == 0)) && r38.1.Sealed) && r55) = true then FSpool_Rest n r35.1 else some default).bind fun (r56 : Bool) =>
        (if ((((((((r32.2 == 0) && (r35.2 == 0)) && (r38.2 == 0)) && r38.1.Sealed) && r55) && (!r56)) && ((((r51.Kind == r52.Kind) && ((r51.A == r52.A) && ((r51.B == r52.B) && true))) && ((r53.Kind == r54.Kind) && ((r53.A == r54.A) && ((r53.B == r54.B) && true)))) && (r46.2 == 2))) && (r49.2 == 1)) = true then FSixdotref29_Same n r49.1 r32.1 else some default).bind fun (r57 : Bool) =>
        (if (((((((((r32.2 == 0) && (r35.2 == 0)) && (r38.2 == 0)) && r38.1.Sealed) && r55) && (!r56)) && ((((r51.Kind == r52.Kind) && ((r51.A == r52.A) && ((r51.B == r52.B) && true))) && ((r53.Kind == r54.Kind) && ((r53.A == r54.A) && ((r53.B == r54.B) && true)))) && (r46.2 == 2))) && (r49.2 == 1)) && r57) = true then FSpool_New n (-3) else some default).bind fun (r58 : GSpool) =>
        (if (((((((((r32.2 == 0) && (r35.2 == 0)) && (r38.2 == 0)) && r38.1.Sealed) && r55) && (!r56)) && ((((r51.Kind == r52.Kind) && ((r51.A == r52.A) && ((r51.B == r52.B) && true))) && ((r53.Kind == r54.Kind) && ((r53.A == r54.A) && ((r53.B == r54.B) && true)))) && (r46.2 == 2))) && (r49.2 == 1)) && r57) = true then FSixdotref29_Same n r58 ({ Tries := [], Done := [], Taken := [], Now := (-1), Sealed := false } : GSpool) else some default).bind fun (r59 : Bool) =>
        some ((((((((((r32.2 == 0) && (r35.2 == 0)) && (r38.2 == 0)) && r38.1.Sealed) && r55) && (!r56)) && ((((r51.Kind == r52.Kind) && ((r51.A == r52.A) && ((r51.B == r52.B) && true))) && ((r53.Kind == r54.Kind) && ((r53.A == r54.A) && ((r53.B == r54.B) && true)))) && (r46.2 == 2))) && (r49.2 == 1)) && r57) && r59)
      | Sum.inr y32 =>
        some y32
def FSixdotref29_Jobs (_ : Nat) (p0_ : GRaw) : Option Int :=
  some (IntKind.i64.wrap (irem p0_.N 6))
def FSixdotref29_Matching_L1 (_ : Nat) (p0_ : GRaw) (out_1 : (List Int)) (i_9 : Int) : Option (((List Int) × Int) ⊕ (List Int)) :=
  if ((decide (i_9 < ((List.length p0_.From : Nat) : Int))) && (decide (i_9 < 6))) = true then
    (idx p0_.From i_9).bind fun (x35 : Int) =>
    (app 8 out_1 [isub .i64 (IntKind.i64.wrap (irem x35 6)) 1]).bind fun (l25 : (List Int)) =>
    some (Sum.inl (l25, (iadd .i64 i_9 1)))
  else
    some (Sum.inr out_1)
def FSixdotref29_Matching (n : Nat) (p0_ : GRaw) : Option GMatching :=
  (whl (fun (x : ((List Int) × Int)) => FSixdotref29_Matching_L1 n p0_ x.1 x.2) n (([] : List Int), 0)).bind fun (y33 : (List Int)) =>
  some ({ From := y33, Missing := 0 } : GMatching)
def FSixdotref29_Next_L1 (n : Nat) (p0_ : GSpool) (p1_ : GMatching) (j_1 : Int) : Option (Int ⊕ (Unit ⊕ GRecord)) :=
  if decide (j_1 < ((List.length p0_.Done : Nat) : Int)) = true then
    (idx p0_.Done j_1).bind fun (x37 : Bool) =>
    if x37 = true then
      some (Sum.inl (iadd .i64 j_1 1))
    else
      (if decide (j_1 < ((List.length p1_.From : Nat) : Int)) = true then idx p1_.From j_1 else some default).bind fun (x38 : Int) =>
      (if ((decide (j_1 < ((List.length p1_.From : Nat) : Int))) && (decide (x38 ≥ 0))) = true then idx p1_.From j_1 else some default).bind fun (x39 : Int) =>
      (if ((decide (j_1 < ((List.length p1_.From : Nat) : Int))) && (decide (x38 ≥ 0))) = true then FSixdotref29_taken n p0_ x39 else some default).bind fun (r60 : Bool) =>
      if (((decide (j_1 < ((List.length p1_.From : Nat) : Int))) && (decide (x38 ≥ 0))) && (!r60)) = true then
        (idx p1_.From j_1).bind fun (x40 : Int) =>
        some (Sum.inr (Sum.inr ({ Kind := 4, A := j_1, B := x40 } : GRecord)))
      else
        (idx p0_.Tries j_1).bind fun (x41 : Int) =>
        some (Sum.inr (Sum.inr ({ Kind := 1, A := j_1, B := iadd .i64 x41 1 } : GRecord)))
  else
    some (Sum.inr (Sum.inl ()))
def FSixdotref29_Next (n : Nat) (p0_ : GSpool) (p1_ : GMatching) : Option GRecord :=
  if p0_.Sealed = true then
    some ({ Kind := 0, A := 0, B := 0 } : GRecord)
  else
    if decide (p0_.Now ≥ 0) = true then
      (idx p0_.Tries p0_.Now).bind fun (x36 : Int) =>
      some ({ Kind := 3, A := p0_.Now, B := x36 } : GRecord)
    else
      (whl (fun (x : Int) => FSixdotref29_Next_L1 n p0_ p1_ x) n 0).bind fun (y34 : (Unit ⊕ GRecord)) =>
      match y34 with
      | Sum.inl _ =>
        some ({ Kind := 5, A := 0, B := 0 } : GRecord)
      | Sum.inr y36 =>
        some y36
def FSixdotref29_Arbitrary (_ : Nat) (p0_ : Int) : Option GRecord :=
  some ({ Kind := irem (IntKind.i64.wrap p0_) 7, A := isub .i64 (irem (iquo .i64 (IntKind.i64.wrap p0_) 7) 7) 1, B := irem (iquo .i64 (IntKind.i64.wrap p0_) 3) 5 } : GRecord)
def FSixdotref29_Records_J2 (n : Nat) (out_3 : (List GRecord)) (s_26 : GSpool) (i_10 : Int) (r_4 : GRecord) : Option (((List GRecord) × GSpool × Int) ⊕ ((List GRecord) ⊕ (List GRecord))) :=
  (FSixdotref29_Step n s_26 r_4).bind fun (r65 : (GSpool × Int)) =>
  (app 24 out_3 [r_4]).bind fun (l26 : (List GRecord)) =>
  if (r65.2 != 0) = true then
    some (Sum.inr (Sum.inr l26))
  else
    some (Sum.inl (l26, r65.1, (iadd .i64 i_10 1)))
def FSixdotref29_Records_J1 (n : Nat) (p0_ : GRaw) (out_3 : (List GRecord)) (s_26 : GSpool) (i_10 : Int) (r_3 : GRecord) : Option (((List GRecord) × GSpool × Int) ⊕ ((List GRecord) ⊕ (List GRecord))) :=
  (idx p0_.L i_10).bind fun (x42 : Int) =>
  if decide (x42 > 200) = true then
    (idx p0_.L i_10).bind fun (x43 : Int) =>
    (FSixdotref29_Arbitrary n (isub .u8 x43 200)).bind fun (r66 : GRecord) =>
    FSixdotref29_Records_J2 n out_3 s_26 i_10 r66
  else
    FSixdotref29_Records_J2 n out_3 s_26 i_10 r_3
def FSixdotref29_Records_L1 (n : Nat) (p0_ : GRaw) (out_3 : (List GRecord)) (s_26 : GSpool) (i_10 : Int) : Option (((List GRecord) × GSpool × Int) ⊕ ((List GRecord) ⊕ (List GRecord))) :=
  if ((decide (i_10 < ((List.length p0_.L : Nat) : Int))) && (decide (i_10 < 24))) = true then
    (FSixdotref29_Matching n p0_).bind fun (r63 : GMatching) =>
    (FSixdotref29_Next n s_26 r63).bind fun (r64 : GRecord) =>
    (if decide (s_26.Now ≥ 0) = true then idx p0_.L i_10 else some default).bind fun (x44 : Int) =>
    if ((decide (s_26.Now ≥ 0)) && ((irem x44 2) == 1)) = true then
      FSixdotref29_Records_J1 n p0_ out_3 s_26 i_10 ({ Kind := 2, A := r64.A, B := r64.B } : GRecord)
    else
      FSixdotref29_Records_J1 n p0_ out_3 s_26 i_10 r64
  else
    some (Sum.inr (Sum.inl out_3))
def FSixdotref29_Records (n : Nat) (p0_ : GRaw) : Option (List GRecord) :=
  (FSixdotref29_Jobs n p0_).bind fun (r61 : Int) =>
  (FSixdotref29_New n r61).bind fun (r62 : GSpool) =>
  (whl (fun (x : ((List GRecord) × GSpool × Int)) => FSixdotref29_Records_L1 n p0_ x.1 x.2.1 x.2.2) n (([] : List GRecord), r62, 0)).bind fun (y37 : ((List GRecord) ⊕ (List GRecord))) =>
  match y37 with
  | Sum.inl y38 =>
    some y38
  | Sum.inr y39 =>
    some y39
def FSixdotlaw29_rest_J1 (_ : Nat) (i_12 : Int) (s_29 : GSpool) (out_7 : (List GRecord)) : Option ((GSpool × (List GRecord) × Int) ⊕ ((GSpool × (List GRecord)) ⊕ ((List GRecord) × GSpool × Bool))) :=
  some (Sum.inl (s_29, out_7, (iadd .i64 i_12 1)))
def FSixdotlaw29_rest_L1 (n : Nat) (p0_ : GSpool) (p1_ : GMatching) (s_27 : GSpool) (out_5 : (List GRecord)) (i_12 : Int) : Option ((GSpool × (List GRecord) × Int) ⊕ ((GSpool × (List GRecord)) ⊕ ((List GRecord) × GSpool × Bool))) :=
  if decide (i_12 < iadd .i64 (imul .i64 3 ((List.length p0_.Done : Nat) : Int)) 2) = true then
    (FSpool_Next n s_27 p1_).bind fun (r88 : GRecord) =>
    if (r88.Kind == 0) = true then
      (FSpool_Rest n s_27).bind fun (r89 : Bool) =>
      some (Sum.inr (Sum.inr (out_5, s_27, r89)))
    else
      (FSixdotref29_Step n s_27 r88).bind fun (r90 : (GSpool × Int)) =>
      if (r90.2 != 0) = true then
        some (Sum.inr (Sum.inr (out_5, s_27, false)))
      else
        (app 24 out_5 [r88]).bind fun (l27 : (List GRecord)) =>
        if (r88.Kind == 1) = true then
          (FSixdotref29_Step n r90.1 ({ Kind := 2, A := r88.A, B := r88.B } : GRecord)).bind fun (r91 : (GSpool × Int)) =>
          (app 24 l27 [({ Kind := 2, A := r88.A, B := r88.B } : GRecord)]).bind fun (l28 : (List GRecord)) =>
          FSixdotlaw29_rest_J1 n i_12 r91.1 l28
        else
          FSixdotlaw29_rest_J1 n i_12 r90.1 l27
  else
    some (Sum.inr (Sum.inl (s_27, out_5)))
def FSixdotlaw29_rest (n : Nat) (p0_ : GSpool) (p1_ : GMatching) : Option ((List GRecord) × GSpool × Bool) :=
  (whl (fun (x : (GSpool × (List GRecord) × Int)) => FSixdotlaw29_rest_L1 n p0_ p1_ x.1 x.2.1 x.2.2) n (p0_, ([] : List GRecord), 0)).bind fun (y46 : ((GSpool × (List GRecord)) ⊕ ((List GRecord) × GSpool × Bool))) =>
  match y46 with
  | Sum.inl y47 =>
    some (y47.2, y47.1, y47.1.Sealed)
  | Sum.inr y48 =>
    some y48
def FSixdotlaw29_SpoolProgresses_J1 (_ : Nat) (i_13 : Int) (n_3 : Int) : Option ((Int × Int) ⊕ Int) :=
  some (Sum.inl (n_3, (iadd .i64 i_13 1)))
def FSixdotlaw29_SpoolProgresses_L2 (n : Nat) (_ : Bool) (_ : (GSpool × Int)) (r97 : ((List GRecord) × GSpool × Bool)) (j_2 : Int) (n_1 : Int) (i_13 : Int) : Option ((Int × Int) ⊕ Int) :=
  if decide (i_13 < ((List.length r97.1 : Nat) : Int)) = true then
    (idx r97.1 i_13).bind fun (x47 : GRecord) =>
    (if (x47.A == j_2) = true then idx r97.1 i_13 else some default).bind fun (x48 : GRecord) =>
    (if ((x47.A == j_2) && !(x48.Kind == 2)) = true then idx r97.1 i_13 else some default).bind fun (x49 : GRecord) =>
    if ((x47.A == j_2) && ((x48.Kind == 2) || (x49.Kind == 4))) = true then
      FSixdotlaw29_SpoolProgresses_J1 n i_13 (iadd .i64 n_1 1)
    else
      FSixdotlaw29_SpoolProgresses_J1 n i_13 n_1
  else
    some (Sum.inr n_1)
def FSixdotlaw29_SpoolProgresses_L1 (n : Nat) (r92 : Bool) (r95 : (GSpool × Int)) (r97 : ((List GRecord) × GSpool × Bool)) (j_2 : Int) : Option (Int ⊕ (Unit ⊕ Bool)) :=
  if decide (j_2 < ((List.length r95.1.Done : Nat) : Int)) = true then
    (whl (fun (x : (Int × Int)) => FSixdotlaw29_SpoolProgresses_L2 n r92 r95 r97 j_2 x.1 x.2) n (0, 0)).bind fun (y49 : Int) =>
    (idx r95.1.Done j_2).bind fun (x50 : Bool) =>
    (if (!(x50 && (y49 != 0))) = true then idx r95.1.Done j_2 else some default).bind fun (x51 : Bool) =>
    if ((x50 && (y49 != 0)) || ((!x51) && (y49 != 1))) = true then
      some (Sum.inr (Sum.inr false))
    else
      some (Sum.inl (iadd .i64 j_2 1))
  else
    some (Sum.inr (Sum.inl ()))
def FSixdotlaw29_SpoolProgresses (n : Nat) (p0_ : GRaw) : Option Bool :=
  (FSixdotlaw29_sanity n).bind fun (r92 : Bool) =>
  (FSixdotref29_Jobs n p0_).bind fun (r93 : Int) =>
  (FSixdotref29_Records n p0_).bind fun (r94 : (List GRecord)) =>
  (FSixdotref29_Replay n r93 r94).bind fun (r95 : (GSpool × Int)) =>
  (FSixdotref29_Matching n p0_).bind fun (r96 : GMatching) =>
  (FSixdotlaw29_rest n r95.1 r96).bind fun (r97 : ((List GRecord) × GSpool × Bool)) =>
  (if (!(((!r97.2.2) || (decide (((List.length r97.1 : Nat) : Int) > iadd .i64 (imul .i64 3 ((List.length r95.1.Done : Nat) : Int)) 2))) || (!r97.2.1.Sealed))) = true then FSixdotref29_All n r97.2.1 else some default).bind fun (r98 : Bool) =>
  if ((((!r97.2.2) || (decide (((List.length r97.1 : Nat) : Int) > iadd .i64 (imul .i64 3 ((List.length r95.1.Done : Nat) : Int)) 2))) || (!r97.2.1.Sealed)) || (!r98)) = true then
    some false
  else
    (whl (fun (x : Int) => FSixdotlaw29_SpoolProgresses_L1 n r92 r95 r97 x) n 0).bind fun (y50 : (Unit ⊕ Bool)) =>
    match y50 with
    | Sum.inl _ =>
      some r92
    | Sum.inr y52 =>
      some y52
end Go.AI
end
