/- The theorem: the last one of this text; part 6 of 6 of its proof. It holds with no condition beyond the given statement. -/
import Derived.Test.YtjbjbkidckbalaaSE
import Derived.KernelRfl
import Derived.Test.YtjbjbkidckbalaaRows
section
namespace Go.AI
theorem wrap64_def (a : Int) : IntKind.i64.wrap a = if decide (a % 18446744073709551616 ≥ 9223372036854775808) = true then a % 18446744073709551616 - 18446744073709551616 else a % 18446744073709551616 := rfl
theorem wrap8_def (a : Int) : IntKind.u8.wrap a = a % 256 := rfl
theorem wrap64 {a : Int} (h : -9223372036854775808 ≤ a) (h' : a < 9223372036854775808) : IntKind.i64.wrap a = a := by
  rw [wrap64_def]
  split
  · rename_i hc; simp at hc; omega
  · rename_i hc; simp at hc; omega
theorem iadd64 {a b : Int} (h : -9223372036854775808 ≤ a + b) (h' : a + b < 9223372036854775808) : iadd .i64 a b = a + b := wrap64 h h'
theorem isub64 {a b : Int} (h : -9223372036854775808 ≤ a - b) (h' : a - b < 9223372036854775808) : isub .i64 a b = a - b := wrap64 h h'
theorem wrap8 {a : Int} (h : 0 ≤ a) (h' : a < 256) : IntKind.u8.wrap a = a := by
  rw [wrap8_def]; omega
theorem wrap8_range (a : Int) : 0 ≤ IntKind.u8.wrap a ∧ IntKind.u8.wrap a < 256 := by
  rw [wrap8_def]; omega
def hasS (m k : Int) : Bool := decide (0 ≤ k) && decide (k < 8) && (iand .u8 (ishr .u8 m k) 1 == 1)
theorem has_eq (n : Nat) (m k : Int) : FAutomaton_has n m k = some (hasS m k) := by
  unfold FAutomaton_has hasS
  by_cases h : 0 ≤ k
  · by_cases h' : k < 8 <;> simp [h, h', guardB]
  · simp [h]
theorem bit_eq (n : Nat) (m k : Int) : FSixdotref03_Bit n m k = some (hasS m k) := by
  unfold FSixdotref03_Bit hasS
  by_cases h : 0 ≤ k
  · by_cases h' : k < 8 <;> simp [h, h', guardB]
  · simp [h]
def classS (b : Int) : Int :=
  if (decide (97 ≤ iand .u8 b 127) && decide (iand .u8 b 127 ≤ 122)) = true then 1
  else if (decide (65 ≤ iand .u8 b 127) && decide (iand .u8 b 127 ≤ 90)) = true then 2
  else if (decide (48 ≤ iand .u8 b 127) && decide (iand .u8 b 127 ≤ 57)) = true then 3
  else if (iand .u8 b 127 == 32) = true then 4 else 5
theorem class_eq (n : Nat) (b : Int) : FTable_Class n b = some (classS b) := by
  unfold FTable_Class classS
  split
  · rfl
  · split
    · rfl
    · split
      · rfl
      · split <;> rfl
theorem class2_eq (n : Nat) (b : Int) : FSixdotref02_Class n b = some (classS b) := by
  unfold FSixdotref02_Class classS
  simp only [ge_iff_le]
  split
  · rfl
  · split
    · rfl
    · split
      · rfl
      · split <;> rfl
theorem class_range (b : Int) : 1 ≤ classS b ∧ classS b ≤ 5 := by
  unfold classS
  split
  · omega
  · split
    · omega
    · split
      · omega
      · split <;> omega
def byteS (s : List UInt8) (i : Nat) : Int := (s[i]?.getD 0).toNat
theorem sidx_eq {s : List UInt8} {i : Nat} (h : i < s.length) : sidx s (i : Int) = some (byteS s i) := by
  unfold sidx byteS
  rw [if_pos (by omega)]
  simp
def noneS : GState := ⟨0, 0, 0⟩
def stepR (r : GRule) (s : GState) : GState × Bool :=
  if ((r.From != s.Mode) || !hasS r.Left s.Last) = true then (noneS, false)
  else if (r.Print == []) = true then
    (if (iand .u8 s.Need r.Right == 0) = true then (noneS, false) else (⟨r.To, s.Last, iand .u8 s.Need r.Right⟩, true))
  else if (!hasS s.Need (classS (byteS r.Print 0))) = true then (noneS, false)
  else (⟨r.To, classS (byteS r.Print (r.Print.length - 1)), r.Right⟩, true)
def stepS (t : GTable) (s : GState) (k : Int) : GState × Bool :=
  if (decide (k < 0) || decide (k ≥ (t.Rules.length : Int))) = true then (noneS, false) else stepR (t.Rules[k.toNat]?.getD default) s
def Short (t : GTable) : Prop := ∀ r ∈ t.Rules, r.Print.length < 9223372036854775808
theorem idx_getD {α : Type} [Inhabited α] {l : List α} {k : Int} (h : 0 ≤ k) (h' : k < l.length) : idx l k = some (l[k.toNat]?.getD default) := by
  unfold idx
  rw [if_pos h]
  have : k.toNat < l.length := by omega
  simp [this]
theorem step_eq {t : GTable} (ht : Short t) (n : Nat) (s : GState) (k : Int) : FAutomaton_Step n t s k = some (stepS t s k) := by
  unfold FAutomaton_Step stepS
  by_cases hk : (decide (k < 0) || decide (k ≥ (t.Rules.length : Int))) = true
  · rw [if_pos hk, if_pos hk]; rfl
  · rw [if_neg hk, if_neg hk]
    simp only [Bool.or_eq_true, decide_eq_true_eq, not_or, Int.not_lt, ge_iff_le, Int.not_le] at hk
    rw [idx_getD hk.1 hk.2]
    have hmem : (t.Rules[k.toNat]?.getD default) ∈ t.Rules := by
      have : k.toNat < t.Rules.length := by omega
      simp [this]
    have hlen := ht _ hmem
    generalize t.Rules[k.toNat]?.getD default = r at hlen ⊢
    simp only [Option.bind_some, has_eq, class_eq]
    unfold stepR
    by_cases h1 : r.From = s.Mode
    · simp only [h1, bne_self_eq_false, Bool.not_false, if_true, Option.bind_some, Bool.false_or]
      by_cases h2 : hasS r.Left s.Last = true
      · simp only [h2, Bool.not_true, Bool.false_eq_true, if_false]
        by_cases h3 : r.Print = []
        · simp only [h3, beq_self_eq_true, if_true]
          split <;> rfl
        · have h3' : (r.Print == []) = false := by simpa using h3
          have hpos : 0 < r.Print.length := List.length_pos_iff.2 h3
          simp only [h3', Bool.false_eq_true, if_false]
          have e0 := sidx_eq (s := r.Print) (i := 0) hpos
          simp only [Int.natCast_zero] at e0
          rw [e0]
          have e1 : isub .i64 ((r.Print.length : Nat) : Int) 1 = ((r.Print.length - 1 : Nat) : Int) := by rw [isub64 (by omega) (by omega)]; omega
          rw [e1, sidx_eq (by omega)]
          simp only [Option.bind_some]
          split <;> rfl
      · have h2 : hasS r.Left s.Last = false := by simpa using h2
        simp only [h2, Bool.not_false, if_true]; rfl
    · have h1' : (r.From != s.Mode) = true := by simpa using h1
      simp only [h1', Bool.not_true, Bool.false_eq_true, if_false, Option.bind_some, Bool.true_or, if_true]; rfl
end Go.AI
end
section
namespace Go.AI
theorem getElem?_lt' {α : Type} {l : List α} {i : Nat} {x : α} (h : l[i]? = some x) : i < l.length := (List.getElem?_eq_some_iff.1 h).1
theorem step3_eq {t : GTable} (ht : Short t) (n : Nat) (s : GState) (k : Int) : FSixdotref03_Step n t s k = some (stepS t s k) := by
  unfold FSixdotref03_Step stepS
  by_cases hk : (decide (k < 0) || decide (k ≥ (t.Rules.length : Int))) = true
  · rw [if_pos hk, if_pos hk]; rfl
  · rw [if_neg hk, if_neg hk]
    simp only [Bool.or_eq_true, decide_eq_true_eq, not_or, Int.not_lt, ge_iff_le, Int.not_le] at hk
    rw [idx_getD hk.1 hk.2]
    have hmem : (t.Rules[k.toNat]?.getD default) ∈ t.Rules := by
      have : k.toNat < t.Rules.length := by omega
      simp [this]
    have hlen := ht _ hmem
    generalize t.Rules[k.toNat]?.getD default = r at hlen ⊢
    simp only [Option.bind_some, bit_eq, class2_eq]
    unfold stepR
    by_cases h1 : r.From = s.Mode
    · simp only [h1, bne_self_eq_false, Bool.not_false, if_true, Option.bind_some, Bool.false_or]
      by_cases h2 : hasS r.Left s.Last = true
      · simp only [h2, Bool.not_true, Bool.false_eq_true, if_false]
        by_cases h3 : r.Print = []
        · simp only [h3, List.length_nil, Int.natCast_zero, beq_self_eq_true, Bool.true_and, if_true]
          split <;> rfl
        · have h3' : (r.Print == []) = false := by simpa using h3
          have hpos : 0 < r.Print.length := List.length_pos_iff.2 h3
          have h4 : (((r.Print.length : Nat) : Int) == 0) = false := by simp; omega
          simp only [h3', h4, Bool.false_and, Bool.false_eq_true, if_false]
          have e0 := sidx_eq (s := r.Print) (i := 0) hpos
          simp only [Int.natCast_zero] at e0
          rw [e0]
          have e1 : isub .i64 ((r.Print.length : Nat) : Int) 1 = ((r.Print.length - 1 : Nat) : Int) := by rw [isub64 (by omega) (by omega)]; omega
          rw [e1, sidx_eq (by omega)]
          simp only [Option.bind_some]
          split <;> rfl
      · have h2 : hasS r.Left s.Last = false := by simpa using h2
        simp only [h2, Bool.not_false, if_true]; rfl
    · have h1' : (r.From != s.Mode) = true := by simpa using h1
      simp only [h1', Bool.not_true, Bool.false_eq_true, if_false, Option.bind_some, Bool.true_or, if_true]; rfl
def acceptsS (t : GTable) (s : GState) : Bool := decide (s.Mode < t.Modes) && hasS t.Accept s.Mode && hasS s.Need 0
theorem accepts_eq (n : Nat) (t : GTable) (s : GState) : FAutomaton_Accepts n t s = some (acceptsS t s) := by
  unfold FAutomaton_Accepts acceptsS
  simp only [has_eq]
  by_cases h1 : s.Mode < t.Modes
  · cases h2 : hasS t.Accept s.Mode <;> simp [h1]
  · simp [h1]
theorem accepts3_eq (n : Nat) (t : GTable) (s : GState) : FSixdotref03_Accepts n t s = some (acceptsS t s) := by
  unfold FSixdotref03_Accepts acceptsS
  simp only [bit_eq]
  have h0 : ¬ (0 ≤ s.Mode) → hasS t.Accept s.Mode = false := fun h => by simp [hasS, h]
  by_cases h : 0 ≤ s.Mode
  · by_cases h1 : s.Mode < t.Modes
    · cases h2 : hasS t.Accept s.Mode <;> simp [h, h1]
    · simp [h1]
  · simp [h, h0 h]
theorem eqS (a b : GState) : ((a.Mode == b.Mode) && ((a.Last == b.Last) && ((a.Need == b.Need) && true))) = decide (a = b) := by
  cases a; cases b
  simp [Bool.decide_and]
  rfl
def indexS (l : List GState) (s : GState) : Int := match l.findIdx? (fun x => decide (x = s)) with
  | some i => i
  | none => -1
theorem index_ev {l : List GState} {s : GState} (hl : l.length < 9223372036854775807) : Ev (fun n => FSixdotref03_Index n l s) (indexS l s) := by
  have loop : Ev (fun n => whl (fun x => f34_L1 n l s x) n (0 : Int)) (match l.findIdx? (fun x => decide (x = s)) with | some i => (.inr (i : Int) : Unit ⊕ Int) | none => .inl ()) := by
    refine Ev.whl (body := fun n x => f34_L1 n l s x) (fun k x => ∃ i : Nat, x = i ∧ i ≤ l.length ∧ k = l.length - i ∧ ∀ j, j < i → ∀ y, l[j]? = some y → y ≠ s) ?_ l.length 0 ⟨0, rfl, by omega, by omega, fun j hj => by omega⟩
    rintro k x ⟨i, rfl, hi, rfl, hbefore⟩
    by_cases hlt : i < l.length
    · have hg : l[i]? = some l[i] := List.getElem?_eq_getElem hlt
      have hidx : idx l (i : Int) = some l[i] := by
        unfold idx
        rw [if_pos (by omega)]
        simp
      by_cases he : l[i] = s
      · right
        refine Ev.all fun n => ?_
        unfold f34_L1
        rw [if_pos (by simpa using hlt), hidx]
        simp only [Option.bind_some, eqS, he, decide_true, if_true]
        have : l.findIdx? (fun x => decide (x = s)) = some i := by
          rw [List.findIdx?_eq_some_iff_getElem]
          refine ⟨hlt, by simpa using he, fun j hj => ?_⟩
          have hj' : j < l.length := by omega
          have := hbefore j hj l[j] (List.getElem?_eq_getElem hj')
          simpa using this
        rw [this]
      · left
        refine ⟨((i + 1 : Nat) : Int), l.length - (i + 1), by omega, ⟨i + 1, rfl, by omega, rfl, fun j hj y hy => ?_⟩, Ev.all fun n => ?_⟩
        · by_cases hji : j = i
          · subst hji; rw [hg] at hy; cases hy; exact he
          · exact hbefore j (by omega) y hy
        · unfold f34_L1
          rw [if_pos (by simpa using hlt), hidx]
          simp only [Option.bind_some, eqS, he, decide_false, Bool.false_eq_true, if_false]
          rw [iadd64 (by omega) (by omega)]
          rfl
    · right
      have hi' : i = l.length := by omega
      subst hi'
      refine Ev.all fun n => ?_
      unfold f34_L1
      rw [if_neg (by simp)]
      have : l.findIdx? (fun x => decide (x = s)) = none := by
        rw [List.findIdx?_eq_none_iff]
        intro y hy
        obtain ⟨j, hj⟩ := List.mem_iff_getElem?.1 hy
        have := hbefore j (getElem?_lt' hj) y hj
        simpa using this
      rw [this]
  refine (Ev.bind loop (g := fun _ y => match y with | Sum.inl _ => some (-1) | Sum.inr z => some z) (z := indexS l s) ?_).congr fun n => ?_
  · unfold indexS
    cases l.findIdx? (fun x => decide (x = s)) with
    | none => exact Ev.const
    | some i => exact Ev.const
  · rfl
end Go.AI
end
section
namespace Go.AI
theorem iand_range (a b : Int) (h : 0 ≤ b) (h' : b < 256) : 0 ≤ iand .u8 a b ∧ iand .u8 a b ≤ b := by
  unfold iand
  have hb : (BitVec.ofInt 8 b).toNat = b.toNat := by
    rw [BitVec.toNat_ofInt]
    omega
  have hle : (BitVec.ofInt 8 a &&& BitVec.ofInt 8 b).toNat ≤ b.toNat := by
    rw [BitVec.toNat_and, hb]; exact Nat.and_le_right
  have e : (BitVec.ofInt IntKind.u8.bits a &&& BitVec.ofInt IntKind.u8.bits b).toNat = (BitVec.ofInt 8 a &&& BitVec.ofInt 8 b).toNat := rfl
  rw [e, wrap8 (by omega) (by omega)]
  omega
def RuleOK (r : GRule) : Prop := 0 ≤ r.To ∧ r.To < 2 ∧ 0 ≤ r.Right ∧ r.Right ≤ 63 ∧ r.Print.length ≤ 3
def TabOK (t : GTable) : Prop := t.Rules.length ≤ 10 ∧ ∀ r ∈ t.Rules, RuleOK r
theorem TabOK.short {t : GTable} (h : TabOK t) : Short t := fun r hr => by have := (h.2 r hr).2.2.2.2; omega
def InU (s : GState) : Prop := 0 ≤ s.Mode ∧ s.Mode < 2 ∧ 0 ≤ s.Last ∧ s.Last ≤ 5 ∧ 0 ≤ s.Need ∧ s.Need ≤ 63
def allU : List GState := (List.range 768).map fun i => ⟨(i / 384 : Nat), (i / 64 % 6 : Nat), (i % 64 : Nat)⟩
theorem allU_mem {s : GState} (h : InU s) : s ∈ allU := by
  obtain ⟨h1, h2, h3, h4, h5, h6⟩ := h
  obtain ⟨m, l, d⟩ := s
  simp only at h1 h2 h3 h4 h5 h6
  simp only [allU, List.mem_map, List.mem_range]
  refine ⟨m.toNat * 384 + l.toNat * 64 + d.toNat, by omega, ?_⟩
  have e1 : (m.toNat * 384 + l.toNat * 64 + d.toNat) / 384 = m.toNat := by omega
  have e2 : (m.toNat * 384 + l.toNat * 64 + d.toNat) / 64 % 6 = l.toNat := by omega
  have e3 : (m.toNat * 384 + l.toNat * 64 + d.toNat) % 64 = d.toNat := by omega
  rw [e1, e2, e3]
  congr 1 <;> omega
theorem nodup_le {l m : List GState} (h : l.Nodup) (hs : ∀ x ∈ l, x ∈ m) : l.length ≤ m.length := by
  induction l generalizing m with
  | nil => simp
  | cons a l ih =>
    rw [List.nodup_cons] at h
    have ha := hs a (by simp)
    have hlen : (m.erase a).length = m.length - 1 := List.length_erase_of_mem ha
    have hpos : 0 < m.length := List.length_pos_of_mem ha
    have := ih (m := m.erase a) h.2 fun x hx => by
      have hne : x ≠ a := fun e => h.1 (e ▸ hx)
      exact (List.mem_erase_of_ne hne).2 (hs x (by simp [hx]))
    simp
    omega
theorem bound768 {l : List GState} (h : l.Nodup) (hs : ∀ x ∈ l, InU x) : l.length ≤ 768 := by
  have := nodup_le h fun x hx => allU_mem (hs x hx)
  simpa [allU] using this
theorem step_InU {t : GTable} (ht : TabOK t) {s : GState} (hs : InU s) {k : Int} (h : (stepS t s k).2 = true) : InU (stepS t s k).1 := by
  unfold stepS at h ⊢
  split at h
  · cases h
  · rename_i hk
    rw [if_neg hk]
    simp only [Bool.or_eq_true, decide_eq_true_eq, not_or, Int.not_lt, ge_iff_le, Int.not_le] at hk
    have hmem : (t.Rules[k.toNat]?.getD default) ∈ t.Rules := by
      have : k.toNat < t.Rules.length := by omega
      simp [this]
    have hr := ht.2 _ hmem
    generalize t.Rules[k.toNat]?.getD default = r at hr h ⊢
    obtain ⟨a1, a2, a3, a4, a5⟩ := hr
    obtain ⟨b1, b2, b3, b4, b5, b6⟩ := hs
    unfold stepR at h ⊢
    split at h
    · cases h
    · rename_i h1
      rw [if_neg h1]
      split at h
      · rename_i h2
        rw [if_pos h2]
        split at h
        · cases h
        · rename_i h3
          rw [if_neg h3]
          have := iand_range s.Need r.Right a3 (by omega)
          exact ⟨a1, a2, b3, b4, this.1, by show iand .u8 s.Need r.Right ≤ 63; omega⟩
      · rename_i h2
        rw [if_neg h2]
        split at h
        · cases h
        · rename_i h3
          rw [if_neg h3]
          have := class_range (byteS r.Print (r.Print.length - 1))
          exact ⟨a1, a2, by show 0 ≤ classS _; omega, by show classS _ ≤ 5; omega, a3, a4⟩
def startS : GState := ⟨0, 0, 63⟩
def addS (t : GTable) (s : GState) (st : List GState) (k : Nat) : List GState := if (stepS t s k).2 = true ∧ (stepS t s k).1 ∉ st then st ++ [(stepS t s k).1] else st
def expS (t : GTable) (s : GState) (m : Nat) (st : List GState) : List GState := (List.range m).foldl (addS t s) st
theorem expS_succ (t : GTable) (s : GState) (m : Nat) (st : List GState) : expS t s (m + 1) st = addS t s (expS t s m st) m := by
  simp [expS, List.range_succ]
def bfsS (t : GTable) : Nat → Nat → List GState → List GState
  | 0, _, st => st
  | f + 1, i, st => match st[i]? with
    | some s => bfsS t f (i + 1) (expS t s t.Rules.length st)
    | none => st
def statesS (t : GTable) : List GState := bfsS t 800 0 [startS]
structure Found (t : GTable) (st : List GState) : Prop where
  nodup : st.Nodup
  inU : ∀ s ∈ st, InU s
  first : st[0]? = some startS
  origin : ∀ (j : Nat) (s : GState), st[j]? = some s → 0 < j → ∃ (i : Nat) (s' : GState) (k : Nat), i < j ∧ st[i]? = some s' ∧ k < t.Rules.length ∧ stepS t s' k = (s, true)
theorem Found.len {t : GTable} {st : List GState} (h : Found t st) : st.length ≤ 768 := bound768 h.nodup h.inU
theorem Found.add {t : GTable} (ht : TabOK t) {st : List GState} (h : Found t st) {i : Nat} {s : GState} (hi : st[i]? = some s) {k : Nat} (hk : k < t.Rules.length) : Found t (addS t s st k) := by
  unfold addS
  split
  · rename_i hc
    have hil := getElem?_lt' hi
    refine ⟨?_, fun x hx => ?_, ?_, fun j x hj h0 => ?_⟩
    · rw [List.nodup_append]
      refine ⟨h.nodup, by simp, fun a ha b hb => ?_⟩
      simp at hb
      subst hb
      exact fun e => hc.2 (e ▸ ha)
    · simp only [List.mem_append, List.mem_singleton] at hx
      rcases hx with hx | rfl
      · exact h.inU x hx
      · exact step_InU ht (h.inU s (List.mem_of_getElem? hi)) hc.1
    · rw [List.getElem?_append_left (by omega)]; exact h.first
    · rcases Nat.lt_or_ge j st.length with hlt | hge
      · rw [List.getElem?_append_left hlt] at hj
        obtain ⟨i', s', k', a1, a2, a3, a4⟩ := h.origin j x hj h0
        exact ⟨i', s', k', a1, by rw [List.getElem?_append_left (by omega)]; exact a2, a3, a4⟩
      · rw [List.getElem?_append_right hge] at hj
        have : j - st.length = 0 := by have := getElem?_lt' hj; simp at this; omega
        rw [this] at hj
        simp at hj
        subst hj
        refine ⟨i, s, k, by omega, by rw [List.getElem?_append_left hil]; exact hi, hk, ?_⟩
        exact Prod.ext rfl hc.1
  · exact h
theorem addS_pre (t : GTable) (s : GState) (st : List GState) (k : Nat) : st <+: addS t s st k := by
  unfold addS
  split
  · exact List.prefix_append _ _
  · exact List.prefix_refl _
theorem expS_pre (t : GTable) (s : GState) (st : List GState) : ∀ m, st <+: expS t s m st := by
  intro m
  induction m with
  | zero => exact List.prefix_refl _
  | succ m ih => rw [expS_succ]; exact ih.trans (addS_pre _ _ _ _)
theorem pre_get {α : Type} {l m : List α} (h : l <+: m) {i : Nat} {x : α} (hi : l[i]? = some x) : m[i]? = some x := by
  obtain ⟨r, rfl⟩ := h
  rw [List.getElem?_append_left (getElem?_lt' hi)]; exact hi
theorem Found.exp {t : GTable} (ht : TabOK t) {st : List GState} (h : Found t st) {i : Nat} {s : GState} (hi : st[i]? = some s) : ∀ m, m ≤ t.Rules.length → Found t (expS t s m st) := by
  intro m
  induction m with
  | zero => intro _; exact h
  | succ m ih =>
    intro hm
    rw [expS_succ]
    exact (ih (by omega)).add ht (pre_get (expS_pre t s st m) hi) (by omega)
theorem expS_has (t : GTable) (s : GState) (st : List GState) : ∀ m k : Nat, k < m → (stepS t s k).2 = true → (stepS t s k).1 ∈ expS t s m st := by
  intro m
  induction m with
  | zero => intro k hk; omega
  | succ m ih =>
    intro k hk h
    rw [expS_succ]
    by_cases e : k = m
    · subst e
      unfold addS
      by_cases hc : (stepS t s k).1 ∈ expS t s k st
      · rw [if_neg (fun hh => hh.2 hc)]; exact hc
      · rw [if_pos ⟨h, hc⟩]; simp
    · exact (addS_pre t s _ m).subset (ih k (by omega) h)
def Done (t : GTable) (i : Nat) (st : List GState) : Prop := ∀ (j : Nat) (s : GState), j < i → st[j]? = some s → ∀ k : Nat, k < t.Rules.length → (stepS t s k).2 = true → (stepS t s k).1 ∈ st
theorem bfs_ok {t : GTable} (ht : TabOK t) : ∀ (f i : Nat) (st : List GState), Found t st → Done t i st → 768 < f + i → Found t (bfsS t f i st) ∧ ∀ i', Done t i' (bfsS t f i st) := by
  intro f
  induction f with
  | zero =>
    intro i st h hd hf
    have := h.len
    refine ⟨h, fun i' j s hj hs => ?_⟩
    have hs : st[j]? = some s := hs
    exact hd j s (by have := getElem?_lt' hs; omega) hs
  | succ f ih =>
    intro i st h hd hf
    simp only [bfsS]
    cases hi : st[i]? with
    | none =>
      refine ⟨h, fun i' j s hj hs => ?_⟩
      have hs : st[j]? = some s := hs
      exact hd j s (by have := getElem?_lt' hs; rw [List.getElem?_eq_none_iff] at hi; omega) hs
    | some s =>
      refine ih (i + 1) _ (h.exp ht hi _ (Nat.le_refl _)) (fun j x hj hx k hk hk2 => ?_) (by omega)
      by_cases e : j = i
      · subst e
        have := pre_get (expS_pre t s st t.Rules.length) hi
        rw [this] at hx
        cases hx
        exact expS_has t s st _ k hk hk2
      · have hjl : j < st.length := by have := getElem?_lt' hi; omega
        have hxx : st[j]? = some st[j] := List.getElem?_eq_getElem hjl
        have := pre_get (expS_pre t s st t.Rules.length) hxx
        rw [this] at hx
        cases hx
        exact (expS_pre t s st t.Rules.length).subset (hd j _ (by omega) hxx k hk hk2)
theorem states_ok {t : GTable} (ht : TabOK t) : Found t (statesS t) ∧ ∀ i, Done t i (statesS t) := by
  refine bfs_ok ht 800 0 [startS] ⟨by simp, fun s hs => ?_, rfl, fun j s hj h0 => ?_⟩ (fun j s hj => by omega) (by omega)
  · simp at hs; subst hs; exact ⟨by decide, by decide, by decide, by decide, by decide, by decide⟩
  · cases j with
    | zero => omega
    | succ j => simp at hj
end Go.AI
end
section
namespace Go.AI
theorem Ev.whlR {σ ρ : Type} {body : Nat → σ → Option (σ ⊕ ρ)} {R : ρ → Prop} (I : Nat → σ → Prop) (h : ∀ k x, I k x → (∃ y j, j < k ∧ I j y ∧ Ev (fun n => body n x) (.inl y)) ∨ ∃ r, R r ∧ Ev (fun n => body n x) (.inr r)) : ∀ (k : Nat) (x : σ), I k x → ∃ r, R r ∧ Ev (fun n => Go.AI.whl (body n) n x) r := by
  have key : ∀ (k : Nat) (x : σ), I k x → ∃ r, R r ∧ ∃ N c, ∀ n fuel, N ≤ n → c ≤ fuel → Go.AI.whl (body n) fuel x = some r := by
    intro k
    induction k using Nat.strongRecOn with
    | _ k ih =>
      intro x hx
      rcases h k x hx with ⟨y, j, hj, hy, N1, h1⟩ | ⟨r, hr, N1, h1⟩
      · obtain ⟨r, hr, N2, c, h2⟩ := ih j hj y hy
        refine ⟨r, hr, max N1 N2, c + 1, fun n fuel hn hf => ?_⟩
        cases fuel with
        | zero => omega
        | succ fuel =>
          have e := h1 n (by omega)
          simp only at e
          simp only [Go.AI.whl, e]
          exact h2 n fuel (by omega) (by omega)
      · refine ⟨r, hr, N1, 1, fun n fuel hn hf => ?_⟩
        cases fuel with
        | zero => omega
        | succ fuel =>
          have e := h1 n hn
          simp only at e
          simp only [Go.AI.whl, e]
  intro k x hx
  obtain ⟨r, hr, N, c, hh⟩ := key k x hx
  exact ⟨r, hr, max N c, fun m hm => hh m m (by omega) (by omega)⟩
def NumOK (st : List GState) (nb : List (GState × Int)) : Prop := ∀ s, mget s nb = (st.findIdx? fun x => decide (x = s)).map fun i => (i : Int)
theorem findIdx_some {st : List GState} {s : GState} {i : Nat} (hn : st.Nodup) (h : st[i]? = some s) : (st.findIdx? fun x => decide (x = s)) = some i := by
  have hi := getElem?_lt' h
  rw [List.findIdx?_eq_some_iff_getElem]
  have he : st[i] = s := by rw [List.getElem?_eq_getElem hi] at h; exact Option.some.inj h
  refine ⟨hi, by simpa using he, fun j hj => ?_⟩
  simp only [Bool.not_eq_true, decide_eq_false_iff_not]
  intro e
  have := (List.getElem_inj (i := j) (j := i) (h₀ := by omega) (h₁ := hi) hn).1 (by rw [e, he])
  omega
theorem findIdx_none {st : List GState} {s : GState} (h : s ∉ st) : (st.findIdx? fun x => decide (x = s)) = none := by
  rw [List.findIdx?_eq_none_iff]
  intro y hy
  simp only [decide_eq_false_iff_not]
  exact fun e => h (e ▸ hy)
theorem mget_mput {κ α : Type} [DecidableEq κ] (k k' : κ) (v : α) (m : List (κ × α)) : mget k' (mput k v m) = if k' = k then some v else mget k' m := by
  induction m with
  | nil => simp [mput, mget]
  | cons p m ih =>
    simp only [mput]
    by_cases h : k = p.1
    · rw [if_pos h]
      simp only [mget]
      by_cases h' : k' = k
      · simp [h']
      · have : k' ≠ p.1 := fun e => h' (e.trans h.symm)
        simp [h', this]
    · rw [if_neg h]
      simp only [mget]
      by_cases h' : k' = p.1
      · have : k' ≠ k := fun e => h (e ▸ h')
        rw [if_pos h', if_neg this, if_pos h']
      · rw [if_neg h', if_neg h', ih]
theorem NumOK.snoc {st : List GState} {nb : List (GState × Int)} (h : NumOK st nb) (hn : st.Nodup) {p : GState} (hp : p ∉ st) : NumOK (st ++ [p]) (mput p (st.length : Nat) nb) := by
  intro s
  rw [mget_mput]
  have hnd : (st ++ [p]).Nodup := by
    rw [List.nodup_append]
    exact ⟨hn, by simp, fun a ha b hb => by simp at hb; subst hb; exact fun e => hp (e ▸ ha)⟩
  by_cases e : s = p
  · subst e
    rw [if_pos rfl, findIdx_some hnd (i := st.length) (by simp)]
    rfl
  · rw [if_neg e, h s]
    by_cases hs : s ∈ st
    · obtain ⟨i, hi⟩ := List.mem_iff_getElem?.1 hs
      rw [findIdx_some hn hi, findIdx_some hnd (i := i) (by rw [List.getElem?_append_left (getElem?_lt' hi)]; exact hi)]
    · rw [findIdx_none hs, findIdx_none (by simp [hs, e])]
def Taken (i m j k : Nat) : Prop := j < i ∨ (j = i ∧ k < m)
structure FromOK (t : GTable) (st : List GState) (fr : List (List Int)) (i m : Nat) : Prop where
  len : fr.length = st.length
  cov : ∀ j s k, Taken i m j k → st[j]? = some s → k < t.Rules.length → (stepS t s (k : Nat)).2 = true → (stepS t s (k : Nat)).1 ∈ st
  sound : ∀ (n : Nat) l, fr[n]? = some l → ∀ x ∈ l, ∃ (j : Nat) (s : GState) (k : Nat) (s' : GState), x = (j : Int) ∧ st[j]? = some s ∧ k < t.Rules.length ∧ st[n]? = some s' ∧ stepS t s (k : Nat) = (s', true)
  compl : ∀ (n : Nat) l, fr[n]? = some l → ∀ (j : Nat) (s : GState) (k : Nat) (s' : GState), Taken i m j k → st[j]? = some s → k < t.Rules.length → st[n]? = some s' → stepS t s (k : Nat) = (s', true) → (j : Int) ∈ l
  small : ∀ (n : Nat) l, fr[n]? = some l → l.length ≤ i * 10 + m
theorem FromOK.snoc {t : GTable} {st : List GState} {fr : List (List Int)} {i m : Nat} (h : FromOK t st fr i m) {p : GState} (hp : p ∉ st) (hi : i < st.length) : FromOK t (st ++ [p]) (fr ++ [[]]) i m := by
  have hget : ∀ (j : Nat) s, Taken i m j 0 ∨ j ≤ i → (st ++ [p])[j]? = some s → st[j]? = some s := fun j s hj hs => by
    rcases Nat.lt_or_ge j st.length with hlt | hge
    · rwa [List.getElem?_append_left hlt] at hs
    · rcases hj with (h1 | ⟨h1, _⟩) | h1 <;> omega
  have hle : ∀ {j k}, Taken i m j k → j ≤ i := fun h => by rcases h with h | ⟨h, _⟩ <;> omega
  refine ⟨by simp [h.len], fun j s k ht hs hk h2 => ?_, fun n l hl x hx => ?_, fun n l hl j s k s' ht hs hk hs' he => ?_, fun n l hl => ?_⟩
  · exact List.mem_append_left _ (h.cov j s k ht (hget j s (.inr (hle ht)) hs) hk h2)
  · rcases Nat.lt_or_ge n fr.length with hlt | hge
    · rw [List.getElem?_append_left hlt] at hl
      obtain ⟨j, s, k, s', a1, a2, a3, a4, a5⟩ := h.sound n l hl x hx
      exact ⟨j, s, k, s', a1, by rw [List.getElem?_append_left (getElem?_lt' a2)]; exact a2, a3, by rw [List.getElem?_append_left (getElem?_lt' a4)]; exact a4, a5⟩
    · rw [List.getElem?_append_right hge] at hl
      have : n - fr.length = 0 := by have := getElem?_lt' hl; simp at this; omega
      rw [this] at hl; simp at hl; subst hl; simp at hx
  · have hs0 := hget j s (.inr (hle ht)) hs
    have hmem : s' ∈ st := by have := h.cov j s k ht hs0 hk (by rw [he]); rwa [he] at this
    rcases Nat.lt_or_ge n fr.length with hlt | hge
    · rw [List.getElem?_append_left hlt] at hl
      rw [List.getElem?_append_left (by rw [← h.len]; exact hlt)] at hs'
      exact h.compl n l hl j s k s' ht hs0 hk hs' he
    · have hn : n = st.length := by have := getElem?_lt' hs'; simp at this; rw [h.len] at hge; omega
      subst hn
      simp at hs'
      subst hs'
      exact absurd hmem hp
  · rcases Nat.lt_or_ge n fr.length with hlt | hge
    · rw [List.getElem?_append_left hlt] at hl; exact h.small n l hl
    · rw [List.getElem?_append_right hge] at hl
      have : n - fr.length = 0 := by have := getElem?_lt' hl; simp at this; omega
      rw [this] at hl; simp at hl; subst hl; simp
theorem FromOK.put {t : GTable} {st : List GState} {fr : List (List Int)} {i m : Nat} (h : FromOK t st fr i m) (hnd : st.Nodup) {s p : GState} {q : Nat} {l : List Int} (hs : st[i]? = some s) (hm : m < t.Rules.length) (hst : stepS t s (m : Nat) = (p, true)) (hq : st[q]? = some p) (hl : fr[q]? = some l) : FromOK t st (fr.set q (l ++ [(i : Int)])) i (m + 1) := by
  have htk : ∀ {j k}, Taken i (m + 1) j k → Taken i m j k ∨ (j = i ∧ k = m) := fun {j k} h => by
    unfold Taken at *
    omega
  have hql := getElem?_lt' hl
  refine ⟨by simp [h.len], fun j x k ht hx hk h2 => ?_, fun n l' hl' x hx => ?_, fun n l' hl' j x k x' ht hx hk hx' he => ?_, fun n l' hl' => ?_⟩
  · rcases htk ht with ht | ⟨rfl, rfl⟩
    · exact h.cov j x k ht hx hk h2
    · rw [hs] at hx; cases hx; rw [hst]; exact List.mem_of_getElem? hq
  · by_cases e : n = q
    · subst e
      rw [List.getElem?_set_self hql] at hl'
      cases hl'
      simp only [List.mem_append, List.mem_singleton] at hx
      rcases hx with hx | rfl
      · exact h.sound n l hl x hx
      · exact ⟨i, s, m, p, rfl, hs, hm, hq, hst⟩
    · rw [List.getElem?_set_ne (Ne.symm e)] at hl'; exact h.sound n l' hl' x hx
  · rcases htk ht with ht | ⟨rfl, rfl⟩
    · by_cases e : n = q
      · subst e
        rw [List.getElem?_set_self hql] at hl'
        cases hl'
        exact List.mem_append_left _ (h.compl n l hl j x k x' ht hx hk hx' he)
      · rw [List.getElem?_set_ne (Ne.symm e)] at hl'; exact h.compl n l' hl' j x k x' ht hx hk hx' he
    · rw [hs] at hx; cases hx
      rw [hst] at he; cases he
      have e : n = q := by
        have h1 := getElem?_lt' hx'
        have h2 := getElem?_lt' hq
        rw [List.getElem?_eq_getElem h1] at hx'
        rw [List.getElem?_eq_getElem h2] at hq
        exact (List.getElem_inj (h₀ := h1) (h₁ := h2) hnd).1 ((Option.some.inj hx').trans (Option.some.inj hq).symm)
      subst e
      rw [List.getElem?_set_self hql] at hl'
      cases hl'
      simp
  · by_cases e : n = q
    · subst e
      rw [List.getElem?_set_self hql] at hl'
      cases hl'
      have := h.small n l hl
      simp; omega
    · rw [List.getElem?_set_ne (Ne.symm e)] at hl'
      have := h.small n l' hl'
      omega
theorem FromOK.skip {t : GTable} {st : List GState} {fr : List (List Int)} {i m : Nat} (h : FromOK t st fr i m) {s : GState} (hs : st[i]? = some s) (hst : (stepS t s (m : Nat)).2 = false) : FromOK t st fr i (m + 1) := by
  have htk : ∀ {j k}, Taken i (m + 1) j k → Taken i m j k ∨ (j = i ∧ k = m) := fun {j k} h => by
    unfold Taken at *
    omega
  refine ⟨h.len, fun j x k ht hx hk h2 => ?_, h.sound, fun n l hl j x k x' ht hx hk hx' he => ?_, fun n l hl => by have := h.small n l hl; omega⟩
  · rcases htk ht with ht | ⟨rfl, rfl⟩
    · exact h.cov j x k ht hx hk h2
    · rw [hs] at hx; cases hx; rw [hst] at h2; cases h2
  · rcases htk ht with ht | ⟨rfl, rfl⟩
    · exact h.compl n l hl j x k x' ht hx hk hx' he
    · rw [hs] at hx; cases hx; rw [he] at hst; cases hst
end Go.AI
end
section
namespace Go.AI
theorem idx_nat {α : Type} {l : List α} {i : Nat} {x : α} (h : l[i]? = some x) : idx l (i : Int) = some x := by
  unfold idx
  rw [if_pos (by omega)]
  simpa using h
theorem app_ok {α : Type} {eb : Nat} {xs ys : List α} (h : (xs.length + ys.length) * eb ≤ 70368744177664) : app eb xs ys = some (xs ++ ys) := by
  unfold app; rw [if_pos h]
theorem inner_round {t : GTable} (ht : TabOK t) {i m : Nat} {s : GState} {st : List GState} {fr : List (List Int)} {nb : List (GState × Int)} (hF : Found t st) (hi : st[i]? = some s) (hN : NumOK st nb) (hR : FromOK t st fr i m) (hm : m < t.Rules.length) :
    ∃ fr' nb', NumOK (addS t s st m) nb' ∧ FromOK t (addS t s st m) fr' i (m + 1) ∧ ∀ n, f54_L2 n t (i : Int) st fr nb (m : Int) = some (.inl (addS t s st m, fr', nb', ((m + 1 : Nat) : Int))) := by
  have hil := getElem?_lt' hi
  have hlen := hF.len
  have hrl := ht.1
  have hinc : iadd .i64 (m : Int) 1 = ((m + 1 : Nat) : Int) := by rw [iadd64 (by omega) (by omega)]; rfl
  have hcond : decide ((m : Int) < ((List.length t.Rules : Nat) : Int)) = true := by simpa using hm
  cases hp : (stepS t s (m : Nat)).2 with
  | false =>
    have ha : addS t s st m = st := by unfold addS; rw [if_neg (by rw [hp]; simp)]
    refine ⟨fr, nb, by rw [ha]; exact hN, by rw [ha]; exact hR.skip hi hp, fun n => ?_⟩
    unfold f54_L2
    rw [if_pos hcond, idx_nat hi]
    simp only [Option.bind_some, step_eq ht.short, hp, Bool.not_false, if_true, f54_J1, hinc, ha]
  | true =>
    have hpe : stepS t s (m : Nat) = ((stepS t s (m : Nat)).1, true) := Prod.ext rfl hp
    generalize hpp : (stepS t s (m : Nat)).1 = p at hpe
    by_cases hmem : p ∈ st
    · have ha : addS t s st m = st := by unfold addS; rw [if_neg (by rw [hpp]; exact fun hh => hh.2 hmem)]
      obtain ⟨q, hq⟩ := List.mem_iff_getElem?.1 hmem
      have hql := getElem?_lt' hq
      obtain ⟨lq, hfq⟩ : ∃ lq, fr[q]? = some lq := ⟨_, List.getElem?_eq_getElem (by rw [hR.len]; exact hql)⟩
      have hsm := hR.small q _ hfq
      have hget : mget p nb = some (q : Int) := by rw [hN p, findIdx_some hF.nodup hq]; rfl
      have hiv : i < 768 := by omega
      refine ⟨fr.set q (lq ++ [(i : Int)]), nb, by rw [ha]; exact hN, by rw [ha]; exact hR.put hF.nodup hi hm hpe hq hfq, fun n => ?_⟩
      unfold f54_L2
      rw [if_pos hcond, idx_nat hi]
      simp only [Option.bind_some, step_eq ht.short, hpe, hget, Option.isSome_some, Bool.not_true, Bool.false_eq_true, if_false, Option.getD_some, f54_J2]
      rw [idx_nat hfq]
      simp only [Option.bind_some]
      rw [app_ok (by simp; omega)]
      simp only [Option.bind_some, f54_J1, hinc, ha, Int.toNat_natCast]
    · have ha : addS t s st m = st ++ [p] := by unfold addS; rw [if_pos ⟨hp, by rw [hpp]; exact hmem⟩, hpp]
      have hnd : (st ++ [p]).Nodup := by have := (hF.add ht hi hm).nodup; rwa [ha] at this
      have hget : mget p nb = none := by rw [hN p, findIdx_none hmem]; rfl
      have hR' := hR.snoc hmem hil
      have hfq : (fr ++ [[]])[st.length]? = some ([] : List Int) := by rw [← hR.len]; simp
      refine ⟨(fr ++ [[]]).set st.length ([] ++ [(i : Int)]), mput p (st.length : Nat) nb, by rw [ha]; exact hN.snoc hF.nodup hmem, by rw [ha]; exact hR'.put hnd (by rw [List.getElem?_append_left hil]; exact hi) hm hpe (by simp) hfq, fun n => ?_⟩
      unfold f54_L2
      rw [if_pos hcond, idx_nat hi]
      simp only [Option.bind_some, step_eq ht.short, hpe, hget, Option.isSome_none, Bool.not_false, Bool.not_true, Bool.false_eq_true, if_true, if_false]
      rw [app_ok (by simp; omega), Option.bind_some, app_ok (by simp [hR.len]; omega), Option.bind_some]
      simp only [f54_J2]
      rw [idx_nat hfq]
      simp only [Option.bind_some]
      rw [app_ok (by simp)]
      simp only [Option.bind_some, f54_J1, hinc, ha, Int.toNat_natCast]
theorem FromOK.next {t : GTable} {st : List GState} {fr : List (List Int)} {i : Nat} (h : FromOK t st fr i t.Rules.length) (hr : t.Rules.length ≤ 10) : FromOK t st fr (i + 1) 0 := by
  have htk : ∀ {j k}, k < t.Rules.length → Taken (i + 1) 0 j k → Taken i t.Rules.length j k := fun {j k} hk h => by
    unfold Taken at *
    omega
  exact ⟨h.len, fun j s k ht hs hk => h.cov j s k (htk hk ht) hs hk, h.sound, fun n l hl j s k s' ht hs hk => h.compl n l hl j s k s' (htk hk ht) hs hk, fun n l hl => by have := h.small n l hl; omega⟩
theorem inner_ev {t : GTable} (ht : TabOK t) {i : Nat} {s : GState} {st : List GState} {fr : List (List Int)} {nb : List (GState × Int)} (hF : Found t st) (hi : st[i]? = some s) (hN : NumOK st nb) (hR : FromOK t st fr i 0) :
    ∃ r : List GState × List (List Int) × List (GState × Int), (r.1 = expS t s t.Rules.length st ∧ NumOK r.1 r.2.2 ∧ FromOK t r.1 r.2.1 (i + 1) 0) ∧
      Ev (fun n => whl (fun (x : ((List GState) × (List (List Int)) × (List (GState × Int)) × Int)) => f54_L2 n t (i : Int) x.1 x.2.1 x.2.2.1 x.2.2.2) n (st, fr, nb, 0)) r := by
  refine Ev.whlR (body := fun n x => f54_L2 n t (i : Int) x.1 x.2.1 x.2.2.1 x.2.2.2) (fun k x => ∃ m : Nat, m ≤ t.Rules.length ∧ k = t.Rules.length - m ∧ x.1 = expS t s m st ∧ x.2.2.2 = (m : Int) ∧ NumOK x.1 x.2.2.1 ∧ FromOK t x.1 x.2.1 i m) ?_ t.Rules.length (st, fr, nb, 0) ⟨0, by omega, by omega, rfl, rfl, hN, hR⟩
  rintro k ⟨st', fr', nb', m'⟩ ⟨m, hm, rfl, h1, h2, h3, h4⟩
  simp only at h1 h2 h3 h4
  subst h1
  subst h2
  rcases Nat.lt_or_ge m t.Rules.length with hlt | hge
  · left
    have hi' : (expS t s m st)[i]? = some s := pre_get (expS_pre t s st m) hi
    obtain ⟨fr2, nb2, g1, g2, g3⟩ := inner_round ht (hF.exp ht hi m hm) hi' h3 h4 hlt
    exact ⟨_, t.Rules.length - (m + 1), by omega, ⟨m + 1, hlt, rfl, (expS_succ t s m st).symm, rfl, g1, g2⟩, Ev.all g3⟩
  · right
    have e : m = t.Rules.length := by omega
    subst e
    refine ⟨(expS t s t.Rules.length st, fr', nb'), ⟨rfl, h3, h4.next ht.1⟩, Ev.all fun n => ?_⟩
    unfold f54_L2
    rw [if_neg (by simp)]
theorem explore_ev {t : GTable} (ht : TabOK t) : ∃ fr, FromOK t (statesS t) fr (statesS t).length 0 ∧ Ev (fun n => FAutomaton_explore n t) (statesS t, fr) := by
  have h0 : Found t [startS] := ⟨by simp, fun s hs => by simp at hs; subst hs; exact ⟨by decide, by decide, by decide, by decide, by decide, by decide⟩, rfl, fun j s hj h0 => by cases j with | zero => omega | succ j => simp at hj⟩
  have loop : ∃ r : List GState × List (List Int), (r.1 = statesS t ∧ FromOK t r.1 r.2 r.1.length 0) ∧
      Ev (fun n => whl (fun (x : ((List GState) × (List (List Int)) × (List (GState × Int)) × Int)) => f54_L1 n t x.1 x.2.1 x.2.2.1 x.2.2.2) n ([startS], ([[]] : List (List Int)), (mput startS 0 []), 0)) r := by
    refine Ev.whlR (body := fun n x => f54_L1 n t x.1 x.2.1 x.2.2.1 x.2.2.2) (fun k x => ∃ i : Nat, i ≤ x.1.length ∧ k = 800 - i ∧ bfsS t (800 - i) i x.1 = statesS t ∧ x.2.2.2 = (i : Int) ∧ Found t x.1 ∧ NumOK x.1 x.2.2.1 ∧ FromOK t x.1 x.2.1 i 0) ?_ 800 _ ⟨0, by simp, by omega, rfl, rfl, h0, ?_, ?_⟩
    · rintro k ⟨st, fr, nb, i'⟩ ⟨i, hil, rfl, hb, hi', hF, hN, hR⟩
      simp only at hil hb hi' hF hN hR
      subst hi'
      have hlen := hF.len
      rcases Nat.lt_or_ge i st.length with hlt | hge
      · left
        have hi : st[i]? = some st[i] := List.getElem?_eq_getElem hlt
        obtain ⟨r, ⟨g1, g2, g3⟩, g4⟩ := inner_ev ht hF hi hN hR
        have hexp := hF.exp ht hi _ (Nat.le_refl _)
        refine ⟨(r.1, r.2.1, r.2.2, ((i + 1 : Nat) : Int)), 800 - (i + 1), by omega, ⟨i + 1, ?_, rfl, ?_, rfl, by rw [g1]; exact hexp, g2, g3⟩, ?_⟩
        · simp only [g1]
          have := (expS_pre t st[i] st t.Rules.length).length_le
          omega
        · simp only [g1]
          rw [← hb]
          have e : 800 - i = (800 - (i + 1)) + 1 := by omega
          rw [e]
          simp only [bfsS, hi]
        · refine (Ev.bind g4 (g := fun _ y2 => some (Sum.inl (y2.1, y2.2.1, y2.2.2, ((i + 1 : Nat) : Int)))) Ev.const).congr fun n => ?_
          unfold f54_L1
          rw [if_pos (by simpa using hlt)]
          have hinc : iadd .i64 (i : Int) 1 = ((i + 1 : Nat) : Int) := by rw [iadd64 (by omega) (by omega)]; rfl
          rw [hinc]
      · right
        have e : i = st.length := by omega
        subst e
        have hst : st = statesS t := by
          rw [← hb]
          have e : 800 - st.length = (800 - (st.length + 1)) + 1 := by omega
          rw [e]
          simp [bfsS]
        refine ⟨(st, fr), ⟨hst, hR⟩, Ev.all fun n => ?_⟩
        unfold f54_L1
        rw [if_neg (by simp)]
    · intro s
      simp only [mput, mget]
      by_cases e : s = startS
      · subst e; simp
      · have : ¬ startS = s := fun h => e h.symm
        simp [e, this]
    · refine ⟨rfl, fun j s k ht => ?_, fun n l hl x hx => ?_, fun n l hl j s k s' ht => ?_, fun n l hl => ?_⟩
      · unfold Taken at ht; omega
      · cases n with
        | zero => simp at hl; subst hl; simp at hx
        | succ n => simp at hl
      · unfold Taken at ht; omega
      · cases n with
        | zero => simp at hl; subst hl; simp
        | succ n => simp at hl
  obtain ⟨⟨st, fr⟩, ⟨g1, g2⟩, g3⟩ := loop
  simp only at g1 g2
  subst g1
  refine ⟨fr, g2, ?_⟩
  have hs : ∀ n, FAutomaton_Start n = some startS := fun n => rfl
  refine (Ev.bind g3 (g := fun _ y3 => some (y3.1, y3.2)) Ev.const).congr fun n => ?_
  unfold FAutomaton_explore
  rw [hs, Option.bind_some]
theorem statesA_ev {t : GTable} (ht : TabOK t) : Ev (fun n => FAutomaton_States n t) (statesS t) := by
  obtain ⟨fr, _, h⟩ := explore_ev ht
  exact (Ev.bind h (g := fun _ r => some r.1) Ev.const).congr fun n => rfl
end Go.AI
end
section
namespace Go.AI
def baseT (r : Int) : GTable := (FSixdotref02_Base 0 r).getD default
theorem base_eq (n : Nat) (k : Int) (h0 : 0 ≤ k) : FSixdotref02_Base n k = some (baseT (irem k 8)) ∧ 0 ≤ irem k 8 ∧ irem k 8 < 8 := by
  have e : irem k 8 = k % 8 := by unfold irem; rw [Int.tmod_eq_emod_of_nonneg h0]
  have hr : irem k 8 = 0 ∨ irem k 8 = 1 ∨ irem k 8 = 2 ∨ irem k 8 = 3 ∨ irem k 8 = 4 ∨ irem k 8 = 5 ∨ irem k 8 = 6 ∨ irem k 8 = 7 := by rw [e]; omega
  rcases hr with h | h | h | h | h | h | h | h
  all_goals
    refine ⟨?_, by omega, by omega⟩
    unfold FSixdotref02_Base
    rw [h]
    rfl
def okRuleB (r : GRule) : Bool := decide (0 ≤ r.To) && decide (r.To < 2) && decide (0 ≤ r.Right) && decide (r.Right ≤ 63) && decide (r.Print.length ≤ 3)
theorem okRuleB_ok {r : GRule} (h : okRuleB r = true) : RuleOK r := by
  simp only [okRuleB, Bool.and_eq_true, decide_eq_true_eq] at h
  obtain ⟨⟨⟨⟨h1, h2⟩, h3⟩, h4⟩, h5⟩ := h
  exact ⟨h1, h2, h3, h4, h5⟩
def okBaseB (t : GTable) : Bool := decide (t.Rules.length ≤ 8) && t.Rules.all okRuleB && decide (1 ≤ t.Modes) && decide (t.Modes ≤ 2) && decide (0 < t.Rules.length)
theorem base_ok {r : Int} (h : 0 ≤ r) (h' : r < 8) : okBaseB (baseT r) = true := by
  have hr : r = 0 ∨ r = 1 ∨ r = 2 ∨ r = 3 ∨ r = 4 ∨ r = 5 ∨ r = 6 ∨ r = 7 := by omega
  rcases hr with rfl | rfl | rfl | rfl | rfl | rfl | rfl | rfl
  all_goals rfl
def U8 (n : Int) : Prop := 0 ≤ n ∧ n < 256
def RawOK (x : GRawRule) : Prop := (∀ a ∈ x.P, U8 a) ∧ (∀ a ∈ x.C, U8 a) ∧ U8 x.L ∧ U8 x.R ∧ U8 x.W.a0 ∧ U8 x.W.a1
theorem irem_range {a m : Int} (h : 0 ≤ a) (hm : 0 < m) : 0 ≤ irem a m ∧ irem a m < m := by
  have e : irem a m = a % m := by unfold irem; rw [Int.tmod_eq_emod_of_nonneg h]
  rw [e]
  exact ⟨Int.emod_nonneg _ (by omega), Int.emod_lt_of_pos _ hm⟩
theorem idx_in {α : Type} {l : List α} {i : Int} (h : 0 ≤ i) (h' : i < l.length) : ∃ x, x ∈ l ∧ idx l i = some x := by
  have hl : i.toNat < l.length := by omega
  refine ⟨l[i.toNat], List.getElem_mem hl, ?_⟩
  unfold idx
  rw [if_pos h]
  exact List.getElem?_eq_getElem hl
theorem sub_one {α : Type} {l : List α} {i : Int} (h : 0 ≤ i) (h' : i < l.length) : ∃ z, z.length = 1 ∧ sub l i (i + 1) = some z := by
  refine ⟨(l.take (i + 1).toNat).drop i.toNat, ?_, ?_⟩
  · simp; omega
  · unfold sub
    rw [if_pos (by omega)]
theorem ruleP_ev (x : GRawRule) (hx : ∀ a ∈ x.P, U8 a) (p a b : Int) : ∃ r : List UInt8, r.length ≤ 3 ∧ Ev (fun n => whl (fun (y : ((List UInt8) × Int)) => f37_L1 n x p a b y.1 y.2) n ([], 0)) r := by
  refine Ev.whlR (body := fun n y => f37_L1 n x p a b y.1 y.2) (fun k y => ∃ i : Nat, y.2 = (i : Int) ∧ i ≤ 3 ∧ y.1.length = i ∧ k = 3 - i) ?_ 3 ([], 0) ⟨0, rfl, by omega, rfl, rfl⟩
  rintro k ⟨out, i'⟩ ⟨i, hi, h3, hl, rfl⟩
  simp only at hi hl
  subst hi
  by_cases hc : i < x.P.length ∧ i < 3
  · left
    obtain ⟨c, hcm, hci⟩ := idx_in (l := x.P) (i := (i : Int)) (by omega) (by omega)
    have hu := hx c hcm
    have hr := irem_range (m := 9) hu.1 (by omega)
    have hw : IntKind.i64.wrap (irem c 9) = irem c 9 := wrap64 (by omega) (by omega)
    obtain ⟨z, hz1, hz⟩ := sub_one (l := ([97, 98, 99, 65, 66, 49, 50, 45, 46] : List UInt8)) (i := irem c 9) hr.1 (by simpa using hr.2)
    refine ⟨(out ++ z, ((i + 1 : Nat) : Int)), 3 - (i + 1), by omega, ⟨i + 1, rfl, by omega, by simp [hl, hz1], rfl⟩, Ev.all fun n => ?_⟩
    unfold f37_L1
    rw [if_pos (by simp; omega), hci]
    simp only [Option.bind_some, hw]
    rw [iadd64 (by omega) (by omega), hz]
    simp only [Option.bind_some, cat]
    rw [if_pos (by omega)]
    simp only [Option.bind_some]
    rw [iadd64 (by omega) (by omega)]
    rfl
  · right
    refine ⟨out, by omega, Ev.all fun n => ?_⟩
    unfold f37_L1
    rw [if_neg (by simp; omega)]
theorem ruleC_ev (x : GRawRule) (hx : ∀ a ∈ x.C, U8 a) (p a b : Int) (s : List UInt8) (c0 : Int) : ∃ r : List Int, r.length ≤ 3 ∧ Ev (fun n => whl (fun (y : ((List Int) × Int)) => f37_L2 n x p a b s y.1 y.2) n ([c0], 0)) r := by
  refine Ev.whlR (body := fun n y => f37_L2 n x p a b s y.1 y.2) (fun k y => ∃ i : Nat, y.2 = (i : Int) ∧ i ≤ 2 ∧ y.1.length = i + 1 ∧ k = 2 - i) ?_ 2 ([c0], 0) ⟨0, rfl, by omega, rfl, rfl⟩
  rintro k ⟨out, i'⟩ ⟨i, hi, h3, hl, rfl⟩
  simp only at hi hl
  subst hi
  by_cases hc : i < x.C.length ∧ i < 2
  · left
    obtain ⟨c, hcm, hci⟩ := idx_in (l := x.C) (i := (i : Int)) (by omega) (by omega)
    have hu := hx c hcm
    have hr := irem_range (m := 8) hu.1 (by omega)
    obtain ⟨z, _, hz⟩ := idx_in (l := ([1, 3, 9, 5, 7, 32, 44, 60] : List Int)) (i := irem c 8) hr.1 (by simpa using hr.2)
    refine ⟨(out ++ [z], ((i + 1 : Nat) : Int)), 2 - (i + 1), by omega, ⟨i + 1, rfl, by omega, by simp [hl], rfl⟩, Ev.all fun n => ?_⟩
    unfold f37_L2
    rw [if_pos (by simp; omega), hci]
    simp only [Option.bind_some]
    rw [hz]
    simp only [Option.bind_some]
    rw [app_ok (by simp; omega)]
    simp only [Option.bind_some]
    rw [iadd64 (by omega) (by omega)]
    rfl
  · right
    refine ⟨out, by omega, Ev.all fun n => ?_⟩
    unfold f37_L2
    rw [if_neg (by simp; omega)]
theorem rule_ev {x : GRawRule} (hx : RawOK x) {m : Int} (hm : 1 ≤ m) (hm' : m ≤ 2) : ∃ r, (RuleOK r ∧ r.Cells.length ≤ 3) ∧ Ev (fun n => FSixdotref02_Rule n x m) r := by
  obtain ⟨hP, hC, hL, hR, hW0, hW1⟩ := hx
  have l8 := irem_range (m := 8) hL.1 (by omega)
  have r8 := irem_range (m := 8) hR.1 (by omega)
  obtain ⟨a, ham, ha⟩ := idx_in (l := ([63, 63, 2, 8, 17, 62, 4, 1] : List Int)) (i := irem x.L 8) l8.1 (by simpa using l8.2)
  obtain ⟨b, hbm, hb⟩ := idx_in (l := ([63, 63, 2, 8, 17, 62, 4, 1] : List Int)) (i := irem x.R 8) r8.1 (by simpa using r8.2)
  have hq : 0 ≤ iquo .u8 x.L 8 := by unfold iquo; exact (wrap8_range _).1
  have q8 := irem_range (m := 8) hq (by omega)
  obtain ⟨c, _, hc⟩ := idx_in (l := ([1, 3, 9, 5, 7, 32, 44, 60] : List Int)) (i := irem (iquo .u8 x.L 8) 8) q8.1 (by simpa using q8.2)
  obtain ⟨s, hs, hsE⟩ := ruleP_ev x hP m a b
  obtain ⟨l, hl, hlE⟩ := ruleC_ev x hC m a b s c
  have hw : IntKind.i64.wrap x.W.a1 = x.W.a1 := wrap64 (by have := hW1.1; omega) (by have := hW1.2; omega)
  have hto := irem_range (a := x.W.a1) (m := m) hW1.1 (by omega)
  have hbr : 0 ≤ b ∧ b ≤ 63 := by
    simp at hbm
    omega
  refine ⟨⟨s, l, a, b, irem (IntKind.i64.wrap x.W.a0) m, irem (IntKind.i64.wrap x.W.a1) m⟩, ⟨⟨?_, ?_, hbr.1, hbr.2, hs⟩, hl⟩, ?_⟩
  · show 0 ≤ irem (IntKind.i64.wrap x.W.a1) m
    rw [hw]; exact hto.1
  · show irem (IntKind.i64.wrap x.W.a1) m < 2
    rw [hw]; omega
  · refine (Ev.bind hsE (g := fun n y13 => (idx ([1, 3, 9, 5, 7, 32, 44, 60] : List Int) (irem (iquo .u8 x.L 8) 8)).bind fun x23 => (whl (fun (y : ((List Int) × Int)) => f37_L2 n x m a b y13 y.1 y.2) n ([x23], 0)).bind fun y14 => some (⟨y13, y14, a, b, irem (IntKind.i64.wrap x.W.a0) m, irem (IntKind.i64.wrap x.W.a1) m⟩ : GRule)) ?_).congr fun n => ?_
    · refine (Ev.bind hlE (g := fun n y14 => some (⟨s, y14, a, b, irem (IntKind.i64.wrap x.W.a0) m, irem (IntKind.i64.wrap x.W.a1) m⟩ : GRule)) Ev.const).congr fun n => ?_
      rw [hc, Option.bind_some]
    · unfold FSixdotref02_Rule
      have hg : guardB (!(m == 0)) = some () := by unfold guardB; rw [if_pos (by simp; omega)]
      rw [ha, Option.bind_some, hb, Option.bind_some, hg, Option.bind_some, Option.bind_some]
end Go.AI
end
section
namespace Go.AI
def byteI (b : UInt8) : Int := (b.toNat : Int)
def charS (b : UInt8) : Bool := decide (iand .u8 (byteI b) 127 ≥ 32) && decide (iand .u8 (byteI b) 127 ≤ 126)
def spaceS (b : UInt8) : Bool := iand .u8 (byteI b) 127 == 32
theorem sidx_get {s : List UInt8} {i : Nat} {b : UInt8} (h : s[i]? = some b) : sidx s (i : Int) = some (byteI b) := by
  rw [sidx_eq (getElem?_lt' h)]
  unfold byteS byteI
  rw [h]; rfl
theorem isText_ev {s : List UInt8} (hl : s.length < 9223372036854775807) : Ev (fun n => FSixdotref02_IsText n s) (s.all charS) := by
  have loop : ∃ r : Unit ⊕ (Int × Int), ((r = .inl () ∧ s.all charS = true) ∨ (∃ i, r = .inr (i, 60) ∧ s.all charS = false)) ∧ Ev (fun n => whl (fun x => f56_L1 n s x) n (0 : Int)) r := by
    refine Ev.whlR (body := fun n x => f56_L1 n s x) (fun k x => ∃ i : Nat, x = (i : Int) ∧ i ≤ s.length ∧ k = s.length - i ∧ (s.take i).all charS = true) ?_ s.length 0 ⟨0, rfl, by omega, by omega, by simp⟩
    rintro k x ⟨i, rfl, hi, rfl, hb⟩
    rcases Nat.lt_or_ge i s.length with hlt | hge
    · have hg : s[i]? = some s[i] := List.getElem?_eq_getElem hlt
      have hc : ∀ n, FSixdotref02_Character n (byteI s[i]) = some (charS s[i]) := fun n => rfl
      have hcond : decide ((i : Int) < ((List.length s : Nat) : Int)) = true := by simpa using hlt
      cases hch : charS s[i] with
      | true =>
        left
        refine ⟨((i + 1 : Nat) : Int), s.length - (i + 1), by omega, ⟨i + 1, rfl, by omega, rfl, ?_⟩, Ev.all fun n => ?_⟩
        · rw [List.take_add_one, hg]; simp only [Option.toList_some, List.all_append, hb, List.all_cons, hch, List.all_nil, Bool.and_self]
        · unfold f56_L1
          rw [if_pos hcond, sidx_get hg]
          simp only [Option.bind_some, hc, hch, Bool.not_true, Bool.false_eq_true, if_false]
          rw [iadd64 (by omega) (by omega)]
          rfl
      | false =>
        right
        refine ⟨.inr ((i : Int), 60), .inr ⟨_, rfl, ?_⟩, Ev.all fun n => ?_⟩
        · rw [List.all_eq_false]
          exact ⟨s[i], List.getElem_mem hlt, by simp [hch]⟩
        · unfold f56_L1
          rw [if_pos hcond, sidx_get hg]
          simp only [Option.bind_some, hc, hch, Bool.not_false, if_true]
    · right
      have e : i = s.length := by omega
      subst e
      rw [List.take_length] at hb
      refine ⟨.inl (), .inl ⟨rfl, hb⟩, Ev.all fun n => ?_⟩
      unfold f56_L1
      rw [if_neg (by simp)]
  obtain ⟨r, hr, hE⟩ := loop
  rcases hr with ⟨rfl, h⟩ | ⟨i, rfl, h⟩
  · have : Ev (fun n => FSixdotref02_Text n s) (((List.length s : Nat) : Int), 0) := (Ev.bind hE (g := fun _ y => match y with | Sum.inl _ => some (((List.length s : Nat) : Int), 0) | Sum.inr z => some z) Ev.const).congr fun n => rfl
    rw [h]
    exact (Ev.bind this (g := fun _ r => some (r.2 == 0)) Ev.const).congr fun n => rfl
  · have : Ev (fun n => FSixdotref02_Text n s) (i, 60) := (Ev.bind hE (g := fun _ y => match y with | Sum.inl _ => some (((List.length s : Nat) : Int), 0) | Sum.inr z => some z) Ev.const).congr fun n => rfl
    rw [h]
    exact (Ev.bind this (g := fun _ r => some (r.2 == 0)) Ev.const).congr fun n => rfl
def soundS (r : GRule) (m : Int) : Bool :=
  r.Print.all charS && decide (r.Print.length ≤ 4) && decide (1 ≤ r.Cells.length) && decide (r.Cells.length ≤ 4) &&
  (decide (1 ≤ r.Left) && decide (r.Left ≤ 63) && decide (1 ≤ r.Right) && decide (r.Right ≤ 63) && decide (0 ≤ r.From) && decide (r.From < m) && decide (0 ≤ r.To) && decide (r.To < m)) &&
  r.Cells.all (fun c => decide (c < 63)) &&
  (bif r.Print.any spaceS then decide (r.Print.length = 1) && decide (r.Cells.length = 1) && r.Cells.any (fun c => c == 0) else !r.Cells.any (fun c => c == 0))
theorem sound1_ev {r : GRule} (hl : r.Print.length < 9223372036854775807) : Ev (fun n => whl (fun (x : (Bool × Int)) => f70_L1 n r x.1 x.2) n (false, 0)) (r.Print.any spaceS) := by
  refine Ev.whl (body := fun n x => f70_L1 n r x.1 x.2) (fun k x => ∃ i : Nat, x.2 = (i : Int) ∧ i ≤ r.Print.length ∧ k = r.Print.length - i ∧ x.1 = (r.Print.take i).any spaceS) ?_ r.Print.length (false, 0) ⟨0, rfl, by omega, by omega, by simp⟩
  rintro k ⟨b, i'⟩ ⟨i, h1, hi, rfl, h2⟩
  simp only at h1 h2
  subst h1
  subst h2
  rcases Nat.lt_or_ge i r.Print.length with hlt | hge
  · left
    have hg : r.Print[i]? = some r.Print[i] := List.getElem?_eq_getElem hlt
    have hcond : decide ((i : Int) < ((List.length r.Print : Nat) : Int)) = true := by simpa using hlt
    refine ⟨((r.Print.take (i + 1)).any spaceS, ((i + 1 : Nat) : Int)), r.Print.length - (i + 1), by omega, ⟨i + 1, rfl, by omega, rfl, rfl⟩, Ev.all fun n => ?_⟩
    unfold f70_L1
    rw [if_pos hcond]
    have ht : (r.Print.take (i + 1)).any spaceS = ((r.Print.take i).any spaceS || spaceS r.Print[i]) := by
      rw [List.take_add_one, hg]; simp only [Option.toList_some, List.any_append, List.any_cons, List.any_nil, Bool.or_false]
    have hsp : ∀ n, FSixdotref02_Space n (byteI r.Print[i]) = some (spaceS r.Print[i]) := fun n => rfl
    rw [ht, iadd64 (by omega) (by omega), sidx_get hg]
    cases (r.Print.take i).any spaceS with
    | true => simp
    | false => simp [hsp]
  · right
    have e : i = r.Print.length := by omega
    subst e
    refine Ev.all fun n => ?_
    unfold f70_L1
    rw [if_neg (by simp), List.take_length]
end Go.AI
end
section
namespace Go.AI
theorem Ev.upto {σ ρ : Type} {body : Nat → σ → Option (σ ⊕ ρ)} {R : ρ → Prop} (N : Nat) (I : Nat → σ → Prop)
    (step : ∀ i x, i < N → I i x → (∃ y, I (i + 1) y ∧ Ev (fun n => body n x) (.inl y)) ∨ ∃ r, R r ∧ Ev (fun n => body n x) (.inr r))
    (last : ∀ x, I N x → ∃ r, R r ∧ Ev (fun n => body n x) (.inr r)) (x : σ) (h0 : I 0 x) : ∃ r, R r ∧ Ev (fun n => Go.AI.whl (body n) n x) r := by
  refine Ev.whlR (body := body) (fun k x => ∃ i, i ≤ N ∧ k = N - i ∧ I i x) ?_ N x ⟨0, by omega, by omega, h0⟩
  rintro k x ⟨i, hi, rfl, hx⟩
  rcases Nat.lt_or_ge i N with hlt | hge
  · rcases step i x hlt hx with ⟨y, hy, hE⟩ | h
    · exact .inl ⟨y, N - (i + 1), by omega, ⟨i + 1, by omega, rfl, hy⟩, hE⟩
    · exact .inr h
  · have : i = N := by omega
    subst this
    exact .inr (last x hx)
theorem sound2_ev {r : GRule} (hl : r.Cells.length < 9223372036854775807) (y : Bool) : ∃ z : Bool ⊕ Bool, (if r.Cells.all (fun c => decide (c < 63)) = true then z = .inl (r.Cells.any (fun c => c == 0)) else z = .inr false) ∧ Ev (fun n => whl (fun (x : (Bool × Int)) => f70_L2 n r y x.1 x.2) n (false, 0)) z := by
  refine Ev.upto (body := fun n x => f70_L2 n r y x.1 x.2) r.Cells.length (fun i x => x.2 = (i : Int) ∧ x.1 = (r.Cells.take i).any (fun c => c == 0) ∧ (r.Cells.take i).all (fun c => decide (c < 63)) = true) ?_ ?_ (false, 0) ⟨rfl, by simp, by simp⟩
  · rintro i ⟨b, i'⟩ hlt ⟨h1, h2, h3⟩
    simp only at h1 h2
    subst h1
    subst h2
    have hg : r.Cells[i]? = some r.Cells[i] := List.getElem?_eq_getElem hlt
    have hcond : decide ((i : Int) < ((List.length r.Cells : Nat) : Int)) = true := by simpa using hlt
    by_cases hc : r.Cells[i] < 63
    · left
      refine ⟨((r.Cells.take (i + 1)).any (fun c => c == 0), ((i + 1 : Nat) : Int)), ⟨rfl, rfl, ?_⟩, Ev.all fun n => ?_⟩
      · rw [List.take_add_one, hg]; simp only [Option.toList_some, List.all_append, h3, List.all_cons, decide_eq_true hc, List.all_nil, Bool.and_self]
      · unfold f70_L2
        have ht : (r.Cells.take (i + 1)).any (fun c => c == 0) = ((r.Cells.take i).any (fun c => c == 0) || r.Cells[i] == 0) := by
          rw [List.take_add_one, hg]; simp only [Option.toList_some, List.any_append, List.any_cons, List.any_nil, Bool.or_false]
        rw [if_pos hcond, idx_nat hg, Option.bind_some, if_neg (by simpa using hc), ht, iadd64 (by omega) (by omega)]
        cases (r.Cells.take i).any (fun c => c == 0) with
        | true => simp
        | false => simp
    · right
      refine ⟨.inr false, ?_, Ev.all fun n => ?_⟩
      · rw [if_neg]
        intro h
        rw [List.all_eq_true] at h
        exact hc (by simpa using h r.Cells[i] (List.getElem_mem hlt))
      · unfold f70_L2
        rw [if_pos hcond, idx_nat hg, Option.bind_some, if_pos (by simp; omega)]
  · rintro ⟨b, i'⟩ ⟨h1, h2, h3⟩
    simp only at h1 h2
    subst h1
    subst h2
    rw [List.take_length] at h3 ⊢
    refine ⟨.inl (r.Cells.any (fun c => c == 0)), by rw [if_pos h3], Ev.all fun n => ?_⟩
    unfold f70_L2
    rw [if_neg (by simp)]
theorem sound_ev {r : GRule} (hp : r.Print.length < 9223372036854775807) (hc : r.Cells.length < 9223372036854775807) (m : Int) : Ev (fun n => FSixdotref02_Sound n r m) (soundS r m) := by
  obtain ⟨z, hz, hE⟩ := sound2_ev hc (r.Print.any spaceS)
  have h1 := isText_ev hp
  have h2 := sound1_ev (r := r) hp
  unfold FSixdotref02_Sound
  refine Ev.bind h1 ?_
  unfold soundS
  generalize r.Print.all charS = a
  by_cases g1 : ((((!a) || (decide (((List.length r.Print : Nat) : Int) > 4))) || (decide (((List.length r.Cells : Nat) : Int) < 1))) || (decide (((List.length r.Cells : Nat) : Int) > 4))) = true
  · simp only [g1, if_true]
    have : (a && decide (r.Print.length ≤ 4) && decide (1 ≤ r.Cells.length) && decide (r.Cells.length ≤ 4)) = false := by
      rw [← Bool.not_eq_true]
      intro h
      simp only [Bool.and_eq_true, decide_eq_true_eq] at h
      simp only [Bool.or_eq_true, decide_eq_true_eq, Bool.not_eq_true'] at g1
      rcases g1 with ((g | g) | g) | g
      · rw [g] at h; simp at h
      all_goals omega
    rw [this]
    exact Ev.const
  · simp only [g1]
    by_cases g2 : ((((((((decide (r.Left < 1)) || (decide (r.Left > 63))) || (decide (r.Right < 1))) || (decide (r.Right > 63))) || (decide (r.From < 0))) || (decide (r.From ≥ m))) || (decide (r.To < 0))) || (decide (r.To ≥ m))) = true
    · simp only [g2, if_true]
      have : (decide (1 ≤ r.Left) && decide (r.Left ≤ 63) && decide (1 ≤ r.Right) && decide (r.Right ≤ 63) && decide (0 ≤ r.From) && decide (r.From < m) && decide (0 ≤ r.To) && decide (r.To < m)) = false := by
        rw [← Bool.not_eq_true]
        intro h
        simp only [Bool.and_eq_true, decide_eq_true_eq] at h
        simp only [Bool.or_eq_true, decide_eq_true_eq] at g2
        omega
      rw [this, Bool.and_false]
      exact Ev.const
    · have e1 : (a && decide (r.Print.length ≤ 4) && decide (1 ≤ r.Cells.length) && decide (r.Cells.length ≤ 4)) = true := by
        simp only [Bool.or_eq_true, decide_eq_true_eq, Bool.not_eq_true', not_or] at g1
        simp only [Bool.and_eq_true, decide_eq_true_eq]
        refine ⟨⟨⟨by simpa using g1.1.1.1, ?_⟩, ?_⟩, ?_⟩ <;> omega
      have e2 : (decide (1 ≤ r.Left) && decide (r.Left ≤ 63) && decide (1 ≤ r.Right) && decide (r.Right ≤ 63) && decide (0 ≤ r.From) && decide (r.From < m) && decide (0 ≤ r.To) && decide (r.To < m)) = true := by
        simp only [Bool.or_eq_true, decide_eq_true_eq, not_or] at g2
        simp only [Bool.and_eq_true, decide_eq_true_eq]
        omega
      rw [e1, e2]
      simp only [g2, Bool.false_eq_true, if_false]
      refine Ev.bind h2 (Ev.bind hE ?_)
      split at hz
      · rename_i h
        subst hz
        rw [h]
        generalize r.Print.any spaceS = b
        cases b with
        | false => exact Ev.const
        | true =>
          refine Ev.all fun n => ?_
          simp only [Bool.not_true, Bool.false_eq_true, if_false, Bool.and_true, Bool.true_and, cond_true]
          congr 3 <;> rw [Bool.eq_iff_iff] <;> simp <;> omega
      · rename_i h
        subst hz
        rw [Bool.not_eq_true] at h
        rw [h]
        exact Ev.const
theorem sameCells_ev (a b : List Int) (ha : a.length < 9223372036854775807) : ∃ z, True ∧ Ev (fun n => FSixdotref02_SameCells n a b) z := by
  unfold FSixdotref02_SameCells
  by_cases h : (((List.length a : Nat) : Int) != ((List.length b : Nat) : Int)) = true
  · simp only [h, if_true]; exact ⟨false, trivial, Ev.const⟩
  · have hl : a.length = b.length := by
      have : ((List.length a : Nat) : Int) = ((List.length b : Nat) : Int) := by simpa using h
      omega
    simp only [h]
    have loop : ∃ r : Unit ⊕ Bool, True ∧ Ev (fun n => whl (fun x => f49_L1 n a b x) n (0 : Int)) r := by
      refine Ev.upto (body := fun n x => f49_L1 n a b x) a.length (fun i x => x = (i : Int)) ?_ ?_ 0 rfl
      · rintro i x hlt rfl
        have hg : a[i]? = some a[i] := List.getElem?_eq_getElem hlt
        have hlb : i < b.length := by omega
        have hg' : b[i]? = some b[i] := List.getElem?_eq_getElem hlb
        have hcond : decide ((i : Int) < ((List.length a : Nat) : Int)) = true := by simpa using hlt
        by_cases hc : (a[i] != b[i]) = true
        · right
          refine ⟨.inr false, trivial, Ev.all fun n => ?_⟩
          unfold f49_L1
          rw [if_pos hcond, idx_nat hg, idx_nat hg', Option.bind_some, Option.bind_some, if_pos hc]
        · left
          refine ⟨((i + 1 : Nat) : Int), rfl, Ev.all fun n => ?_⟩
          unfold f49_L1
          rw [if_pos hcond, idx_nat hg, idx_nat hg', Option.bind_some, Option.bind_some, if_neg hc, iadd64 (by omega) (by omega)]
          rfl
      · rintro x rfl
        refine ⟨.inl (), trivial, Ev.all fun n => ?_⟩
        unfold f49_L1
        rw [if_neg (by simp)]
    obtain ⟨z, -, hz⟩ := loop
    cases z with
    | inl z => exact ⟨true, trivial, Ev.bind hz Ev.const⟩
    | inr z => exact ⟨z, trivial, Ev.bind hz Ev.const⟩
theorem sameRule_ev (a b : GRule) (ha : a.Cells.length < 9223372036854775807) : ∃ z, True ∧ Ev (fun n => FSixdotref02_SameRule n a b) z := by
  obtain ⟨z, -, hz⟩ := sameCells_ev a.Cells b.Cells ha
  unfold FSixdotref02_SameRule
  by_cases h : (a.Print == b.Print) = true
  · simp only [h, if_true]
    exact ⟨_, trivial, Ev.bind hz Ev.const⟩
  · simp only [h]
    exact ⟨_, trivial, Ev.all fun n => rfl⟩
end Go.AI
end
section
namespace Go.AI
def SmallR (r : GRule) : Prop := r.Print.length < 9223372036854775807 ∧ r.Cells.length < 9223372036854775807
theorem check2_ev (t : GTable) (i : Nat) (hi : i < t.Rules.length) (hl : t.Rules.length < 9223372036854775807) (hs : ∀ r ∈ t.Rules, SmallR r) : ∃ z : Unit ⊕ (Int × Int), (∀ p, z = .inr p → p.2 = 20) ∧ Ev (fun n => whl (fun (x : Int) => f57_L2 n t (i : Int) x) n 0) z := by
  refine Ev.upto (body := fun n x => f57_L2 n t (i : Int) x) i (fun k x => x = (k : Int)) ?_ ?_ 0 rfl
  · rintro k x hlt rfl
    have hg : t.Rules[k]? = some t.Rules[k] := List.getElem?_eq_getElem (by omega)
    have hg' : t.Rules[i]? = some t.Rules[i] := List.getElem?_eq_getElem hi
    have hcond : decide ((k : Int) < (i : Int)) = true := by simpa using hlt
    obtain ⟨z, -, hz⟩ := sameRule_ev t.Rules[k] t.Rules[i] (hs _ (List.getElem_mem _)).2
    cases z with
    | true =>
      right
      refine ⟨.inr (i, 20), (by rintro p h; cases h; rfl), ?_⟩
      unfold f57_L2
      simp only [hcond, if_true, idx_nat hg, idx_nat hg', Option.bind_some]
      exact Ev.bind hz Ev.const
    | false =>
      left
      refine ⟨((k + 1 : Nat) : Int), rfl, ?_⟩
      unfold f57_L2
      simp only [hcond, if_true, idx_nat hg, idx_nat hg', Option.bind_some]
      refine Ev.bind hz (Ev.all fun n => ?_)
      rw [if_neg (by simp), iadd64 (by omega) (by omega)]
      rfl
  · rintro x rfl
    refine ⟨.inl (), (by rintro p h; cases h), Ev.all fun n => ?_⟩
    unfold f57_L2
    rw [if_neg (by simp)]
theorem check1_ev (t : GTable) (hl : t.Rules.length < 9223372036854775807) (hs : ∀ r ∈ t.Rules, SmallR r) : ∃ z : Unit ⊕ (Int × Int), ((z = .inl () ∧ ∀ r ∈ t.Rules, soundS r t.Modes = true) ∨ (∃ p, z = .inr p ∧ p.2 = 20)) ∧ Ev (fun n => whl (fun (x : Int) => f57_L1 n t x) n 0) z := by
  refine Ev.upto (body := fun n x => f57_L1 n t x) t.Rules.length (fun k x => x = (k : Int) ∧ ∀ r ∈ t.Rules.take k, soundS r t.Modes = true) ?_ ?_ 0 ⟨rfl, by simp⟩
  · rintro k x hlt ⟨rfl, hb⟩
    have hg : t.Rules[k]? = some t.Rules[k] := List.getElem?_eq_getElem (by omega)
    have hcond : decide ((k : Int) < ((List.length t.Rules : Nat) : Int)) = true := by simpa using hlt
    have hE := sound_ev (hs _ (List.getElem_mem hlt)).1 (hs _ (List.getElem_mem hlt)).2 t.Modes
    cases hz : soundS t.Rules[k] t.Modes with
    | false =>
      rw [hz] at hE
      right
      refine ⟨.inr (k, 20), .inr ⟨_, rfl, rfl⟩, ?_⟩
      unfold f57_L1
      simp only [hcond, if_true, idx_nat hg, Option.bind_some]
      exact Ev.bind hE Ev.const
    | true =>
      rw [hz] at hE
      obtain ⟨z, h2, hE2⟩ := check2_ev t k hlt hl hs
      cases z with
      | inl z =>
        left
        refine ⟨((k + 1 : Nat) : Int), ⟨rfl, ?_⟩, ?_⟩
        · intro r hr
          rw [List.take_add_one, hg] at hr
          simp only [Option.toList_some, List.mem_append, List.mem_singleton] at hr
          rcases hr with hr | hr
          · exact hb r hr
          · rw [hr]; exact hz
        · unfold f57_L1
          simp only [hcond, if_true, idx_nat hg, Option.bind_some]
          refine Ev.bind hE ?_
          simp only [Bool.not_true, Bool.false_eq_true, if_false]
          refine Ev.bind hE2 (Ev.all fun n => ?_)
          simp only
          rw [iadd64 (by omega) (by omega)]
          rfl
      | inr z =>
        right
        refine ⟨.inr z, .inr ⟨z, rfl, h2 z rfl⟩, ?_⟩
        unfold f57_L1
        simp only [hcond, if_true, idx_nat hg, Option.bind_some]
        refine Ev.bind hE ?_
        simp only [Bool.not_true, Bool.false_eq_true, if_false]
        exact Ev.bind hE2 Ev.const
  · rintro x ⟨rfl, hb⟩
    rw [List.take_length] at hb
    refine ⟨.inl (), .inl ⟨rfl, hb⟩, Ev.all fun n => ?_⟩
    unfold f57_L1
    rw [if_neg (by simp)]
theorem valid_ev (t : GTable) (hl : t.Rules.length < 9223372036854775807) (hs : ∀ r ∈ t.Rules, SmallR r) : ∃ b : Bool, (b = true → ∀ r ∈ t.Rules, soundS r t.Modes = true) ∧ Ev (fun n => FSixdotref02_Valid n t) b := by
  obtain ⟨z, hz, hE⟩ := check1_ev t hl hs
  have hg : ((if (!(((decide (t.Modes < 1)) || (decide (t.Modes > 8))) || (t.Accept == 0))) = true then guardB (decide (0 ≤ t.Modes)) else some default) : Option Unit) = some () := by
    split
    · rename_i h
      simp only [Bool.not_eq_true', Bool.or_eq_false_iff, decide_eq_false_iff_not] at h
      unfold guardB
      rw [if_pos (by simp; omega)]
    · rfl
  unfold FSixdotref02_Valid FSixdotref02_Check
  simp only [hg, Option.bind_some]
  by_cases hc : ((((((decide (t.Modes < 1)) || (decide (t.Modes > 8))) || (t.Accept == 0)) || (decide (IntKind.i64.wrap t.Accept ≥ ishl .i64 1 t.Modes))) || (decide (((List.length t.Rules : Nat) : Int) < 1))) || (decide (((List.length t.Rules : Nat) : Int) > 64))) = true
  · simp only [hc, if_true]
    exact ⟨false, by simp, Ev.all fun n => rfl⟩
  · simp only [hc, Bool.false_eq_true, if_false]
    rcases hz with ⟨rfl, h⟩ | ⟨p, rfl, h⟩
    · exact ⟨true, fun _ => h, Ev.bind (Ev.bind hE Ev.const) (Ev.all fun n => rfl)⟩
    · refine ⟨false, by simp, Ev.bind (Ev.bind hE Ev.const) (Ev.all fun n => ?_)⟩
      simp only [h]; rfl
def RawTabOK (x : GRaw) : Prop := 0 ≤ x.Base ∧ ∀ r ∈ x.More, RawOK r
structure MadeOK (t : GTable) : Prop where
  tab : TabOK t
  lo : 1 ≤ t.Modes
  hi : t.Modes ≤ 2
  sound : ∀ r ∈ t.Rules, soundS r t.Modes = true
def okSoundB (t : GTable) : Bool := t.Rules.all fun r => soundS r t.Modes && decide (r.Cells.length ≤ 4)
theorem base_sound {r : Int} (h : 0 ≤ r) (h' : r < 8) : okSoundB (baseT r) = true := by
  have : ∀ k : Nat, k < 8 → okSoundB (baseT (k : Int)) = true := by decide +kernel
  have e := this r.toNat (by omega)
  rwa [Int.toNat_of_nonneg h] at e
theorem RuleOK.small {r : GRule} (h : RuleOK r) (hc : r.Cells.length ≤ 4) : SmallR r := ⟨by have := h.2.2.2.2; omega, by omega⟩
theorem made1_ev (x : GRaw) (b : GTable) (hb : b.Rules.length ≤ 8) : ∃ l : List GRule, (l.length ≤ 8 ∧ ∀ r ∈ l, r ∈ b.Rules) ∧ Ev (fun n => whl (fun (y : ((List GRule) × Int)) => f16_L1 n x b y.1 y.2) n (([] : List GRule), 0)) l := by
  refine Ev.upto (body := fun n y => f16_L1 n x b y.1 y.2) b.Rules.length (fun i y => y.2 = (i : Int) ∧ y.1.length ≤ i ∧ ∀ r ∈ y.1, r ∈ b.Rules) ?_ ?_ ([], 0) ⟨rfl, by simp, by simp⟩
  · rintro i ⟨l, i'⟩ hlt ⟨h1, h2, h3⟩
    simp only at h1 h2 h3
    subst h1
    left
    have hg : b.Rules[i]? = some b.Rules[i] := List.getElem?_eq_getElem hlt
    have hcond : decide ((i : Int) < ((List.length b.Rules : Nat) : Int)) = true := by simpa using hlt
    have hu : guardB (decide (0 ≤ (i : Int))) = some () := by unfold guardB; rw [if_pos (by simp)]
    by_cases hd : ((iand .u8 (ishr .u8 x.Drop i) 1) == 0) = true
    · refine ⟨(l ++ [b.Rules[i]], ((i + 1 : Nat) : Int)), ⟨rfl, by simp; omega, ?_⟩, Ev.all fun n => ?_⟩
      · intro r hr
        simp only [List.mem_append, List.mem_singleton] at hr
        rcases hr with hr | rfl
        · exact h3 r hr
        · exact List.getElem_mem hlt
      · unfold f16_L1 f16_J1
        rw [if_pos hcond, hu, Option.bind_some, if_pos hd, idx_nat hg, Option.bind_some, app_ok (by simp; omega), Option.bind_some, iadd64 (by omega) (by omega)]
        rfl
    · refine ⟨(l, ((i + 1 : Nat) : Int)), ⟨rfl, by simp; omega, h3⟩, Ev.all fun n => ?_⟩
      unfold f16_L1 f16_J1
      rw [if_pos hcond, hu, Option.bind_some, if_neg hd, iadd64 (by omega) (by omega)]
      rfl
  · rintro ⟨l, i'⟩ ⟨h1, h2, h3⟩
    simp only at h1 h2 h3
    subst h1
    refine ⟨l, ⟨by omega, h3⟩, Ev.all fun n => ?_⟩
    unfold f16_L1
    rw [if_neg (by simp)]
def GoodR (m : Int) (r : GRule) : Prop := RuleOK r ∧ r.Cells.length ≤ 4 ∧ soundS r m = true
theorem made2_ev (x : GRaw) (hx : ∀ r ∈ x.More, RawOK r) (b : GTable) (hlo : 1 ≤ b.Modes) (hhi : b.Modes ≤ 2) (l0 : List GRule) (hl0 : l0.length ≤ 8) (hg0 : ∀ r ∈ l0, GoodR b.Modes r) : ∃ l : List GRule, (l.length ≤ 10 ∧ ∀ r ∈ l, GoodR b.Modes r) ∧ Ev (fun n => whl (fun (y : ((List GRule) × Int)) => f16_L2 n x b y.1 y.2) n (l0, 0)) l := by
  have last : ∀ (i : Nat) (l : List GRule), i ≤ 2 → (i = x.More.length ∨ i = 2) → ∀ n, f16_L2 n x b l (i : Int) = some (.inr l) := by
    intro i l hi2 h n
    unfold f16_L2
    rw [if_neg]
    simp only [Bool.and_eq_true, decide_eq_true_eq]
    omega
  refine Ev.upto (body := fun n y => f16_L2 n x b y.1 y.2) (min x.More.length 2) (fun i y => y.2 = (i : Int) ∧ y.1.length ≤ 8 + i ∧ ∀ r ∈ y.1, GoodR b.Modes r) ?_ ?_ (l0, 0) ⟨rfl, by simpa using hl0, hg0⟩
  · rintro i ⟨l, i'⟩ hlt ⟨h1, h2, h3⟩
    simp only at h1 h2 h3
    subst h1
    left
    have hlt' : i < x.More.length := by omega
    have hg : x.More[i]? = some x.More[i] := List.getElem?_eq_getElem hlt'
    have hcond : ((decide ((i : Int) < ((List.length x.More : Nat) : Int))) && (decide ((i : Int) < 2))) = true := by
      simp only [Bool.and_eq_true, decide_eq_true_eq]; omega
    obtain ⟨r, ⟨hr1, hr2⟩, hE⟩ := rule_ev (hx _ (List.getElem_mem hlt')) hlo hhi
    obtain ⟨v, hv, hE2⟩ := valid_ev ({ Modes := b.Modes, Accept := b.Accept, Rules := l ++ [r] } : GTable) (by simp; omega) (by
      intro q hq
      simp only [List.mem_append, List.mem_singleton] at hq
      rcases hq with hq | rfl
      · exact (h3 q hq).1.small (h3 q hq).2.1
      · exact hr1.small (by omega))
    have happ : app 64 l [r] = some (l ++ [r]) := app_ok (by simp; omega)
    cases v with
    | false =>
      refine ⟨(l, ((i + 1 : Nat) : Int)), ⟨rfl, by simp; omega, h3⟩, ?_⟩
      unfold f16_L2 f16_J2
      simp only [hcond, if_true, idx_nat hg, Option.bind_some]
      refine Ev.bind hE ?_
      simp only [happ, Option.bind_some]
      refine Ev.bind hE2 (Ev.all fun n => ?_)
      have e : isub .i64 ((List.length (l ++ [r]) : Nat) : Int) 1 = (l.length : Nat) := by
        rw [isub64 (by simp <;> omega) (by simp <;> omega)]; simp
      simp only [Bool.not_false, if_true, e]
      have e2 : sub (l ++ [r]) 0 ((l.length : Nat) : Int) = some l := by
        unfold sub
        rw [if_pos (by simp; omega)]
        simp
      rw [e2, Option.bind_some, iadd64 (by omega) (by omega)]
      rfl
    | true =>
      refine ⟨(l ++ [r], ((i + 1 : Nat) : Int)), ⟨rfl, by simp; omega, ?_⟩, ?_⟩
      · intro q hq
        have hq' := hq
        simp only [List.mem_append, List.mem_singleton] at hq
        rcases hq with hq | rfl
        · exact h3 q hq
        · exact ⟨hr1, by omega, hv rfl q hq'⟩
      · unfold f16_L2 f16_J2
        simp only [hcond, if_true, idx_nat hg, Option.bind_some]
        refine Ev.bind hE ?_
        simp only [happ, Option.bind_some]
        refine Ev.bind hE2 (Ev.all fun n => ?_)
        simp only [Bool.not_true, Bool.false_eq_true, if_false]
        rw [iadd64 (by omega) (by omega)]
        rfl
  · rintro ⟨l, i'⟩ ⟨h1, h2, h3⟩
    simp only at h1 h2 h3
    subst h1
    exact ⟨l, ⟨by omega, h3⟩, Ev.all fun n => last _ l (by omega) (by omega) n⟩
theorem made_ev {x : GRaw} (hx : RawTabOK x) : ∃ t, MadeOK t ∧ Ev (fun n => FSixdotref02_Made n x) t := by
  obtain ⟨hb0, hb1, hb2⟩ := base_eq 0 x.Base hx.1
  have hb : ∀ n, FSixdotref02_Base n x.Base = some (baseT (irem x.Base 8)) := fun n => (base_eq n x.Base hx.1).1
  have hok := base_ok hb1 hb2
  have hso := base_sound hb1 hb2
  generalize baseT (irem x.Base 8) = b at *
  unfold okBaseB at hok
  simp only [Bool.and_eq_true, decide_eq_true_eq, List.all_eq_true] at hok
  unfold okSoundB at hso
  simp only [Bool.and_eq_true, decide_eq_true_eq, List.all_eq_true] at hso
  obtain ⟨⟨⟨⟨o1, o2⟩, o3⟩, o4⟩, o5⟩ := hok
  have gb : ∀ r ∈ b.Rules, GoodR b.Modes r := fun r hr => ⟨okRuleB_ok (o2 r hr), (hso r hr).2, (hso r hr).1⟩
  obtain ⟨l1, ⟨a1, a2⟩, hE1⟩ := made1_ev x b o1
  obtain ⟨l2, ⟨b1, b2⟩, hE2⟩ := made2_ev x hx.2 b o3 o4 l1 a1 (fun r hr => gb r (a2 r hr))
  by_cases h : (((List.length l2 : Nat) : Int) == 0) = true
  · refine ⟨b, ⟨⟨by omega, fun r hr => (gb r hr).1⟩, o3, o4, fun r hr => (gb r hr).2.2⟩, ?_⟩
    unfold FSixdotref02_Made f16_J3
    simp only [hb, Option.bind_some]
    refine Ev.bind hE1 (Ev.bind hE2 ?_)
    simp only [h, if_true]
    exact Ev.const
  · refine ⟨{ Modes := b.Modes, Accept := b.Accept, Rules := l2 }, ⟨⟨b1, fun r hr => (b2 r hr).1⟩, o3, o4, fun r hr => (b2 r hr).2.2⟩, ?_⟩
    unfold FSixdotref02_Made f16_J3
    simp only [hb, Option.bind_some]
    refine Ev.bind hE1 (Ev.bind hE2 ?_)
    simp only [h, Bool.false_eq_true, if_false]
    exact Ev.const
end Go.AI
end
section
namespace Go.AI
theorem sanity_ev : Ev (fun n => FSixdotlaw03_sanity n) true := Ev.of (fun n m h => FSixdotlaw03_sanity_le h) (n := 40) (by kernel_rfl)
theorem indexS_get {st : List GState} (hn : st.Nodup) {i : Nat} {s : GState} (h : st[i]? = some s) : indexS st s = (i : Int) := by
  unfold indexS
  rw [findIdx_some hn h]
theorem get_inj {st : List GState} (hn : st.Nodup) {i j : Nat} {s : GState} (h : st[i]? = some s) (h' : st[j]? = some s) : i = j := by
  have a := findIdx_some hn h
  rw [findIdx_some hn h'] at a
  cases a; rfl
theorem states1_ev {t : GTable} {st : List GState} (hF : Found t st) (b : Bool) : ∃ z : List Bool ⊕ Bool, (∃ l, z = .inl l ∧ l.length = st.length ∧ l[0]? = some true) ∧ Ev (fun n => whl (fun (x : ((List Bool) × Int)) => f6_L1 n b t st x.1 x.2) n (([] : List Bool), 0)) z := by
  have hlen := hF.len
  refine Ev.upto (body := fun n x => f6_L1 n b t st x.1 x.2) st.length (fun i x => x.2 = (i : Int) ∧ x.1.length = i ∧ (0 < i → x.1[0]? = some true)) ?_ ?_ ([], 0) ⟨rfl, rfl, by omega⟩
  · rintro i ⟨l, i'⟩ hlt ⟨h1, h2, h3⟩
    simp only at h1 h2 h3
    subst h1
    left
    have hg : st[i]? = some st[i] := List.getElem?_eq_getElem hlt
    have hcond : decide ((i : Int) < ((List.length st : Nat) : Int)) = true := by simpa using hlt
    have hI := index_ev (l := st) (s := st[i]) (by omega)
    rw [indexS_get hF.nodup hg] at hI
    refine ⟨(l ++ [((i : Int) == 0)], ((i + 1 : Nat) : Int)), ⟨rfl, by simp [h2], ?_⟩, ?_⟩
    · intro _
      cases i with
      | zero => cases l with
        | nil => rfl
        | cons a l => simp at h2
      | succ i =>
        rw [List.getElem?_append_left (by omega)]
        exact h3 (by omega)
    · unfold f6_L1
      simp only [hcond, if_true, idx_nat hg, Option.bind_some]
      refine Ev.bind hI (Ev.all fun n => ?_)
      rw [if_neg (by simp), app_ok (by simp; omega), Option.bind_some, iadd64 (by omega) (by omega)]
      rfl
  · rintro ⟨l, i'⟩ ⟨h1, h2, h3⟩
    simp only at h1 h2 h3
    subst h1
    refine ⟨.inl l, ⟨l, rfl, h2, h3 ?_⟩, Ev.all fun n => ?_⟩
    · exact getElem?_lt' hF.first
    · unfold f6_L1
      rw [if_neg (by simp)]
def Reached (t : GTable) (st : List GState) (i m j : Nat) : Prop := j = 0 ∨ ∃ (i' : Nat) (s' s : GState) (k : Nat), (i' < i ∨ (i' = i ∧ k < m)) ∧ i' < j ∧ st[i']? = some s' ∧ k < t.Rules.length ∧ st[j]? = some s ∧ stepS t s' k = (s, true)
def ReachedL (t : GTable) (st : List GState) (i m : Nat) (l : List Bool) : Prop := l.length = st.length ∧ ∀ j, j < st.length → Reached t st i m j → l[j]? = some true
theorem states3_ev {t : GTable} (ht : TabOK t) {st : List GState} (hF : Found t st) (hD : ∀ i, Done t i st) (b : Bool) {i : Nat} {s : GState} (hi : st[i]? = some s) (l0 : List Bool) (h0 : ReachedL t st i 0 l0) : ∃ z : List Bool ⊕ Bool, (∃ l, z = .inl l ∧ ReachedL t st i t.Rules.length l) ∧ Ev (fun n => whl (fun (x : ((List Bool) × Int)) => f6_L3 n b t st (i : Int) x.1 x.2) n (l0, 0)) z := by
  have hlen := hF.len
  have hr := ht.1
  have hilt := getElem?_lt' hi
  refine Ev.upto (body := fun n x => f6_L3 n b t st (i : Int) x.1 x.2) t.Rules.length (fun k x => x.2 = (k : Int) ∧ ReachedL t st i k x.1) ?_ ?_ (l0, 0) ⟨rfl, h0⟩
  · rintro k ⟨l, k'⟩ hlt ⟨h1, h2⟩
    simp only at h1 h2
    subst h1
    left
    have hcond : decide ((k : Int) < ((List.length t.Rules : Nat) : Int)) = true := by simpa using hlt
    obtain ⟨p, ok, hst⟩ : ∃ p ok, stepS t s (k : Int) = (p, ok) := ⟨_, _, rfl⟩
    have hI := index_ev (l := st) (s := p) (by omega)
    have round : ∀ l', ReachedL t st i (k + 1) l' → Ev (fun n => if (ok && (decide (indexS st p < 0))) = true then some (Sum.inr (Sum.inr false)) else if (ok && (decide (indexS st p > (i : Int)))) = true then (idx l (indexS st p)).bind fun (x55 : Bool) => (put l (indexS st p) true).bind fun (l29 : (List Bool)) => f6_J1 n k l29 else f6_J1 n k l) (.inl (l', ((k + 1 : Nat) : Int))) → (∃ y : (List Bool) × Int, (y.2 = ((k + 1 : Nat) : Int) ∧ ReachedL t st i (k + 1) y.1) ∧ Ev (fun n => f6_L3 n b t st (i : Int) l (k : Int)) (.inl y)) := by
      intro l' hl' hE
      refine ⟨(l', ((k + 1 : Nat) : Int)), ⟨rfl, hl'⟩, ?_⟩
      unfold f6_L3
      simp only [hcond, if_true, idx_nat hi, Option.bind_some, step_eq ht.short, hst]
      exact Ev.bind hI hE
    have hJ : ∀ n l', f6_J1 n (k : Int) l' = some (.inl (l', ((k + 1 : Nat) : Int))) := by
      intro n l'
      unfold f6_J1
      rw [iadd64 (by omega) (by omega)]
      rfl
    cases ok with
    | false =>
      refine round l ⟨h2.1, fun j hj hR => ?_⟩ (Ev.all fun n => ?_)
      · refine h2.2 j hj ?_
        rcases hR with hR | ⟨i', s', q, k', hk, hij, hs', hk', hq, hstep⟩
        · exact .inl hR
        · refine .inr ⟨i', s', q, k', ?_, hij, hs', hk', hq, hstep⟩
          rcases hk with hk | ⟨rfl, hk⟩
          · exact .inl hk
          · refine .inr ⟨rfl, ?_⟩
            rcases Nat.lt_or_ge k' k with h | h
            · exact h
            · have : k' = k := by omega
              subst this
              rw [hi] at hs'
              cases hs'
              rw [hst] at hstep
              cases hstep
      · simp only [Bool.false_and, Bool.false_eq_true, if_false]
        exact hJ n l
    | true =>
      have hmem : p ∈ st := by
        have := hD (i + 1) i s (by omega) hi k hlt (by rw [hst])
        rwa [hst] at this
      obtain ⟨q, hqlt, hq⟩ := List.getElem_of_mem hmem
      have hq' : st[q]? = some p := by rw [List.getElem?_eq_getElem hqlt, hq]
      have hx := indexS_get hF.nodup hq'
      have keep : ∀ j, j ≠ q ∨ q ≤ i → j < st.length → Reached t st i (k + 1) j → Reached t st i k j := by
        intro j hjq hj hR
        rcases hR with hR | ⟨i', s', q', k', hk, hij, hs', hk', hq2, hstep⟩
        · exact .inl hR
        · refine .inr ⟨i', s', q', k', ?_, hij, hs', hk', hq2, hstep⟩
          rcases hk with hk | ⟨rfl, hk⟩
          · exact .inl hk
          · refine .inr ⟨rfl, ?_⟩
            rcases Nat.lt_or_ge k' k with h | h
            · exact h
            · have : k' = k := by omega
              subst this
              rw [hi] at hs'
              cases hs'
              rw [hst] at hstep
              cases hstep
              have := get_inj hF.nodup hq2 hq'
              omega
      by_cases hgt : i < q
      · have hql : q < l.length := by rw [h2.1]; exact hqlt
        refine round (l.set q true) ⟨by rw [List.length_set]; exact h2.1, fun j hj hR => ?_⟩ (Ev.all fun n => ?_)
        · by_cases hjq : j = q
          · subst hjq
            rw [List.getElem?_set_self hql]
          · rw [List.getElem?_set_ne (Ne.symm hjq)]
            exact h2.2 j hj (keep j (.inl hjq) hj hR)
        · rw [hx]
          have e1 : decide ((q : Int) < 0) = false := by simp
          have e2 : decide ((q : Int) > (i : Int)) = true := by simpa using hgt
          simp only [e1, e2, Bool.true_and, Bool.false_eq_true, if_false, if_true]
          rw [idx_nat (List.getElem?_eq_getElem hql), Option.bind_some]
          unfold put
          rw [if_pos (by omega), Option.bind_some, Int.toNat_natCast]
          exact hJ n _
      · refine round l ⟨h2.1, fun j hj hR => h2.2 j hj (keep j (.inr (by omega)) hj hR)⟩ (Ev.all fun n => ?_)
        rw [hx]
        have e1 : decide ((q : Int) < 0) = false := by simp
        have e2 : decide ((q : Int) > (i : Int)) = false := by simp; omega
        simp only [e1, e2, Bool.true_and, Bool.false_eq_true, if_false]
        exact hJ n l
  · rintro ⟨l, k'⟩ ⟨h1, h2⟩
    simp only at h1 h2
    subst h1
    refine ⟨.inl l, ⟨l, rfl, h2⟩, Ev.all fun n => ?_⟩
    unfold f6_L3
    rw [if_neg (by simp)]
theorem states2_ev {t : GTable} (ht : TabOK t) {st : List GState} (hF : Found t st) (hD : ∀ i, Done t i st) (b : Bool) (l0 : List Bool) (h0 : l0.length = st.length) (h00 : l0[0]? = some true) : ∃ z : Unit ⊕ Bool, z = .inl () ∧ Ev (fun n => whl (fun (x : ((List Bool) × Int)) => f6_L2 n b t st x.1 x.2) n (l0, 0)) z := by
  have hlen := hF.len
  refine Ev.upto (body := fun n x => f6_L2 n b t st x.1 x.2) st.length (fun i x => x.2 = (i : Int) ∧ ReachedL t st i 0 x.1) ?_ ?_ (l0, 0) ⟨rfl, h0, fun j hj hR => ?_⟩
  · rintro i ⟨l, i'⟩ hlt ⟨h1, h2⟩
    simp only at h1 h2
    subst h1
    left
    have hg : st[i]? = some st[i] := List.getElem?_eq_getElem hlt
    have hcond : decide ((i : Int) < ((List.length st : Nat) : Int)) = true := by simpa using hlt
    have hl : l[i]? = some true := by
      refine h2.2 i hlt ?_
      rcases Nat.eq_zero_or_pos i with h | h
      · exact .inl h
      · obtain ⟨i', s', k, a1, a2, a3, a4⟩ := hF.origin i _ hg h
        exact .inr ⟨i', s', _, k, .inl a1, a1, a2, a3, hg, a4⟩
    obtain ⟨z, ⟨l', rfl, hl'⟩, hE⟩ := states3_ev ht hF hD b hg l h2
    refine ⟨(l', ((i + 1 : Nat) : Int)), ⟨rfl, hl'.1, fun j hj hR => hl'.2 j hj ?_⟩, ?_⟩
    · rcases hR with hR | ⟨i', s', q', k', hk, hij, hs', hk', hq2, hstep⟩
      · exact .inl hR
      · exact .inr ⟨i', s', q', k', by omega, hij, hs', hk', hq2, hstep⟩
    · unfold f6_L2
      simp only [hcond, if_true, idx_nat hl, Option.bind_some, Bool.not_true, Bool.false_eq_true, if_false]
      refine Ev.bind hE (Ev.all fun n => ?_)
      simp only
      rw [iadd64 (by omega) (by omega)]
      rfl
  · rintro ⟨l, i'⟩ ⟨h1, h2⟩
    simp only at h1 h2
    subst h1
    refine ⟨.inl (), rfl, Ev.all fun n => ?_⟩
    unfold f6_L2
    rw [if_neg (by simp)]
  · rcases hR with rfl | ⟨i', s', q', k', hk, hij, hs', hk', hq2, hstep⟩
    · exact h00
    · omega
theorem law6 {x : GRaw} (hx : RawTabOK x) : Ev (fun n => FSixdotlaw03_AutomatonStates n x) true := by
  obtain ⟨t, hM, hE⟩ := made_ev hx
  obtain ⟨hF, hD⟩ := states_ok hM.tab
  have hS := statesA_ev hM.tab
  generalize statesS t = st at *
  have hlen := hF.len
  have hpos := getElem?_lt' hF.first
  obtain ⟨z1, ⟨l1, rfl, a1, a2⟩, hE1⟩ := states1_ev hF true
  obtain ⟨z2, rfl, hE2⟩ := states2_ev hM.tab hF hD true l1 a1 a2
  unfold FSixdotlaw03_AutomatonStates
  refine Ev.bind sanity_ev (Ev.bind hE (Ev.bind hS ?_))
  have c1 : ((((List.length st : Nat) : Int) == 0) || (decide (((List.length st : Nat) : Int) > 3000))) = false := by
    simp only [Bool.or_eq_false_iff, beq_eq_false_iff_ne, decide_eq_false_iff_not]
    omega
  have hs : ∀ n, FAutomaton_Start n = some startS := fun n => rfl
  have h00 : idx st 0 = some startS := idx_nat (i := 0) hF.first
  simp only [c1, Bool.not_false, if_true, h00, hs, Option.bind_some, eqS, decide_true, Bool.not_true, Bool.or_self, Bool.false_eq_true, if_false]
  refine Ev.bind hE1 ?_
  exact Ev.bind hE2 Ev.const
end Go.AI
end
section
namespace Go.AI
open Go.Proofs Go.ChangeShapes Go.WideShapes Go.ChangeAt Go.RowKit
def okI (k : IntKind) (n : Int) : Prop := (Lit.int k n).wf = true
theorem rd5 : Reads Try.prog 5 eU8 (okI .u8) := reads_int Try.underlying5
theorem rd50 : Reads Try.prog 50 (eL eU8) (fun l => ∀ a ∈ l, okI .u8 a) := reads_slice Try.underlying50 (by kernel_rfl) rfl (fun _ => rfl) rd5
theorem rd67 : Reads Try.prog 67 (eArr2 eU8) (fun x => okI .u8 x.a0 ∧ okI .u8 x.a1) := by
  intro H e w base spare held fuel cs x h
  obtain ⟨m, hcl, hg⟩ := trod_array Try.underlying67 h
  have hcl : cs.length = 2 := hcl.trans (by kernel_rfl)
  obtain ⟨a0, k0, c0⟩ := fldA hg 0 rfl 0 1 (by kernel_rfl) rfl rd5
  obtain ⟨a1, k1, c1⟩ := fldA hg 1 rfl 1 1 (by kernel_rfl) rfl rd5
  refine ⟨⟨a0, a1⟩, ⟨k0, k1⟩, ?_⟩
  have := crd_part c0 rfl (crd_part c1 rfl (crd_end (Nat.le_of_eq hcl)))
  exact this
def okGRawRule (x : GRawRule) : Prop := (∀ a ∈ x.P, okI .u8 a) ∧ (∀ a ∈ x.C, okI .u8 a) ∧ okI .u8 x.L ∧ okI .u8 x.R ∧ (okI .u8 x.W.a0 ∧ okI .u8 x.W.a1)
theorem rd69 : Reads Try.prog 69 eGRawRule okGRawRule := by
  intro H e w base spare held fuel cs x h
  obtain ⟨xs, n, _, _, hcl, hxl, hg⟩ := DataW.trod_struct Try.underlying69 h
  have hcl : cs.length = 6 := hcl.trans (by kernel_rfl)
  obtain ⟨a0, k0, c0⟩ := fld hg hxl 0 rfl 50 0 1 rfl rfl (by kernel_rfl) rd50
  obtain ⟨a1, k1, c1⟩ := fld hg hxl 1 rfl 50 1 1 rfl rfl (by kernel_rfl) rd50
  obtain ⟨a2, k2, c2⟩ := fld hg hxl 2 rfl 5 2 1 rfl rfl (by kernel_rfl) rd5
  obtain ⟨a3, k3, c3⟩ := fld hg hxl 3 rfl 5 3 1 rfl rfl (by kernel_rfl) rd5
  obtain ⟨a4, k4, c4⟩ := fld hg hxl 4 rfl 67 4 2 rfl rfl (by kernel_rfl) rd67
  refine ⟨⟨a0, a1, a2, a3, a4⟩, ⟨k0, k1, k2, k3, k4⟩, ?_⟩
  have := crd_part c0 rfl (crd_part c1 rfl (crd_part c2 rfl (crd_part c3 rfl (crd_part c4 rfl (crd_end (Nat.le_of_eq hcl))))))
  exact this
theorem rd22 : Reads Try.prog 22 (eL eGRawRule) (fun l => ∀ a ∈ l, okGRawRule a) := reads_slice (sz := 6) Try.underlying22 (by kernel_rfl) rfl (fun _ => rfl) rd69
def okGRaw (x : GRaw) : Prop := okI .u8 x.Base ∧ okI .u8 x.Drop ∧ (∀ a ∈ x.More, okGRawRule a)
theorem rd24 : Reads Try.prog 24 eGRaw okGRaw := by
  intro H e w base spare held fuel cs x h
  obtain ⟨xs, n, _, _, hcl, hxl, hg⟩ := DataW.trod_struct Try.underlying24 h
  have hcl : cs.length = 3 := hcl.trans (by kernel_rfl)
  obtain ⟨a0, k0, c0⟩ := fld hg hxl 0 rfl 5 0 1 rfl rfl (by kernel_rfl) rd5
  obtain ⟨a1, k1, c1⟩ := fld hg hxl 1 rfl 5 1 1 rfl rfl (by kernel_rfl) rd5
  obtain ⟨a2, k2, c2⟩ := fld hg hxl 2 rfl 22 2 1 rfl rfl (by kernel_rfl) rd22
  refine ⟨⟨a0, a1, a2⟩, ⟨k0, k1, k2⟩, ?_⟩
  have := crd_part c0 rfl (crd_part c1 rfl (crd_part c2 rfl (crd_end (Nat.le_of_eq hcl))))
  exact this
end Go.AI
namespace Go.Proofs.Ytjbjbkidckbalaa
open Go.AI Go.ChangeShapes Go.WideShapes Go.ChangeAt Go.RowKit
theorem own : ownKnob Try.prog.godebug = none := by kernel_rfl
theorem okI_u8 {n : Int} (h : okI .u8 n) : U8 n := by
  unfold okI Lit.wf at h
  have : IntKind.u8.min = 0 ∧ IntKind.u8.max = 255 := by decide
  unfold U8
  simp only [Bool.and_eq_true, decide_eq_true_eq] at h
  omega
theorem okGRaw_ok {x : GRaw} (h : okGRaw x) : RawTabOK x := ⟨(okI_u8 h.1).1, fun r hr => by
  obtain ⟨a, b, c, d, e, f⟩ := h.2.2 r hr
  exact ⟨fun y hy => okI_u8 (a y hy), fun y hy => okI_u8 (b y hy), okI_u8 c, okI_u8 d, okI_u8 e, okI_u8 f⟩⟩
theorem law6' : ∀ x, okGRaw x → ∃ n, FSixdotlaw03_AutomatonStates n x = some true := fun _ h => (law6 (okGRaw_ok h)).out
set_option maxRecDepth 100000 in
theorem lifted6 (os : Os) (started : os.Started) (H : Type) (enc : TypeId × Value → H) :
    ReturnsInHanded {} Try.checked os 6 .any (Rows.automatonStatesSpec.pre6 enc Try.prog Try.f6 Rows.automatonStatesRow.domain false) (Rows.automatonStatesSpec.post enc Try.prog Try.f6 false true false false) := by
  refine returnsInHanded_of_change (C := Try.checked) own started (by kernel_rfl) Try.func6
    (ChangeSpec.witness6 (enc := enc) (C := Try.checked) false ⟨#[], #[.agg #[.int .u8 0, .int .u8 0, .slice none 0 0]], []⟩ 8 (by kernel_rfl) (by kernel_rfl) (by kernel_rfl) (by kernel_rfl)) ?_
  intro W base args ds gs before hval0 hW hcnd _
  have hval : ∀ (j : Nat) t v, Try.f6.params[j]? = some t → args[j]? = some v → Value.okWide Try.prog W .any base t v := hval0
  have hW' := hW
  obtain ⟨p, q, hA0, hV, rfl, hfz, hnd⟩ := hW
  have hA : DataW.TrodAll enc Try.prog W 0 (fun _ => true) true Try.f6.params.toList args.toList ds p := hA0
  have hlt := hA.lt
  rw [Try.params6] at hA hval
  obtain ⟨v0, vs0, d0, ds0, p0, q0, hargs, rfl, rfl, h0, r0⟩ := trodAll_cons hA
  obtain ⟨rfl, rfl, rfl⟩ := trodAll_nil r0
  obtain rfl : args = #[v0] := by cases args; simp_all
  obtain ⟨rfl, rfl⟩ := trodVars_none hV
  obtain ⟨cs0, hc0, _⟩ := okWide_struct Try.underlying24 (hval 0 24 v0 rfl rfl)
  obtain ⟨a0, k0, rep0⟩ := arg_agg hc0 h0 rd24
  clear hA0 hval0
  simp only [List.append_nil] at hW' hlt
  obtain ⟨n, hn⟩ := law6' a0 k0
  refine (law_walk (FSixdotlaw03_AutomatonStates_ok hn) (cr_cons rep0 cr_nil)).mono fun e W' ⟨he, hg, hold⟩ => ?_
  subst he
  exact ⟨_, rfl, post_of_same (pv := []) hW' (fun _ _ _ => (trodAll_cons_mk (shut_bool Try.underlying4 _) trodAll_mk0)) (fun sp hsp => trodAll_cons_mk (stays (by kernel_rfl) (by kernel_rfl) (of_decide_eq_true (by kernel_rfl)) h0 (fun p hp => hlt p (by simp [hp])) (fun p hp => hsp p (by simp [hp])) hold) trodAll_mk0) (fun _ _ => rfl) (by simp) (hg.frame _) hg.2.1 (ok_one (by kernel_rfl) rfl (okWide_bool_mk Try.underlying4 _))⟩
theorem over6 : Rows.automatonStatesRow.holds Try.pinned (OpenSpec.ofChange Rows.automatonStatesSpec) :=
  OpenClaim.holds_of_wide 6 Try.f6 rfl rfl rfl rfl rfl rfl rfl ⟨rfl, rfl, rfl, rfl, rfl⟩ rfl rfl rfl rfl rfl (by kernel_rfl) Try.func6 (by kernel_rfl)
    (of_decide_eq_true (by kernel_rfl)) (by unfold Func.isWrapper; first | (rw [if_pos (by decide +kernel)]; kernel_rfl) | (rw [if_neg (by decide +kernel)]; exact ⟨rfl, rfl⟩))
    (fun os started H enc _ => lifted6 os started H enc)
theorem automatonStates_holds : Rows.AutomatonStatesSaid := over6
end Go.Proofs.Ytjbjbkidckbalaa
end
