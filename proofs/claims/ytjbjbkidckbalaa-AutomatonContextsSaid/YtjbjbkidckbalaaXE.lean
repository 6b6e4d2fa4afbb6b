/- The theorem: the last one of this text; part 5 of 5 of its proof. It holds with no condition beyond the given statement. -/
import Derived.Test.YtjbjbkidckbalaaXD
import Derived.KernelRfl
import Derived.Test.YtjbjbkidckbalaaRows
section
namespace Go.AI
def byteI (b : UInt8) : Int := (b.toNat : Int)
def charS (b : UInt8) : Bool := decide (iand .u8 (byteI b) 127 ≥ 32) && decide (iand .u8 (byteI b) 127 ≤ 126)
def spaceS (b : UInt8) : Bool := iand .u8 (byteI b) 127 == 32
theorem sidx_get {s : List UInt8} {i : Nat} {b : UInt8} (h : s[i]? = some b) : sidx s (i : Int) = some (byteI b) := by
  rw [sidx_eq (getElem?_lt' h)]
  unfold byteS byteI
  rw [h]; rfl
theorem isText_ev {s : List UInt8} (hl : s.length < 9223372036854775807) : Ev (fun n => FSixdotref02_IsText n s) (s.all charS) := by
  have loop : ∃ r : Unit ⊕ (Int × Int), ((r = .inl () ∧ s.all charS = true) ∨ (∃ i, r = .inr (i, 60) ∧ s.all charS = false)) ∧ Ev (fun n => whl (fun x => FSixdotref02_Text_L1 n s x) n (0 : Int)) r := by
    refine Ev.whlR (body := fun n x => FSixdotref02_Text_L1 n s x) (fun k x => ∃ i : Nat, x = (i : Int) ∧ i ≤ s.length ∧ k = s.length - i ∧ (s.take i).all charS = true) ?_ s.length 0 ⟨0, rfl, by omega, by omega, by simp⟩
    rintro k x ⟨i, rfl, hi, rfl, hb⟩
    rcases Nat.lt_or_ge i s.length with hlt | hge
    · have hg : s[i]? = some s[i] := List.getElem?_eq_getElem hlt
      have hc : ∀ n, FSixdotref02_Character n (byteI s[i]) = some (charS s[i]) := fun n => rfl
      have hcond : decide ((i : Int) < ((List.length s : Nat) : Int)) = true := by simpa using hlt
      cases hch : charS s[i] with
      | true =>
        left
        refine ⟨((i + 1 : Nat) : Int), s.length - (i + 1), by omega, ⟨i + 1, rfl, by omega, rfl, ?_⟩, Ev.all fun n => ?_⟩
        · rw [List.take_add_one, hg]; simp only [Option.toList_some, List.all_append, hb, List.all_cons, hch, List.all_nil, Bool.and_self]
        · unfold FSixdotref02_Text_L1
          rw [if_pos hcond, sidx_get hg]
          simp only [Option.bind_some, hc, hch, Bool.not_true, Bool.false_eq_true, if_false]
          rw [iadd64 (by omega) (by omega)]
          rfl
      | false =>
        right
        refine ⟨.inr ((i : Int), 60), .inr ⟨_, rfl, ?_⟩, Ev.all fun n => ?_⟩
        · rw [List.all_eq_false]
          exact ⟨s[i], List.getElem_mem hlt, by simp [hch]⟩
        · unfold FSixdotref02_Text_L1
          rw [if_pos hcond, sidx_get hg]
          simp only [Option.bind_some, hc, hch, Bool.not_false, if_true]
    · right
      have e : i = s.length := by omega
      subst e
      rw [List.take_length] at hb
      refine ⟨.inl (), .inl ⟨rfl, hb⟩, Ev.all fun n => ?_⟩
      unfold FSixdotref02_Text_L1
      rw [if_neg (by simp)]
  obtain ⟨r, hr, hE⟩ := loop
  rcases hr with ⟨rfl, h⟩ | ⟨i, rfl, h⟩
  · have : Ev (fun n => FSixdotref02_Text n s) (((List.length s : Nat) : Int), 0) := (Ev.bind hE (g := fun _ y => match y with | Sum.inl _ => some (((List.length s : Nat) : Int), 0) | Sum.inr z => some z) Ev.const).congr fun n => rfl
    rw [h]
    exact (Ev.bind this (g := fun _ r => some (r.2 == 0)) Ev.const).congr fun n => rfl
  · have : Ev (fun n => FSixdotref02_Text n s) (i, 60) := (Ev.bind hE (g := fun _ y => match y with | Sum.inl _ => some (((List.length s : Nat) : Int), 0) | Sum.inr z => some z) Ev.const).congr fun n => rfl
    rw [h]
    exact (Ev.bind this (g := fun _ r => some (r.2 == 0)) Ev.const).congr fun n => rfl
def soundS (r : GRule) (m : Int) : Bool :=
  r.Print.all charS && decide (r.Print.length ≤ 4) && decide (1 ≤ r.Cells.length) && decide (r.Cells.length ≤ 4) &&
  (decide (1 ≤ r.Left) && decide (r.Left ≤ 63) && decide (1 ≤ r.Right) && decide (r.Right ≤ 63) && decide (0 ≤ r.From) && decide (r.From < m) && decide (0 ≤ r.To) && decide (r.To < m)) &&
  r.Cells.all (fun c => decide (c < 63)) &&
  (bif r.Print.any spaceS then decide (r.Print.length = 1) && decide (r.Cells.length = 1) && r.Cells.any (fun c => c == 0) else !r.Cells.any (fun c => c == 0))
theorem sound1_ev {r : GRule} (hl : r.Print.length < 9223372036854775807) : Ev (fun n => whl (fun (x : (Bool × Int)) => FSixdotref02_Sound_L1 n r x.1 x.2) n (false, 0)) (r.Print.any spaceS) := by
  refine Ev.whl (body := fun n x => FSixdotref02_Sound_L1 n r x.1 x.2) (fun k x => ∃ i : Nat, x.2 = (i : Int) ∧ i ≤ r.Print.length ∧ k = r.Print.length - i ∧ x.1 = (r.Print.take i).any spaceS) ?_ r.Print.length (false, 0) ⟨0, rfl, by omega, by omega, by simp⟩
  rintro k ⟨b, i'⟩ ⟨i, h1, hi, rfl, h2⟩
  simp only at h1 h2
  subst h1
  subst h2
  rcases Nat.lt_or_ge i r.Print.length with hlt | hge
  · left
    have hg : r.Print[i]? = some r.Print[i] := List.getElem?_eq_getElem hlt
    have hcond : decide ((i : Int) < ((List.length r.Print : Nat) : Int)) = true := by simpa using hlt
    refine ⟨((r.Print.take (i + 1)).any spaceS, ((i + 1 : Nat) : Int)), r.Print.length - (i + 1), by omega, ⟨i + 1, rfl, by omega, rfl, rfl⟩, Ev.all fun n => ?_⟩
    unfold FSixdotref02_Sound_L1
    rw [if_pos hcond]
    have ht : (r.Print.take (i + 1)).any spaceS = ((r.Print.take i).any spaceS || spaceS r.Print[i]) := by
      rw [List.take_add_one, hg]; simp only [Option.toList_some, List.any_append, List.any_cons, List.any_nil, Bool.or_false]
    have hsp : ∀ n, FSixdotref02_Space n (byteI r.Print[i]) = some (spaceS r.Print[i]) := fun n => rfl
    rw [ht, iadd64 (by omega) (by omega), sidx_get hg]
    cases (r.Print.take i).any spaceS with
    | true => simp
    | false => simp [hsp]
  · right
    have e : i = r.Print.length := by omega
    subst e
    refine Ev.all fun n => ?_
    unfold FSixdotref02_Sound_L1
    rw [if_neg (by simp), List.take_length]
end Go.AI
end
section
namespace Go.AI
theorem Ev.upto {σ ρ : Type} {body : Nat → σ → Option (σ ⊕ ρ)} {R : ρ → Prop} (N : Nat) (I : Nat → σ → Prop)
    (step : ∀ i x, i < N → I i x → (∃ y, I (i + 1) y ∧ Ev (fun n => body n x) (.inl y)) ∨ ∃ r, R r ∧ Ev (fun n => body n x) (.inr r))
    (last : ∀ x, I N x → ∃ r, R r ∧ Ev (fun n => body n x) (.inr r)) (x : σ) (h0 : I 0 x) : ∃ r, R r ∧ Ev (fun n => Go.AI.whl (body n) n x) r := by
  refine Ev.whlR (body := body) (fun k x => ∃ i, i ≤ N ∧ k = N - i ∧ I i x) ?_ N x ⟨0, by omega, by omega, h0⟩
  rintro k x ⟨i, hi, rfl, hx⟩
  rcases Nat.lt_or_ge i N with hlt | hge
  · rcases step i x hlt hx with ⟨y, hy, hE⟩ | h
    · exact .inl ⟨y, N - (i + 1), by omega, ⟨i + 1, by omega, rfl, hy⟩, hE⟩
    · exact .inr h
  · have : i = N := by omega
    subst this
    exact .inr (last x hx)
theorem sound2_ev {r : GRule} (hl : r.Cells.length < 9223372036854775807) (y : Bool) : ∃ z : Bool ⊕ Bool, (if r.Cells.all (fun c => decide (c < 63)) = true then z = .inl (r.Cells.any (fun c => c == 0)) else z = .inr false) ∧ Ev (fun n => whl (fun (x : (Bool × Int)) => FSixdotref02_Sound_L2 n r y x.1 x.2) n (false, 0)) z := by
  refine Ev.upto (body := fun n x => FSixdotref02_Sound_L2 n r y x.1 x.2) r.Cells.length (fun i x => x.2 = (i : Int) ∧ x.1 = (r.Cells.take i).any (fun c => c == 0) ∧ (r.Cells.take i).all (fun c => decide (c < 63)) = true) ?_ ?_ (false, 0) ⟨rfl, by simp, by simp⟩
  · rintro i ⟨b, i'⟩ hlt ⟨h1, h2, h3⟩
    simp only at h1 h2
    subst h1
    subst h2
    have hg : r.Cells[i]? = some r.Cells[i] := List.getElem?_eq_getElem hlt
    have hcond : decide ((i : Int) < ((List.length r.Cells : Nat) : Int)) = true := by simpa using hlt
    by_cases hc : r.Cells[i] < 63
    · left
      refine ⟨((r.Cells.take (i + 1)).any (fun c => c == 0), ((i + 1 : Nat) : Int)), ⟨rfl, rfl, ?_⟩, Ev.all fun n => ?_⟩
      · rw [List.take_add_one, hg]; simp only [Option.toList_some, List.all_append, h3, List.all_cons, decide_eq_true hc, List.all_nil, Bool.and_self]
      · unfold FSixdotref02_Sound_L2
        have ht : (r.Cells.take (i + 1)).any (fun c => c == 0) = ((r.Cells.take i).any (fun c => c == 0) || r.Cells[i] == 0) := by
          rw [List.take_add_one, hg]; simp only [Option.toList_some, List.any_append, List.any_cons, List.any_nil, Bool.or_false]
        rw [if_pos hcond, idx_nat hg, Option.bind_some, if_neg (by simpa using hc), ht, iadd64 (by omega) (by omega)]
        cases (r.Cells.take i).any (fun c => c == 0) with
        | true => simp
        | false => simp
    · right
      refine ⟨.inr false, ?_, Ev.all fun n => ?_⟩
      · rw [if_neg]
        intro h
        rw [List.all_eq_true] at h
        exact hc (by simpa using h r.Cells[i] (List.getElem_mem hlt))
      · unfold FSixdotref02_Sound_L2
        rw [if_pos hcond, idx_nat hg, Option.bind_some, if_pos (by simp; omega)]
  · rintro ⟨b, i'⟩ ⟨h1, h2, h3⟩
    simp only at h1 h2
    subst h1
    subst h2
    rw [List.take_length] at h3 ⊢
    refine ⟨.inl (r.Cells.any (fun c => c == 0)), by rw [if_pos h3], Ev.all fun n => ?_⟩
    unfold FSixdotref02_Sound_L2
    rw [if_neg (by simp)]
theorem sound_ev {r : GRule} (hp : r.Print.length < 9223372036854775807) (hc : r.Cells.length < 9223372036854775807) (m : Int) : Ev (fun n => FSixdotref02_Sound n r m) (soundS r m) := by
  obtain ⟨z, hz, hE⟩ := sound2_ev hc (r.Print.any spaceS)
  have h1 := isText_ev hp
  have h2 := sound1_ev (r := r) hp
  unfold FSixdotref02_Sound
  refine Ev.bind h1 ?_
  unfold soundS
  generalize r.Print.all charS = a
  by_cases g1 : ((((!a) || (decide (((List.length r.Print : Nat) : Int) > 4))) || (decide (((List.length r.Cells : Nat) : Int) < 1))) || (decide (((List.length r.Cells : Nat) : Int) > 4))) = true
  · simp only [g1, if_true]
    have : (a && decide (r.Print.length ≤ 4) && decide (1 ≤ r.Cells.length) && decide (r.Cells.length ≤ 4)) = false := by
      rw [← Bool.not_eq_true]
      intro h
      simp only [Bool.and_eq_true, decide_eq_true_eq] at h
      simp only [Bool.or_eq_true, decide_eq_true_eq, Bool.not_eq_true'] at g1
      rcases g1 with ((g | g) | g) | g
      · rw [g] at h; simp at h
      all_goals omega
    rw [this]
    exact Ev.const
  · simp only [g1]
    by_cases g2 : ((((((((decide (r.Left < 1)) || (decide (r.Left > 63))) || (decide (r.Right < 1))) || (decide (r.Right > 63))) || (decide (r.From < 0))) || (decide (r.From ≥ m))) || (decide (r.To < 0))) || (decide (r.To ≥ m))) = true
    · simp only [g2, if_true]
      have : (decide (1 ≤ r.Left) && decide (r.Left ≤ 63) && decide (1 ≤ r.Right) && decide (r.Right ≤ 63) && decide (0 ≤ r.From) && decide (r.From < m) && decide (0 ≤ r.To) && decide (r.To < m)) = false := by
        rw [← Bool.not_eq_true]
        intro h
        simp only [Bool.and_eq_true, decide_eq_true_eq] at h
        simp only [Bool.or_eq_true, decide_eq_true_eq] at g2
        omega
      rw [this, Bool.and_false]
      exact Ev.const
    · have e1 : (a && decide (r.Print.length ≤ 4) && decide (1 ≤ r.Cells.length) && decide (r.Cells.length ≤ 4)) = true := by
        simp only [Bool.or_eq_true, decide_eq_true_eq, Bool.not_eq_true', not_or] at g1
        simp only [Bool.and_eq_true, decide_eq_true_eq]
        refine ⟨⟨⟨by simpa using g1.1.1.1, ?_⟩, ?_⟩, ?_⟩ <;> omega
      have e2 : (decide (1 ≤ r.Left) && decide (r.Left ≤ 63) && decide (1 ≤ r.Right) && decide (r.Right ≤ 63) && decide (0 ≤ r.From) && decide (r.From < m) && decide (0 ≤ r.To) && decide (r.To < m)) = true := by
        simp only [Bool.or_eq_true, decide_eq_true_eq, not_or] at g2
        simp only [Bool.and_eq_true, decide_eq_true_eq]
        omega
      rw [e1, e2]
      simp only [g2, Bool.false_eq_true, if_false]
      refine Ev.bind h2 (Ev.bind hE ?_)
      split at hz
      · rename_i h
        subst hz
        rw [h]
        generalize r.Print.any spaceS = b
        cases b with
        | false => exact Ev.const
        | true =>
          refine Ev.all fun n => ?_
          simp only [Bool.not_true, Bool.false_eq_true, if_false, Bool.and_true, Bool.true_and, cond_true]
          congr 3 <;> rw [Bool.eq_iff_iff] <;> simp <;> omega
      · rename_i h
        subst hz
        rw [Bool.not_eq_true] at h
        rw [h]
        exact Ev.const
theorem sameCells_ev (a b : List Int) (ha : a.length < 9223372036854775807) : ∃ z, True ∧ Ev (fun n => FSixdotref02_SameCells n a b) z := by
  unfold FSixdotref02_SameCells
  by_cases h : (((List.length a : Nat) : Int) != ((List.length b : Nat) : Int)) = true
  · simp only [h, if_true]; exact ⟨false, trivial, Ev.const⟩
  · have hl : a.length = b.length := by
      have : ((List.length a : Nat) : Int) = ((List.length b : Nat) : Int) := by simpa using h
      omega
    simp only [h]
    have loop : ∃ r : Unit ⊕ Bool, True ∧ Ev (fun n => whl (fun x => FSixdotref02_SameCells_L1 n a b x) n (0 : Int)) r := by
      refine Ev.upto (body := fun n x => FSixdotref02_SameCells_L1 n a b x) a.length (fun i x => x = (i : Int)) ?_ ?_ 0 rfl
      · rintro i x hlt rfl
        have hg : a[i]? = some a[i] := List.getElem?_eq_getElem hlt
        have hlb : i < b.length := by omega
        have hg' : b[i]? = some b[i] := List.getElem?_eq_getElem hlb
        have hcond : decide ((i : Int) < ((List.length a : Nat) : Int)) = true := by simpa using hlt
        by_cases hc : (a[i] != b[i]) = true
        · right
          refine ⟨.inr false, trivial, Ev.all fun n => ?_⟩
          unfold FSixdotref02_SameCells_L1
          rw [if_pos hcond, idx_nat hg, idx_nat hg', Option.bind_some, Option.bind_some, if_pos hc]
        · left
          refine ⟨((i + 1 : Nat) : Int), rfl, Ev.all fun n => ?_⟩
          unfold FSixdotref02_SameCells_L1
          rw [if_pos hcond, idx_nat hg, idx_nat hg', Option.bind_some, Option.bind_some, if_neg hc, iadd64 (by omega) (by omega)]
          rfl
      · rintro x rfl
        refine ⟨.inl (), trivial, Ev.all fun n => ?_⟩
        unfold FSixdotref02_SameCells_L1
        rw [if_neg (by simp)]
    obtain ⟨z, -, hz⟩ := loop
    cases z with
    | inl z => exact ⟨true, trivial, Ev.bind hz Ev.const⟩
    | inr z => exact ⟨z, trivial, Ev.bind hz Ev.const⟩
theorem sameRule_ev (a b : GRule) (ha : a.Cells.length < 9223372036854775807) : ∃ z, True ∧ Ev (fun n => FSixdotref02_SameRule n a b) z := by
  obtain ⟨z, -, hz⟩ := sameCells_ev a.Cells b.Cells ha
  unfold FSixdotref02_SameRule
  by_cases h : (a.Print == b.Print) = true
  · simp only [h, if_true]
    exact ⟨_, trivial, Ev.bind hz Ev.const⟩
  · simp only [h]
    exact ⟨_, trivial, Ev.all fun n => rfl⟩
end Go.AI
end
section
namespace Go.AI
def SmallR (r : GRule) : Prop := r.Print.length < 9223372036854775807 ∧ r.Cells.length < 9223372036854775807
theorem check2_ev (t : GTable) (i : Nat) (hi : i < t.Rules.length) (hl : t.Rules.length < 9223372036854775807) (hs : ∀ r ∈ t.Rules, SmallR r) : ∃ z : Unit ⊕ (Int × Int), (∀ p, z = .inr p → p.2 = 20) ∧ Ev (fun n => whl (fun (x : Int) => FSixdotref02_Check_L2 n t (i : Int) x) n 0) z := by
  refine Ev.upto (body := fun n x => FSixdotref02_Check_L2 n t (i : Int) x) i (fun k x => x = (k : Int)) ?_ ?_ 0 rfl
  · rintro k x hlt rfl
    have hg : t.Rules[k]? = some t.Rules[k] := List.getElem?_eq_getElem (by omega)
    have hg' : t.Rules[i]? = some t.Rules[i] := List.getElem?_eq_getElem hi
    have hcond : decide ((k : Int) < (i : Int)) = true := by simpa using hlt
    obtain ⟨z, -, hz⟩ := sameRule_ev t.Rules[k] t.Rules[i] (hs _ (List.getElem_mem _)).2
    cases z with
    | true =>
      right
      refine ⟨.inr (i, 20), (by rintro p h; cases h; rfl), ?_⟩
      unfold FSixdotref02_Check_L2
      simp only [hcond, if_true, idx_nat hg, idx_nat hg', Option.bind_some]
      exact Ev.bind hz Ev.const
    | false =>
      left
      refine ⟨((k + 1 : Nat) : Int), rfl, ?_⟩
      unfold FSixdotref02_Check_L2
      simp only [hcond, if_true, idx_nat hg, idx_nat hg', Option.bind_some]
      refine Ev.bind hz (Ev.all fun n => ?_)
      rw [if_neg (by simp), iadd64 (by omega) (by omega)]
      rfl
  · rintro x rfl
    refine ⟨.inl (), (by rintro p h; cases h), Ev.all fun n => ?_⟩
    unfold FSixdotref02_Check_L2
    rw [if_neg (by simp)]
theorem check1_ev (t : GTable) (hl : t.Rules.length < 9223372036854775807) (hs : ∀ r ∈ t.Rules, SmallR r) : ∃ z : Unit ⊕ (Int × Int), ((z = .inl () ∧ ∀ r ∈ t.Rules, soundS r t.Modes = true) ∨ (∃ p, z = .inr p ∧ p.2 = 20)) ∧ Ev (fun n => whl (fun (x : Int) => FSixdotref02_Check_L1 n t x) n 0) z := by
  refine Ev.upto (body := fun n x => FSixdotref02_Check_L1 n t x) t.Rules.length (fun k x => x = (k : Int) ∧ ∀ r ∈ t.Rules.take k, soundS r t.Modes = true) ?_ ?_ 0 ⟨rfl, by simp⟩
  · rintro k x hlt ⟨rfl, hb⟩
    have hg : t.Rules[k]? = some t.Rules[k] := List.getElem?_eq_getElem (by omega)
    have hcond : decide ((k : Int) < ((List.length t.Rules : Nat) : Int)) = true := by simpa using hlt
    have hE := sound_ev (hs _ (List.getElem_mem hlt)).1 (hs _ (List.getElem_mem hlt)).2 t.Modes
    cases hz : soundS t.Rules[k] t.Modes with
    | false =>
      rw [hz] at hE
      right
      refine ⟨.inr (k, 20), .inr ⟨_, rfl, rfl⟩, ?_⟩
      unfold FSixdotref02_Check_L1
      simp only [hcond, if_true, idx_nat hg, Option.bind_some]
      exact Ev.bind hE Ev.const
    | true =>
      rw [hz] at hE
      obtain ⟨z, h2, hE2⟩ := check2_ev t k hlt hl hs
      cases z with
      | inl z =>
        left
        refine ⟨((k + 1 : Nat) : Int), ⟨rfl, ?_⟩, ?_⟩
        · intro r hr
          rw [List.take_add_one, hg] at hr
          simp only [Option.toList_some, List.mem_append, List.mem_singleton] at hr
          rcases hr with hr | hr
          · exact hb r hr
          · rw [hr]; exact hz
        · unfold FSixdotref02_Check_L1
          simp only [hcond, if_true, idx_nat hg, Option.bind_some]
          refine Ev.bind hE ?_
          simp only [Bool.not_true, Bool.false_eq_true, if_false]
          refine Ev.bind hE2 (Ev.all fun n => ?_)
          simp only
          rw [iadd64 (by omega) (by omega)]
          rfl
      | inr z =>
        right
        refine ⟨.inr z, .inr ⟨z, rfl, h2 z rfl⟩, ?_⟩
        unfold FSixdotref02_Check_L1
        simp only [hcond, if_true, idx_nat hg, Option.bind_some]
        refine Ev.bind hE ?_
        simp only [Bool.not_true, Bool.false_eq_true, if_false]
        exact Ev.bind hE2 Ev.const
  · rintro x ⟨rfl, hb⟩
    rw [List.take_length] at hb
    refine ⟨.inl (), .inl ⟨rfl, hb⟩, Ev.all fun n => ?_⟩
    unfold FSixdotref02_Check_L1
    rw [if_neg (by simp)]
theorem valid_ev (t : GTable) (hl : t.Rules.length < 9223372036854775807) (hs : ∀ r ∈ t.Rules, SmallR r) : ∃ b : Bool, (b = true → ∀ r ∈ t.Rules, soundS r t.Modes = true) ∧ Ev (fun n => FSixdotref02_Valid n t) b := by
  obtain ⟨z, hz, hE⟩ := check1_ev t hl hs
  have hg : ((if (!(((decide (t.Modes < 1)) || (decide (t.Modes > 8))) || (t.Accept == 0))) = true then guardB (decide (0 ≤ t.Modes)) else some default) : Option Unit) = some () := by
    split
    · rename_i h
      simp only [Bool.not_eq_true', Bool.or_eq_false_iff, decide_eq_false_iff_not] at h
      unfold guardB
      rw [if_pos (by simp; omega)]
    · rfl
  unfold FSixdotref02_Valid FSixdotref02_Check
  simp only [hg, Option.bind_some]
  by_cases hc : ((((((decide (t.Modes < 1)) || (decide (t.Modes > 8))) || (t.Accept == 0)) || (decide (IntKind.i64.wrap t.Accept ≥ ishl .i64 1 t.Modes))) || (decide (((List.length t.Rules : Nat) : Int) < 1))) || (decide (((List.length t.Rules : Nat) : Int) > 64))) = true
  · simp only [hc, if_true]
    exact ⟨false, by simp, Ev.all fun n => rfl⟩
  · simp only [hc, Bool.false_eq_true, if_false]
    rcases hz with ⟨rfl, h⟩ | ⟨p, rfl, h⟩
    · exact ⟨true, fun _ => h, Ev.bind (Ev.bind hE Ev.const) (Ev.all fun n => rfl)⟩
    · refine ⟨false, by simp, Ev.bind (Ev.bind hE Ev.const) (Ev.all fun n => ?_)⟩
      simp only [h]; rfl
def RawTabOK (x : GRaw) : Prop := 0 ≤ x.Base ∧ ∀ r ∈ x.More, RawOK r
structure MadeOK (t : GTable) : Prop where
  tab : TabOK t
  lo : 1 ≤ t.Modes
  hi : t.Modes ≤ 2
  sound : ∀ r ∈ t.Rules, soundS r t.Modes = true
def okSoundB (t : GTable) : Bool := t.Rules.all fun r => soundS r t.Modes && decide (r.Cells.length ≤ 4)
theorem base_sound {r : Int} (h : 0 ≤ r) (h' : r < 8) : okSoundB (baseT r) = true := by
  have : ∀ k : Nat, k < 8 → okSoundB (baseT (k : Int)) = true := by decide +kernel
  have e := this r.toNat (by omega)
  rwa [Int.toNat_of_nonneg h] at e
theorem RuleOK.small {r : GRule} (h : RuleOK r) (hc : r.Cells.length ≤ 4) : SmallR r := ⟨by have := h.2.2.2.2; omega, by omega⟩
theorem made1_ev (x : GRaw) (b : GTable) (hb : b.Rules.length ≤ 8) : ∃ l : List GRule, (l.length ≤ 8 ∧ ∀ r ∈ l, r ∈ b.Rules) ∧ Ev (fun n => whl (fun (y : ((List GRule) × Int)) => FSixdotref02_Made_L1 n x b y.1 y.2) n (([] : List GRule), 0)) l := by
  refine Ev.upto (body := fun n y => FSixdotref02_Made_L1 n x b y.1 y.2) b.Rules.length (fun i y => y.2 = (i : Int) ∧ y.1.length ≤ i ∧ ∀ r ∈ y.1, r ∈ b.Rules) ?_ ?_ ([], 0) ⟨rfl, by simp, by simp⟩
  · rintro i ⟨l, i'⟩ hlt ⟨h1, h2, h3⟩
    simp only at h1 h2 h3
    subst h1
    left
    have hg : b.Rules[i]? = some b.Rules[i] := List.getElem?_eq_getElem hlt
    have hcond : decide ((i : Int) < ((List.length b.Rules : Nat) : Int)) = true := by simpa using hlt
    have hu : guardB (decide (0 ≤ (i : Int))) = some () := by unfold guardB; rw [if_pos (by simp)]
    by_cases hd : ((iand .u8 (ishr .u8 x.Drop i) 1) == 0) = true
    · refine ⟨(l ++ [b.Rules[i]], ((i + 1 : Nat) : Int)), ⟨rfl, by simp; omega, ?_⟩, Ev.all fun n => ?_⟩
      · intro r hr
        simp only [List.mem_append, List.mem_singleton] at hr
        rcases hr with hr | rfl
        · exact h3 r hr
        · exact List.getElem_mem hlt
      · unfold FSixdotref02_Made_L1 FSixdotref02_Made_J1
        rw [if_pos hcond, hu, Option.bind_some, if_pos hd, idx_nat hg, Option.bind_some, app_ok (by simp; omega), Option.bind_some, iadd64 (by omega) (by omega)]
        rfl
    · refine ⟨(l, ((i + 1 : Nat) : Int)), ⟨rfl, by simp; omega, h3⟩, Ev.all fun n => ?_⟩
      unfold FSixdotref02_Made_L1 FSixdotref02_Made_J1
      rw [if_pos hcond, hu, Option.bind_some, if_neg hd, iadd64 (by omega) (by omega)]
      rfl
  · rintro ⟨l, i'⟩ ⟨h1, h2, h3⟩
    simp only at h1 h2 h3
    subst h1
    refine ⟨l, ⟨by omega, h3⟩, Ev.all fun n => ?_⟩
    unfold FSixdotref02_Made_L1
    rw [if_neg (by simp)]
def GoodR (m : Int) (r : GRule) : Prop := RuleOK r ∧ r.Cells.length ≤ 4 ∧ soundS r m = true
theorem made2_ev (x : GRaw) (hx : ∀ r ∈ x.More, RawOK r) (b : GTable) (hlo : 1 ≤ b.Modes) (hhi : b.Modes ≤ 2) (l0 : List GRule) (hl0 : l0.length ≤ 8) (hg0 : ∀ r ∈ l0, GoodR b.Modes r) : ∃ l : List GRule, (l.length ≤ 10 ∧ ∀ r ∈ l, GoodR b.Modes r) ∧ Ev (fun n => whl (fun (y : ((List GRule) × Int)) => FSixdotref02_Made_L2 n x b y.1 y.2) n (l0, 0)) l := by
  have last : ∀ (i : Nat) (l : List GRule), i ≤ 2 → (i = x.More.length ∨ i = 2) → ∀ n, FSixdotref02_Made_L2 n x b l (i : Int) = some (.inr l) := by
    intro i l hi2 h n
    unfold FSixdotref02_Made_L2
    rw [if_neg]
    simp only [Bool.and_eq_true, decide_eq_true_eq]
    omega
  refine Ev.upto (body := fun n y => FSixdotref02_Made_L2 n x b y.1 y.2) (min x.More.length 2) (fun i y => y.2 = (i : Int) ∧ y.1.length ≤ 8 + i ∧ ∀ r ∈ y.1, GoodR b.Modes r) ?_ ?_ (l0, 0) ⟨rfl, by simpa using hl0, hg0⟩
  · rintro i ⟨l, i'⟩ hlt ⟨h1, h2, h3⟩
    simp only at h1 h2 h3
    subst h1
    left
    have hlt' : i < x.More.length := by omega
    have hg : x.More[i]? = some x.More[i] := List.getElem?_eq_getElem hlt'
    have hcond : ((decide ((i : Int) < ((List.length x.More : Nat) : Int))) && (decide ((i : Int) < 2))) = true := by
      simp only [Bool.and_eq_true, decide_eq_true_eq]; omega
    obtain ⟨r, ⟨hr1, hr2⟩, hE⟩ := rule_ev (hx _ (List.getElem_mem hlt')) hlo hhi
    obtain ⟨v, hv, hE2⟩ := valid_ev ({ Modes := b.Modes, Accept := b.Accept, Rules := l ++ [r] } : GTable) (by simp; omega) (by
      intro q hq
      simp only [List.mem_append, List.mem_singleton] at hq
      rcases hq with hq | rfl
      · exact (h3 q hq).1.small (h3 q hq).2.1
      · exact hr1.small (by omega))
    have happ : app 64 l [r] = some (l ++ [r]) := app_ok (by simp; omega)
    cases v with
    | false =>
      refine ⟨(l, ((i + 1 : Nat) : Int)), ⟨rfl, by simp; omega, h3⟩, ?_⟩
      unfold FSixdotref02_Made_L2 FSixdotref02_Made_J2
      simp only [hcond, if_true, idx_nat hg, Option.bind_some]
      refine Ev.bind hE ?_
      simp only [happ, Option.bind_some]
      refine Ev.bind hE2 (Ev.all fun n => ?_)
      have e : isub .i64 ((List.length (l ++ [r]) : Nat) : Int) 1 = (l.length : Nat) := by
        rw [isub64 (by simp <;> omega) (by simp <;> omega)]; simp
      simp only [Bool.not_false, if_true, e]
      have e2 : sub (l ++ [r]) 0 ((l.length : Nat) : Int) = some l := by
        unfold sub
        rw [if_pos (by simp; omega)]
        simp
      rw [e2, Option.bind_some, iadd64 (by omega) (by omega)]
      rfl
    | true =>
      refine ⟨(l ++ [r], ((i + 1 : Nat) : Int)), ⟨rfl, by simp; omega, ?_⟩, ?_⟩
      · intro q hq
        have hq' := hq
        simp only [List.mem_append, List.mem_singleton] at hq
        rcases hq with hq | rfl
        · exact h3 q hq
        · exact ⟨hr1, by omega, hv rfl q hq'⟩
      · unfold FSixdotref02_Made_L2 FSixdotref02_Made_J2
        simp only [hcond, if_true, idx_nat hg, Option.bind_some]
        refine Ev.bind hE ?_
        simp only [happ, Option.bind_some]
        refine Ev.bind hE2 (Ev.all fun n => ?_)
        simp only [Bool.not_true, Bool.false_eq_true, if_false]
        rw [iadd64 (by omega) (by omega)]
        rfl
  · rintro ⟨l, i'⟩ ⟨h1, h2, h3⟩
    simp only at h1 h2 h3
    subst h1
    exact ⟨l, ⟨by omega, h3⟩, Ev.all fun n => last _ l (by omega) (by omega) n⟩
theorem base_pos {r : Int} (h : 0 ≤ r) (h' : r < 8) : 1 ≤ (baseT r).Rules.length := by
  have : ∀ k : Nat, k < 8 → 1 ≤ (baseT (k : Int)).Rules.length := by decide +kernel
  have e := this r.toNat (by omega)
  rwa [Int.toNat_of_nonneg h] at e
theorem made_ev10 {x : GRaw} (hx : RawTabOK x) : ∃ t, (MadeOK t ∧ 1 ≤ t.Rules.length ∧ t.Rules.length ≤ 10) ∧ Ev (fun n => FSixdotref02_Made n x) t := by
  obtain ⟨hb0, hb1, hb2⟩ := base_eq 0 x.Base hx.1
  have hb : ∀ n, FSixdotref02_Base n x.Base = some (baseT (irem x.Base 8)) := fun n => (base_eq n x.Base hx.1).1
  have hok := base_ok hb1 hb2
  have hso := base_sound hb1 hb2
  have hpo := base_pos hb1 hb2
  generalize baseT (irem x.Base 8) = b at *
  unfold okBaseB at hok
  simp only [Bool.and_eq_true, decide_eq_true_eq, List.all_eq_true] at hok
  unfold okSoundB at hso
  simp only [Bool.and_eq_true, decide_eq_true_eq, List.all_eq_true] at hso
  obtain ⟨⟨⟨⟨o1, o2⟩, o3⟩, o4⟩, o5⟩ := hok
  have gb : ∀ r ∈ b.Rules, GoodR b.Modes r := fun r hr => ⟨okRuleB_ok (o2 r hr), (hso r hr).2, (hso r hr).1⟩
  obtain ⟨l1, ⟨a1, a2⟩, hE1⟩ := made1_ev x b o1
  obtain ⟨l2, ⟨b1, b2⟩, hE2⟩ := made2_ev x hx.2 b o3 o4 l1 a1 (fun r hr => gb r (a2 r hr))
  by_cases h : (((List.length l2 : Nat) : Int) == 0) = true
  · refine ⟨b, ⟨⟨⟨by omega, fun r hr => (gb r hr).1⟩, o3, o4, fun r hr => (gb r hr).2.2⟩, hpo, by omega⟩, ?_⟩
    unfold FSixdotref02_Made FSixdotref02_Made_J3
    simp only [hb, Option.bind_some]
    refine Ev.bind hE1 (Ev.bind hE2 ?_)
    simp only [h, if_true]
    exact Ev.const
  · refine ⟨{ Modes := b.Modes, Accept := b.Accept, Rules := l2 }, ⟨⟨⟨Nat.le_trans b1 (by decide), fun r hr => (b2 r hr).1⟩, o3, o4, fun r hr => (b2 r hr).2.2⟩, by simp at h ⊢; cases l2 with | nil => simp at h | cons => simp, b1⟩, ?_⟩
    unfold FSixdotref02_Made FSixdotref02_Made_J3
    simp only [hb, Option.bind_some]
    refine Ev.bind hE1 (Ev.bind hE2 ?_)
    simp only [h, Bool.false_eq_true, if_false]
    exact Ev.const
end Go.AI
end
section
namespace Go.AI
theorem sanity_ev : Ev (fun n => FSixdotlaw03_sanity n) true := Ev.of (fun n m h => FSixdotlaw03_sanity_le h) (n := 40) (by kernel_rfl)
theorem indexS_get {st : List GState} (hn : st.Nodup) {i : Nat} {s : GState} (h : st[i]? = some s) : indexS st s = (i : Int) := by
  unfold indexS
  rw [findIdx_some hn h]
theorem get_inj {st : List GState} (hn : st.Nodup) {i j : Nat} {s : GState} (h : st[i]? = some s) (h' : st[j]? = some s) : i = j := by
  have a := findIdx_some hn h
  rw [findIdx_some hn h'] at a
  cases a; rfl
end Go.AI
end
section
namespace Go.AI
def Tot {α : Type} (f : Nat → Option α) (P : α → Prop) : Prop := ∃ z, P z ∧ Ev f z
def Rd2 {σ ρ : Type} (I : σ → Prop) (P : ρ → Prop) : σ ⊕ ρ → Prop
  | .inl y => I y
  | .inr r => P r
variable {α β σ ρ : Type} {P R : α → Prop}
theorem Tot.ev {f : Nat → Option α} {z : α} (h : Tot f (fun x => x = z)) : Ev f z := by obtain ⟨_, rfl, h⟩ := h; exact h
theorem Ev.tot {f : Nat → Option α} {z : α} (h : Ev f z) (hp : P z) : Tot f P := ⟨z, hp, h⟩
theorem Tot.pure {z : α} (h : P z) : Tot (fun _ => some z) P := ⟨z, h, Ev.const⟩
theorem Tot.all {f : Nat → Option α} {z : α} (h : ∀ n, f n = some z) (hp : P z) : Tot f P := ⟨z, hp, Ev.all h⟩
theorem Tot.mono {f : Nat → Option α} (h : Tot f R) (hp : ∀ x, R x → P x) : Tot f P := by obtain ⟨z, hz, h⟩ := h; exact ⟨z, hp z hz, h⟩
theorem Tot.bind {f : Nat → Option β} {g : Nat → β → Option α} {R : β → Prop} (h : Tot f R) (k : ∀ x, R x → Tot (fun n => g n x) P) : Tot (fun n => (f n).bind (g n)) P := by
  obtain ⟨x, hx, h⟩ := h
  obtain ⟨z, hz, h'⟩ := k x hx
  exact ⟨z, hz, Ev.bind h h'⟩
theorem Tot.bindE {f : Nat → Option β} {g : Nat → β → Option α} {x : β} (h : Ev f x) (k : Tot (fun n => g n x) P) : Tot (fun n => (f n).bind (g n)) P := by
  obtain ⟨z, hz, h'⟩ := k
  exact ⟨z, hz, Ev.bind h h'⟩
theorem Tot.bindC {x : Option β} {y : β} {g : Nat → β → Option α} (h : x = some y) (k : Tot (fun n => g n y) P) : Tot (fun n => x.bind (g n)) P := by subst h; exact k
theorem Tot.bindA {f : Nat → Option β} {y : β} {g : Nat → β → Option α} (h : ∀ n, f n = some y) (k : Tot (fun n => g n y) P) : Tot (fun n => (f n).bind (g n)) P := Tot.bindE (Ev.all h) k
theorem Tot.ite {c : Bool} {a b : Nat → Option α} (h1 : c = true → Tot a P) (h2 : c = false → Tot b P) : Tot (fun n => if c = true then a n else b n) P := by
  cases c with
  | true => exact h1 rfl
  | false => exact h2 rfl
theorem Tot.iteT {c : Bool} {a b : Nat → Option α} (h : c = true) (k : Tot a P) : Tot (fun n => if c = true then a n else b n) P := by subst h; exact k
theorem Tot.iteF {c : Bool} {a b : Nat → Option α} (h : c = false) (k : Tot b P) : Tot (fun n => if c = true then a n else b n) P := by subst h; exact k
theorem Tot.guard {c : Bool} {f : Nat → Option β} {d : β} {g : Nat → β → Option α} {R : β → Prop} (h : c = true → Tot f R) (k : ∀ x, (c = true → R x) → Tot (fun n => g n x) P) : Tot (fun n => (if c = true then f n else some d).bind (g n)) P := by
  cases c with
  | true => exact Tot.bind (h rfl) fun x hx => k x fun _ => hx
  | false => exact k d fun h => by cases h
theorem Tot.congr {f g : Nat → Option α} (h : Tot f P) (e : ∀ n, g n = f n) : Tot g P := by obtain ⟨z, hz, h⟩ := h; exact ⟨z, hz, h.congr e⟩
theorem Tot.sum {y : β ⊕ σ} {f : Nat → β → Option α} {g : Nat → σ → Option α} (h1 : ∀ b, y = .inl b → Tot (fun n => f n b) P) (h2 : ∀ b, y = .inr b → Tot (fun n => g n b) P) : Tot (fun n => match y with | .inl b => f n b | .inr b => g n b) P := by
  cases y with
  | inl b => exact h1 b rfl
  | inr b => exact h2 b rfl
theorem Tot.whl {body : Nat → σ → Option (σ ⊕ ρ)} {P : ρ → Prop} (I : Nat → σ → Prop) (h : ∀ k x, I k x → Tot (fun n => body n x) (Rd2 (fun y => ∃ j, j < k ∧ I j y) P)) : ∀ (k : Nat) (x : σ), I k x → Tot (fun n => Go.AI.whl (body n) n x) P := by
  have key : ∀ (k : Nat) (x : σ), I k x → ∃ r, P r ∧ ∃ N c, ∀ n fuel, N ≤ n → c ≤ fuel → Go.AI.whl (body n) fuel x = some r := by
    intro k
    induction k using Nat.strongRecOn with
    | _ k ih =>
      intro x hx
      obtain ⟨z, hz, N1, h1⟩ := h k x hx
      cases z with
      | inl y =>
        obtain ⟨j, hj, hy⟩ := hz
        obtain ⟨r, hr, N2, c, h2⟩ := ih j hj y hy
        refine ⟨r, hr, max N1 N2, c + 1, fun n fuel hn hf => ?_⟩
        cases fuel with
        | zero => omega
        | succ fuel =>
          have e := h1 n (by omega)
          simp only at e
          simp only [Go.AI.whl, e]
          exact h2 n fuel (by omega) (by omega)
      | inr r =>
        refine ⟨r, hz, N1, 1, fun n fuel hn hf => ?_⟩
        cases fuel with
        | zero => omega
        | succ fuel =>
          have e := h1 n hn
          simp only at e
          simp only [Go.AI.whl, e]
  intro k x hx
  obtain ⟨r, hr, N, c, hh⟩ := key k x hx
  exact ⟨r, hr, max N c, fun m hm => hh m m (by omega) (by omega)⟩
theorem Tot.upto {body : Nat → σ → Option (σ ⊕ ρ)} {P : ρ → Prop} (N : Nat) (I : Nat → σ → Prop)
    (step : ∀ i x, i < N → I i x → Tot (fun n => body n x) (Rd2 (I (i + 1)) P))
    (last : ∀ x, I N x → Tot (fun n => body n x) (Rd2 (fun _ => False) P)) (x : σ) (h0 : I 0 x) : Tot (fun n => Go.AI.whl (body n) n x) P := by
  refine Tot.whl (body := body) (fun k x => ∃ i, i ≤ N ∧ k = N - i ∧ I i x) ?_ N x ⟨0, by omega, by omega, h0⟩
  rintro k x ⟨i, hi, rfl, hx⟩
  rcases Nat.lt_or_ge i N with hlt | hge
  · refine (step i x hlt hx).mono fun z hz => ?_
    cases z with
    | inl y => exact ⟨N - (i + 1), by omega, i + 1, by omega, rfl, hz⟩
    | inr r => exact hz
  · have : i = N := by omega
    subst this
    refine (last x hx).mono fun z hz => ?_
    cases z with
    | inl y => exact hz.elim
    | inr r => exact hz
theorem idx_at {l : List α} {i : Nat} {x : α} (h : l[i]? = some x) : idx l (i : Int) = some x := by
  unfold idx
  rw [if_pos (by omega)]
  simpa using h
theorem idx_lt {l : List α} {i : Nat} (h : i < l.length) : idx l (i : Int) = some l[i] := idx_at (List.getElem?_eq_getElem h)
theorem app_le {eb : Nat} {xs ys : List α} (h : (xs.length + ys.length) * eb ≤ 70368744177664) : app eb xs ys = some (xs ++ ys) := by
  unfold app; rw [if_pos h]
theorem put_at {l : List α} {i : Nat} {y : α} (h : i < l.length) : put l (i : Int) y = some (l.set i y) := by
  unfold put; rw [if_pos (by omega), Int.toNat_natCast]
theorem cat_le {x y : List UInt8} (h : x.length + y.length ≤ 9223372036854775807) : cat x y = some (x ++ y) := by
  unfold cat; rw [if_pos h]
end Go.AI
end
section
namespace Go.AI
def ruleAt (t : GTable) (k : Int) : GRule := t.Rules[k.toNat]?.getD default
def runS (t : GTable) : List Int → List UInt8 → List Int → Nat → GState → GTrace
  | [], tx, cs, a, s => ⟨tx, cs, a, s, acceptsS t s⟩
  | k :: p, tx, cs, a, s => if (stepS t s k).2 = true then runS t p (tx ++ (ruleAt t k).Print) (cs ++ (ruleAt t k).Cells) (a + 1) (stepS t s k).1 else ⟨tx, cs, a, s, false⟩
theorem stepS_in {t : GTable} {s : GState} {k : Int} (h : (stepS t s k).2 = true) : 0 ≤ k ∧ k < t.Rules.length := by
  unfold stepS at h
  split at h
  · cases h
  · rename_i hk
    simp only [Bool.or_eq_true, decide_eq_true_eq, not_or] at hk
    omega
theorem idx_rule {t : GTable} {k : Int} (h : 0 ≤ k) (h' : k < t.Rules.length) : idx t.Rules k = some (ruleAt t k) := idx_getD h h'
theorem ruleAt_mem {t : GTable} {k : Int} (h : 0 ≤ k) (h' : k < t.Rules.length) : ruleAt t k ∈ t.Rules := by
  unfold ruleAt
  rw [List.getElem?_eq_getElem (by omega)]
  exact List.getElem_mem _
theorem MadeOK.print {t : GTable} (ht : MadeOK t) {r : GRule} (hr : r ∈ t.Rules) : r.Print.length ≤ 4 ∧ r.Cells.length ≤ 4 := by
  have := ht.sound r hr
  unfold soundS at this
  simp only [Bool.and_eq_true, decide_eq_true_eq] at this
  omega
theorem bstr_bytesOf (s : List UInt8) : bstr (bytesOf s) = some s := by
  have hb : ∀ b : UInt8, b.toNat < 256 := fun b => b.toNat_lt
  have h1 : (bytesOf s).all (fun n => decide (0 ≤ n) && decide (n < 256)) = true := by
    rw [List.all_eq_true]
    intro x hx
    unfold bytesOf at hx
    obtain ⟨b, _, rfl⟩ := List.mem_map.1 hx
    have := hb b
    simp; omega
  unfold bstr
  rw [if_pos h1]
  unfold bytesOf
  rw [List.map_map]
  congr 1
  conv => rhs; rw [← List.map_id s]
  refine List.map_congr_left fun b _ => ?_
  simp
theorem bytesOf_append (a b : List UInt8) : bytesOf (a ++ b) = bytesOf a ++ bytesOf b := by simp [bytesOf]
theorem bytesOf_length (a : List UInt8) : (bytesOf a).length = a.length := by simp [bytesOf]
theorem drop_cons' {α : Type} {l : List α} {i : Nat} (h : i < l.length) : l.drop i = l[i] :: l.drop (i + 1) := List.drop_eq_getElem_cons h
structure RunI (t : GTable) (p : List Int) (i : Nat) (tx : List UInt8) (cs : List Int) (s : GState) : Prop where
  eq : runS t p [] [] 0 startS = runS t (p.drop i) tx cs i s
  tl : tx.length ≤ 4 * i
  cl : cs.length ≤ 4 * i
theorem RunI.start (t : GTable) (p : List Int) : RunI t p 0 [] [] startS := ⟨rfl, by simp, by simp⟩
theorem RunI.next {t : GTable} (ht : MadeOK t) {p : List Int} {i : Nat} {tx : List UInt8} {cs : List Int} {s : GState} (h : RunI t p i tx cs s) (hi : i < p.length) (hs : (stepS t s p[i]).2 = true) : RunI t p (i + 1) (tx ++ (ruleAt t p[i]).Print) (cs ++ (ruleAt t p[i]).Cells) (stepS t s p[i]).1 := by
  have hk := stepS_in hs
  have := ht.print (ruleAt_mem hk.1 hk.2)
  refine ⟨?_, ?_, ?_⟩
  · rw [h.eq, drop_cons' hi, runS, if_pos hs]
  · have := h.tl; simp only [List.length_append]; omega
  · have := h.cl; simp only [List.length_append]; omega
theorem RunI.stop {t : GTable} {p : List Int} {i : Nat} {tx : List UInt8} {cs : List Int} {s : GState} (h : RunI t p i tx cs s) (hi : i < p.length) (hs : (stepS t s p[i]).2 = false) : runS t p [] [] 0 startS = ⟨tx, cs, i, s, false⟩ := by
  rw [h.eq, drop_cons' hi, runS, if_neg (by rw [hs]; simp)]
theorem RunI.last {t : GTable} {p : List Int} {tx : List UInt8} {cs : List Int} {s : GState} (h : RunI t p p.length tx cs s) : runS t p [] [] 0 startS = ⟨tx, cs, p.length, s, acceptsS t s⟩ := by
  rw [h.eq, List.drop_length, runS]
theorem run_ev {t : GTable} (ht : MadeOK t) {p : List Int} (hp : p.length ≤ 100000) : Ev (fun n => FAutomaton_Run n t p) (runS t p [] [] 0 startS) := by
  have loop : Tot (fun n => whl (fun (x : ((List Int) × (List Int) × GState × Int × Int)) => FAutomaton_Run_L1 n t p x.1 x.2.1 x.2.2.1 x.2.2.2.1 x.2.2.2.2) n (([] : List Int), ([] : List Int), startS, 0, 0))
      (fun y => ∃ tx, y.1 = bytesOf tx ∧ runS t p [] [] 0 startS = ⟨tx, y.2.1, y.2.2.2, y.2.2.1, (y.2.2.2 == (p.length : Int)) && acceptsS t y.2.2.1⟩) := by
    refine Tot.upto (body := fun n x => FAutomaton_Run_L1 n t p x.1 x.2.1 x.2.2.1 x.2.2.2.1 x.2.2.2.2) p.length (fun i x => ∃ tx, x.1 = bytesOf tx ∧ x.2.2.2.1 = (i : Int) ∧ x.2.2.2.2 = (i : Int) ∧ RunI t p i tx x.2.1 x.2.2.1) ?_ ?_ _ ⟨[], rfl, rfl, rfl, RunI.start t p⟩
    · rintro i ⟨tb, cs, s, a, j⟩ hi ⟨tx, e1, e2, e3, hI⟩
      simp only at e1 e2 e3 hI
      subst e1 e2 e3
      unfold FAutomaton_Run_L1
      refine Tot.iteT (by simpa using hi) (Tot.bindC (idx_lt hi) (Tot.bindA (fun n => step_eq ht.tab.short n s p[i]) (Tot.ite (fun hc => ?_) (fun hc => ?_))))
      · refine Tot.pure ⟨tx, rfl, ?_⟩
        have hne : ((i : Int) == (p.length : Int)) = false := by simp; omega
        rw [hI.stop hi (by simpa using hc), hne]; rfl
      · have hs : (stepS t s p[i]).2 = true := by simpa using hc
        have hk := stepS_in hs
        have hN := hI.next ht hi hs
        have h1 := ht.print (ruleAt_mem hk.1 hk.2)
        have h2 := hI.tl
        have h3 := hI.cl
        refine Tot.bindC (idx_rule hk.1 hk.2) (Tot.bindC (app_le (by rw [bytesOf_length, bytesOf_length]; omega)) (Tot.bindC (idx_rule hk.1 hk.2) (Tot.bindC (app_le (by dsimp only; omega)) (Tot.pure ?_))))
        refine ⟨tx ++ (ruleAt t p[i]).Print, (bytesOf_append _ _).symm, ?_, ?_, hN⟩
        all_goals
          simp only
          rw [iadd64 (by omega) (by omega)]; rfl
    · rintro ⟨tb, cs, s, a, j⟩ ⟨tx, e1, e2, e3, hI⟩
      simp only at e1 e2 e3 hI
      subst e1 e2 e3
      unfold FAutomaton_Run_L1
      refine Tot.iteF (by simp) (Tot.pure ⟨tx, rfl, ?_⟩)
      rw [hI.last]; simp
  refine Tot.ev ?_
  unfold FAutomaton_Run
  refine Tot.bindA (y := startS) (fun n => rfl) (Tot.bind loop ?_)
  rintro ⟨tb, cs, s, a⟩ ⟨tx, e1, e2⟩
  simp only at e1 e2 ⊢
  subst e1
  refine Tot.bindC (bstr_bytesOf tx) ?_
  by_cases h : (a == ((List.length p : Nat) : Int)) = true
  · refine Tot.bindA (y := acceptsS t s) (fun n => by rw [if_pos h]; exact accepts_eq n t s) (Tot.pure ?_)
    rw [e2]
  · refine Tot.bindA (y := default) (fun n => by rw [if_neg h]) (Tot.pure ?_)
    rw [e2]
    rw [Bool.not_eq_true] at h
    simp [h]
end Go.AI
end
section
namespace Go.AI
theorem inc64 {i : Nat} (h : i < 9223372036854775807) : iadd .i64 (i : Int) 1 = ((i + 1 : Nat) : Int) := by
  rw [iadd64 (by omega) (by omega)]; rfl
theorem indexS_in {st : List GState} {s : GState} (h : s ∈ st) : ∃ i : Nat, indexS st s = i ∧ st[i]? = some s := by
  unfold indexS
  cases hf : st.findIdx? (fun x => decide (x = s)) with
  | none =>
    rw [List.findIdx?_eq_none_iff] at hf
    have := hf s h
    simp at this
  | some i =>
    rw [List.findIdx?_eq_some_iff_getElem] at hf
    obtain ⟨hi, h1, _⟩ := hf
    refine ⟨i, rfl, ?_⟩
    rw [List.getElem?_eq_getElem hi]
    simpa using h1
theorem indexS_out {st : List GState} {s : GState} (h : s ∉ st) : indexS st s = -1 := by
  unfold indexS
  rw [findIdx_none h]
theorem indexS_neg {st : List GState} {s : GState} : indexS st s < 0 ↔ s ∉ st := by
  constructor
  · intro h hm
    obtain ⟨i, e, _⟩ := indexS_in hm
    omega
  · intro h
    rw [indexS_out h]; omega
theorem states3i_ev {t : GTable} (ht : TabOK t) {st : List GState} (hF : Found t st) {i : Nat} {s : GState} (hi : st[i]? = some s) : Tot (fun n => whl (fun (x : ((List GState) × Int)) => FSixdotref03_States_L2 n t (i : Int) x.1 x.2) n (st, 0)) (fun r => r = expS t s t.Rules.length st) := by
  have hr := ht.1
  refine Tot.upto (body := fun n x => FSixdotref03_States_L2 n t (i : Int) x.1 x.2) t.Rules.length (fun k x => x.2 = (k : Int) ∧ x.1 = expS t s k st) ?_ ?_ _ ⟨rfl, rfl⟩
  · rintro k ⟨l, k'⟩ hk ⟨e1, e2⟩
    simp only at e1 e2
    subst e1 e2
    have hFk := hF.exp ht hi k (by omega)
    have hik := pre_get (expS_pre t s st k) hi
    have hlen := hFk.len
    unfold FSixdotref03_States_L2
    refine Tot.iteT (by simpa using hk) (Tot.bindC (idx_at hik) (Tot.bindA (fun n => step3_eq ht.short n s k) (Tot.guard (R := fun z => z = indexS (expS t s k st) (stepS t s k).1) (fun _ => (index_ev (by dsimp only; omega)).tot rfl) (fun z hz => ?_))))
    have hJ : ∀ l', l' = expS t s (k + 1) st → Tot (fun n => FSixdotref03_States_J1 n (k : Int) l') (Rd2 (fun x : List GState × Int => x.2 = ((k + 1 : Nat) : Int) ∧ x.1 = expS t s (k + 1) st) (fun r => r = expS t s t.Rules.length st)) := by
      intro l' hl'
      unfold FSixdotref03_States_J1
      exact Tot.pure ⟨inc64 (by omega), hl'⟩
    have hx : expS t s (k + 1) st = addS t s (expS t s k st) k := expS_succ t s k st
    refine Tot.ite (fun hc => ?_) (fun hc => ?_)
    · simp only [Bool.and_eq_true, decide_eq_true_eq] at hc
      refine Tot.bindC (app_le (by simp; omega)) (hJ _ ?_)
      rw [hx]
      unfold addS
      rw [if_pos ⟨hc.1, indexS_neg.1 (by rw [← hz hc.1]; exact hc.2)⟩]
    · refine hJ _ ?_
      rw [hx]
      unfold addS
      rw [if_neg]
      rintro ⟨h1, h2⟩
      rw [h1, hz h1, decide_eq_true (indexS_neg.2 h2)] at hc
      cases hc
  · rintro ⟨l, k'⟩ ⟨e1, e2⟩
    simp only at e1 e2
    subst e1 e2
    unfold FSixdotref03_States_L2
    exact Tot.iteF (by simp) (Tot.pure rfl)
theorem found1 (t : GTable) : Found t [startS] := ⟨by simp, fun s hs => by simp at hs; subst hs; exact ⟨by decide, by decide, by decide, by decide, by decide, by decide⟩, rfl, fun j s hj h0 => by cases j with | zero => omega | succ j => simp at hj⟩
theorem states3_ev' {t : GTable} (ht : TabOK t) : Ev (fun n => FSixdotref03_States n t) (statesS t) := by
  have loop : Tot (fun n => whl (fun (x : ((List GState) × Int)) => FSixdotref03_States_L1 n t x.1 x.2) n ([startS], 0)) (fun r => r = statesS t) := by
    refine Tot.whl (body := fun n x => FSixdotref03_States_L1 n t x.1 x.2) (fun k x => ∃ i : Nat, i ≤ x.1.length ∧ k = 800 - i ∧ bfsS t (800 - i) i x.1 = statesS t ∧ x.2 = (i : Int) ∧ Found t x.1) ?_ 800 _ ⟨0, by simp, by omega, rfl, rfl, found1 t⟩
    rintro k ⟨st, i'⟩ ⟨i, hil, rfl, hb, hi', hF⟩
    simp only at hil hb hi' hF
    subst hi'
    have hlen := hF.len
    unfold FSixdotref03_States_L1
    refine Tot.ite (fun hc => ?_) (fun hc => ?_)
    · have hlt : i < st.length := by simpa using hc
      have hi : st[i]? = some st[i] := List.getElem?_eq_getElem hlt
      have hexp := hF.exp ht hi _ (Nat.le_refl _)
      refine Tot.bind (states3i_ev ht hF hi) ?_
      rintro _ rfl
      refine Tot.pure ⟨800 - (i + 1), by omega, i + 1, ?_, rfl, ?_, ?_, hexp⟩
      · have := (expS_pre t st[i] st t.Rules.length).length_le
        dsimp only
        omega
      · dsimp only
        rw [← hb]
        have e : 800 - i = (800 - (i + 1)) + 1 := by omega
        rw [e]
        simp only [bfsS, hi]
      · exact inc64 (by omega)
    · have hge : st.length ≤ i := by simpa using hc
      have e : i = st.length := by omega
      subst e
      refine Tot.pure ?_
      show st = statesS t
      rw [← hb]
      have e : 800 - st.length = (800 - (st.length + 1)) + 1 := by omega
      rw [e]
      simp [bfsS]
  refine Tot.ev ?_
  unfold FSixdotref03_States
  exact Tot.bindA (y := startS) (fun n => rfl) (Tot.bind loop fun _ h => Tot.pure h)
end Go.AI
end
section
namespace Go.AI
def Edge (t : GTable) (st : List GState) (i : Nat) (k : Nat) (j : Nat) : Prop := ∃ s s', st[i]? = some s ∧ k < t.Rules.length ∧ st[j]? = some s' ∧ stepS t s (k : Nat) = (s', true)
inductive Live (t : GTable) (st : List GState) : Nat → Prop
  | acc (i : Nat) (s : GState) (h : st[i]? = some s) (ha : acceptsS t s = true) : Live t st i
  | step (i k j : Nat) (h : Edge t st i k j) (hj : Live t st j) : Live t st i
def AliveL (t : GTable) (st : List GState) (l : List Bool) : Prop := l.length = st.length ∧ ∀ i : Nat, l[i]? = some true ↔ Live t st i
theorem Live.lt {t : GTable} {st : List GState} {i : Nat} (h : Live t st i) : i < st.length := by
  cases h with
  | acc _ s h ha => exact getElem?_lt' h
  | step _ k j h hj => obtain ⟨s, s', h, _⟩ := h; exact getElem?_lt' h
theorem AliveL.of {t : GTable} {st : List GState} {l : List Bool} (hl : l.length = st.length) (hs : ∀ i, l[i]? = some true → Live t st i) (ha : ∀ (i : Nat) s, st[i]? = some s → acceptsS t s = true → l[i]? = some true) (hc : ∀ i k j, Edge t st i k j → l[j]? = some true → l[i]? = some true) : AliveL t st l := by
  refine ⟨hl, fun i => ⟨hs i, fun h => ?_⟩⟩
  induction h with
  | acc i s h h' => exact ha i s h h'
  | step i k j h _ ih => exact hc i k j h ih
def cntF (l : List Bool) : Nat := l.count false
theorem cntF_set {l : List Bool} {i : Nat} (h : l[i]? = some false) : cntF (l.set i true) + 1 = cntF l := by
  have hi := getElem?_lt' h
  rw [List.getElem?_eq_getElem hi] at h
  have h' : l[i] = false := by simpa using h
  have hp : 0 < List.count false l := List.count_pos_iff.2 (h' ▸ List.getElem_mem hi)
  unfold cntF
  rw [List.count_set hi, h']
  simp
  omega
theorem cntF_le (l : List Bool) : cntF l ≤ l.length := List.count_le_length
structure PassI (t : GTable) (st : List GState) (out0 out : List Bool) (g : Bool) (i m : Nat) : Prop where
  len : out.length = st.length
  snd : ∀ j : Nat, out[j]? = some true → Live t st j
  acc : ∀ (j : Nat) s, st[j]? = some s → acceptsS t s = true → out[j]? = some true
  same : g = false → out = out0
  less : g = true → cntF out < cntF out0
  cl : g = false → ∀ i' k j, (i' < i ∨ (i' = i ∧ k < m)) → Edge t st i' k j → out[j]? = some true → out[i']? = some true
theorem PassI.stop {t : GTable} {st : List GState} {out0 out : List Bool} {g : Bool} {i m : Nat} (h : PassI t st out0 out g i m) (hm : t.Rules.length ≤ m ∨ out[i]? = some true) : PassI t st out0 out g (i + 1) 0 := by
  refine ⟨h.len, h.snd, h.acc, h.same, h.less, fun hg i' k j hi he hj => ?_⟩
  rcases Nat.lt_or_ge i' i with hlt | hge
  · exact h.cl hg i' k j (.inl hlt) he hj
  · have : i' = i := by omega
    subst this
    rcases hm with hm | hm
    · obtain ⟨s, s', _, hk, _⟩ := id he
      exact h.cl hg i' k j (.inr ⟨rfl, by omega⟩) he hj
    · exact hm
theorem alive3i_ev {t : GTable} (ht : TabOK t) {st : List GState} (hF : Found t st) (hD : ∀ i, Done t i st) {out0 out : List Bool} {g : Bool} {i : Nat} {s : GState} (hi : st[i]? = some s) (h0 : PassI t st out0 out g i 0) :
    Tot (fun n => whl (fun (x : ((List Bool) × Bool × Int)) => FSixdotref03_Alive_L4 n t st (i : Int) x.1 x.2.1 x.2.2) n (out, g, 0)) (fun r => PassI t st out0 r.1 r.2 (i + 1) 0) := by
  have hr := ht.1
  have hil := getElem?_lt' hi
  have hlen := hF.len
  have last : ∀ k (x : List Bool × Bool × Int), k ≤ t.Rules.length → x.2.2 = (k : Int) → PassI t st out0 x.1 x.2.1 i k → (k = t.Rules.length ∨ x.1[i]? = some true) → Tot (fun n => FSixdotref03_Alive_L4 n t st (i : Int) x.1 x.2.1 x.2.2) (Rd2 (fun _ => False) (fun r => PassI t st out0 r.1 r.2 (i + 1) 0)) := by
    rintro k ⟨l, g, k'⟩ hk e1 hP hx
    simp only at e1 hP hx
    subst e1
    have hll : i < l.length := by rw [hP.len]; exact hil
    unfold FSixdotref03_Alive_L4
    refine Tot.guard (R := fun z => l[i]? = some z) (fun _ => Tot.all (fun n => idx_lt hll) (List.getElem?_eq_getElem hll)) (fun z hz => ?_)
    refine Tot.iteF ?_ (Tot.pure (hP.stop (hx.imp (fun h => by omega) id)))
    rcases hx with rfl | hx
    · simp
    · rw [← Bool.not_eq_true]
      simp only [Bool.and_eq_true, decide_eq_true_eq, Bool.not_eq_true', not_and, Bool.not_eq_false]
      intro hlt
      have := hz (by simpa using hlt)
      rw [hx] at this
      exact (Option.some.inj this).symm
  refine Tot.whl (body := fun n x => FSixdotref03_Alive_L4 n t st (i : Int) x.1 x.2.1 x.2.2) (fun c x => ∃ k, k ≤ t.Rules.length ∧ c = t.Rules.length - k ∧ x.2.2 = (k : Int) ∧ PassI t st out0 x.1 x.2.1 i k) ?_ t.Rules.length _ ⟨0, by omega, by omega, rfl, h0⟩
  rintro c ⟨l, g, k'⟩ ⟨k, hk, rfl, e1, hP⟩
  simp only at e1 hP
  subst e1
  have fin : ∀ hh : (k = t.Rules.length ∨ l[i]? = some true), Tot (fun n => FSixdotref03_Alive_L4 n t st (i : Int) l g (k : Int)) (Rd2 (fun y : List Bool × Bool × Int => ∃ c', c' < t.Rules.length - k ∧ ∃ k, k ≤ t.Rules.length ∧ c' = t.Rules.length - k ∧ y.2.2 = (k : Int) ∧ PassI t st out0 y.1 y.2.1 i k) (fun r => PassI t st out0 r.1 r.2 (i + 1) 0)) := fun hh => (last k (l, g, (k : Int)) hk rfl hP hh).mono fun z hz => by
    cases z with
    | inl y => exact hz.elim
    | inr r => exact hz
  by_cases hx : k = t.Rules.length ∨ l[i]? = some true
  · exact fin hx
  · rw [not_or] at hx
    have hll : i < l.length := by rw [hP.len]; exact hil
    have hlf : l[i]? = some false := by
      have := List.getElem?_eq_getElem hll
      cases hb : l[i] with
      | true => rw [hb] at this; exact absurd this hx.2
      | false => rw [hb] at this; exact this
    have hkl : k < t.Rules.length := by omega
    unfold FSixdotref03_Alive_L4
    have hc1 : decide ((k : Int) < ((List.length t.Rules : Nat) : Int)) = true := by simpa using hkl
    refine Tot.bindA (y := false) (fun n => by rw [if_pos hc1, idx_at hlf]) (Tot.iteT (by rw [hc1]; rfl) (Tot.bindC (idx_at hi) (Tot.bindA (fun n => step3_eq ht.short n s k) ?_)))
    have hJ : ∀ l' g', PassI t st out0 l' g' i (k + 1) → Tot (fun n => FSixdotref03_Alive_J1 n (k : Int) l' g') (Rd2 (fun y : List Bool × Bool × Int => ∃ c', c' < t.Rules.length - k ∧ ∃ k, k ≤ t.Rules.length ∧ c' = t.Rules.length - k ∧ y.2.2 = (k : Int) ∧ PassI t st out0 y.1 y.2.1 i k) (fun r => PassI t st out0 r.1 r.2 (i + 1) 0)) := by
      intro l' g' hP'
      unfold FSixdotref03_Alive_J1
      exact Tot.pure ⟨t.Rules.length - (k + 1), by omega, k + 1, by omega, rfl, inc64 (by omega), hP'⟩
    cases hs : (stepS t s (k : Nat)).2 with
    | false =>
      simp only
      refine Tot.bindC rfl (Tot.bindC rfl (Tot.iteF (by simp) (hJ l g ⟨hP.len, hP.snd, hP.acc, hP.same, hP.less, fun hg i' k' j hi' he hj => ?_⟩)))
      rcases hi' with hi' | ⟨rfl, hi'⟩
      · exact hP.cl hg i' k' j (.inl hi') he hj
      · rcases Nat.lt_or_ge k' k with h | h
        · exact hP.cl hg i' k' j (.inr ⟨rfl, h⟩) he hj
        · have : k' = k := by omega
          subst this
          obtain ⟨s1, s2, a1, a2, a3, a4⟩ := he
          rw [hi] at a1
          cases a1
          rw [a4] at hs
          cases hs
    | true =>
      have hmem : (stepS t s (k : Nat)).1 ∈ st := hD (i + 1) i s (by omega) hi k hkl hs
      obtain ⟨j, hj1, hj2⟩ := indexS_in hmem
      have hjl : j < l.length := by rw [hP.len]; exact getElem?_lt' hj2
      have hE : Edge t st i k j := ⟨s, _, hi, hkl, hj2, Prod.ext rfl hs⟩
      simp only [if_true]
      have hix := index_ev (l := st) (s := (stepS t s (k : Nat)).1) (by omega)
      rw [hj1] at hix
      refine Tot.bindE hix (Tot.bindC (idx_lt hjl) (Tot.ite (fun hc => ?_) (fun hc => ?_)))
      · have hlj : l[j]? = some true := by rw [List.getElem?_eq_getElem hjl]; simpa using hc
        refine Tot.bindC (idx_lt hll) (Tot.bindC (put_at hll) (hJ _ _ ⟨by rw [List.length_set]; exact hP.len, fun j' hj' => ?_, fun j' s' h1 h2 => ?_, by simp, fun _ => ?_, by simp⟩))
        · by_cases e : i = j'
          · subst e; exact .step i k j hE (hP.snd j hlj)
          · rw [List.getElem?_set_ne e] at hj'; exact hP.snd j' hj'
        · by_cases e : i = j'
          · subst e; rw [List.getElem?_set_self hll]
          · rw [List.getElem?_set_ne e]; exact hP.acc j' s' h1 h2
        · have := cntF_set hlf
          cases hg : g with
          | true => have := hP.less hg; omega
          | false => have := hP.same hg; subst this; omega
      · refine hJ l g ⟨hP.len, hP.snd, hP.acc, hP.same, hP.less, fun hg i' k' j' hi' he hj' => ?_⟩
        rcases hi' with hi' | ⟨rfl, hi'⟩
        · exact hP.cl hg i' k' j' (.inl hi') he hj'
        · rcases Nat.lt_or_ge k' k with h | h
          · exact hP.cl hg i' k' j' (.inr ⟨rfl, h⟩) he hj'
          · have : k' = k := by omega
            subst this
            obtain ⟨s1, s2, a1, a2, a3, a4⟩ := he
            rw [hi] at a1
            cases a1
            rw [a4] at hj2
            have := get_inj hF.nodup a3 hj2
            subst this
            rw [List.getElem?_eq_getElem hjl] at hj'
            simp only [Bool.true_and] at hc
            rw [hc] at hj'
            cases hj'
theorem alive3p_ev {t : GTable} (ht : TabOK t) {st : List GState} (hF : Found t st) (hD : ∀ i, Done t i st) {out0 : List Bool} (h0 : PassI t st out0 out0 false 0 0) :
    Tot (fun n => whl (fun (x : ((List Bool) × Bool × Int)) => FSixdotref03_Alive_L3 n t st x.1 x.2.1 x.2.2) n (out0, false, 0)) (fun r => PassI t st out0 r.1 r.2 st.length 0) := by
  have hlen := hF.len
  refine Tot.upto (body := fun n x => FSixdotref03_Alive_L3 n t st x.1 x.2.1 x.2.2) st.length (fun i x => x.2.2 = (i : Int) ∧ PassI t st out0 x.1 x.2.1 i 0) ?_ ?_ _ ⟨rfl, h0⟩
  · rintro i ⟨l, g, i'⟩ hi ⟨e, hP⟩
    simp only at e hP
    subst e
    unfold FSixdotref03_Alive_L3
    refine Tot.iteT (by simpa using hi) (Tot.bind (alive3i_ev ht hF hD (List.getElem?_eq_getElem hi) hP) fun y hy => Tot.pure ⟨inc64 (by omega), hy⟩)
  · rintro ⟨l, g, i'⟩ ⟨e, hP⟩
    simp only at e hP
    subst e
    unfold FSixdotref03_Alive_L3
    exact Tot.iteF (by simp) (Tot.pure hP)
theorem alive3_ev {t : GTable} (ht : TabOK t) : Tot (fun n => FSixdotref03_Alive n t) (AliveL t (statesS t)) := by
  obtain ⟨hF, hD⟩ := states_ok ht
  have hS := states3_ev' ht
  unfold FSixdotref03_Alive
  refine Tot.bindE hS ?_
  generalize statesS t = st at *
  have hlen := hF.len
  have l1 : Tot (fun n => whl (fun (x : ((List Bool) × Int)) => FSixdotref03_Alive_L1 n t st x.1 x.2) n (([] : List Bool), 0)) (fun l => l = st.map (acceptsS t)) := by
    refine Tot.upto (body := fun n x => FSixdotref03_Alive_L1 n t st x.1 x.2) st.length (fun i x => x.2 = (i : Int) ∧ x.1 = (st.take i).map (acceptsS t)) ?_ ?_ _ ⟨rfl, rfl⟩
    · rintro i ⟨l, i'⟩ hi ⟨e1, e2⟩
      simp only at e1 e2
      subst e1 e2
      unfold FSixdotref03_Alive_L1
      refine Tot.iteT (by simpa using hi) (Tot.bindC (idx_lt hi) (Tot.bindA (fun n => accepts3_eq n t _) (Tot.bindC (app_le (by simp; omega)) (Tot.pure ⟨inc64 (by omega), ?_⟩))))
      simp only
      rw [List.take_add_one, List.getElem?_eq_getElem hi, Option.toList_some, List.map_append]; rfl
    · rintro ⟨l, i'⟩ ⟨e1, e2⟩
      simp only at e1 e2
      subst e1 e2
      unfold FSixdotref03_Alive_L1
      exact Tot.iteF (by simp) (Tot.pure (by show _ = _; rw [List.take_length]))
  refine Tot.bind l1 ?_
  rintro _ rfl
  refine Tot.bind (R := AliveL t st) ?_ fun y hy => Tot.pure hy
  let Good := fun l : List Bool => l.length = st.length ∧ (∀ j : Nat, l[j]? = some true → Live t st j) ∧ (∀ (j : Nat) s, st[j]? = some s → acceptsS t s = true → l[j]? = some true)
  refine Tot.whl (body := fun n x => FSixdotref03_Alive_L2 n t st x.1 x.2) (fun c x => Good x.1 ∧ ((x.2 = true ∧ c = cntF x.1 + 1) ∨ (x.2 = false ∧ c = 0 ∧ AliveL t st x.1))) ?_ _ _ ⟨⟨by simp, fun j hj => ?_, fun j s h1 h2 => ?_⟩, .inl ⟨rfl, rfl⟩⟩
  · rintro c ⟨l, g⟩ ⟨⟨g1, g2, g3⟩, hg⟩
    simp only at g1 g2 g3 hg
    unfold FSixdotref03_Alive_L2
    rcases hg with ⟨rfl, rfl⟩ | ⟨rfl, rfl, hA⟩
    · refine Tot.iteT rfl (Tot.bind (alive3p_ev ht hF hD ⟨g1, g2, g3, fun _ => rfl, by simp, fun _ i' k j hi => by omega⟩) fun y hy => Tot.pure ?_)
      obtain ⟨l', g'⟩ := y
      simp only at hy
      cases g' with
      | true => exact ⟨cntF l' + 1, by have := hy.less rfl; omega, ⟨hy.len, hy.snd, hy.acc⟩, .inl ⟨rfl, rfl⟩⟩
      | false => exact ⟨0, by omega, ⟨hy.len, hy.snd, hy.acc⟩, .inr ⟨rfl, rfl, AliveL.of hy.len hy.snd hy.acc fun i k j he hj => hy.cl rfl i k j (.inl (by obtain ⟨s, s', h, _⟩ := he; exact getElem?_lt' h)) he hj⟩⟩
    · exact Tot.iteF rfl (Tot.pure hA)
  · rw [List.getElem?_map] at hj
    cases hs : st[j]? with
    | none => rw [hs] at hj; cases hj
    | some s => rw [hs] at hj; exact .acc j s hs (Option.some.inj hj)
  · rw [List.getElem?_map, h1]; simp [h2]
end Go.AI
end
section
namespace Go.AI
def HomeI (t : GTable) (st : List GState) (near : List Bool) (out : List Int) (D : Nat) : Prop :=
  ∃ rk : Nat → Nat, ∀ j : Nat, near[j]? = some true → rk j ≤ D ∧ ((∃ s, st[j]? = some s ∧ acceptsS t s = true) ∨ ∃ k j' : Nat, out[j]? = some (k : Int) ∧ Edge t st j k j' ∧ near[j']? = some true ∧ rk j' < rk j)
structure RingI (t : GTable) (st : List GState) (near ring : List Bool) (out : List Int) (D : Nat) (g : Bool) (i m : Nat) : Prop where
  len : ring.length = st.length
  oln : out.length = st.length
  sub : ∀ j : Nat, near[j]? = some true → ring[j]? = some true
  new : ∀ j : Nat, ring[j]? = some true → near[j]? = some true ∨ ∃ k j' : Nat, out[j]? = some (k : Int) ∧ Edge t st j k j' ∧ near[j']? = some true
  hom : HomeI t st near out D
  same : g = false → ring = near
  less : g = true → cntF ring < cntF near
  cl : g = false → ∀ i' k j, (i' < i ∨ (i' = i ∧ k < m)) → Edge t st i' k j → near[j]? = some true → ring[i']? = some true
theorem RingI.stop {t : GTable} {st : List GState} {near ring : List Bool} {out : List Int} {D : Nat} {g : Bool} {i m : Nat} (h : RingI t st near ring out D g i m) (hm : t.Rules.length ≤ m ∨ ring[i]? = some true) : RingI t st near ring out D g (i + 1) 0 := by
  refine ⟨h.len, h.oln, h.sub, h.new, h.hom, h.same, h.less, fun hg i' k j hi he hj => ?_⟩
  rcases Nat.lt_or_ge i' i with hlt | hge
  · exact h.cl hg i' k j (.inl hlt) he hj
  · have : i' = i := by omega
    subst this
    rcases hm with hm | hm
    · obtain ⟨s, s', _, hk, _⟩ := id he
      exact h.cl hg i' k j (.inr ⟨rfl, by omega⟩) he hj
    · exact hm
theorem home4_ev {t : GTable} (ht : TabOK t) {st : List GState} (hF : Found t st) (hD : ∀ i, Done t i st) {near ring : List Bool} (hnl : near.length = st.length) {out : List Int} {D : Nat} {g : Bool} {i : Nat} {s : GState} (hi : st[i]? = some s) (h0 : RingI t st near ring out D g i 0) :
    Tot (fun n => whl (fun (x : ((List Int) × (List Bool) × Bool × Int)) => FSixdotref03_home_L4 n t st near (i : Int) x.1 x.2.1 x.2.2.1 x.2.2.2) n (out, ring, g, 0)) (fun r => RingI t st near r.2.1 r.1 D r.2.2 (i + 1) 0) := by
  have hr := ht.1
  have hil := getElem?_lt' hi
  have hlen := hF.len
  refine Tot.whl (body := fun n x => FSixdotref03_home_L4 n t st near (i : Int) x.1 x.2.1 x.2.2.1 x.2.2.2) (fun c x => ∃ k, k ≤ t.Rules.length ∧ c = t.Rules.length - k ∧ x.2.2.2 = (k : Int) ∧ RingI t st near x.2.1 x.1 D x.2.2.1 i k) ?_ t.Rules.length _ ⟨0, by omega, by omega, rfl, h0⟩
  rintro c ⟨o, l, g, k'⟩ ⟨k, hk, rfl, e1, hP⟩
  simp only at e1 hP
  subst e1
  have hll : i < l.length := by rw [hP.len]; exact hil
  have hol : i < o.length := by rw [hP.oln]; exact hil
  by_cases hx : k = t.Rules.length ∨ l[i]? = some true
  · unfold FSixdotref03_home_L4
    refine Tot.guard (R := fun z => l[i]? = some z) (fun _ => Tot.all (fun n => idx_lt hll) (List.getElem?_eq_getElem hll)) (fun z hz => ?_)
    refine Tot.iteF ?_ (Tot.pure (hP.stop (hx.imp (fun h => by omega) id)))
    rcases hx with rfl | hx
    · simp
    · rw [← Bool.not_eq_true]
      simp only [Bool.and_eq_true, decide_eq_true_eq, Bool.not_eq_true', not_and, Bool.not_eq_false]
      intro hlt
      have := hz (by simpa using hlt)
      rw [hx] at this
      exact (Option.some.inj this).symm
  · rw [not_or] at hx
    have hlf : l[i]? = some false := by
      have := List.getElem?_eq_getElem hll
      cases hb : l[i] with
      | true => rw [hb] at this; exact absurd this hx.2
      | false => rw [hb] at this; exact this
    have hnf : near[i]? ≠ some true := fun h => hx.2 (hP.sub i h)
    have hkl : k < t.Rules.length := by omega
    unfold FSixdotref03_home_L4
    have hc1 : decide ((k : Int) < ((List.length t.Rules : Nat) : Int)) = true := by simpa using hkl
    refine Tot.bindA (y := false) (fun n => by rw [if_pos hc1, idx_at hlf]) (Tot.iteT (by rw [hc1]; rfl) (Tot.bindC (idx_at hi) (Tot.bindA (fun n => step3_eq ht.short n s k) ?_)))
    have hJ : ∀ o' l' g', RingI t st near l' o' D g' i (k + 1) → Tot (fun n => FSixdotref03_home_J1 n (k : Int) o' l' g') (Rd2 (fun y : List Int × List Bool × Bool × Int => ∃ c', c' < t.Rules.length - k ∧ ∃ k, k ≤ t.Rules.length ∧ c' = t.Rules.length - k ∧ y.2.2.2 = (k : Int) ∧ RingI t st near y.2.1 y.1 D y.2.2.1 i k) (fun r => RingI t st near r.2.1 r.1 D r.2.2 (i + 1) 0)) := by
      intro o' l' g' hP'
      unfold FSixdotref03_home_J1
      exact Tot.pure ⟨t.Rules.length - (k + 1), by omega, k + 1, by omega, rfl, inc64 (by omega), hP'⟩
    have keep : (g = false → ∀ j, Edge t st i k j → near[j]? = some true → l[i]? = some true) → RingI t st near l o D g i (k + 1) := fun hh => ⟨hP.len, hP.oln, hP.sub, hP.new, hP.hom, hP.same, hP.less, fun hg i' k' j hi' he hj => by
      rcases hi' with hi' | ⟨rfl, hi'⟩
      · exact hP.cl hg i' k' j (.inl hi') he hj
      · rcases Nat.lt_or_ge k' k with h | h
        · exact hP.cl hg i' k' j (.inr ⟨rfl, h⟩) he hj
        · have : k' = k := by omega
          subst this
          exact hh hg j he hj⟩
    cases hs : (stepS t s (k : Nat)).2 with
    | false =>
      simp only
      refine Tot.bindC rfl (Tot.bindC rfl (Tot.iteF (by simp) (hJ o l g (keep fun hg j he hj => ?_))))
      obtain ⟨s1, s2, a1, a2, a3, a4⟩ := he
      rw [hi] at a1
      cases a1
      rw [a4] at hs
      cases hs
    | true =>
      have hmem : (stepS t s (k : Nat)).1 ∈ st := hD (i + 1) i s (by omega) hi k hkl hs
      obtain ⟨j, hj1, hj2⟩ := indexS_in hmem
      have hjl : j < near.length := by rw [hnl]; exact getElem?_lt' hj2
      have hE : Edge t st i k j := ⟨s, _, hi, hkl, hj2, Prod.ext rfl hs⟩
      simp only [if_true]
      have hix := index_ev (l := st) (s := (stepS t s (k : Nat)).1) (by omega)
      rw [hj1] at hix
      refine Tot.bindE hix (Tot.bindC (idx_lt hjl) (Tot.ite (fun hc => ?_) (fun hc => ?_)))
      · have hlj : near[j]? = some true := by rw [List.getElem?_eq_getElem hjl]; simpa using hc
        refine Tot.bindC (idx_lt hll) (Tot.bindC (put_at hll) (Tot.bindC (idx_lt hol) (Tot.bindC (put_at hol) (hJ _ _ _ ⟨by rw [List.length_set]; exact hP.len, by rw [List.length_set]; exact hP.oln, fun j' hj' => ?_, fun j' hj' => ?_, ?_, by simp, fun _ => ?_, by simp⟩))))
        · by_cases e : i = j'
          · subst e; rw [List.getElem?_set_self hll]
          · rw [List.getElem?_set_ne e]; exact hP.sub j' hj'
        · by_cases e : i = j'
          · subst e; rw [List.getElem?_set_self hol]; exact .inr ⟨k, j, rfl, hE, hlj⟩
          · rw [List.getElem?_set_ne e] at hj' ⊢; exact hP.new j' hj'
        · obtain ⟨rk, hrk⟩ := hP.hom
          refine ⟨rk, fun j' hj' => ?_⟩
          have e : i ≠ j' := fun e => hnf (e ▸ hj')
          rw [List.getElem?_set_ne e]
          exact hrk j' hj'
        · have := cntF_set hlf
          cases hg : g with
          | true => have := hP.less hg; omega
          | false => have := hP.same hg; subst this; omega
      · refine hJ o l g (keep fun hg j' he hj' => ?_)
        obtain ⟨s1, s2, a1, a2, a3, a4⟩ := he
        rw [hi] at a1
        cases a1
        rw [a4] at hj2
        have := get_inj hF.nodup a3 hj2
        subst this
        rw [List.getElem?_eq_getElem hjl] at hj'
        simp only [Bool.true_and] at hc
        rw [hc] at hj'
        cases hj'
theorem home3_ev {t : GTable} (ht : TabOK t) {st : List GState} (hF : Found t st) (hD : ∀ i, Done t i st) {near : List Bool} (hnl : near.length = st.length) {out : List Int} {D : Nat} (h0 : RingI t st near near out D false 0 0) :
    Tot (fun n => whl (fun (x : ((List Int) × (List Bool) × Bool × Int)) => FSixdotref03_home_L3 n t st near x.1 x.2.1 x.2.2.1 x.2.2.2) n (out, near, false, 0)) (fun r => RingI t st near r.2.1 r.1 D r.2.2 st.length 0) := by
  have hlen := hF.len
  refine Tot.upto (body := fun n x => FSixdotref03_home_L3 n t st near x.1 x.2.1 x.2.2.1 x.2.2.2) st.length (fun i x => x.2.2.2 = (i : Int) ∧ RingI t st near x.2.1 x.1 D x.2.2.1 i 0) ?_ ?_ _ ⟨rfl, h0⟩
  · rintro i ⟨o, l, g, i'⟩ hi ⟨e, hP⟩
    simp only at e hP
    subst e
    unfold FSixdotref03_home_L3
    refine Tot.iteT (by simpa using hi) (Tot.bind (home4_ev ht hF hD hnl (List.getElem?_eq_getElem hi) hP) fun y hy => Tot.pure ⟨inc64 (by omega), hy⟩)
  · rintro ⟨o, l, g, i'⟩ ⟨e, hP⟩
    simp only at e hP
    subst e
    unfold FSixdotref03_home_L3
    exact Tot.iteF (by simp) (Tot.pure hP)
def HomeOK (t : GTable) (st : List GState) (out : List Int) : Prop :=
  ∃ rk : Nat → Nat, ∀ j : Nat, Live t st j → rk j ≤ 768 ∧ ((∃ s, st[j]? = some s ∧ acceptsS t s = true) ∨ ∃ k j' : Nat, out[j]? = some (k : Int) ∧ Edge t st j k j' ∧ Live t st j' ∧ rk j' < rk j)
theorem HomeI.live {t : GTable} {st : List GState} {near : List Bool} {out : List Int} {D : Nat} (h : HomeI t st near out D) : ∀ j, near[j]? = some true → Live t st j := by
  obtain ⟨rk, h⟩ := h
  have : ∀ d j, rk j < d → near[j]? = some true → Live t st j := by
    intro d
    induction d with
    | zero => intro j hj; omega
    | succ d ih =>
      intro j hj hn
      obtain ⟨_, ⟨s, h1, h2⟩ | ⟨k, j', _, he, hj', hlt⟩⟩ := h j hn
      · exact .acc j s h1 h2
      · exact .step j k j' he (ih j' (by omega) hj')
  intro j
  exact this (rk j + 1) j (by omega)
theorem RingI.ring {t : GTable} {st : List GState} {near ring : List Bool} {out : List Int} {D : Nat} {g : Bool} {i m : Nat} (h : RingI t st near ring out D g i m) : HomeI t st ring out (D + 1) := by
  obtain ⟨rk, hrk⟩ := h.hom
  refine ⟨fun j => if near[j]? = some true then rk j else D + 1, fun j hj => ?_⟩
  by_cases hn : near[j]? = some true
  · simp only [hn, if_true]
    obtain ⟨h1, h2⟩ := hrk j hn
    refine ⟨by omega, h2.imp id ?_⟩
    rintro ⟨k, j', a, b, c, d⟩
    exact ⟨k, j', a, b, h.sub j' c, by rw [if_pos c]; exact d⟩
  · simp only [if_neg hn]
    refine ⟨by omega, ?_⟩
    rcases h.new j hj with hh | ⟨k, j', a, b, c⟩
    · exact absurd hh hn
    · exact .inr ⟨k, j', a, b, h.sub j' c, by rw [if_pos c]; have := (hrk j' c).1; omega⟩
theorem home_ev {t : GTable} (ht : TabOK t) : Tot (fun n => FSixdotref03_home n t) (HomeOK t (statesS t)) := by
  obtain ⟨hF, hD⟩ := states_ok ht
  have hS := states3_ev' ht
  unfold FSixdotref03_home
  refine Tot.bindE hS ?_
  generalize statesS t = st at *
  have hlen := hF.len
  have l1 : Tot (fun n => whl (fun (x : ((List Int) × (List Bool) × Int)) => FSixdotref03_home_L1 n t st x.1 x.2.1 x.2.2) n (([] : List Int), ([] : List Bool), 0)) (fun r => r.1.length = st.length ∧ r.2 = st.map (acceptsS t)) := by
    refine Tot.upto (body := fun n x => FSixdotref03_home_L1 n t st x.1 x.2.1 x.2.2) st.length (fun i x => x.2.2 = (i : Int) ∧ x.1.length = i ∧ x.2.1 = (st.take i).map (acceptsS t)) ?_ ?_ _ ⟨rfl, rfl, rfl⟩
    · rintro i ⟨o, l, i'⟩ hi ⟨e1, e3, e2⟩
      simp only at e1 e2 e3
      subst e1 e2
      unfold FSixdotref03_home_L1
      refine Tot.iteT (by simpa using hi) (Tot.bindC (app_le (by simp; omega)) (Tot.bindC (idx_lt hi) (Tot.bindA (fun n => accepts3_eq n t _) (Tot.bindC (app_le (by simp; omega)) (Tot.pure ⟨inc64 (by omega), by simp [e3], ?_⟩)))))
      simp only
      rw [List.take_add_one, List.getElem?_eq_getElem hi, Option.toList_some, List.map_append]; rfl
    · rintro ⟨o, l, i'⟩ ⟨e1, e3, e2⟩
      simp only at e1 e2 e3
      subst e1 e2
      unfold FSixdotref03_home_L1
      exact Tot.iteF (by simp) (Tot.pure ⟨e3, by simp only; rw [List.take_length]⟩)
  refine Tot.bind l1 ?_
  rintro ⟨o, l⟩ ⟨ho, hl⟩
  simp only at ho hl
  refine Tot.bind (R := HomeOK t st) ?_ fun y hy => Tot.pure hy
  let Acc := fun l : List Bool => ∀ (j : Nat) s, st[j]? = some s → acceptsS t s = true → l[j]? = some true
  refine Tot.whl (body := fun n x => FSixdotref03_home_L2 n t st x.1 x.2.1 x.2.2) (fun c x => x.1.length = st.length ∧ x.2.1.length = st.length ∧ Acc x.2.1 ∧ ∃ D, D + cntF x.2.1 ≤ st.length ∧ HomeI t st x.2.1 x.1 D ∧ ((x.2.2 = true ∧ c = cntF x.2.1 + 1) ∨ (x.2.2 = false ∧ c = 0 ∧ HomeOK t st x.1))) ?_ _ _ ⟨ho, by simp [hl], fun j s h1 h2 => ?_, 0, ?_, ⟨fun _ => 0, fun j hj => ⟨Nat.le_refl _, ?_⟩⟩, .inl ⟨rfl, rfl⟩⟩
  · rintro c ⟨o, l, g⟩ ⟨g1, g2, g3, D, g4, g5, hg⟩
    simp only at g1 g2 g3 g4 g5 hg
    unfold FSixdotref03_home_L2
    rcases hg with ⟨rfl, rfl⟩ | ⟨rfl, rfl, hA⟩
    · refine Tot.iteT rfl (Tot.bindC (app_le (by simp; omega)) ?_)
      simp only [List.nil_append]
      refine Tot.bind (home3_ev ht hF hD g2 ⟨g2, g1, fun _ h => h, fun _ h => .inl h, g5, fun _ => rfl, by simp, fun _ i' k j hi => by omega⟩) fun y hy => Tot.pure ?_
      obtain ⟨o', l', g'⟩ := y
      simp only at hy
      have hacc : Acc l' := fun j s h1 h2 => hy.sub j (g3 j s h1 h2)
      cases g' with
      | true =>
        have := hy.less rfl
        exact ⟨cntF l' + 1, by omega, hy.oln, hy.len, hacc, D + 1, by simp only; omega, hy.ring, .inl ⟨rfl, rfl⟩⟩
      | false =>
        have e := hy.same rfl
        refine ⟨0, by omega, hy.oln, hy.len, hacc, D, by simp only [e]; exact g4, by simp only [e]; exact hy.hom, .inr ⟨rfl, rfl, ?_⟩⟩
        have hL : ∀ j, Live t st j → l[j]? = some true := by
          intro j hj
          induction hj with
          | acc i s h h' => exact g3 i s h h'
          | step i k j h _ ih =>
            rw [← e]
            exact hy.cl rfl i k j (.inl (by obtain ⟨s, s', h, _⟩ := h; exact getElem?_lt' h)) h ih
        have hlv := hy.hom.live
        obtain ⟨rk, hrk⟩ := hy.hom
        refine ⟨rk, fun j hj => ?_⟩
        obtain ⟨h1, h2⟩ := hrk j (hL j hj)
        refine ⟨by omega, h2.imp id ?_⟩
        rintro ⟨k, j', a, b, c, d⟩
        exact ⟨k, j', a, b, hlv j' c, d⟩
    · exact Tot.iteF rfl (Tot.pure hA)
  · simp only [hl]; rw [List.getElem?_map, h1]; simp [h2]
  · simp only
    have := cntF_le l
    have : l.length = st.length := by rw [hl]; simp
    omega
  · simp only [hl] at hj
    rw [List.getElem?_map] at hj
    cases hs : st[j]? with
    | none => rw [hs] at hj; cases hj
    | some s => rw [hs] at hj; exact .inl ⟨s, rfl, Option.some.inj hj⟩
end Go.AI
end
section
namespace Go.AI
def Goes (t : GTable) (s : GState) : List Int → GState → Prop
  | [], s' => s = s'
  | k :: p, s' => (stepS t s k).2 = true ∧ Goes t (stepS t s k).1 p s'
theorem Goes.snoc {t : GTable} : ∀ {p : List Int} {s s' : GState} {k : Int}, Goes t s p s' → (stepS t s' k).2 = true → Goes t s (p ++ [k]) (stepS t s' k).1
  | [], s, s', k, h, h' => by
    unfold Goes at h
    subst h
    exact ⟨h', rfl⟩
  | a :: p, s, s', k, h, h' => ⟨h.1, Goes.snoc h.2 h'⟩
theorem Goes.mem {t : GTable} : ∀ {p : List Int} {s s' : GState}, Goes t s p s' → ∀ k ∈ p, 0 ≤ k ∧ k < t.Rules.length
  | [], _, _, _, k, hk => by cases hk
  | a :: p, s, s', h, k, hk => by
    rcases List.mem_cons.1 hk with rfl | hk
    · exact stepS_in h.1
    · exact Goes.mem h.2 k hk
def PathOK (t : GTable) (p : List Int) : Prop := p.length ≤ 1000 ∧ ∃ s, Goes t startS p s ∧ acceptsS t s = true
def WalkOK (t : GTable) (r : List Int × Bool) : Prop := (r.2 = true ↔ Live t (statesS t) 0) ∧ (r.2 = true → PathOK t r.1) ∧ (r.2 = false → r.1 = [])
theorem walk2_ev {t : GTable} (ht : TabOK t) {st : List GState} (hF : Found t st) (hD : ∀ i, Done t i st) {al : List Bool} (hal : AliveL t st al) {j : Nat} {s : GState} (hj : st[j]? = some s) (p1 : List Int) (way path : List Int) (size i : Int) :
    Tot (fun n => whl (fun (x : ((List Int) × Int)) => FSixdotref03_Walk_L2 n t p1 st al way path s size i x.1 x.2) n (([] : List Int), 0)) (fun l => l.length ≤ 11 ∧ ∀ k ∈ l, ∃ k' j' : Nat, k = (k' : Int) ∧ Edge t st j k' j' ∧ Live t st j') := by
  have hr := ht.1
  have hlen := hF.len
  refine Tot.upto (body := fun n x => FSixdotref03_Walk_L2 n t p1 st al way path s size i x.1 x.2) t.Rules.length (fun m x => x.2 = (m : Int) ∧ x.1.length ≤ m ∧ ∀ k ∈ x.1, ∃ k' j' : Nat, k = (k' : Int) ∧ Edge t st j k' j' ∧ Live t st j') ?_ ?_ _ ⟨rfl, by simp, by simp⟩
  · rintro m ⟨l, m'⟩ hm ⟨e, h1, h2⟩
    simp only at e h1 h2
    subst e
    have hJ : ∀ l', (l'.length ≤ m + 1 ∧ ∀ k ∈ l', ∃ k' j' : Nat, k = (k' : Int) ∧ Edge t st j k' j' ∧ Live t st j') → Tot (fun n => FSixdotref03_Walk_J1 n (m : Int) l') (Rd2 (fun x : List Int × Int => x.2 = ((m + 1 : Nat) : Int) ∧ x.1.length ≤ m + 1 ∧ ∀ k ∈ x.1, ∃ k' j' : Nat, k = (k' : Int) ∧ Edge t st j k' j' ∧ Live t st j') (fun l => l.length ≤ 11 ∧ ∀ k ∈ l, ∃ k' j' : Nat, k = (k' : Int) ∧ Edge t st j k' j' ∧ Live t st j')) := by
      intro l' h
      unfold FSixdotref03_Walk_J1
      exact Tot.pure ⟨inc64 (by omega), h⟩
    unfold FSixdotref03_Walk_L2
    refine Tot.iteT (by simpa using hm) (Tot.bindA (fun n => step3_eq ht.short n s m) ?_)
    cases hs : (stepS t s (m : Nat)).2 with
    | false =>
      simp only
      exact Tot.bindC rfl (Tot.bindC rfl (Tot.iteF (by simp) (hJ l ⟨by omega, h2⟩)))
    | true =>
      have hmem : (stepS t s (m : Nat)).1 ∈ st := hD (j + 1) j s (by omega) hj m hm hs
      obtain ⟨j', hj1, hj2⟩ := indexS_in hmem
      have hjl : j' < al.length := by rw [hal.1]; exact getElem?_lt' hj2
      have hE : Edge t st j m j' := ⟨s, _, hj, hm, hj2, Prod.ext rfl hs⟩
      simp only [if_true]
      have hix := index_ev (l := st) (s := (stepS t s (m : Nat)).1) (by omega)
      rw [hj1] at hix
      refine Tot.bindE hix (Tot.bindC (idx_lt hjl) (Tot.ite (fun hc => ?_) (fun hc => hJ l ⟨by omega, h2⟩)))
      have hlj : al[j']? = some true := by rw [List.getElem?_eq_getElem hjl]; simpa using hc
      refine Tot.bindC (app_le (by simp; omega)) (hJ _ ⟨by simp; omega, fun k hk => ?_⟩)
      rcases List.mem_append.1 hk with hk | hk
      · exact h2 k hk
      · simp at hk
        exact ⟨m, j', hk, hE, (hal.2 j').1 hlj⟩
  · rintro ⟨l, m'⟩ ⟨e, h1, h2⟩
    simp only at e h1 h2
    subst e
    unfold FSixdotref03_Walk_L2
    exact Tot.iteF (by simp) (Tot.pure ⟨by simp only; omega, h2⟩)
theorem walk1_ev {t : GTable} (ht : TabOK t) {st : List GState} (hF : Found t st) (hD : ∀ i, Done t i st) {al : List Bool} (hal : AliveL t st al) (hl0 : Live t st 0) (p1 : List Int) (hp1 : ∀ a ∈ p1, U8 a) (way : List Int) :
    Tot (fun n => whl (fun (x : ((List Int) × GState × Int × Int)) => FSixdotref03_Walk_L1 n t p1 st al way x.1 x.2.1 x.2.2.1 x.2.2.2) n (([] : List Int), startS, 0, 0)) (fun r => r.1.length ≤ 10 ∧ Goes t startS r.1 r.2 ∧ ∃ j : Nat, st[j]? = some r.2 ∧ Live t st j) := by
  have hr := ht.1
  have hlen := hF.len
  refine Tot.whl (body := fun n x => FSixdotref03_Walk_L1 n t p1 st al way x.1 x.2.1 x.2.2.1 x.2.2.2) (fun c x => ∃ i : Nat, i ≤ 10 ∧ c = 10 - i ∧ x.2.2.2 = (i : Int) ∧ x.1.length ≤ i ∧ Goes t startS x.1 x.2.1 ∧ ∃ j : Nat, st[j]? = some x.2.1 ∧ Live t st j) ?_ 10 _ ⟨0, by omega, by omega, rfl, by simp, rfl, 0, hF.first, hl0⟩
  rintro c ⟨path, s, size, i'⟩ ⟨i, hi, rfl, e, h1, h2, j, hj, hL⟩
  simp only at e h1 h2 hj
  subst e
  unfold FSixdotref03_Walk_L1
  refine Tot.ite (fun hc => ?_) (fun hc => Tot.pure ⟨by simp only; omega, h2, j, hj, hL⟩)
  simp only [Bool.and_eq_true, decide_eq_true_eq] at hc
  refine Tot.bind (walk2_ev ht hF hD hal hj p1 way path size i) ?_
  rintro fit ⟨hf1, hf2⟩
  refine Tot.ite (fun hc0 => Tot.pure ⟨by simp only; omega, h2, j, hj, hL⟩) (fun hc0 => ?_)
  have hfl : 0 < fit.length := by
    rcases Nat.eq_zero_or_pos fit.length with h | h
    · rw [h] at hc0; cases hc0
    · exact h
  have hil : i < p1.length := by omega
  have hu := hp1 _ (List.getElem_mem hil)
  unfold U8 at hu
  have hw : IntKind.i64.wrap p1[i] = p1[i] := wrap64 (by omega) (by omega)
  have hrm := irem_range (a := p1[i]) (m := (fit.length : Int)) hu.1 (by omega)
  refine Tot.bindC (idx_lt hil) (Tot.bindC (y := ()) (by rw [hc0]; rfl) ?_)
  simp only [hw]
  obtain ⟨k, hk, hki⟩ := idx_in hrm.1 hrm.2
  refine Tot.bindC hki ?_
  obtain ⟨k', j', rfl, hE, hL'⟩ := hf2 k hk
  obtain ⟨s1, s2, a1, a2, a3, a4⟩ := hE
  rw [hj] at a1
  cases a1
  have hst : (stepS t s (k' : Nat)).2 = true := by rw [a4]
  refine Tot.bindC (app_le (by simp; omega)) (Tot.bindC (idx_lt a2) (Tot.bindA (fun n => step3_eq ht.short n s k') (Tot.pure ⟨10 - (i + 1), by omega, i + 1, by omega, rfl, inc64 (by omega), by simp only [List.length_append, List.length_singleton]; omega, h2.snoc hst, j', ?_, hL'⟩)))
  rw [a3, a4]
theorem walk3_ev {t : GTable} (ht : TabOK t) {st : List GState} (hF : Found t st) {way : List Int} (hw : HomeOK t st way) {p0 : List Int} {s0 : GState} (hp0 : p0.length ≤ 10) (hg : Goes t startS p0 s0) {j0 : Nat} (hj0 : st[j0]? = some s0) (hL0 : Live t st j0) :
    Tot (fun n => whl (fun (x : ((List Int) × GState)) => FSixdotref03_Walk_L3 n t st way x.1 x.2) n (p0, s0)) (PathOK t) := by
  have hlen := hF.len
  obtain ⟨rk, hrk⟩ := hw
  refine Tot.whl (body := fun n x => FSixdotref03_Walk_L3 n t st way x.1 x.2) (fun c x => ∃ j : Nat, c = rk j ∧ x.1.length + rk j ≤ 778 ∧ Goes t startS x.1 x.2 ∧ st[j]? = some x.2 ∧ Live t st j) ?_ _ _ ⟨j0, rfl, by have := (hrk j0 hL0).1; simp only; omega, hg, hj0, hL0⟩
  rintro c ⟨p, s⟩ ⟨j, rfl, h1, h2, h3, h4⟩
  simp only at h1 h2 h3
  unfold FSixdotref03_Walk_L3
  refine Tot.bindA (fun n => accepts3_eq n t s) (Tot.ite (fun hc => ?_) (fun hc => Tot.pure ⟨by simp only; omega, s, h2, by simpa using hc⟩))
  have hna : acceptsS t s = false := by simpa using hc
  obtain ⟨hb, ⟨s', e1, e2⟩ | ⟨k, j', e1, hE, e3, e4⟩⟩ := hrk j h4
  · rw [h3] at e1
    cases e1
    rw [hna] at e2
    cases e2
  · have hix := index_ev (l := st) (s := s) (by omega)
    rw [indexS_get hF.nodup h3] at hix
    obtain ⟨s1, s2, a1, a2, a3, a4⟩ := hE
    rw [h3] at a1
    cases a1
    have hst : (stepS t s (k : Nat)).2 = true := by rw [a4]
    refine Tot.bindE hix (Tot.bindC (idx_at e1) (Tot.bindC (app_le (by simp; omega)) (Tot.bindA (fun n => step3_eq ht.short n s k) (Tot.pure ⟨rk j', e4, j', rfl, by simp only [List.length_append, List.length_singleton]; omega, h2.snoc hst, ?_, e3⟩))))
    rw [a3, a4]
theorem walk_ev {t : GTable} (ht : TabOK t) {l : List Int} (hl : ∀ a ∈ l, U8 a) : Tot (fun n => FSixdotref03_Walk n t l) (WalkOK t) := by
  obtain ⟨hF, hD⟩ := states_ok ht
  unfold FSixdotref03_Walk
  refine Tot.bindE (states3_ev' ht) (Tot.bind (alive3_ev ht) fun al hal => Tot.bind (home_ev ht) fun way hw => ?_)
  have h0 : 0 < al.length := by rw [hal.1]; exact getElem?_lt' hF.first
  have hi0 : idx al 0 = some al[0] := idx_lt (i := 0) h0
  refine Tot.bindC hi0 (Tot.ite (fun hc => Tot.pure ⟨⟨fun h => (by cases h), fun h => ?_⟩, fun h => (by cases h), fun _ => rfl⟩) (fun hc => ?_))
  · have := (hal.2 0).2 h
    rw [List.getElem?_eq_getElem h0] at this
    rw [Option.some.inj this] at hc
    cases hc
  · have hL : Live t (statesS t) 0 := (hal.2 0).1 (by rw [List.getElem?_eq_getElem h0]; simpa using hc)
    refine Tot.bindA (y := startS) (fun n => rfl) (Tot.bind (walk1_ev ht hF hD hal hL l hl way) ?_)
    rintro ⟨p, s⟩ ⟨h1, h2, j, h3, h4⟩
    exact Tot.bind (walk3_ev ht hF hw h1 h2 h3 h4) fun p hp => Tot.pure ⟨⟨fun _ => hL, fun _ => rfl⟩, fun _ => hp, fun h => by cases h⟩
def textOf (t : GTable) (p : List Int) : List UInt8 := p.flatMap fun k => (ruleAt t k).Print
def cellsOf (t : GTable) (p : List Int) : List Int := p.flatMap fun k => (ruleAt t k).Cells
theorem runS_goes {t : GTable} : ∀ {p : List Int} {s s' : GState} (tx : List UInt8) (cs : List Int) (a : Nat), Goes t s p s' → runS t p tx cs a s = ⟨tx ++ textOf t p, cs ++ cellsOf t p, (a + p.length : Nat), s', acceptsS t s'⟩
  | [], s, s', tx, cs, a, h => by
    unfold Goes at h
    subst h
    simp [runS, textOf, cellsOf]
  | k :: p, s, s', tx, cs, a, h => by
    unfold runS
    rw [if_pos h.1, runS_goes _ _ _ h.2]
    simp only [textOf, cellsOf, List.flatMap_cons, List.append_assoc, List.length_cons]
    congr 1
    omega
theorem PathOK.run {t : GTable} {p : List Int} (h : PathOK t p) : ∃ s, Goes t startS p s ∧ acceptsS t s = true ∧ runS t p [] [] 0 startS = ⟨textOf t p, cellsOf t p, (p.length : Nat), s, true⟩ := by
  obtain ⟨_, s, h1, h2⟩ := h
  refine ⟨s, h1, h2, ?_⟩
  rw [runS_goes [] [] 0 h1, h2]
  simp
end Go.AI
end
section
namespace Go.AI
theorem path_len {t : GTable} (ht : MadeOK t) {p : List Int} (h : ∀ k ∈ p, 0 ≤ k ∧ k < t.Rules.length) : (textOf t p).length ≤ 4 * p.length ∧ (cellsOf t p).length ≤ 4 * p.length := by
  induction p with
  | nil => simp [textOf, cellsOf]
  | cons k p ih =>
    obtain ⟨i1, i2⟩ := ih fun k hk => h k (List.mem_cons_of_mem _ hk)
    have hk := h k List.mem_cons_self
    have := ht.print (ruleAt_mem hk.1 hk.2)
    have e1 : textOf t (k :: p) = (ruleAt t k).Print ++ textOf t p := by simp [textOf]
    have e2 : cellsOf t (k :: p) = (ruleAt t k).Cells ++ cellsOf t p := by simp [cellsOf]
    rw [e1, e2]
    simp only [List.length_append, List.length_cons]
    omega
end Go.AI
end
section
namespace Go.AI
theorem iand8 {a b : Int} (ha : 0 ≤ a) (ha' : a < 256) (hb : 0 ≤ b) (hb' : b < 256) : iand .u8 a b = ((a.toNat &&& b.toNat : Nat) : Int) := by
  have h1 : (BitVec.ofInt 8 a).toNat = a.toNat := by
    rw [BitVec.toNat_ofInt]; omega
  have h2 : (BitVec.ofInt 8 b).toNat = b.toNat := by
    rw [BitVec.toNat_ofInt]; omega
  have h3 : iand .u8 a b = IntKind.u8.wrap (((BitVec.ofInt 8 a &&& BitVec.ofInt 8 b).toNat : Nat) : Int) := rfl
  rw [h3, BitVec.toNat_and, h1, h2]
  have : a.toNat &&& b.toNat ≤ b.toNat := Nat.and_le_right
  exact wrap8 (by omega) (by omega)
theorem hasS_bit {m k : Int} (hm : 0 ≤ m) (hm' : m < 256) (hk : 0 ≤ k) (hk' : k < 8) : hasS m k = m.toNat.testBit k.toNat := by
  have : ∀ a : Nat, a < 256 → ∀ b : Nat, b < 8 → hasS (a : Int) (b : Int) = a.testBit b := by decide +kernel
  have e := this m.toNat (by omega) k.toNat (by omega)
  rwa [Int.toNat_of_nonneg hm, Int.toNat_of_nonneg hk] at e
theorem hasS_and {a b c : Int} (ha : 0 ≤ a) (ha' : a < 256) (hb : 0 ≤ b) (hb' : b < 256) (hc : 0 ≤ c) (hc' : c < 8) : hasS (iand .u8 a b) c = (hasS a c && hasS b c) := by
  have hl : a.toNat &&& b.toNat ≤ b.toNat := Nat.and_le_right
  rw [iand8 ha ha' hb hb', hasS_bit (by omega) (by omega) hc hc', hasS_bit ha ha' hc hc', hasS_bit hb hb' hc hc', Int.toNat_natCast, Nat.testBit_and]
def leftC (b : List UInt8) : Int := if b = [] then 0 else classS (byteS b (b.length - 1))
def rightC (b : List UInt8) : Int := if b = [] then 0 else classS (byteS b 0)
theorem rightC_range (b : List UInt8) : 0 ≤ rightC b ∧ rightC b ≤ 5 := by
  unfold rightC
  split
  · omega
  · have := class_range (byteS b 0); omega
def fitB (t : GTable) : List Int → Int → List UInt8 → Bool
  | [], _, _ => true
  | k :: p, m, b => ((((ruleAt t k).From == m) && hasS (ruleAt t k).Left (leftC b)) && hasS (ruleAt t k).Right (rightC (textOf t p))) && fitB t p (ruleAt t k).To (b ++ (ruleAt t k).Print)
def endM (t : GTable) : List Int → Int → Int
  | [], m => m
  | k :: p, _ => endM t p (ruleAt t k).To
theorem textOf_cons (t : GTable) (k : Int) (p : List Int) : textOf t (k :: p) = (ruleAt t k).Print ++ textOf t p := by simp [textOf]
theorem byteS_append_left {a b : List UInt8} {i : Nat} (h : i < a.length) : byteS (a ++ b) i = byteS a i := by
  unfold byteS; rw [List.getElem?_append_left h]
theorem leftC_append {a b : List UInt8} (h : b ≠ []) : leftC (a ++ b) = classS (byteS b (b.length - 1)) := by
  unfold leftC
  rw [if_neg (by simp [h])]
  congr 1
  unfold byteS
  have hb : 0 < b.length := List.length_pos_iff.2 h
  rw [List.length_append, List.getElem?_append_right (by omega), show a.length + b.length - 1 - a.length = b.length - 1 by omega]
theorem rightC_append {a b : List UInt8} (h : a ≠ []) : rightC (a ++ b) = classS (byteS a 0) := by
  unfold rightC
  rw [if_neg (by simp [h]), byteS_append_left (List.length_pos_iff.2 h)]
theorem run_fits {t : GTable} (hM : MadeOK t) : ∀ (p : List Int) (tx : List UInt8) (cs : List Int) (a : Nat) (s : GState) (b : List UInt8), (∀ k ∈ p, 0 ≤ k ∧ k < t.Rules.length) → 0 ≤ s.Mode → s.Mode < t.Modes → 0 ≤ s.Need → s.Need ≤ 63 → s.Last = leftC b →
    (runS t p tx cs a s).Ok = (hasS s.Need (rightC (textOf t p)) && (fitB t p s.Mode b && hasS t.Accept (endM t p s.Mode))) := by
  intro p
  induction p with
  | nil =>
    intro tx cs a s b _ h0 h1 _ _ _
    simp only [runS, fitB, endM, acceptsS, textOf, List.flatMap_nil, Bool.true_and]
    rw [decide_eq_true h1, Bool.true_and, Bool.and_comm]
    rfl
  | cons k p ih =>
    intro tx cs a s b hp h0 h1 hn hn' hL
    obtain ⟨k0, k1⟩ := hp k List.mem_cons_self
    have hmem := ruleAt_mem k0 k1
    obtain ⟨r1, r2, r3, r4, _⟩ := hM.tab.2 _ hmem
    have hso := hM.sound _ hmem
    have hto : (ruleAt t k).To < t.Modes := by
      unfold soundS at hso
      simp only [Bool.and_eq_true, decide_eq_true_eq] at hso
      omega
    have hst : stepS t s k = stepR (ruleAt t k) s := by
      unfold stepS ruleAt
      rw [if_neg (by simp; omega)]
    have hpp : ∀ k ∈ p, 0 ≤ k ∧ k < t.Rules.length := fun k hk => hp k (List.mem_cons_of_mem _ hk)
    have hrc := rightC_range (textOf t p)
    simp only [runS, fitB, endM, textOf_cons, hst]
    unfold stepR
    generalize ruleAt t k = r at *
    by_cases hf : r.From = s.Mode
    · by_cases hl : hasS r.Left s.Last = true
      · have hl' : hasS r.Left (leftC b) = true := by rw [← hL]; exact hl
        simp only [hf, bne_self_eq_false, hl, hl', Bool.not_true, Bool.or_self, Bool.false_eq_true, if_false, beq_self_eq_true, Bool.true_and]
        by_cases he : r.Print = []
        · simp only [he, beq_self_eq_true, if_true, List.nil_append, List.append_nil]
          have hand := hasS_and hn (by omega) r3 (by omega) hrc.1 (by omega) (a := s.Need) (b := r.Right) (c := rightC (textOf t p))
          have hir := iand_range s.Need r.Right r3 (by omega)
          by_cases hz : iand .u8 s.Need r.Right = 0
          · rw [hz] at hand
            have hz0 : hasS 0 (rightC (textOf t p)) = false := by
              rw [hasS_bit (by omega) (by omega) hrc.1 (by omega)]; simp
            rw [hz0] at hand
            simp only [hz, beq_self_eq_true, if_true, Bool.false_eq_true, if_false]
            rw [← Bool.and_assoc, ← Bool.and_assoc, ← hand]; rfl
          · have hzb : (iand .u8 s.Need r.Right == 0) = false := by simpa using hz
            simp only [hzb, Bool.false_eq_true, if_false, if_true]
            rw [ih tx (cs ++ r.Cells) (a + 1) { Mode := r.To, Last := s.Last, Need := iand .u8 s.Need r.Right } b hpp r1 hto hir.1 (by show iand .u8 s.Need r.Right ≤ 63; omega) hL, hand]
            simp only [Bool.and_assoc]
        · have hep : (r.Print == []) = false := by simpa using he
          simp only [hep, Bool.false_eq_true, if_false]
          rw [rightC_append he]
          by_cases hc : hasS s.Need (classS (byteS r.Print 0)) = true
          · simp only [hc, Bool.not_true, Bool.false_eq_true, if_false, if_true, Bool.true_and]
            rw [ih _ _ _ _ (b ++ r.Print) hpp r1 hto r3 r4 (leftC_append he).symm]
            simp only [Bool.and_assoc]
          · rw [Bool.not_eq_true] at hc
            simp [hc]
      · have hl' : hasS r.Left (leftC b) = false := by rw [← hL]; simpa using hl
        rw [Bool.not_eq_true] at hl
        simp [hl, hl']
    · have hf' : (r.From != s.Mode) = true := by simpa using hf
      have hf2 : (r.From == s.Mode) = false := by simpa using hf
      simp [hf', hf2]
theorem run_ok {t : GTable} (hM : MadeOK t) {p : List Int} (hp : ∀ k ∈ p, 0 ≤ k ∧ k < t.Rules.length) : (runS t p [] [] 0 startS).Ok = (fitB t p 0 [] && hasS t.Accept (endM t p 0)) := by
  have hlo := hM.lo
  rw [run_fits hM p [] [] 0 startS [] hp (by decide) (by show (0 : Int) < t.Modes; omega) (by decide) (by decide) rfl]
  have hrc := rightC_range (textOf t p)
  have : hasS startS.Need (rightC (textOf t p)) = true := by
    have key : ∀ c : Nat, c ≤ 5 → hasS 63 (c : Int) = true := by decide
    have e := key (rightC (textOf t p)).toNat (by omega)
    rwa [Int.toNat_of_nonneg hrc.1] at e
  rw [this]; rfl
theorem ctx1_ev {t : GTable} (hl1 : 1 ≤ t.Rules.length) (hl : t.Rules.length ≤ 10) {q : List Int} (hq : ∀ a ∈ q, U8 a) (b : Bool) (w : List Int × Bool) :
    Tot (fun n => whl (fun (x : ((List Int) × Int)) => FSixdotlaw03_AutomatonContexts_L1 n q b t w x.1 x.2) n (([] : List Int), 0)) (fun l => l.length ≤ 12 ∧ ∀ k ∈ l, 0 ≤ k ∧ k < t.Rules.length) := by
  refine Tot.upto (body := fun n x => FSixdotlaw03_AutomatonContexts_L1 n q b t w x.1 x.2) (min q.length 12) (fun i x => x.2 = (i : Int) ∧ x.1.length = i ∧ ∀ k ∈ x.1, 0 ≤ k ∧ k < t.Rules.length) ?_ ?_ _ ⟨rfl, rfl, by simp⟩
  · rintro i ⟨l, j⟩ hi ⟨e1, e2, e3⟩
    simp only at e1 e2 e3
    subst e1
    have hiq : i < q.length := by omega
    have hu := hq _ (List.getElem_mem hiq)
    have hw : IntKind.i64.wrap q[i] = q[i] := wrap64 (by have := hu.1; omega) (by have := hu.2; omega)
    obtain ⟨m1, m2⟩ := irem_range (a := q[i]) (m := ((List.length t.Rules : Nat) : Int)) hu.1 (by omega)
    unfold FSixdotlaw03_AutomatonContexts_L1
    refine Tot.iteT (by simp; omega) (Tot.bindC (idx_lt hiq) (Tot.bindC (y := ()) (by unfold guardB; rw [if_pos]; simp; intro h; rw [h] at hl1; simp at hl1) (Tot.bindC (app_le (by simp; omega)) (Tot.pure ⟨inc64 (by omega), by simp [e2], fun k hk => ?_⟩))))
    simp only [List.mem_append, List.mem_singleton] at hk
    rcases hk with hk | hk
    · exact e3 k hk
    · rw [hk, hw]; exact ⟨m1, m2⟩
  · rintro ⟨l, j⟩ ⟨e1, e2, e3⟩
    simp only at e1 e2 e3
    subst e1
    unfold FSixdotlaw03_AutomatonContexts_L1
    refine Tot.iteF ?_ (Tot.pure ⟨by show l.length ≤ 12; omega, e3⟩)
    cases hb : (decide (((min q.length 12 : Nat) : Int) < ((List.length q : Nat) : Int)) && decide (((min q.length 12 : Nat) : Int) < 12)) with
    | false => rfl
    | true => simp only [Bool.and_eq_true, decide_eq_true_eq] at hb; omega
theorem drop_last {α : Type} {l : List α} {i : Nat} (h : i < l.length) : l.drop i = l[i] :: l.drop (i + 1) := List.drop_eq_getElem_cons h
theorem ctx4_ev {t : GTable} (hM : MadeOK t) {w : List Int × Bool} {q : List Int} {n2 : Int} {p : List Int} (hp : idx ([w.1, q] : List (List Int)) n2 = some p) (hpr : ∀ k ∈ p, 0 ≤ k ∧ k < t.Rules.length) (hpl : p.length ≤ 1000) (b f : Bool) (m : Int) (bf : List UInt8) {i : Nat} (hi : i < p.length) (r : GRule) :
    Tot (fun n => whl (fun (x : ((List UInt8) × Int)) => FSixdotlaw03_AutomatonContexts_L4 n b t w q n2 f m bf (i : Int) r x.1 x.2) n ([], iadd .i64 (i : Int) 1)) (fun z => z = textOf t (p.drop (i + 1))) := by
  rw [inc64 (by omega)]
  refine Tot.upto (body := fun n x => FSixdotlaw03_AutomatonContexts_L4 n b t w q n2 f m bf (i : Int) r x.1 x.2) (p.length - (i + 1)) (fun j x => x.2 = ((i + 1 + j : Nat) : Int) ∧ x.1 = textOf t ((p.drop (i + 1)).take j)) ?_ ?_ _ ⟨rfl, by simp [textOf]⟩
  · rintro j ⟨a, k⟩ hj ⟨e1, e2⟩
    simp only at e1 e2
    subst e1 e2
    have hlt : i + 1 + j < p.length := by omega
    obtain ⟨k0, k1⟩ := hpr _ (List.getElem_mem hlt)
    have hg : (p.drop (i + 1))[j]? = some p[i + 1 + j] := by rw [List.getElem?_drop]; exact List.getElem?_eq_getElem hlt
    have htl : (textOf t ((p.drop (i + 1)).take j)).length ≤ 4 * j := by
      have := (path_len hM (p := (p.drop (i + 1)).take j) fun k hk => hpr k (List.mem_of_mem_drop (List.mem_of_mem_take hk))).1
      simp at this ⊢; omega
    have hpt := hM.print (ruleAt_mem k0 k1)
    unfold FSixdotlaw03_AutomatonContexts_L4
    refine Tot.bindC hp (Tot.iteT (by simp; omega) (Tot.bindC hp (Tot.bindC (idx_lt hlt) (Tot.bindC (idx_rule k0 k1) (Tot.bindC (cat_le (by dsimp only; omega)) (Tot.pure ⟨?_, ?_⟩))))))
    · rw [inc64 (by omega)]; rfl
    · simp only
      rw [List.take_add_one, hg, Option.toList_some]
      simp [textOf]
  · rintro ⟨a, k⟩ ⟨e1, e2⟩
    simp only at e1 e2
    subst e1 e2
    unfold FSixdotlaw03_AutomatonContexts_L4
    refine Tot.bindC hp (Tot.iteF (by simp; omega) (Tot.pure ?_))
    show _ = _
    rw [List.take_of_length_le (by simp)]
theorem ctxJ2_ev {fits : Bool} {m : Int} {bf : List UInt8} {i : Nat} (hi : i ≤ 1000000) {r : GRule} (hb : bf.length + r.Print.length ≤ 1000000) (l c : Int) (n : Nat) :
    FSixdotlaw03_AutomatonContexts_J2 n fits m bf (i : Int) r l c = some (Sum.inl ((((fits && (r.From == m)) && hasS r.Left l) && hasS r.Right c), r.To, bf ++ r.Print, ((i + 1 : Nat) : Int))) := by
  unfold FSixdotlaw03_AutomatonContexts_J2
  simp only [bit_eq, cat_le (show bf.length + r.Print.length ≤ 9223372036854775807 by omega), inc64 (show i < 9223372036854775807 by omega), Option.bind_some]
  cases (fits && (r.From == m)) with
  | false => rfl
  | true =>
    simp only [if_true, Option.bind_some, Bool.true_and]
    cases hasS r.Left l with
    | false => rfl
    | true => rfl
theorem ctxJ1_ev {fits : Bool} {m : Int} {bf af : List UInt8} {i : Nat} (hi : i ≤ 1000000) {r : GRule} (hb : bf.length + r.Print.length ≤ 1000000) (l : Int) (n : Nat) :
    FSixdotlaw03_AutomatonContexts_J1 n fits m bf (i : Int) r af l = some (Sum.inl ((((fits && (r.From == m)) && hasS r.Left l) && hasS r.Right (rightC af)), r.To, bf ++ r.Print, ((i + 1 : Nat) : Int))) := by
  unfold FSixdotlaw03_AutomatonContexts_J1 rightC
  cases af with
  | nil => simp [ctxJ2_ev hi hb]
  | cons a af =>
    have hs : sidx (a :: af) 0 = some (byteS (a :: af) 0) := sidx_eq (i := 0) (by simp)
    rw [if_pos (by simp), hs]
    simp only [Option.bind_some, class2_eq, ctxJ2_ev hi hb]
    rfl
theorem ctx3_ev {t : GTable} (hM : MadeOK t) {w : List Int × Bool} {q : List Int} {n2 : Int} {p : List Int} (hp : idx ([w.1, q] : List (List Int)) n2 = some p) (hpr : ∀ k ∈ p, 0 ≤ k ∧ k < t.Rules.length) (hpl : p.length ≤ 1000) (b : Bool) :
    Tot (fun n => whl (fun (x : (Bool × Int × (List UInt8) × Int)) => FSixdotlaw03_AutomatonContexts_L3 n b t w q n2 x.1 x.2.1 x.2.2.1 x.2.2.2) n (true, 0, [], 0)) (fun z => z = (fitB t p 0 [], endM t p 0)) := by
  refine Tot.upto (body := fun n x => FSixdotlaw03_AutomatonContexts_L3 n b t w q n2 x.1 x.2.1 x.2.2.1 x.2.2.2) p.length (fun i x => x.2.2.2 = (i : Int) ∧ x.2.2.1.length ≤ 4 * i ∧ fitB t p 0 [] = (x.1 && fitB t (p.drop i) x.2.1 x.2.2.1) ∧ endM t p 0 = endM t (p.drop i) x.2.1) ?_ ?_ _ ⟨rfl, by simp, by simp, by simp⟩
  · rintro i ⟨f, m, bf, j⟩ hi ⟨e1, e2, e3, e4⟩
    simp only at e1 e2 e3 e4
    subst e1
    obtain ⟨k0, k1⟩ := hpr _ (List.getElem_mem hi)
    have hpt := hM.print (ruleAt_mem k0 k1)
    have hbl : bf.length + (ruleAt t p[i]).Print.length ≤ 1000000 := by omega
    have fin : ∀ l, l = leftC bf → Tot (fun n => FSixdotlaw03_AutomatonContexts_J1 n f m bf (i : Int) (ruleAt t p[i]) (textOf t (p.drop (i + 1))) l) (Rd2 (fun x : Bool × Int × List UInt8 × Int => x.2.2.2 = ((i + 1 : Nat) : Int) ∧ x.2.2.1.length ≤ 4 * (i + 1) ∧ fitB t p 0 [] = (x.1 && fitB t (p.drop (i + 1)) x.2.1 x.2.2.1) ∧ endM t p 0 = endM t (p.drop (i + 1)) x.2.1) (fun z => z = (fitB t p 0 [], endM t p 0))) := by
      intro l hl
      subst hl
      refine Tot.all (fun n => ctxJ1_ev (by omega) hbl _ n) ⟨rfl, by simp; omega, ?_, ?_⟩
      · simp only
        rw [e3, drop_last hi, fitB]
        simp only [Bool.and_assoc]
      · simp only
        rw [e4, drop_last hi, endM]
    unfold FSixdotlaw03_AutomatonContexts_L3
    refine Tot.bindC hp (Tot.iteT (by simpa using hi) (Tot.bindC hp (Tot.bindC (idx_lt hi) (Tot.bindC (idx_rule k0 k1) (Tot.bind (ctx4_ev hM hp hpr hpl b f m bf hi _) ?_)))))
    rintro _ rfl
    refine Tot.ite (fun h => ?_) (fun h => ?_)
    · have hne : bf ≠ [] := by intro e; subst e; simp at h
      have hpos : 0 < bf.length := List.length_pos_iff.2 hne
      refine Tot.bindC (y := byteS bf (bf.length - 1)) ?_ (Tot.bindA (fun n => class2_eq n _) (fin _ ?_))
      · dsimp only
        rw [isub64 (by omega) (by omega), show ((List.length bf : Nat) : Int) - 1 = ((bf.length - 1 : Nat) : Int) by omega]
        exact sidx_eq (by omega)
      · unfold leftC; rw [if_neg hne]
    · have hne : bf = [] := by
        cases bf with
        | nil => rfl
        | cons a bf => simp at h
      exact fin 0 (by unfold leftC; rw [if_pos hne])
  · rintro ⟨f, m, bf, j⟩ ⟨e1, e2, e3, e4⟩
    simp only at e1 e2 e3 e4
    subst e1
    unfold FSixdotlaw03_AutomatonContexts_L3
    refine Tot.bindC hp (Tot.iteF (by simp) (Tot.pure ?_))
    show _ = _
    rw [List.drop_length] at e3 e4
    rw [e3, e4]
    simp [fitB, endM]
theorem law5 {x : GRaw} (hx : RawTabOK x) {l : List Int} (hl : ∀ a ∈ l, U8 a) {q : List Int} (hq : ∀ a ∈ q, U8 a) : Ev (fun n => FSixdotlaw03_AutomatonContexts n x l q) true := by
  obtain ⟨t, ⟨hM, h1, h10⟩, hE⟩ := made_ev10 hx
  refine Tot.ev ?_
  unfold FSixdotlaw03_AutomatonContexts
  refine Tot.bindE sanity_ev (Tot.bindE hE (Tot.bind (walk_ev hM.tab hl) ?_))
  rintro ⟨p, is⟩ ⟨g1, g2, g3⟩
  simp only at g1 g2 g3
  have hpp : p.length ≤ 1000 ∧ ∀ k ∈ p, 0 ≤ k ∧ k < t.Rules.length := by
    cases is with
    | true => obtain ⟨a, s, hg, _⟩ := g2 rfl; exact ⟨a, hg.mem⟩
    | false => rw [g3 rfl]; simp
  refine Tot.bind (ctx1_ev h1 h10 hq true (p, is)) fun y hy => ?_
  refine Tot.bind (R := fun z => z = .inl ()) ?_ ?_
  · refine Tot.upto (body := fun n x => FSixdotlaw03_AutomatonContexts_L2 n true t (p, is) y x) 2 (fun i x => x = (i : Int)) ?_ ?_ _ rfl
    · rintro i j hi rfl
      have hlist : ∃ u, idx ([p, y] : List (List Int)) (i : Int) = some u ∧ u.length ≤ 1000 ∧ ∀ k ∈ u, 0 ≤ k ∧ k < t.Rules.length := by
        match i, hi with
        | 0, _ => exact ⟨p, rfl, hpp⟩
        | 1, _ => exact ⟨y, rfl, by omega, hy.2⟩
      obtain ⟨u, hu, hu1, hu2⟩ := hlist
      unfold FSixdotlaw03_AutomatonContexts_L2
      refine Tot.iteT (by simp; omega) (Tot.bind (ctx3_ev hM (w := (p, is)) hu hu2 hu1 true) ?_)
      rintro _ rfl
      refine Tot.bindC hu (Tot.bindE (run_ev hM (p := u) (by omega)) ?_)
      refine Tot.guard (R := fun r => r = hasS t.Accept (endM t u 0)) (fun _ => Tot.all (fun n => bit_eq n _ _) rfl) fun r hr => ?_
      refine Tot.iteF ?_ (Tot.pure (by show _ = _; rw [inc64 (by omega)]))
      have : ((fitB t u 0 [], endM t u 0).1 && r) = (fitB t u 0 [] && hasS t.Accept (endM t u 0)) := by
        cases hf : fitB t u 0 [] with
        | true => rw [hr hf]
        | false => rfl
      rw [run_ok hM hu2, this]
      simp
    · rintro j rfl
      unfold FSixdotlaw03_AutomatonContexts_L2
      exact Tot.iteF (by simp) (Tot.pure rfl)
  · rintro _ rfl
    exact Tot.pure rfl
end Go.AI
end
section
namespace Go.AI
theorem okI_u8 {n : Int} (h : okI .u8 n) : U8 n := by
  unfold okI Lit.wf at h
  have : IntKind.u8.min = 0 ∧ IntKind.u8.max = 255 := by decide
  unfold U8
  simp only [Bool.and_eq_true, decide_eq_true_eq] at h
  omega
theorem okGRaw_ok {x : GRaw} (h : okGRaw x) : RawTabOK x := ⟨(okI_u8 h.1).1, fun r hr => by
  obtain ⟨a, b, c, d, e, f⟩ := h.2.2 r hr
  exact ⟨fun y hy => okI_u8 (a y hy), fun y hy => okI_u8 (b y hy), okI_u8 c, okI_u8 d, okI_u8 e, okI_u8 f⟩⟩
theorem law5d : ∀ x l q, okGRaw x → (∀ a ∈ l, okI .u8 a) → (∀ a ∈ q, okI .u8 a) → ∃ n, FSixdotlaw03_AutomatonContexts n x l q = some true := fun _ _ _ h hl hq => (law5 (okGRaw_ok h) (fun a ha => okI_u8 (hl a ha)) (fun a ha => okI_u8 (hq a ha))).out
end Go.AI
end
section
namespace Go.Proofs.Ytjbjbkidckbalaa
open Go.AI Go.ChangeShapes Go.WideShapes Go.ChangeAt Go.RowKit
theorem own : ownKnob Try.prog.godebug = none := by kernel_rfl
set_option maxRecDepth 100000 in
theorem lifted (os : Os) (started : os.Started) (H : Type) (enc : TypeId × Value → H) :
    ReturnsInHanded {} Try.checked os 5 .any (Rows.automatonContextsSpec.pre6 enc Try.prog Try.f5 Rows.automatonContextsRow.domain false) (Rows.automatonContextsSpec.post enc Try.prog Try.f5 false true false false) := by
  refine returnsInHanded_of_change (C := Try.checked) own started (by kernel_rfl) Try.func5
    (ChangeSpec.witness6 (enc := enc) (C := Try.checked) false ⟨#[], #[.agg #[.int .u8 0, .int .u8 0, .slice none 0 0], .slice none 0 0, .slice none 0 0], []⟩ 8 (by kernel_rfl) (by kernel_rfl) (by kernel_rfl) (by kernel_rfl)) ?_
  intro W base args ds gs before hval0 hW hcnd _
  have hval : ∀ (j : Nat) t v, Try.f5.params[j]? = some t → args[j]? = some v → Value.okWide Try.prog W .any base t v := hval0
  have hW' := hW
  obtain ⟨p, q, hA0, hV, rfl, hfz, hnd⟩ := hW
  have hA : DataW.TrodAll enc Try.prog W 0 (fun _ => true) true Try.f5.params.toList args.toList ds p := hA0
  have hlt := hA.lt
  rw [Try.params5] at hA hval
  obtain ⟨v0, vs0, d0, ds0, p0, q0, hargs, rfl, rfl, h0, r0⟩ := trodAll_cons hA
  obtain ⟨v1, vs1, d1, ds1, p1, q1, rfl, rfl, rfl, h1, r1⟩ := trodAll_cons r0
  obtain ⟨v2, vs2, d2, ds2, p2, q2, rfl, rfl, rfl, h2, r2⟩ := trodAll_cons r1
  obtain ⟨rfl, rfl, rfl⟩ := trodAll_nil r2
  obtain rfl : args = #[v0, v1, v2] := by cases args; simp_all
  obtain ⟨rfl, rfl⟩ := trodVars_none hV
  obtain ⟨cs0, hc0, _⟩ := okWide_struct Try.underlying24 (hval 0 24 v0 rfl rfl)
  obtain ⟨a0, k0, rep0⟩ := arg_agg hc0 h0 rd24
  obtain ⟨x1, y1, z1, hc1⟩ := okWide_slice Try.underlying50 (hval 1 50 v1 rfl rfl)
  obtain ⟨a1, k1, rep1⟩ := arg_one (y := fun a => .sl (List.map eU8 a)) (by rw [hc1]; rfl) h1 rd50 (fun _ => rfl)
  obtain ⟨x2, y2, z2, hc2⟩ := okWide_slice Try.underlying50 (hval 2 50 v2 rfl rfl)
  obtain ⟨a2, k2, rep2⟩ := arg_one (y := fun a => .sl (List.map eU8 a)) (by rw [hc2]; rfl) h2 rd50 (fun _ => rfl)
  clear hA0 hval0
  simp only [List.append_nil] at hW' hlt
  obtain ⟨n, hn⟩ := law5d a0 a1 a2 k0 k1 k2
  refine (law_walk (FSixdotlaw03_AutomatonContexts_ok hn) (cr_cons rep0 (cr_cons rep1 (cr_cons rep2 cr_nil)))).mono fun e W' ⟨he, hg, hold⟩ => ?_
  subst he
  exact ⟨_, rfl, post_of_same (pv := []) hW' (fun _ _ _ => (trodAll_cons_mk (shut_bool Try.underlying4 _) trodAll_mk0)) (fun sp hsp => trodAll_cons_mk (stays (by kernel_rfl) (by kernel_rfl) (of_decide_eq_true (by kernel_rfl)) h0 (fun p hp => hlt p (by simp [hp])) (fun p hp => hsp p (by simp [hp])) hold) (trodAll_cons_mk (stays (by kernel_rfl) (by kernel_rfl) (of_decide_eq_true (by kernel_rfl)) h1 (fun p hp => hlt p (by simp [hp])) (fun p hp => hsp p (by simp [hp])) hold) (trodAll_cons_mk (stays (by kernel_rfl) (by kernel_rfl) (of_decide_eq_true (by kernel_rfl)) h2 (fun p hp => hlt p (by simp [hp])) (fun p hp => hsp p (by simp [hp])) hold) trodAll_mk0))) (fun _ _ => rfl) (by simp) (hg.frame _) hg.2.1 (ok_one (by kernel_rfl) rfl (okWide_bool_mk Try.underlying4 _))⟩
theorem over : Rows.automatonContextsRow.holds Try.pinned (OpenSpec.ofChange Rows.automatonContextsSpec) :=
  OpenClaim.holds_of_wide 5 Try.f5 rfl rfl rfl rfl rfl rfl rfl ⟨rfl, rfl, rfl, rfl, rfl⟩ rfl rfl rfl rfl rfl (by kernel_rfl) Try.func5 (by kernel_rfl)
    (of_decide_eq_true (by kernel_rfl)) (by unfold Func.isWrapper; first | (rw [if_pos (by decide +kernel)]; kernel_rfl) | (rw [if_neg (by decide +kernel)]; exact ⟨rfl, rfl⟩))
    (fun os started H enc _ => lifted os started H enc)
theorem automatonContexts_holds : Rows.AutomatonContextsSaid := over
end Go.Proofs.Ytjbjbkidckbalaa
end
