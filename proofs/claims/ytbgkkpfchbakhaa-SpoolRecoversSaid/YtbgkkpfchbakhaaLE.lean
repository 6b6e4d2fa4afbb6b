/- The theorem: the last one of this text; part 5 of 5 of its proof. It holds with no condition beyond the given statement. -/
import Derived.Test.YtbgkkpfchbakhaaLD
import Derived.Test.YtbgkkpfchbakhaaRows
section
namespace Go.AI
def U8 (n : Int) : Prop := 0 ≤ n ∧ n < 256
def RawOK (x : GRaw) : Prop := U8 x.N ∧ (∀ a ∈ x.From, U8 a) ∧ ∀ a ∈ x.L, U8 a
theorem sanity_ev : Ev (fun n => FSixdotlaw29_sanity n) true := Ev.of (fun n m h => FSixdotlaw29_sanity_le h) (n := 40) (by kernel_rfl)
theorem jobs_eq {x : GRaw} (hx : RawOK x) : ∃ m : Nat, m ≤ 5 ∧ ∀ n, FSixdotref29_Jobs n x = some (m : Int) := by
  obtain ⟨h1, h2⟩ := hx.1
  obtain ⟨e, g1, g2⟩ := rem_range (m := 6) h1 (by decide)
  refine ⟨(irem x.N 6).toNat, by omega, fun n => ?_⟩
  unfold FSixdotref29_Jobs
  rw [w64 (by omega) (by omega)]
  congr 1; omega
theorem matching_tot {x : GRaw} (hx : RawOK x) : Tot (fun n => FSixdotref29_Matching n x) (fun m => ∀ v ∈ m.From, v < 1000) := by
  unfold FSixdotref29_Matching
  refine Tot.bind (R := fun l => ∀ v ∈ l, v < 1000) ?_ fun y hy => Tot.pure hy
  refine Tot.upto (body := fun n (y : ((List Int) × Int)) => FSixdotref29_Matching_L1 n x y.1 y.2) (min x.From.length 6) (fun i y => y.2 = (i : Int) ∧ y.1.length = i ∧ ∀ v ∈ y.1, v < 1000) ?_ ?_ ([], 0) ⟨rfl, rfl, by simp⟩
  · rintro i ⟨out, j⟩ hi ⟨e1, e2, e3⟩
    simp only at e1 e2 e3
    subst e1
    have hlt : i < x.From.length := by omega
    have hu := hx.2.1 _ (List.getElem_mem hlt)
    obtain ⟨e, g1, g2⟩ := rem_range (m := 6) hu.1 (by decide)
    refine Tot.all (z := .inl (out ++ [isub .i64 (IntKind.i64.wrap (irem x.From[i] 6)) 1], ((i + 1 : Nat) : Int))) (fun n => ?_) ⟨rfl, by simp [e2], fun v hv => ?_⟩
    · unfold FSixdotref29_Matching_L1
      rw [if_pos (by simp; omega), idx_lt hlt, Option.bind_some, app_le (by simp; omega), Option.bind_some, succ64 (by omega)]
    · rcases List.mem_append.1 hv with h | h
      · exact e3 v h
      · simp only [List.mem_singleton] at h
        rw [h, w64 (by omega) (by omega), sub64 (by omega) (by omega)]; omega
  · rintro ⟨out, j⟩ ⟨e1, e2, e3⟩
    simp only at e1 e2 e3
    subst e1
    refine Tot.all (z := .inr out) (fun n => ?_) e3
    unfold FSixdotref29_Matching_L1
    rw [if_neg (by simp; omega)]
theorem arbitrary_eq {k : Int} (hk : U8 k) : ∃ r : GRecord, r.B < 1000 ∧ ∀ n, FSixdotref29_Arbitrary n k = some r := by
  refine ⟨_, ?_, fun n => rfl⟩
  have e1 : IntKind.i64.wrap k = k := w64 (by have := hk.1; omega) (by have := hk.2; omega)
  simp only [e1]
  have : (0 : Int) ≤ iquo .i64 k 3 := by
    unfold iquo
    have hk1 := hk.1
    have hk2 := hk.2
    rw [Int.tdiv_eq_ediv_of_nonneg hk1, w64 (by omega) (by omega)]; omega
  have := (rem_range (m := 5) this (by decide)).2.2
  omega
theorem nxtR_B {s : GSpool} {mt : GMatching} (h : ∀ v ∈ mt.From, v < 1000) (hk : (nxtR s mt).Kind = 4) : (nxtR s mt).B < 1000 := by
  unfold nxtR at hk ⊢
  split
  · decide
  split
  · rename_i h1 h2; simp [h1, h2] at hk
  split
  · decide
  split
  · rename_i h1 h2 h3 h4
    simp only [fromAt]
    obtain ⟨g1, g2, _⟩ := h4
    have hlt : (idxS s.Done false).toNat < mt.From.length := by omega
    rw [List.getD_eq_getElem?_getD, List.getElem?_eq_getElem hlt]
    exact h _ (List.getElem_mem hlt)
  · rename_i h1 h2 h3 h4
    rw [if_neg h1, if_neg h2, if_neg h3, if_neg h4] at hk
    simp at hk
def Recs (l : List GRecord) : Prop := l.length ≤ 24 ∧ ∀ r ∈ l, r.Kind = 4 → r.B < 1000
theorem records_tot {x : GRaw} (hx : RawOK x) : Tot (fun n => FSixdotref29_Records n x) Recs := by
  unfold FSixdotref29_Records
  obtain ⟨m, hm, hj⟩ := jobs_eq hx
  refine Tot.bindA hj ?_
  refine Tot.bindE (rnew_ev (k := (m : Int)) (by omega)) ?_
  rw [Int.toNat_natCast]
  refine Tot.bind (R := fun y => match y with | .inl l => Recs l | .inr l => Recs l) ?_ fun y hy => (by
    cases y with
    | inl l => exact Tot.pure hy
    | inr l => exact Tot.pure hy)
  refine Tot.upto (body := fun n (y : ((List GRecord) × GSpool × Int)) => FSixdotref29_Records_L1 n x y.1 y.2.1 y.2.2) (min x.L.length 24) (fun i y => y.2.2 = (i : Int) ∧ y.1.length = i ∧ WF m y.2.1 ∧ ∀ r ∈ y.1, r.Kind = 4 → r.B < 1000) ?_ ?_ ([], newS m, 0) ⟨rfl, rfl, new_wf (by omega), by simp⟩
  · rintro i ⟨out, s, j⟩ hi ⟨e1, e2, hw, e3⟩
    simp only at e1 e2 e3 hw
    subst e1
    have hlt : i < x.L.length := by omega
    have hu := hx.2.2 _ (List.getElem_mem hlt)
    have hJ2 : ∀ r : GRecord, (r.Kind = 4 → r.B < 1000) → Tot (fun n => FSixdotref29_Records_J2 n out s (i : Int) r) (Rd2 (fun y => y.2.2 = ((i + 1 : Nat) : Int) ∧ y.1.length = i + 1 ∧ WF m y.2.1 ∧ ∀ r ∈ y.1, r.Kind = 4 → r.B < 1000) (fun y => match y with | .inl l => Recs l | .inr l => Recs l)) := by
      intro r hr
      have hall : ∀ q ∈ out ++ [r], q.Kind = 4 → q.B < 1000 := fun q hq => by
        rcases List.mem_append.1 hq with h | h
        · exact e3 q h
        · simp only [List.mem_singleton] at h; subst h; exact hr
      unfold FSixdotref29_Records_J2
      refine Tot.bindE (rstep_ev hw r) ?_
      refine Tot.bindC (app_le (by simp; omega)) ?_
      unfold stepS
      by_cases ha : appl s r = true
      · rw [if_pos ha]
        refine Tot.iteF (by simp) (Tot.pure ?_)
        rw [succ64 (by omega)]
        exact ⟨rfl, by simp [e2], hw.step ha, hall⟩
      · rw [if_neg ha]
        refine Tot.iteT (by decide) (Tot.pure ?_)
        exact ⟨by simp; omega, hall⟩
    have hJ1 : ∀ r : GRecord, (r.Kind = 4 → r.B < 1000) → Tot (fun n => FSixdotref29_Records_J1 n x out s (i : Int) r) (Rd2 (fun y => y.2.2 = ((i + 1 : Nat) : Int) ∧ y.1.length = i + 1 ∧ WF m y.2.1 ∧ ∀ r ∈ y.1, r.Kind = 4 → r.B < 1000) (fun y => match y with | .inl l => Recs l | .inr l => Recs l)) := by
      intro r hr
      unfold FSixdotref29_Records_J1
      refine Tot.bindC (idx_lt hlt) ?_
      refine Tot.ite (fun hc => ?_) fun _ => hJ2 r hr
      refine Tot.bindC (idx_lt hlt) ?_
      have hc : x.L[i] > 200 := by simpa using hc
      have hu1 := hu.1
      have hu2 := hu.2
      have e8 : isub .u8 x.L[i] 200 = x.L[i] - 200 := w8 (by omega) (by omega)
      obtain ⟨q, hq, hq'⟩ := arbitrary_eq (k := isub .u8 x.L[i] 200) ⟨by omega, by omega⟩
      exact Tot.bindA hq' (hJ2 q fun _ => hq)
    unfold FSixdotref29_Records_L1
    refine Tot.iteT (by simp; omega) ?_
    refine Tot.bind (matching_tot hx) fun mt hmt => ?_
    refine Tot.bindE (rnext_ev hw mt) ?_
    refine Tot.guard (R := fun _ => True) (fun _ => Tot.all (fun n => idx_lt hlt) trivial) fun v _ => ?_
    refine Tot.ite (fun _ => hJ1 _ (fun h => by simp at h)) fun _ => hJ1 _ fun h => nxtR_B hmt h
  · rintro ⟨out, s, j⟩ ⟨e1, e2, hw, e3⟩
    simp only at e1 e2 e3 hw
    subst e1
    refine Tot.all (z := .inr (.inl out)) (fun n => ?_) ⟨by omega, e3⟩
    unfold FSixdotref29_Records_L1
    rw [if_neg (by simp; omega)]
theorem WF.len {m : Nat} {s : GSpool} (h : WF m s) : s.Tries.length ≤ 1000000 ∧ s.Done.length ≤ 1000000 ∧ s.Taken.length ≤ 1000000 := by
  have := h.tries
  have := h.done
  have := h.taken
  have := h.sm
  omega
end Go.AI
end
section
namespace Go.AI
theorem getD_set {α : Type} {l : List α} {i j : Nat} {v d : α} (h : i < l.length) : (l.set i v).getD j d = if i = j then v else l.getD j d := by
  rw [List.getD_eq_getElem?_getD, List.getElem?_set]
  split
  · rfl
  · rw [List.getD_eq_getElem?_getD]
def Bz (s : GSpool) : Prop := 0 ≤ s.Now → dn s s.Now = false
theorem Bz.new (m : Nat) : Bz (newS m) := fun h => by simp [newS] at h
theorem Bz.step {m : Nat} {s : GSpool} (hw : WF m s) (h : Bz s) {r : GRecord} (ha : appl s r = true) : Bz (stp s r) := by
  obtain ⟨hs, ⟨k, h1, h2, h3, _⟩ | ⟨k, h2, h3, _⟩ | ⟨k, h1, h2, h3, _⟩ | ⟨k, h1, _⟩⟩ := appl_kind ha
  · intro _
    simp only [stp, k, if_true]
    exact h3
  · rcases k with k | k
    · intro hh; simp [stp, k] at hh
    · intro hh; simp [stp, k] at hh
  · intro hh
    simp only [stp, k] at hh
    simp [h1] at hh
  · intro hh
    simp only [stp, k] at hh
    simp [h1] at hh
theorem run_bz {m : Nat} {s : GSpool} (h : WF m s) (hb : Bz s) {l : List GRecord} : ∀ i, i ≤ cnt s l → Bz (run s (l.take i)) := by
  intro i
  induction i with
  | zero => intro _; simpa [run] using hb
  | succ i ih =>
    intro hi
    have hc := cnt_le s l
    have hr : l[i]? = some l[i] := List.getElem?_eq_getElem (by omega)
    rw [run_succ hr]
    exact (ih (by omega)).step (run_wf h i (by omega)) (cnt_appl hi hr)
def Mk (q : GRecord) (s : GSpool) : Prop := (q.Kind = 5 → s.Sealed = true) ∧ (q.Kind = 2 ∨ q.Kind = 4 → jobB s q.A = true ∧ dn s q.A = true) ∧ (q.Kind = 4 → s.Taken.getD q.A.toNat default = q.B)
theorem jobB_step {m : Nat} {s : GSpool} (hw : WF m s) {r : GRecord} (ha : appl s r = true) (a : Int) : jobB (stp s r) a = jobB s a := by
  unfold jobB
  rw [hw.done, (hw.step ha).done]
theorem dn_step {m : Nat} {s : GSpool} (hw : WF m s) {r : GRecord} (ha : appl s r = true) {a : Int} (h : dn s a = true) : dn (stp s r) a = true := by
  obtain ⟨hs, ⟨k, h1, h2, h3, _⟩ | ⟨k, h2, h3, _⟩ | ⟨k, h1, h2, h3, _⟩ | ⟨k, h1, _⟩⟩ := appl_kind ha
  · simp only [stp, k, if_true]; exact h
  · obtain ⟨g1, g2⟩ := jobB_ok hw h2
    rcases k with k | k
    · simp only [stp, k, dn]
      rw [if_neg (by decide), if_pos trivial]
      simp only
      rw [getD_set (by rw [hw.done]; omega)]
      split
      · rfl
      · exact h
    · simp only [stp, k, dn]; exact h
  · obtain ⟨g1, g2⟩ := jobB_ok hw h2
    simp only [stp, k, dn]
    rw [if_neg (by decide), if_neg (by decide), if_neg (by decide), if_pos trivial]
    simp only
    rw [getD_set (by rw [hw.done]; omega)]
    split
    · rfl
    · exact h
  · simp only [stp, k, dn]; exact h
theorem Mk.step {m : Nat} {s : GSpool} (hw : WF m s) {q r : GRecord} (ha : appl s r = true) (h : Mk q s) : Mk q (stp s r) := by
  have hs := (appl_kind ha).1
  refine ⟨fun k => ?_, fun k => ⟨by rw [jobB_step hw ha]; exact (h.2.1 k).1, dn_step hw ha (h.2.1 k).2⟩, fun k => ?_⟩
  · rw [h.1 k] at hs; cases hs
  · have hq := h.2.1 (.inr k)
    obtain ⟨_, ⟨k', h1, h2, h3, _⟩ | ⟨k', h2, h3, _⟩ | ⟨k', h1, h2, h3, _⟩ | ⟨k', h1, _⟩⟩ := appl_kind ha
    · simp only [stp, k', if_true]; exact h.2.2 k
    · rcases k' with k' | k'
      · simp only [stp, k']; exact h.2.2 k
      · simp only [stp, k']; exact h.2.2 k
    · obtain ⟨g1, g2⟩ := jobB_ok hw h2
      obtain ⟨f1, f2⟩ := jobB_ok hw hq.1
      simp only [stp, k']
      rw [if_neg (by decide), if_neg (by decide), if_neg (by decide), if_pos trivial]
      simp only
      rw [getD_set (by rw [hw.taken]; omega), if_neg, h.2.2 k]
      intro e
      have : q.A = r.A := by omega
      rw [this] at hq
      rw [hq.2] at h3; cases h3
    · simp only [stp, k']; exact h.2.2 k
end Go.AI
end
section
namespace Go.AI
theorem count_set : ∀ (l : List Bool) (j : Nat), j < l.length → l.getD j default = false → (l.set j true).count false + 1 = l.count false := by
  intro l
  induction l with
  | nil => intro j h; simp at h
  | cons b l ih =>
    intro j hj hb
    cases j with
    | zero =>
      simp at hb
      subst hb
      simp
    | succ j =>
      simp only [List.length_cons] at hj
      have := ih j (by omega) (by simpa using hb)
      simp only [List.set_cons_succ, List.count_cons]
      omega
def un (s : GSpool) : Nat := s.Done.count false
def bz (s : GSpool) : Nat := if s.Now = -1 then 0 else 1
def left (s : GSpool) : Nat := if s.Sealed then 1 else 2 + un s + bz s
def cj (l : List GRecord) (j : Nat) : Nat := l.countP fun r => (r.A == (j : Int)) && (r.Kind == 2 || r.Kind == 4)
def Sd (s : GSpool) : Prop := s.Sealed = true → s.Done.contains false = false
theorem Sd.new (m : Nat) : Sd (newS m) := fun h => by simp [newS] at h
theorem Sd.step {s : GSpool} {r : GRecord} (ha : appl s r = true) : Sd (stp s r) := by
  obtain ⟨hs, ⟨k, h1, h2, h3, _⟩ | ⟨k, h2, h3, _⟩ | ⟨k, h1, h2, h3, _⟩ | ⟨k, h1, h2, _⟩⟩ := appl_kind ha
  · intro h; simp [stp, k, hs] at h
  · intro h; rcases k with k | k <;> simp [stp, k, hs] at h
  · intro h; simp [stp, k, hs] at h
  · intro _; simp only [stp, k]; exact h2
theorem run_sd {s : GSpool} (hb : Sd s) {l : List GRecord} : ∀ i, i ≤ cnt s l → Sd (run s (l.take i)) := by
  intro i hi
  cases i with
  | zero => simpa [run] using hb
  | succ i =>
    have hc := cnt_le s l
    have hr : l[i]? = some l[i] := List.getElem?_eq_getElem (by omega)
    rw [run_succ hr]
    exact Sd.step (cnt_appl hi hr)
structure Rst (m : Nat) (s0 s : GSpool) (out : List GRecord) : Prop where
  ap : Appls s0 out
  rn : run s0 out = s
  wf : WF m s
  sd : Sd s
  cn : ∀ j : Nat, j < m → cj out j = if dn s0 j then 0 else if dn s j then 1 else 0
  up : ∀ j : Nat, j < m → dn s0 j = true → dn s j = true
  bg : ∀ r ∈ out, r.Kind = 1 → 0 ≤ r.A ∧ r.A < m ∧ dn s0 r.A = false
  ln : out.length + 2 * un s + bz s + (if s.Sealed then 0 else 1) ≤ 2 * un s0 + bz s0 + 1
theorem appl_appls {s0 s : GSpool} {out : List GRecord} {r : GRecord} (h : Appls s0 out) (hr : run s0 out = s) (ha : appl s r = true) : Appls s0 (out ++ [r]) ∧ run s0 (out ++ [r]) = stp s r := by
  refine ⟨?_, ?_⟩
  · unfold Appls
    rw [cnt_append h, hr]
    simp [cnt, ha]
  · unfold run at hr ⊢
    rw [List.foldl_append, hr]; rfl
theorem cj_snoc (out : List GRecord) (r : GRecord) (j : Nat) : cj (out ++ [r]) j = cj out j + (if (r.A == (j : Int)) && (r.Kind == 2 || r.Kind == 4) then 1 else 0) := by
  unfold cj
  rw [List.countP_append, List.countP_cons, List.countP_nil]; simp
theorem Rst.same {m : Nat} {s0 s : GSpool} {out : List GRecord} (h : Rst m s0 s out) {r : GRecord} (ha : appl s r = true) (hk : r.Kind = 3 ∨ r.Kind = 5) : Rst m s0 (stp s r) (out ++ [r]) := by
  obtain ⟨h1, h2⟩ := appl_appls h.ap h.rn ha
  have hd : (stp s r).Done = s.Done := by rcases hk with k | k <;> simp [stp, k]
  have hdn : ∀ j, dn (stp s r) j = dn s j := fun j => by unfold dn; rw [hd]
  refine ⟨h1, h2, h.wf.step ha, Sd.step ha, fun j hj => ?_, fun j hj h0 => by rw [hdn]; exact h.up j hj h0, fun q hq => ?_, ?_⟩
  · rw [cj_snoc, h.cn j hj, hdn]
    have : ((r.A == (j : Int)) && (r.Kind == 2 || r.Kind == 4)) = false := by rcases hk with k | k <;> simp [k]
    rw [this]; simp
  · rcases List.mem_append.1 hq with hq | hq
    · exact h.bg q hq
    · simp only [List.mem_singleton] at hq
      subst hq
      intro k; omega
  · have hl := h.ln
    have hs := (appl_kind ha).1
    have hu : un (stp s r) = un s := by unfold un; rw [hd]
    rw [hu, List.length_append]
    simp only [List.length_singleton]
    rw [hs] at hl
    simp only [Bool.false_eq_true, if_false] at hl
    rcases hk with k | k
    · have hn : s.Now ≠ -1 := by
        obtain ⟨_, ⟨k', _⟩ | ⟨k', h2, h3, _⟩ | ⟨k', _⟩ | ⟨k', _⟩⟩ := appl_kind ha
        · omega
        · have := (jobB_ok h.wf h2).1; omega
        · omega
        · omega
      have e1 : bz s = 1 := by simp [bz, hn]
      have e2 : bz (stp s r) = 0 := by simp [bz, stp, k]
      have e3 : (stp s r).Sealed = false := by simp [stp, k, hs]
      rw [e3]; simp only [Bool.false_eq_true, if_false]; omega
    · have e2 : bz (stp s r) = bz s := by simp [bz, stp, k]
      have e3 : (stp s r).Sealed = true := by simp [stp, k]
      rw [e3]; simp only [if_true]; omega
theorem Rst.job {m : Nat} {s0 s s2 : GSpool} {out rs : List GRecord} (h : Rst m s0 s out) {j0 : Nat} (hj0 : j0 < m) (hd0 : dn s j0 = false) (hap : Appls s rs) (hrn : run s rs = s2) (hw : WF m s2) (hdone : s2.Done = s.Done.set j0 true) (hnow : s.Now = -1) (hnow2 : s2.Now = -1) (hsl : s.Sealed = false) (hsl2 : s2.Sealed = false)
    (hcj : ∀ j : Nat, cj rs j = if j = j0 then 1 else 0) (hbg : ∀ r ∈ rs, r.Kind = 1 → r.A = (j0 : Int)) (hlen : rs.length ≤ 2) : Rst m s0 s2 (out ++ rs) := by
  have hdn : ∀ j : Nat, dn s2 j = if j = j0 then true else dn s j := fun j => by
    unfold dn
    rw [hdone, getD_set (by rw [h.wf.done]; exact hj0)]
    simp only [Int.toNat_natCast]
    by_cases e : j0 = j
    · rw [if_pos e, if_pos e.symm]
    · rw [if_neg e, if_neg (fun hh => e hh.symm)]
  have h00 : dn s0 j0 = false := by
    cases hh : dn s0 j0 with
    | false => rfl
    | true => have := h.up j0 hj0 hh; rw [hd0] at this; cases this
  refine ⟨?_, ?_, hw, (fun hh => by rw [hsl2] at hh; cases hh), fun j hj => ?_, fun j hj h0 => ?_, fun q hq => ?_, ?_⟩
  · unfold Appls at hap ⊢
    rw [cnt_append h.ap, h.rn, hap, List.length_append]
  · unfold run at hrn ⊢
    rw [List.foldl_append]
    have := h.rn
    unfold run at this
    rw [this, hrn]
  · have : cj (out ++ rs) j = cj out j + cj rs j := by unfold cj; rw [List.countP_append]
    rw [this, h.cn j hj, hcj, hdn]
    by_cases e : j = j0
    · subst e; simp [h00, hd0]
    · simp [e]
  · rw [hdn]
    split
    · rfl
    · exact h.up j hj h0
  · rcases List.mem_append.1 hq with hq | hq
    · exact h.bg q hq
    · intro k
      rw [hbg q hq k]
      exact ⟨by omega, by omega, h00⟩
  · have hl := h.ln
    have hc := count_set s.Done j0 (by rw [h.wf.done]; exact hj0) (by simpa [dn] using hd0)
    have hu : un s2 + 1 = un s := by unfold un; rw [hdone]; exact hc
    have b1 : bz s = 0 := by simp [bz, hnow]
    have b2 : bz s2 = 0 := by simp [bz, hnow2]
    rw [hsl2, b2, List.length_append]
    rw [hsl, b1] at hl
    simp only [Bool.false_eq_true, if_false] at hl ⊢
    omega
def Rest (m : Nat) (s0 : GSpool) (y : List GRecord × GSpool × Bool) : Prop := y.2.2 = true ∧ y.2.1.Sealed = true ∧ Rst m s0 y.2.1 y.1
theorem rest_tot {m : Nat} {s0 : GSpool} (hw0 : WF m s0) (hsd0 : Sd s0) (mt : GMatching) : Tot (fun n => FSixdotlaw29_rest n s0 mt) (Rest m s0) := by
  unfold FSixdotlaw29_rest
  have hm := hw0.sm
  have hlim : iadd .i64 (imul .i64 3 ((List.length s0.Done : Nat) : Int)) 2 = ((3 * m + 2 : Nat) : Int) := by
    rw [hw0.done, mul64 (by omega) (by omega), add64 (by omega) (by omega)]; omega
  refine Tot.bind (R := fun y => ∃ z, y = .inr z ∧ Rest m s0 z) ?_ fun y hy => by
    obtain ⟨z, rfl, hz⟩ := hy
    exact Tot.pure hz
  refine Tot.whl (body := fun n (x : (GSpool × (List GRecord) × Int)) => FSixdotlaw29_rest_L1 n s0 mt x.1 x.2.1 x.2.2) (fun k x => ∃ i : Nat, x.2.2 = (i : Int) ∧ Rst m s0 x.1 x.2.1 ∧ i + left x.1 ≤ 3 * m + 2 ∧ k = left x.1) ?_ (left s0) (s0, [], 0) ?_
  · rintro k ⟨s, out, i'⟩ ⟨i, e1, hR, hi, rfl⟩
    simp only at e1 hR hi
    subst e1
    have hw := hR.wf
    have hpos : 1 ≤ left s := by unfold left; split <;> omega
    have hun : un s0 ≤ m := by unfold un; rw [← hw0.done]; exact List.count_le_length
    have hb0 : bz s0 ≤ 1 := by unfold bz; split <;> omega
    have hol : out.length ≤ 2 * m + 2 := by have := hR.ln; omega
    have hgo : ∀ (s2 : GSpool) (out2 : List GRecord), Rst m s0 s2 out2 → left s2 < left s → Tot (fun n => FSixdotlaw29_rest_J1 n (i : Int) s2 out2) (Rd2 (fun y => ∃ j, j < left s ∧ ∃ i : Nat, y.2.2 = (i : Int) ∧ Rst m s0 y.1 y.2.1 ∧ i + left y.1 ≤ 3 * m + 2 ∧ j = left y.1) (fun y => ∃ z, y = .inr z ∧ Rest m s0 z)) := by
      intro s2 out2 h2 hl
      unfold FSixdotlaw29_rest_J1
      refine Tot.pure ⟨left s2, hl, i + 1, ?_, h2, by simp only; omega, rfl⟩
      simp only
      rw [succ64 (by omega)]
    unfold FSixdotlaw29_rest_L1
    rw [hlim]
    refine Tot.iteT (by simp; omega) ?_
    refine Tot.bindE (next_ev hw mt) ?_
    by_cases hs : s.Sealed = true
    · have hx : nxtR s mt = ⟨0, 0, 0⟩ := by simp [nxtR, hs]
      rw [hx]
      refine Tot.iteT (by decide) ?_
      refine Tot.bindA (y := s.Sealed) (fun n => rfl) (Tot.pure ?_)
      exact ⟨_, rfl, hs, hs, hR⟩
    have hs' : s.Sealed = false := by simpa using hs
    by_cases hn : s.Now = -1
    · rcases idxS_cases s.Done false with ⟨e, hall⟩ | ⟨j, hj, e, hv, _⟩
      · have hx : nxtR s mt = ⟨5, 0, 0⟩ := by simp [nxtR, hs', hn, e]
        have hnc : s.Done.contains false = false := by
          rw [← Bool.not_eq_true, List.contains_iff_mem, mem_getD]
          rintro ⟨i, hi, h⟩; exact hall i hi h
        have ha : appl s ⟨5, 0, 0⟩ = true := by simp [appl, hs', hn, hnc]; simpa using hnc
        rw [hx]
        refine Tot.iteF (by decide) ?_
        refine Tot.bindE (rstep_ev hw _) ?_
        unfold stepS
        rw [if_pos ha]
        refine Tot.iteF (by simp) ?_
        refine Tot.bindC (app_le (by simp; omega)) ?_
        refine Tot.iteF (by decide) ?_
        refine hgo _ _ (hR.same ha (.inr rfl)) ?_
        have : (stp s ⟨5, 0, 0⟩).Sealed = true := by simp [stp]
        unfold left; rw [this, hs']; simp; omega
      · have hjm : j < m := by rw [← hw.done]; exact hj
        have hd : dn s j = false := by unfold dn; rw [Int.toNat_natCast]; exact hv
        have hjb : jobB s (j : Int) = true := by unfold jobB; simp; exact hj
        have hleft : ∀ s2 : GSpool, s2.Sealed = false → s2.Now = -1 → s2.Done = s.Done.set j true → left s2 < left s := fun s2 f1 f2 f3 => by
          have hc := count_set s.Done j hj hv
          unfold left un bz
          rw [f1, f2, f3, hs', hn]; simp; omega
        by_cases hc : (j : Int) < mt.From.length ∧ 0 ≤ fromAt mt j ∧ s.Taken.contains (fromAt mt j) = false
        · have hx : nxtR s mt = ⟨4, (j : Int), fromAt mt j⟩ := by
            unfold nxtR; rw [e, if_neg hs, if_neg (by simp [hn]), if_neg (by omega), if_pos hc]
          have ha : appl s ⟨4, (j : Int), fromAt mt j⟩ = true := by
            have h3 := hc.2.2
            simp only [appl, hs', hn, hjb, hd, hc.2.1, h3]; simp
          rw [hx]
          refine Tot.iteF (by simp) ?_
          refine Tot.bindE (rstep_ev hw _) ?_
          unfold stepS
          rw [if_pos ha]
          refine Tot.iteF (by simp) ?_
          refine Tot.bindC (app_le (by simp; omega)) ?_
          refine Tot.iteF (by simp) ?_
          have g1 : (stp s ⟨4, (j : Int), fromAt mt j⟩).Done = s.Done.set j true := by simp [stp]
          have g2 : (stp s ⟨4, (j : Int), fromAt mt j⟩).Now = -1 := by simp [stp, hn]
          have g3 : (stp s ⟨4, (j : Int), fromAt mt j⟩).Sealed = false := by simp [stp, hs']
          refine hgo _ _ (hR.job hjm hd (rs := [⟨4, (j : Int), fromAt mt j⟩]) (by simp [Appls, cnt, ha]) (by simp [run]) (hw.step ha) g1 hn g2 hs' g3 (fun j' => ?_) (by simp) (by simp)) (hleft _ g3 g2 g1)
          unfold cj
          by_cases e' : j' = j
          · simp [e']
          · have : ¬(j : Int) = (j' : Int) := by omega
            simp [e', this]
        · have hx : nxtR s mt = ⟨1, (j : Int), iadd .i64 (tr s j) 1⟩ := by
            unfold nxtR; rw [e, if_neg hs, if_neg (by simp [hn]), if_neg (by omega), if_neg hc]
          have ha : appl s ⟨1, (j : Int), iadd .i64 (tr s j) 1⟩ = true := by
            simp [appl, hs', hn, hjb, hd]
          have hw1 := hw.step ha
          generalize hb : iadd .i64 (tr s (j : Int)) 1 = b at *
          have g0 : stp s ⟨1, (j : Int), b⟩ = { s with Tries := s.Tries.set j b, Now := (j : Int) } := by simp [stp]
          have ha2 : appl (stp s ⟨1, (j : Int), b⟩) ⟨2, (j : Int), b⟩ = true := by
            rw [g0]
            have : (s.Tries.set j b).getD j default = b := by rw [getD_set (by rw [hw.tries]; exact hjm), if_pos rfl]
            have hjb' : jobB { Tries := s.Tries.set j b, Done := s.Done, Taken := s.Taken, Now := (j : Int), Sealed := false } (j : Int) = true := hjb
            simp only [appl, hs', hjb', tr, Int.toNat_natCast, this]; simp
          rw [hx]
          refine Tot.iteF (by simp) ?_
          refine Tot.bindE (rstep_ev hw _) ?_
          unfold stepS
          rw [if_pos ha]
          refine Tot.iteF (by simp) ?_
          refine Tot.bindC (app_le (by simp; omega)) ?_
          refine Tot.iteT (by simp) ?_
          refine Tot.bindE (rstep_ev hw1 _) ?_
          unfold stepS
          rw [if_pos ha2]
          refine Tot.bindC (app_le (by simp; omega)) ?_
          generalize hs2 : stp (stp s ⟨1, (j : Int), b⟩) ⟨2, (j : Int), b⟩ = s2
          have g1 : s2.Done = s.Done.set j true := by rw [← hs2, g0]; simp [stp]
          have g2 : s2.Now = -1 := by rw [← hs2, g0]; simp [stp]
          have g3 : s2.Sealed = false := by rw [← hs2, g0]; simp [stp, hs']
          rw [List.append_assoc]
          refine hgo _ _ (hR.job hjm hd (rs := [⟨1, (j : Int), b⟩] ++ [⟨2, (j : Int), b⟩]) (by simp [Appls, cnt, ha, ha2]) (by simp [run, hs2]) (by rw [← hs2]; exact hw1.step ha2) g1 hn g2 hs' g3 (fun j' => ?_) (by simp) (by simp)) (hleft _ g3 g2 g1)
          unfold cj
          by_cases e' : j' = j
          · simp [e', List.countP_cons]
          · have : ¬(j : Int) = (j' : Int) := by omega
            simp [e', this, List.countP_cons]
    · have hlo := hw.lo
      have hhi := hw.hi
      have hx : nxtR s mt = ⟨3, s.Now, tr s s.Now⟩ := by unfold nxtR; rw [if_neg hs, if_pos hn]
      have hjb : jobB s s.Now = true := by unfold jobB; rw [hw.done]; simp; omega
      have ha : appl s ⟨3, s.Now, tr s s.Now⟩ = true := by simp [appl, hs', hjb]
      rw [hx]
      refine Tot.iteF (by simp) ?_
      refine Tot.bindE (rstep_ev hw _) ?_
      unfold stepS
      rw [if_pos ha]
      refine Tot.iteF (by simp) ?_
      refine Tot.bindC (app_le (by simp; omega)) ?_
      refine Tot.iteF (by simp) ?_
      refine hgo _ _ (hR.same ha (.inl rfl)) ?_
      unfold left un bz
      simp [stp, hs', hn]
  · refine ⟨0, rfl, ⟨rfl, rfl, hw0, hsd0, fun j hj => ?_, fun j hj h => h, by simp, ?_⟩, ?_, rfl⟩
    · simp only [cj, List.countP_nil]
      split
      · rfl
      · rfl
    · simp only [List.length_nil]; split <;> omega
    · have hun : un s0 ≤ m := by unfold un; rw [← hw0.done]; exact List.count_le_length
      have hhi := hw0.hi
      have hlo := hw0.lo
      simp only
      unfold left bz
      split
      · omega
      · split <;> omega
end Go.AI
end
section
namespace Go.AI
theorem reached {m : Nat} (hm : m ≤ 5) (l : List GRecord) : WF m (run (newS m) (l.take (cnt (newS m) l))) ∧ Sd (run (newS m) (l.take (cnt (newS m) l))) ∧ Bz (run (newS m) (l.take (cnt (newS m) l))) :=
  ⟨run_wf (new_wf (by omega)) _ (Nat.le_refl _), run_sd (Sd.new m) _ (Nat.le_refl _), run_bz (new_wf (by omega)) (Bz.new m) _ (Nat.le_refl _)⟩
theorem un_le {m : Nat} {s : GSpool} (h : WF m s) : un s ≤ m := by unfold un; rw [← h.done]; exact List.count_le_length
theorem Rst.len {m : Nat} {s0 s : GSpool} {out : List GRecord} (h : Rst m s0 s out) (hw0 : WF m s0) : out.length ≤ 3 * m + 2 := by
  have h1 := h.ln
  have h2 := un_le hw0
  have hhi := hw0.hi
  have hlo := hw0.lo
  unfold bz at h1
  by_cases e : s0.Now = -1
  · rw [if_pos e] at h1; omega
  · rw [if_neg e] at h1; omega
end Go.AI
end
section
namespace Go.AI
theorem check_tot (l : List Int) (hl : l.length ≤ 1000) : Tot (fun n => FSixdotref28_check n l) (fun _ => True) := by
  unfold FSixdotref28_check
  refine Tot.bind (R := fun _ => True) ?_ fun y _ => Tot.pure trivial
  refine Tot.upto (body := fun n (x : (Int × Int)) => FSixdotref28_check_L1 n l x.1 x.2) l.length (fun i x => x.2 = (i : Int)) ?_ ?_ (65535, 0) rfl
  · rintro i ⟨v, j⟩ hi e
    simp only at e
    subst e
    unfold FSixdotref28_check_L1
    refine Tot.iteT (by simp; exact hi) ?_
    refine Tot.bind (R := fun _ => True) ?_ fun y _ => Tot.pure ?_
    · refine Tot.whl (body := fun n (x : (Int × Int)) => FSixdotref28_check_L2 n l (i : Int) x.1 x.2) (fun k x => x.2 = (k : Int) - 1 ∧ k ≤ 8) ?_ 8 (v, 7) ⟨rfl, Nat.le_refl _⟩
      rintro k ⟨w, b⟩ ⟨e, hk⟩
      simp only at e
      subst e
      unfold FSixdotref28_check_L2 FSixdotref28_check_J1
      refine Tot.ite (fun hc => ?_) fun _ => Tot.pure trivial
      have hc : (k : Int) - 1 ≥ 0 := by simpa using hc
      refine Tot.bindC (idx_lt hi) ?_
      refine Tot.bindC (guardB_of (by simp; omega)) ?_
      have e : isub .i64 ((k : Int) - 1) 1 = ((k - 1 : Nat) : Int) - 1 := by rw [sub64 (by omega) (by omega)]; omega
      refine Tot.ite (fun _ => Tot.pure ?_) (fun _ => Tot.pure ?_) <;> exact ⟨k - 1, by omega, e, by omega⟩
    · rw [succ64 (by omega)]; rfl
  · rintro ⟨v, j⟩ e
    simp only at e
    subst e
    refine Tot.all (z := .inr v) (fun n => ?_) trivial
    unfold FSixdotref28_check_L1
    rw [if_neg (by simp)]
def Byt (l : List Int) : Prop := ∀ v ∈ l, 0 ≤ v ∧ v < 256
def numS (a : Int) : List Int := [IntKind.u8.wrap (ishr .i64 a 24), IntKind.u8.wrap (ishr .i64 a 16), IntKind.u8.wrap (ishr .i64 a 8), IntKind.u8.wrap a]
theorem num_byt (a : Int) : Byt (numS a) := by
  intro v hv
  simp only [numS, List.mem_cons, List.not_mem_nil, or_false] at hv
  rcases hv with rfl | rfl | rfl | rfl <;> exact w8_range _
theorem number_eq (n : Nat) (l : List Int) (a : Int) (hl : l.length ≤ 1000) : FSixdotref28_number n l a = some (l ++ numS a) := by
  unfold FSixdotref28_number
  rw [app_le (by simp; omega), Option.bind_some]; rfl
theorem read_num : ∀ a : Nat, a < 1000 → FSixdotref28_read 0 (numS (a : Int)) = some (a : Int) := by
  have : (List.range 1000).all (fun a => FSixdotref28_read 0 (numS (a : Int)) == some (a : Int)) = true := by kernel_rfl
  intro a ha
  have := List.all_eq_true.1 this a (List.mem_range.2 ha)
  simpa using this
theorem read_eq {n : Nat} {a : Int} (h : 0 ≤ a) (h' : a < 1000) : FSixdotref28_read n (numS a) = some a := by
  obtain ⟨k, rfl⟩ : ∃ k : Nat, a = (k : Int) := ⟨a.toNat, by omega⟩
  exact read_num k (by omega)
noncomputable def encS (r : GRecord) (i : Int) : List Int := lim fun n => FSixdotref28_Encode n r i
theorem enc_ev (r : GRecord) (i : Int) : (∃ a b, encS r i = [IntKind.u8.wrap r.Kind] ++ numS r.A ++ numS r.B ++ [IntKind.u8.wrap a, IntKind.u8.wrap b]) ∧ Ev (fun n => FSixdotref28_Encode n r i) (encS r i) := by
  refine Tot.lim (P := fun z => ∃ a b, z = [IntKind.u8.wrap r.Kind] ++ numS r.A ++ numS r.B ++ [IntKind.u8.wrap a, IntKind.u8.wrap b]) ?_
  unfold FSixdotref28_Encode
  refine Tot.bindC (app_le (by simp)) ?_
  refine Tot.bindA (fun n => number_eq n _ _ (by simp)) ?_
  refine Tot.bindA (fun n => number_eq n _ _ (by simp [numS])) ?_
  refine Tot.bindA (fun n => number_eq n _ _ (by simp)) ?_
  refine Tot.bindC (app_le (by simp [numS])) ?_
  refine Tot.bind (check_tot _ (by simp [numS])) fun c _ => ?_
  refine Tot.bindC (app_le (by simp [numS])) (Tot.pure ⟨_, _, rfl⟩)
theorem enc_len (r : GRecord) (i : Int) : (encS r i).length = 11 := by
  obtain ⟨a, b, h⟩ := (enc_ev r i).1
  rw [h]; simp [numS]
theorem enc_byt (r : GRecord) (i : Int) : Byt (encS r i) := by
  obtain ⟨a, b, h⟩ := (enc_ev r i).1
  rw [h]
  intro v hv
  simp only [List.mem_append, List.mem_cons, List.not_mem_nil, or_false] at hv
  rcases hv with ((rfl | hv) | hv) | (rfl | rfl)
  · exact w8_range _
  · exact num_byt _ v hv
  · exact num_byt _ v hv
  · exact w8_range _
  · exact w8_range _
noncomputable def jrn (l : List GRecord) : Nat → List Int
  | 0 => []
  | i + 1 => jrn l i ++ encS (l.getD i default) (i : Int)
theorem jrn_len (l : List GRecord) : ∀ i, (jrn l i).length = 11 * i := by
  intro i
  induction i with
  | zero => rfl
  | succ i ih => simp only [jrn, List.length_append, ih, enc_len]; omega
theorem jrn_pre (l : List GRecord) {i j : Nat} (h : i ≤ j) : (jrn l j).take (11 * i) = jrn l i := by
  induction j with
  | zero => have : i = 0 := by omega
            subst this; rfl
  | succ j ih =>
    by_cases e : i = j + 1
    · subst e; rw [List.take_of_length_le (by rw [jrn_len]; omega)]
    · simp only [jrn]
      rw [List.take_append_of_le_length (by rw [jrn_len]; omega), ih (by omega)]
theorem jrn_part (l : List GRecord) {i j : Nat} (h : i < j) : ((jrn l j).take (11 * i + 11)).drop (11 * i) = encS (l.getD i default) (i : Int) := by
  have := jrn_pre l (i := i + 1) (j := j) (by omega)
  rw [show 11 * i + 11 = 11 * (i + 1) by omega, this]
  simp only [jrn]
  rw [List.drop_left' (jrn_len l i)]
theorem put_ev (l : List GRecord) (i : Nat) (hi : i < 1000) : Ev (fun n => FSixdotref28_Put n (jrn l i) (l.getD i default)) (jrn l (i + 1)) := by
  unfold FSixdotref28_Put
  have hl := jrn_len l i
  have e : iquo .i64 ((List.length (jrn l i) : Nat) : Int) 11 = (i : Int) := by
    unfold iquo
    rw [hl, Int.tdiv_eq_ediv_of_nonneg (by omega), w64 (by omega) (by omega)]; omega
  refine Tot.ev ?_
  refine Tot.bindC (app_le (by simp [hl]; omega)) ?_
  rw [e]
  refine Tot.bindE (enc_ev _ _).2 ?_
  refine Tot.bindC (app_le (by simp [hl, enc_len]; omega)) (Tot.pure ?_)
  simp [jrn]
theorem bytes_ev (l : List GRecord) (hl : l.length < 1000) : Ev (fun n => FSixdotref28_Bytes n l) (jrn l l.length) := by
  unfold FSixdotref28_Bytes
  obtain ⟨M, hM⟩ := Ev.many (f := fun n i => FSixdotref28_Put n (jrn l i) (l.getD i default)) (z := fun i => jrn l (i + 1)) l.length fun i hi => put_ev l i (by omega)
  have hE := Ev.to (body := fun n (x : ((List Int) × Int)) => FSixdotref28_Bytes_L1 n l x.1 x.2) (r := jrn l l.length) (fun i => (jrn l i, (i : Int))) l.length ⟨M, fun n hn => ⟨fun i hi => by
    have := hM n hn i hi
    simp only at this ⊢
    unfold FSixdotref28_Bytes_L1
    rw [if_pos (by simp; exact hi), idx_nd hi, Option.bind_some, this, Option.bind_some, succ64 (by omega)], by
    simp only
    unfold FSixdotref28_Bytes_L1
    rw [if_neg (by simp)]⟩⟩
  exact Ev.bind hE (Ev.all fun n => rfl)
theorem bstr_ok {l : List Int} (h : Byt l) : ∃ s, bstr l = some s := by
  unfold bstr
  rw [if_pos]
  · exact ⟨_, rfl⟩
  · rw [List.all_eq_true]
    intro v hv
    have := h v hv
    simp [this]
def Fit (r : GRecord) : Prop := 1 ≤ r.Kind ∧ r.Kind ≤ 5 ∧ 0 ≤ r.A ∧ r.A < 1000 ∧ 0 ≤ r.B ∧ r.B < 1000
theorem jread_ev (l : List GRecord) (hl : l.length < 1000) (hf : ∀ r ∈ l, Fit r) (c : Nat) (hc : c ≤ 11 * l.length) : Ev (fun n => FSixdotref28_Read n ((jrn l l.length).take c)) (l.take (c / 11), 11 * ((c / 11 : Nat) : Int)) := by
  unfold FSixdotref28_Read
  have hlen : ((jrn l l.length).take c).length = c := by rw [List.length_take, jrn_len]; omega
  have hq : c / 11 ≤ l.length := by omega
  obtain ⟨M, hM⟩ := Ev.many (f := fun n i => FSixdotref28_Encode n (l.getD i default) (i : Int)) (z := fun i => encS (l.getD i default) (i : Int)) l.length fun i hi => (enc_ev _ _).2
  have hE := Ev.to (body := fun n x => FSixdotref28_Read_L1 n ((jrn l l.length).take c) x) (r := l.take (c / 11)) (fun i => l.take i) (c / 11) ⟨M, fun n hn => ⟨fun i hi => by
    have hil : i < l.length := by omega
    have henc := hM n hn i hil
    have htl : (l.take i).length = i := by rw [List.length_take]; omega
    have e1 : imul .i64 11 (i : Int) = ((11 * i : Nat) : Int) := by rw [mul64 (by omega) (by omega)]; omega
    have e2 : imul .i64 11 (((i + 1 : Nat) : Int)) = ((11 * i + 11 : Nat) : Int) := by rw [mul64 (by omega) (by omega)]; omega
    have e3 : iadd .i64 ((11 * i : Nat) : Int) 11 = ((11 * i + 11 : Nat) : Int) := by rw [add64 (by omega) (by omega)]; omega
    have hpart : sub ((jrn l l.length).take c) ((11 * i : Nat) : Int) ((11 * i + 11 : Nat) : Int) = some (encS (l.getD i default) (i : Int)) := by
      rw [sub_d (by omega) (by omega) (by rw [hlen]; omega), Int.toNat_natCast, Int.toNat_natCast, List.take_take, Nat.min_eq_left (by omega), jrn_part l hil]
    have hr : l.getD i default = l[i] := by rw [List.getD_eq_getElem?_getD, List.getElem?_eq_getElem hil]; rfl
    have hfit := hf l[i] (List.getElem_mem hil)
    rw [← hr] at hfit
    obtain ⟨f1, f2, f3, f4, f5, f6⟩ := hfit
    obtain ⟨a, b, hsh⟩ := (enc_ev (l.getD i default) (i : Int)).1
    obtain ⟨str, hstr⟩ := bstr_ok (enc_byt (l.getD i default) (i : Int))
    have hk : IntKind.u8.wrap (l.getD i default).Kind = (l.getD i default).Kind := w8 (by omega) (by omega)
    have hk2 : IntKind.i64.wrap (l.getD i default).Kind = (l.getD i default).Kind := w64 (by omega) (by omega)
    have s1 : sub (encS (l.getD i default) (i : Int)) 1 5 = some (numS (l.getD i default).A) := by
      rw [sub_d (by omega) (by omega) (by rw [enc_len]; omega), hsh]; rfl
    have s2 : sub (encS (l.getD i default) (i : Int)) 5 9 = some (numS (l.getD i default).B) := by
      rw [sub_d (by omega) (by omega) (by rw [enc_len]; omega), hsh]; rfl
    have s0 : idx (encS (l.getD i default) (i : Int)) 0 = some (l.getD i default).Kind := by
      rw [idx_d (by omega) (by rw [enc_len]; omega), hsh, hk]; rfl
    have hv : FSixdotref28_Valid n (l.getD i default) = some true := by
      unfold FSixdotref28_Valid
      congr 1
      simp only [Bool.and_eq_true, decide_eq_true_eq]
      omega
    unfold FSixdotref28_Read_L1
    rw [htl, succ64 (by omega), e1, e2, e3, if_pos (by simp only [decide_eq_true_eq]; rw [hlen]; omega), hpart, Option.bind_some, s0, Option.bind_some, s1, Option.bind_some, read_eq f3 f4, Option.bind_some, s2, Option.bind_some, read_eq f5 f6, Option.bind_some, hk2]
    rw [show ({ Kind := (l.getD i default).Kind, A := (l.getD i default).A, B := (l.getD i default).B } : GRecord) = l.getD i default from rfl, hv, Option.bind_some, if_pos (by rfl), henc, Option.bind_some, if_pos (by rfl), hstr, Option.bind_some, Option.bind_some, if_neg (by simp), app_le (by simp; omega), Option.bind_some, List.take_add_one, List.getElem?_eq_getElem hil, hr]
    rfl, by
    have htl : (l.take (c / 11)).length = c / 11 := by rw [List.length_take]; omega
    have e2 : imul .i64 11 (((c / 11 + 1 : Nat) : Int)) = ((11 * (c / 11) + 11 : Nat) : Int) := by rw [mul64 (by omega) (by omega)]; omega
    unfold FSixdotref28_Read_L1
    rw [htl, succ64 (by omega), e2, if_neg (by simp only [decide_eq_true_eq]; rw [hlen]; omega)]⟩⟩
  refine Ev.bind hE (Ev.all fun n => ?_)
  have htl : (l.take (c / 11)).length = c / 11 := by rw [List.length_take]; omega
  rw [htl, mul64 (by omega) (by omega)]
def Tb (i : Nat) (s : GSpool) : Prop := ∀ j : Nat, 0 ≤ s.Tries.getD j default ∧ s.Tries.getD j default ≤ (i : Int)
theorem Tb.new (m : Nat) : Tb 0 (newS m) := by
  intro j
  simp only [newS]
  rw [List.getD_eq_getElem?_getD, List.getElem?_replicate]
  split <;> simp <;> decide
theorem Tb.step {m i : Nat} {s : GSpool} (hw : WF m s) (h : Tb i s) (hi : i < 1000) {r : GRecord} (ha : appl s r = true) : Tb (i + 1) (stp s r) ∧ (r.Kind ≠ 4 → 0 ≤ r.B ∧ r.B ≤ (i : Int) + 1) := by
  have hle : Tb (i + 1) s := fun j => ⟨(h j).1, by have := (h j).2; omega⟩
  obtain ⟨hs, ⟨k, h1, h2, h3, h4⟩ | ⟨k, h2, h3, h4⟩ | ⟨k, h1, h2, h3, _⟩ | ⟨k, h1, h2, h3, h4⟩⟩ := appl_kind ha
  · obtain ⟨g1, g2⟩ := jobB_ok hw h2
    have ht := h r.A.toNat
    have hb : r.B = tr s r.A + 1 := by rw [h4]; exact add64 (by unfold tr; omega) (by unfold tr; omega)
    unfold tr at hb
    refine ⟨fun j => ?_, fun _ => by omega⟩
    simp only [stp, k, if_true]
    rw [getD_set (by rw [hw.tries]; omega)]
    split
    · omega
    · exact hle j
  · have ht := h r.A.toNat
    unfold tr at h4
    refine ⟨fun j => ?_, fun _ => by omega⟩
    rcases k with k | k <;> simp only [stp, k] <;> exact hle j
  · refine ⟨fun j => ?_, fun h => absurd k h⟩
    simp only [stp, k]; exact hle j
  · refine ⟨fun j => ?_, fun _ => by omega⟩
    simp only [stp, k]; exact hle j
theorem run_tb {m : Nat} {l : List GRecord} (hm : m ≤ 5) (hl : l.length ≤ 500) : ∀ i, i ≤ cnt (newS m) l → Tb i (run (newS m) (l.take i)) := by
  intro i
  induction i with
  | zero => intro _; simpa [run] using Tb.new m
  | succ i ih =>
    intro hi
    have hc := cnt_le (newS m) l
    have hr : l[i]? = some l[i] := List.getElem?_eq_getElem (by omega)
    rw [run_succ hr]
    exact ((ih (by omega)).step (run_wf (new_wf (by omega)) (l := l) i (by omega)) (by omega) (cnt_appl hi hr)).1
theorem fit_of {m : Nat} {l : List GRecord} (hm : m ≤ 5) (hl : Recs l) : ∀ r ∈ l.take (cnt (newS m) l), Fit r := by
  intro r hr
  have h24 := hl.1
  have hc := cnt_le (newS m) l
  obtain ⟨i, hi, e⟩ := List.mem_iff_getElem.1 hr
  simp only [List.length_take] at hi
  have hr' : l[i]? = some r := by
    rw [List.getElem_take] at e
    rw [List.getElem?_eq_getElem (by omega), e]
  have hw := run_wf (new_wf (m := m) (by omega)) (l := l) i (by omega)
  have ha := cnt_appl (s := newS m) (by omega) hr'
  have hb := ((run_tb hm (by omega) i (by omega)).step hw (by omega) ha).2
  have hB : 0 ≤ r.B ∧ r.B < 1000 := by
    by_cases k : r.Kind = 4
    · have := hl.2 r (List.mem_of_getElem? hr') k
      obtain ⟨_, ⟨k', _⟩ | ⟨k', _⟩ | ⟨k', _, _, _, h5, _⟩ | ⟨k', _⟩⟩ := appl_kind ha <;> omega
    · have := hb k; omega
  have hA : 0 ≤ r.A ∧ r.A < 1000 ∧ 1 ≤ r.Kind ∧ r.Kind ≤ 5 := by
    obtain ⟨_, ⟨k', _, h2, _⟩ | ⟨k', h2, _⟩ | ⟨k', _, h2, _⟩ | ⟨k', _, _, h3, _⟩⟩ := appl_kind ha
    · have := jobB_ok hw h2; omega
    · have := jobB_ok hw h2; omega
    · have := jobB_ok hw h2; omega
    · omega
  exact ⟨hA.2.2.1, hA.2.2.2, hA.1, hA.2.1, hB.1, hB.2⟩
theorem law4 {x : GRaw} (hx : RawOK x) {k : Int} (hk : 0 ≤ k ∧ k < 65536) : Ev (fun n => FSixdotlaw29_SpoolRecovers n x k) true := by
  refine Tot.ev ?_
  unfold FSixdotlaw29_SpoolRecovers
  refine Tot.bindE sanity_ev ?_
  obtain ⟨m, hm, hj⟩ := jobs_eq hx
  refine Tot.bindA hj ?_
  refine Tot.bind (records_tot hx) fun l0 hl0 => ?_
  have hl24 := hl0.1
  refine Tot.bindE (rreplay_ev (k := (m : Int)) (by omega) (by omega)) ?_
  rw [Int.toNat_natCast]
  have hc0 := cnt_le (newS m) l0
  have hfit := fit_of hm hl0
  simp only
  refine Tot.bindC (sub_pre hc0) ?_
  have hapl : cnt (newS m) (l0.take (cnt (newS m) l0)) = (l0.take (cnt (newS m) l0)).length := by rw [cnt_take (Nat.le_refl _), List.length_take]; omega
  have hlen0 : (l0.take (cnt (newS m) l0)).length ≤ 24 := by rw [List.length_take]; omega
  generalize l0.take (cnt (newS m) l0) = l at hfit hapl hlen0
  refine Tot.bindE (bytes_ev l (by omega)) ?_
  have hjl := jrn_len l l.length
  have e1 : iadd .i64 ((List.length (jrn l l.length) : Nat) : Int) 1 = ((11 * l.length + 1 : Nat) : Int) := by rw [hjl, succ64 (by omega)]
  have e2 : IntKind.i64.wrap k = k := w64 (by omega) (by omega)
  rw [e1, e2]
  obtain ⟨_, g1, g2⟩ := rem_range (a := k) (m := ((11 * l.length + 1 : Nat) : Int)) hk.1 (by omega)
  obtain ⟨c, hc⟩ : ∃ c : Nat, irem k ((11 * l.length + 1 : Nat) : Int) = (c : Int) := ⟨(irem k ((11 * l.length + 1 : Nat) : Int)).toNat, by omega⟩
  rw [hc] at g2 ⊢
  refine Tot.bindC (guardB_of (by simp; omega)) ?_
  refine Tot.bindC (sub_pre (by omega)) ?_
  refine Tot.bindE (jread_ev l (by omega) hfit c (by omega)) ?_
  have hq : c / 11 ≤ l.length := by omega
  have hap : Appls (newS m) (l.take (c / 11)) := by unfold Appls; rw [cnt_take (by omega), List.length_take]; omega
  have hlq : (l.take (c / 11)).length ≤ 24 := by rw [List.length_take]; omega
  generalize l.take (c / 11) = q at hap hlq
  simp only
  refine Tot.bindE (preplay_ev (k := (m : Int)) (by omega) (by omega)) ?_
  refine Tot.bindE (rreplay_ev (k := (m : Int)) (by omega) (by omega)) ?_
  rw [Int.toNat_natCast]
  obtain ⟨hw, hsd, hb⟩ := reached hm q
  have hcq : cnt (newS m) q = q.length := hap
  rw [hcq, List.take_length] at hw hsd hb ⊢
  simp only
  refine Tot.gE (by simp) (same_ev hw.len.1 hw.len.2.1 hw.len.2.2) ?_
  refine Tot.iteF (by simp) ?_
  refine Tot.bind (matching_tot hx) fun mt hmt => ?_
  refine Tot.bind (rest_tot hw hsd mt) fun y hy => ?_
  obtain ⟨out, s2, ok⟩ := y
  obtain ⟨h1, h2, hR⟩ := hy
  simp only at h1 h2 hR
  subst h1
  have hol := hR.len hw
  simp only [h2]
  refine Tot.iteF (by rfl) ?_
  refine Tot.bind (R := fun y => y = .inl ()) ?_ fun y hy => ?_
  · generalize hs : run (newS m) q = s at hw hsd hb hR
    refine Tot.upto (body := fun n y => FSixdotlaw29_SpoolRecovers_L1 n true (m : Int) (q, 11 * ((c / 11 : Nat) : Int)) (s, (q.length : Int)) (out, s2, true) y) out.length (fun i y => y = (i : Int)) ?_ ?_ 0 rfl
    · rintro i y hi rfl
      have hr : out[i]? = some out[i] := List.getElem?_eq_getElem hi
      have hbg := hR.bg out[i] (List.getElem_mem hi)
      refine Tot.all (z := .inl ((i + 1 : Nat) : Int)) (fun n => ?_) rfl
      unfold FSixdotlaw29_SpoolRecovers_L1
      rw [if_pos (by simp; omega), idx_at hr, Option.bind_some]
      by_cases k1 : out[i].Kind = 1
      · obtain ⟨f1, f2, f3⟩ := hbg k1
        have hd : idx s.Done out[i].A = some false := by rw [idx_d f1 (by rw [hw.done]; exact f2)]; congr 1
        rw [if_pos (by simp [k1]), Option.bind_some, if_pos (by simp [k1]), hd, Option.bind_some, if_neg (by simp), succ64 (by omega)]
      · rw [if_neg (by simp [k1]), Option.bind_some, if_neg (by simp [k1]), Option.bind_some, if_neg (by simp [k1]), succ64 (by omega)]
    · rintro y rfl
      refine Tot.all (z := .inr (.inl ())) (fun n => ?_) rfl
      unfold FSixdotlaw29_SpoolRecovers_L1
      rw [if_neg (by simp)]
  · subst hy
    simp only
    refine Tot.bindC (app_le (by simp; omega)) ?_
    refine Tot.bindC (app_le (by simp; omega)) ?_
    rw [List.nil_append]
    refine Tot.bindE (preplay_ev (k := (m : Int)) (by omega) (by simp; omega)) ?_
    rw [Int.toNat_natCast]
    have hall : cnt (newS m) (q ++ out) = (q ++ out).length := by
      rw [cnt_append hap, List.length_append]
      have := hR.ap
      unfold Appls at this
      rw [this]
    have hrun : run (newS m) (q ++ out) = s2 := by
      have := hR.rn
      unfold run at this ⊢
      rw [List.foldl_append]; exact this
    rw [hall, List.take_length, hrun]
    have e5 : iadd .i64 (q.length : Int) (out.length : Int) = ((q.length + out.length : Nat) : Int) := by rw [add64 (by omega) (by omega)]; omega
    simp only
    rw [e5, List.length_append]
    have hwl := hR.wf.len
    refine Tot.gE (by simp) (same_ev hwl.1 hwl.2.1 hwl.2.2) (Tot.pure ?_)
    simp
end Go.AI
end
section
namespace Go.AI
theorem okI_u8 {n : Int} (h : okI .u8 n) : U8 n := by
  unfold okI Lit.wf at h
  have : IntKind.u8.min = 0 ∧ IntKind.u8.max = 255 := by decide
  unfold U8
  simp only [Bool.and_eq_true, decide_eq_true_eq] at h
  omega
theorem okGRaw_ok {x : GRaw} (h : okGRaw x) : RawOK x := ⟨okI_u8 h.1, fun a ha => okI_u8 (h.2.1 a ha), fun a ha => okI_u8 (h.2.2 a ha)⟩
theorem okI_u16 {n : Int} (h : okI .u16 n) : 0 ≤ n ∧ n < 65536 := by
  unfold okI Lit.wf at h
  have : IntKind.u16.min = 0 ∧ IntKind.u16.max = 65535 := by decide
  simp only [Bool.and_eq_true, decide_eq_true_eq] at h
  omega
theorem law4d : ∀ x k, okGRaw x → okI .u16 k → ∃ n, FSixdotlaw29_SpoolRecovers n x k = some true := fun _ _ h hk => (law4 (okGRaw_ok h) (okI_u16 hk)).out
end Go.AI
end
section
namespace Go.Proofs.Ytbgkkpfchbakhaa
open Go.AI Go.ChangeShapes Go.WideShapes Go.ChangeAt Go.RowKit
theorem own : ownKnob Try.prog.godebug = none := by kernel_rfl
set_option maxRecDepth 100000 in
theorem lifted (os : Os) (started : os.Started) (H : Type) (enc : TypeId × Value → H) :
    ReturnsInHanded {} Try.checked os 6 .any (Rows.spoolRecoversSpec.pre6 enc Try.prog Try.f6 Rows.spoolRecoversRow.domain false) (Rows.spoolRecoversSpec.post enc Try.prog Try.f6 false true false false) := by
  refine returnsInHanded_of_change (C := Try.checked) own started (by kernel_rfl) Try.func6
    (ChangeSpec.witness6 (enc := enc) (C := Try.checked) false ⟨#[], #[.agg #[.int .u8 0, .slice none 0 0, .slice none 0 0], .int .u16 0], []⟩ 8 (by kernel_rfl) (by kernel_rfl) (by kernel_rfl) (by kernel_rfl)) ?_
  intro W base args ds gs before hval0 hW hcnd _
  have hval : ∀ (j : Nat) t v, Try.f6.params[j]? = some t → args[j]? = some v → Value.okWide Try.prog W .any base t v := hval0
  have hW' := hW
  obtain ⟨p, q, hA0, hV, rfl, hfz, hnd⟩ := hW
  have hA : DataW.TrodAll enc Try.prog W 0 (fun _ => true) true Try.f6.params.toList args.toList ds p := hA0
  have hlt := hA.lt
  rw [Try.params6] at hA hval
  obtain ⟨v0, vs0, d0, ds0, p0, q0, hargs, rfl, rfl, h0, r0⟩ := trodAll_cons hA
  obtain ⟨v1, vs1, d1, ds1, p1, q1, rfl, rfl, rfl, h1, r1⟩ := trodAll_cons r0
  obtain ⟨rfl, rfl, rfl⟩ := trodAll_nil r1
  obtain rfl : args = #[v0, v1] := by cases args; simp_all
  obtain ⟨rfl, rfl⟩ := trodVars_none hV
  obtain ⟨cs0, hc0, _⟩ := okWide_struct Try.underlying24 (hval 0 24 v0 rfl rfl)
  obtain ⟨a0, k0, rep0⟩ := arg_agg hc0 h0 rd24
  obtain ⟨x1, hc1⟩ := okWide_int Try.underlying52 (hval 1 52 v1 rfl rfl)
  obtain ⟨a1, k1, rep1⟩ := arg_one (y := fun a => .int .u16 a) (by rw [hc1]; rfl) h1 rd52 (fun _ => rfl)
  clear hA0 hval0
  simp only [List.append_nil] at hW' hlt
  obtain ⟨n, hn⟩ := law4d a0 a1 k0 k1
  refine (law_walk (FSixdotlaw29_SpoolRecovers_ok hn) (cr_cons rep0 (cr_cons rep1 cr_nil))).mono fun e W' ⟨he, hg, hold⟩ => ?_
  subst he
  exact ⟨_, rfl, post_of_same (pv := []) hW' (fun _ _ _ => (trodAll_cons_mk (shut_bool Try.underlying4 _) trodAll_mk0)) (fun sp hsp => trodAll_cons_mk (stays (by kernel_rfl) (by kernel_rfl) (of_decide_eq_true (by kernel_rfl)) h0 (fun p hp => hlt p (by simp [hp])) (fun p hp => hsp p (by simp [hp])) hold) (trodAll_cons_mk (stays (by kernel_rfl) (by kernel_rfl) (of_decide_eq_true (by kernel_rfl)) h1 (fun p hp => hlt p (by simp [hp])) (fun p hp => hsp p (by simp [hp])) hold) trodAll_mk0)) (fun _ _ => rfl) (by simp) (hg.frame _) hg.2.1 (ok_one (by kernel_rfl) rfl (okWide_bool_mk Try.underlying4 _))⟩
theorem over : Rows.spoolRecoversRow.holds Try.pinned (OpenSpec.ofChange Rows.spoolRecoversSpec) :=
  OpenClaim.holds_of_wide 6 Try.f6 rfl rfl rfl rfl rfl rfl rfl ⟨rfl, rfl, rfl, rfl, rfl⟩ rfl rfl rfl rfl rfl (by kernel_rfl) Try.func6 (by kernel_rfl)
    (of_decide_eq_true (by kernel_rfl)) (by unfold Func.isWrapper; first | (rw [if_pos (by decide +kernel)]; kernel_rfl) | (rw [if_neg (by decide +kernel)]; exact ⟨rfl, rfl⟩))
    (fun os started H enc _ => lifted os started H enc)
theorem spoolRecovers_holds : Rows.SpoolRecoversSaid := over
end Go.Proofs.Ytbgkkpfchbakhaa
end
