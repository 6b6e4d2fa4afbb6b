/- Part 3 of 5 of the proof: lemmas about the model and the program's functions, with no condition beyond those that each states. -/
import Derived.Test.YtjbjbkidckbalaaRB
import Derived.Laws.StructEq
import GoSem.Core.View
import GoSem.Op.String
import Derived.KernelRfl
import Derived.Test.YtjbjbkidckbalaaProg
section
namespace Go.AI
variable {P : Program} {F F' : Nat → Option Obj} {ρ ρ' : Nat → Option Loc} {N : Nat} {H0 F0 : Nat → Option Obj} {O objs objs' : List (Option Ob)} {w w0 : World}
theorem step_out {Γ : Cx} {all : List Oper} {o : Oper} {s s' : St} (h : stepA Γ true all o (fun x => x = s') s) :
    s.objs.length ≤ s'.objs.length ∧ ∀ k, k < s.objs.length → ¬(isW o.op = true ∧ k ∈ refsS s o) → obA s'.objs k = obA s.objs k := by
  cases hW : isW o.op with
  | false =>
    obtain ⟨obs, ho⟩ := (step_shape h).2.1 hW
    rw [ho]
    exact ⟨by simp, fun k hk _ => by rw [obA_append, if_pos hk]⟩
  | true =>
    unfold stepA at h
    cases hg : guardA all s.env o.guard with
    | none => rw [hg] at h; exact h.elim
    | some g =>
      rw [hg] at h
      simp only at h
      have h := h
      cases hdst : dstOk Γ.nt o.dst with
      | false => rw [hdst] at h; exact h.elim
      | true =>
        rw [hdst] at h
        simp only [Bool.not_true, cond_false] at h
        cases hgv : g with
        | false =>
          obtain ⟨v, obs, hm, hQ⟩ := h.2 hgv
          subst hQ
          exact ⟨by simp, fun k hk _ => by rw [obA_append, if_pos hk]⟩
        | true =>
          rcases h.1 hgv with h | h | h
          case inr.inr => exact absurd h.1 (by simp)
          case inr.inl =>
            unfold stepF at h
            split at h
            · rename_i es hes
              cases hop : o.op with
              | buildSlice => rw [hop] at hW; cases hW
              | _ => rw [hop] at hes; cases hes
            · exact h.elim
          unfold stepG at h
          split at h
          · rename_i f args ts hop; rw [hop] at hW; cases hW
          · rename_i c x y hop; rw [hop] at hW; cases hW
          · split at h
            · rename_i e he
              obtain ⟨h1, h2, h3⟩ := h
              cases hc : ((e.upd.isSome && o.guard.isSome) || (!e.rm.isEmpty && (o.guard.isSome || (true && !isW o.op)))) with
              | true => rw [hc] at h3; exact h3.elim
              | false =>
                rw [hc, cond_false] at h3
                have hf : Foot s.objs (fun x => unG (evalA s.env x)) o.op e := by
                  rcases W_kinds hW with hst | ⟨args, ts, hop⟩
                  · exact (st_foot hst he).1
                  · rw [hop] at he ⊢
                    exact append_foot he
                have hll : (updA (rmA s.objs e.rm) e.upd).length = s.objs.length := by rw [updA_length, rmA_length]
                subst h3
                refine ⟨by simp only [effA, List.length_append, hll]; omega, fun k hk hn => ?_⟩
                simp only [effA]
                rw [obA_append, if_pos (by rw [hll]; exact hk), obA_upd]
                have hnr : k ∉ e.rm := fun hr => hn ⟨rfl, (hf.rm k hr).1⟩
                cases hu : e.upd with
                | none => simp only; rw [obA_rm, if_neg hnr]
                | some p =>
                  obtain ⟨j, ob1⟩ := p
                  simp only
                  rw [if_neg (fun h => ?_), obA_rm, if_neg hnr]
                  exact hn ⟨rfl, by rw [h.1]; exact (hf.upd j ob1 hu).1⟩
            · exact h.elim
structure DrawOK2 (ops : Array Oper) (S : Nat → St) : Prop where
  back : ∀ (j : Nat) oj, ops[j]? = some oj → ∀ e ∈ oj.after.toList, Region.binds .any e = true → e.on < j
  dst : ∀ (i j : Nat) oi oj d, ops[i]? = some oi → ops[j]? = some oj → i ≠ j → oi.dst = some d → oj.dst ≠ some d
  deps : ∀ (i j : Nat) oi oj d, ops[i]? = some oi → ops[j]? = some oj → i < j → oi.dst = some d → d ∈ readsB ops.toList oj → Region.waitsFor .any ops j i = true
  anti : ∀ (i j : Nat) oi oj d, ops[i]? = some oi → ops[j]? = some oj → j < i → oi.dst = some d → d ∈ readsB ops.toList oj → Region.waitsFor .any ops i j = true
  conf : ∀ (i j : Nat) oi oj, ops[i]? = some oi → ops[j]? = some oj → i ≠ j → isW oj.op = true → (memOp oi.op = true ∨ isW oi.op = true) → Reach ops j i ∨ Reach ops i j ∨ ∀ k, k ∈ refsS (S i) oi → k ∉ refsS (S j) oj
section law
variable {Γ : Cx} {ops : Array Oper} {S : Nat → St}
theorem reach_lt (ok : DrawOK2 ops S) {j i : Nat} (h : Reach ops j i) : i < j := by
  induction h with
  | one h1 =>
    obtain ⟨o, ho, e, he, hb, hon⟩ := Region.waitsFor_spec h1
    rw [← hon]; exact ok.back _ o ho e (by simpa using he) hb
  | step h1 _ ih =>
    obtain ⟨o, ho, e, he, hb, hon⟩ := Region.waitsFor_spec h1
    have := ok.back _ o ho e (by simpa using he) hb
    omega
def Wr (ops : Array Oper) (S : Nat → St) (i k : Nat) : Prop := ∃ o, ops[i]? = some o ∧ isW o.op = true ∧ k ∈ refsS (S i) o ∧ k < (S i).objs.length
theorem len_mono (hst : ∀ (i : Nat) o, ops[i]? = some o → stepA Γ true ops.toList o (fun x => x = S (i + 1)) (S i)) : ∀ d i, i + d ≤ ops.size → (S i).objs.length ≤ (S (i + d)).objs.length := by
  intro d
  induction d with
  | zero => intro i _; exact Nat.le_refl _
  | succ d ih =>
    intro i hi
    have h1 := ih i (by omega)
    have ho := Array.getElem?_eq_getElem (show i + d < ops.size by omega)
    have := (step_out (hst (i + d) _ ho)).1
    rw [← Nat.add_assoc]; omega
theorem len_le (hst : ∀ (i : Nat) o, ops[i]? = some o → stepA Γ true ops.toList o (fun x => x = S (i + 1)) (S i)) {i j : Nat} (hij : i ≤ j) (hj : j ≤ ops.size) : (S i).objs.length ≤ (S j).objs.length := by
  have := len_mono hst (j - i) i (by omega)
  rwa [show i + (j - i) = j by omega] at this
theorem same_obj (hst : ∀ (i : Nat) o, ops[i]? = some o → stepA Γ true ops.toList o (fun x => x = S (i + 1)) (S i)) (k : Nat) : ∀ d i, i + d ≤ ops.size → k < (S i).objs.length → (∀ m, i ≤ m → m < i + d → ¬Wr ops S m k) → obA (S (i + d)).objs k = obA (S i).objs k := by
  intro d
  induction d with
  | zero => intro i _ _ _; rfl
  | succ d ih =>
    intro i hi hk hno
    have ho := Array.getElem?_eq_getElem (show i + d < ops.size by omega)
    have hkd : k < (S (i + d)).objs.length := Nat.lt_of_lt_of_le hk (len_mono hst d i (by omega))
    rw [← Nat.add_assoc, (step_out (hst (i + d) _ ho)).2 k hkd fun h => hno (i + d) (by omega) (by omega) ⟨_, ho, h.1, h.2, hkd⟩]
    exact ih i (by omega) hk fun m h1 h2 => hno m h1 (by omega)
theorem same_le (hst : ∀ (i : Nat) o, ops[i]? = some o → stepA Γ true ops.toList o (fun x => x = S (i + 1)) (S i)) {k i j : Nat} (hij : i ≤ j) (hj : j ≤ ops.size) (hk : k < (S i).objs.length) (hno : ∀ m, i ≤ m → m < j → ¬Wr ops S m k) : obA (S j).objs k = obA (S i).objs k := by
  have := same_obj hst k (j - i) i (by omega) hk (fun m h1 h2 => hno m h1 (by omega))
  rwa [show i + (j - i) = j by omega] at this
def bornA (S : Nat → St) (k : Nat) : Nat → Nat
  | 0 => 0
  | n + 1 => bif decide (k < (S n).objs.length) then bornA S k n else n + 1
theorem bornA_spec (k : Nat) : ∀ n, (∀ i j, i ≤ j → j ≤ n → (S i).objs.length ≤ (S j).objs.length) → k < (S n).objs.length → bornA S k n ≤ n ∧ k < (S (bornA S k n)).objs.length ∧ ∀ m, m < bornA S k n → (S m).objs.length ≤ k := by
  intro n
  induction n with
  | zero => intro _ hk; exact ⟨Nat.le_refl _, hk, fun m hm => by simp [bornA] at hm⟩
  | succ n ih =>
    intro hm hk
    simp only [bornA]
    by_cases h : k < (S n).objs.length
    · rw [decide_eq_true h, cond_true]
      obtain ⟨h1, h2, h3⟩ := ih (fun i j hij hj => hm i j hij (by omega)) h
      exact ⟨by omega, h2, h3⟩
    · rw [decide_eq_false h, cond_false]
      refine ⟨Nat.le_refl _, hk, fun m hmn => ?_⟩
      have := hm m n (by omega) (by omega)
      omega
structure DJ (N : Nat) (H0 F0 : Nat → Option Obj) (w0 : World) (nt : Nat) (ops : Array Oper) (S : Nat → St) (listed : Array Bool) (a : Act) (w : World) : Prop where
  size : listed.size = ops.size
  closed : ∀ (j : Nat) oj, ops[j]? = some oj → listed.getD j false = true → ∀ e ∈ oj.after.toList, Region.binds .any e = true → listed.getD e.on false = true
  tsz : a.tmps.size = nt
  defers : a.defers = [] ∧ Mu w0 w
  ex : ∃ (F : Nat → Option Obj) (ρ : Nat → Option Loc) (T : List (Option Ob)) (ver : Nat → Nat), Sim N H0 F0 F ρ T w.heap ∧ T.length = (S ops.size).objs.length ∧
    (∀ t, (∀ (i : Nat) o, ops[i]? = some o → o.dst = some t → listed.getD i false = true → ARep F ρ (lkA (S (i + 1)).env t) (a.tmps.getD t undef)) ∧ ((∀ (i : Nat) o, ops[i]? = some o → o.dst = some t → listed.getD i false = false) → ARep F ρ (lkA (S 0).env t) (a.tmps.getD t undef))) ∧
    (∀ k L, ρ k = some L → k < (S 0).objs.length ∨ ∃ i, listed.getD i false = true ∧ i < ops.size ∧ (S i).objs.length ≤ k ∧ k < (S (i + 1)).objs.length) ∧
    (∀ k ob, k < T.length → obA (S (ver k)).objs k = some ob → obA T k = some ob) ∧
    (∀ i k, listed.getD i false = true → Wr ops S i k → i < ver k) ∧
    (∀ i k, listed.getD i false = false → Wr ops S i k → ver k ≤ i) ∧
    (∀ k, k < T.length → k < (S (ver k)).objs.length ∧ ver k ≤ ops.size) ∧
    (∀ i k ob, i < ops.size → ρ k = none → (S i).objs.length ≤ k → obA (S (i + 1)).objs k = some ob → obA T k = some ob)
theorem env_track2 (hst : ∀ (i : Nat) o, ops[i]? = some o → stepA Γ true ops.toList o (fun x => x = S (i + 1)) (S i)) : ∀ j, j ≤ ops.size → ∀ t, (∃ i o, i < j ∧ ops[i]? = some o ∧ o.dst = some t ∧ lkA (S j).env t = lkA (S (i + 1)).env t) ∨ ((∀ i o, i < j → ops[i]? = some o → o.dst ≠ some t) ∧ lkA (S j).env t = lkA (S 0).env t) := by
  intro j
  induction j with
  | zero => intro _ t; exact .inr ⟨fun i o hi => by omega, rfl⟩
  | succ j ih =>
    intro hj t
    have hoj := Array.getElem?_eq_getElem (show j < ops.size by omega)
    obtain ⟨hsh, _⟩ := step_shape (hst j _ hoj)
    by_cases hd : (ops[j]).dst = some t
    · exact .inl ⟨j, _, by omega, hoj, hd, rfl⟩
    · have hlk : lkA (S (j + 1)).env t = lkA (S j).env t := by
        rcases hsh with ⟨_, h⟩ | ⟨d, x, hdd, h⟩
        · rw [h]
        · rw [h, lkA_cons, if_neg]
          intro e; subst e; exact hd hdd
      rcases ih (by omega) t with ⟨i, o, h1, h2, h3, h4⟩ | ⟨h1, h2⟩
      · exact .inl ⟨i, o, by omega, h2, h3, by rw [hlk, h4]⟩
      · refine .inr ⟨fun i o hi ho => ?_, by rw [hlk, h2]⟩
        by_cases e : i = j
        · subst e; rw [hoj] at ho; cases ho; exact hd
        · exact h1 i o (by omega) ho
theorem refsS_envR {s : St} {o : Oper} {ts : List Tmp} {O : List (Option Ob)} (h : ∀ t ∈ opTmps o.op, t ∈ ts) : refsS ⟨envR s.env ts, O⟩ o = refsS s o := by
  unfold refsS refsOp
  simp only [List.flatMap]
  congr 1
  refine List.map_congr_left fun x hx => ?_
  rw [evalA_envR fun t ht => h t (by subst ht; exact mem_opTmps hx)]
theorem draw_law2 (hΓ : CxOK P Γ) (ok : DrawOK2 ops S) (hst : ∀ (i : Nat) o, ops[i]? = some o → stepA Γ true ops.toList o (fun x => x = S (i + 1)) (S i))
    {Qw : Exit → Act → World → Prop} (hQ : ∀ a w, Inv N H0 F0 w0 Γ.nt (S ops.size) a w → Qw .normal a w) :
    ∀ (fuel : Nat) (listed : Array Bool) (a : Act) (w : World), DJ N H0 F0 w0 Γ.nt ops S listed a w → unl listed ops.size = fuel → wpAny P .any ops Qw fuel listed a w := by
  -- where nothing is ready all is listed
  have hall : ∀ listed a w, DJ N H0 F0 w0 Γ.nt ops S listed a w → Region.ready .any ops listed = [] → ∀ k, k < ops.size → listed.getD k false = true := by
    intro listed a w hD hr k
    induction k using Nat.strongRecOn with
    | _ k ih =>
      intro hk
      cases hl : listed.getD k false with
      | true => rfl
      | false =>
        have : k ∈ Region.ready .any ops listed := by
          rw [mem_ready]
          refine ⟨getD_in (by rw [hD.size]; exact hk) hl, _, Array.getElem?_eq_getElem hk, fun e he hb => ?_⟩
          have hlt := ok.back k _ (Array.getElem?_eq_getElem hk) e (by simpa using he) hb
          exact ih e.on hlt (by omega)
        rw [hr] at this
        cases this
  have hfin : ∀ listed a w, DJ N H0 F0 w0 Γ.nt ops S listed a w → (∀ k, k < ops.size → listed.getD k false = true) → Qw .normal a w := by
    intro listed a w hD hl
    obtain ⟨F, ρ, T, ver, hS, hTl, hsl, hdom, hv0, hv1, hv2, hv3, hv4⟩ := hD.ex
    refine hQ a w ⟨F, ρ, ?_, fun t => ?_, hD.tsz, hD.defers⟩
    · refine hS.table (Nat.le_of_eq hTl) fun k L ob hk ho => ?_
      have hkl := obA_lt ho
      obtain ⟨q1, q2⟩ := hv3 k (by omega)
      rw [same_le hst q2 (Nat.le_refl _) q1 fun m h1 h2 hw => ?_] at ho
      · exact hv0 k ob (by omega) ho
      · have := hv1 m k (hl m h2) hw; omega
    · rcases env_track2 hst ops.size (Nat.le_refl _) t with ⟨i, o, h1, h2, h3, h4⟩ | ⟨h1, h2⟩
      · rw [h4]; exact (hsl t).1 i o h2 h3 (hl i h1)
      · rw [h2]
        refine (hsl t).2 fun i o ho hd => ?_
        exact absurd hd (h1 i o (getElem?_ltA ho) ho)
  intro fuel
  induction fuel with
  | zero =>
    intro listed a w hD hu
    have hl := unl_zero ops.size hu
    refine ⟨?_, hfin listed a w hD hl⟩
    rw [List.eq_nil_iff_forall_not_mem]
    intro k hk
    obtain ⟨h1, o, ho, _⟩ := mem_ready.1 hk
    have := hl k (getElem?_ltA ho)
    rw [getD_both h1] at this
    cases this
  | succ fuel ih =>
    intro listed a w hD hu
    refine ⟨fun hr => hfin listed a w hD (hall listed a w hD hr), fun i hi => ?_⟩
    obtain ⟨hun, o, ho, hedges⟩ := mem_ready.1 hi
    have hui := getD_both hun
    have hio := getElem?_ltA ho
    have hidx : i < listed.size := by rw [hD.size]; exact hio
    obtain ⟨F, ρ, T, ver, hS, hTl, hsl, hdom, hv0, hv1, hv2, hv3, hv4⟩ := hD.ex
    have hdirect : ∀ k, Region.waitsFor .any ops i k = true → listed.getD k false = true := fun k hk => by
      obtain ⟨o', ho', e, he, hb, hon⟩ := Region.waitsFor_spec hk
      rw [ho] at ho'; cases ho'
      rw [← hon]; exact hedges e he hb
    have hbehind : ∀ m, Reach ops m i → listed.getD m false = false := fun m hm => by
      cases hl : listed.getD m false with
      | false => rfl
      | true =>
        have := reach_listed hD.closed hm fun k hk => by
          obtain ⟨o', ho', e, he, hb, hon⟩ := Region.waitsFor_spec hk
          rw [← hon]
          exact hD.closed m o' ho' hl e (by simpa using he) hb
        rw [hui] at this; cases this
    -- the slots that it reads
    have hrs : RS F ρ (S i).env a.tmps (readsB ops.toList o) := by
      intro t ht
      rcases env_track2 hst i (by omega) t with ⟨k, ok', h1, h2, h3, h4⟩ | ⟨h1, h2⟩
      · rw [h4]
        exact (hsl t).1 k ok' h2 h3 (hdirect k (ok.deps k i ok' o t h2 ho h1 h3 ht))
      · rw [h2]
        refine (hsl t).2 fun k ok' hk hd => ?_
        rcases Nat.lt_trichotomy k i with hlt | heq | hgt
        · exact absurd hd (h1 k ok' hlt hk)
        · rw [heq]; exact hui
        · exact hbehind k (.one (ok.anti k i ok' o t hk ho hgt hd ht))
    have hstep := hst i o ho
    have hdst := step_dst hstep
    obtain ⟨s', ⟨s'', rfl, hobj', henv'⟩, hstep'⟩ := stepA_ex (stepA_envR (ts := readsB ops.toList o) (fun t h => h) hstep)
    have hlk' : ∀ d, o.dst = some d → lkA s'.env d = lkA (S (i + 1)).env d := fun d hd => by
      rcases henv' with ⟨h, _⟩ | ⟨d', x, h1, h2, h3⟩
      · rw [h] at hd; cases hd
      · rw [h1] at hd; cases hd
        rw [h2, h3, lkA_cons, lkA_cons, if_pos rfl, if_pos rfl]
    have hSl : Slots F ρ (envR (S i).env (readsB ops.toList o)) a.tmps := Slots.ofRS hrs
    have hrefs : refsS ⟨envR (S i).env (readsB ops.toList o), (S i).objs⟩ o = refsS (S i) o := refsS_envR fun t ht => List.mem_append_left _ ht
    have hleni : (S i).objs.length ≤ (S (i + 1)).objs.length := (step_out hstep).1
    have hlenN : (S (i + 1)).objs.length ≤ T.length := by rw [hTl]; exact len_le hst (by omega) (Nat.le_refl _)
    -- the objects that it names are as it wants them
    have key : (memOp o.op = true ∨ isW o.op = true) → Ext (S i).objs T (refsS (S i) o) := by
      intro hmw k hk ob hob
      have hkl := obA_lt hob
      obtain ⟨q1, q2⟩ := hv3 k (by omega)
      refine hv0 k ob (by omega) ?_
      rcases Nat.le_total (ver k) i with hle | hle
      · rw [← same_le hst hle (by omega) q1 fun m h1 h2 hw => ?_]
        · exact hob
        · obtain ⟨om, hom, hW, hmk, _⟩ := hw
          rcases ok.conf i m o om ho hom (by omega) hW hmw with h | h | h
          · have := reach_lt ok h; omega
          · have := hv1 m k (reach_listed hD.closed h hdirect) ⟨om, hom, hW, hmk, by assumption⟩
            omega
          · exact h k hk hmk
      · rw [same_le hst hle q2 hkl fun m h1 h2 hw => ?_]
        · exact hob
        · obtain ⟨om, hom, hW, hmk, hmL⟩ := hw
          by_cases hmi : m = i
          · subst hmi
            have := hv2 m k hui ⟨om, hom, hW, hmk, hmL⟩
            omega
          · rcases ok.conf i m o om ho hom (fun e => hmi e.symm) hW hmw with h | h | h
            · have := hv2 m k (hbehind m h) ⟨om, hom, hW, hmk, hmL⟩
              omega
            · have := reach_lt ok h; omega
            · exact h k hk hmk
    have hfresh : ∀ k, (S i).objs.length ≤ k → k < (S (i + 1)).objs.length → ρ k = none := fun k h1 h2 => by
      cases hρ : ρ k with
      | none => rfl
      | some L =>
        rcases hdom k L hρ with h | ⟨i', g1, g2, g3, g4⟩
        · have := len_le hst (Nat.zero_le i) (by omega); omega
        · rcases Nat.lt_trichotomy i' i with hlt | heq' | hgt
          · have := len_le hst (show i' + 1 ≤ i by omega) (by omega); omega
          · rw [heq', hui] at g1; cases g1
          · have := len_le hst (show i + 1 ≤ i' by omega) (by omega); omega
    -- what is left to show behind it
    have hne : ∀ k, k ≠ i → (listed.setIfInBounds i true).getD k false = listed.getD k false := fun k hk => by
      rw [Array.getD_eq_getD_getElem?, Array.getD_eq_getD_getElem?, Array.getElem?_setIfInBounds_ne (Ne.symm hk)]
    have heq : (listed.setIfInBounds i true).getD i false = true := by simp [hidx]
    have next : ∀ (v : Value) (w' : World) (F' : Nat → Option Obj) (ρ' : Nat → Option Loc) (T' : List (Option Ob)) (ver' : Nat → Nat), FLe F F' → RLe ρ ρ' → (∀ k, ¬((S i).objs.length ≤ k ∧ k < (S (i + 1)).objs.length) → ρ' k = ρ k) → Sim N H0 F0 F' ρ' T' w'.heap → T'.length = T.length → (∀ d, o.dst = some d → ARep F' ρ' (lkA s'.env d) v) → Mu w w' →
        (∀ k ob, k < T.length → obA (S (ver' k)).objs k = some ob → obA T' k = some ob) → (∀ m k, (listed.setIfInBounds i true).getD m false = true → Wr ops S m k → m < ver' k) → (∀ m k, (listed.setIfInBounds i true).getD m false = false → Wr ops S m k → ver' k ≤ m) → (∀ k, k < T.length → k < (S (ver' k)).objs.length ∧ ver' k ≤ ops.size) → (∀ k, ρ k = none → obA T' k = obA T k) →
        wpAny P .any ops Qw fuel (listed.setIfInBounds i true) (a.put o.dst v) w' := by
      intro v w' F' ρ' T' ver' hF hρ hkeep hS' hTl' hv hmu u0 u1 u2 u3 u4
      refine ih _ _ _ { size := by simpa using hD.size, closed := fun j oj hj hl e he hb => ?_, tsz := by rw [put_size]; exact hD.tsz, defers := by rw [put_defers]; exact ⟨hD.defers.1, hD.defers.2.trans hmu⟩, ex := ⟨F', ρ', T', ver', hS', by rw [hTl', hTl], fun t => ?_, fun k L hk => ?_, by rw [hTl']; exact u0, u1, u2, by rw [hTl']; exact u3, fun m k ob hm hk h1 h2 => ?_⟩ } (by have := unl_set hidx hui ops.size hio; omega)
      · by_cases hji : j = i
        · subst hji
          rw [ho] at hj; cases hj
          have := hedges e (by simpa using he) hb
          by_cases hee : e.on = j
          · rw [hee]; exact heq
          · rw [hne _ hee]; exact this
        · rw [hne j hji] at hl
          have := hD.closed j oj hj hl e he hb
          by_cases hee : e.on = i
          · rw [hee]; exact heq
          · rw [hne _ hee]; exact this
      · by_cases hdt : o.dst = some t
        · have hval : (a.put o.dst v).tmps.getD t undef = v := by
            rw [hdt]
            have : t < a.tmps.size := by rw [hD.tsz]; rw [hdt] at hdst; simpa [dstOk] using hdst
            simp [Act.put, this]
          rw [hval]
          refine ⟨fun k ok' hk hd _ => ?_, fun hno => ?_⟩
          · by_cases hki : k = i
            · subst hki
              rw [← hlk' t hdt]; exact hv t hdt
            · exact absurd hd (ok.dst i k o ok' t ho hk (Ne.symm hki) hdt)
          · have := hno i o ho hdt
            rw [heq] at this; cases this
        · have hval : (a.put o.dst v).tmps.getD t undef = a.tmps.getD t undef := by
            cases hdd : o.dst with
            | none => rfl
            | some d =>
              have hdne : d ≠ t := fun e => hdt (by rw [hdd, e])
              rw [Array.getD_eq_getD_getElem?, Array.getD_eq_getD_getElem?]
              simp only [Act.put]
              rw [Array.getElem?_setIfInBounds_ne hdne]
          rw [hval]
          refine ⟨fun k ok' hk hd hl => ?_, fun hno => ?_⟩
          · have hki : k ≠ i := fun e => by subst e; rw [ho] at hk; cases hk; exact hdt hd
            rw [hne k hki] at hl
            exact ((hsl t).1 k ok' hk hd hl).mono hF hρ
          · refine ((hsl t).2 fun k ok' hk hd => ?_).mono hF hρ
            have hki : k ≠ i := fun e => by subst e; rw [ho] at hk; cases hk; exact hdt hd
            have := hno k ok' hk hd
            rwa [hne k hki] at this
      · by_cases hr : (S i).objs.length ≤ k ∧ k < (S (i + 1)).objs.length
        · exact .inr ⟨i, heq, hio, hr.1, hr.2⟩
        · rw [hkeep k hr] at hk
          rcases hdom k L hk with h | ⟨i', g1, g2⟩
          · exact .inl h
          · refine .inr ⟨i', ?_, g2⟩
            by_cases hii : i' = i
            · rw [hii]; exact heq
            · rw [hne i' hii]; exact g1
      · have hk0 : ρ k = none := by
          cases hr : ρ k with
          | none => rfl
          | some L => rw [hρ k L hr] at hk; cases hk
        rw [u4 k hk0]
        exact hv4 m k ob hm hk0 h1 h2
    unfold wpOp
    rw [ho]
    simp only
    have wrap : ∀ {A B C : Prop} {c : Bool}, (if c = true then A else B) → (if c = true then A ∨ C else B) := fun {A B C c} h => by
      cases c with
      | true => rw [if_pos rfl] at h ⊢; exact .inl h
      | false => rw [if_neg (by simp)] at h ⊢; exact h
    refine wrap ?_
    cases hW : isW o.op with
    | true =>
      have hkey := key (.inr hW)
      refine step_wT hΓ hW hstep' hS hSl (by rw [hrefs]; exact hkey) (fun k h1 h2 => hfresh k h1 (by rw [← hobj'] at h2; exact h2)) (by rw [← hobj']; exact hlenN) (fun k ob h1 h2 => by
        rw [← hobj'] at h2
        exact hv4 i k ob hio (hfresh k h1 (obA_lt h2)) h1 h2) fun v w' F' ρ' T2 hF hρ hkeep hS' hT2l t2 t3 t4 hv hmu => ?_
      rw [hrefs, ← hobj'] at t2
      rw [hrefs] at t3
      rw [← hobj'] at t4 hkeep
      have hwr : ∀ k, Wr ops S i k ↔ k ∈ refsS (S i) o ∧ k < (S i).objs.length := fun k => ⟨fun ⟨o', h1, _, h3, h4⟩ => by rw [ho] at h1; cases h1; exact ⟨h3, h4⟩, fun h => ⟨o, ho, hW, h.1, h.2⟩⟩
      have dec : ∀ k, Decidable (Wr ops S i k) := fun k => decidable_of_iff _ (hwr k).symm
      let T' := mkT T.length fun k => bif (ρ k).isSome then obA T2 k else obA T k
      have hT'n : ∀ k, ρ k = none → obA T' k = obA T k := fun k hk => by
        simp only [T', obA_mkT, hk, Option.isSome_none, cond_false]
        split
        · rfl
        · rename_i hl
          cases hx : obA T k with
          | none => rfl
          | some ob => exact absurd (obA_lt hx) hl
      have hT's : ∀ k L, ρ k = some L → obA T' k = obA T2 k := fun k L hk => by
        simp only [T', obA_mkT, hk, Option.isSome_some, cond_true]
        split
        · rfl
        · rename_i hl
          cases hx : obA T2 k with
          | none => rfl
          | some ob => exact absurd (obA_lt hx) (by omega)
      refine next v w' F' ρ' T' (fun k => if Wr ops S i k then i + 1 else ver k) hF hρ hkeep (hS'.table (by simp only [T', mkT_length]; omega) fun k L ob hk hob => ?_) (by simp only [T', mkT_length]) hv hmu (fun k ob hk hob => ?_) (fun m k hm hw => ?_) (fun m k hm hw => ?_) (fun k hk => ?_) hT'n
      · cases hr : ρ k with
        | some L' => rw [hT's k L' hr] at hob; exact hob
        | none =>
          rw [hT'n k hr] at hob
          rw [t3 k fun hh => ?_]
          · exact hob
          · by_cases hc : (S i).objs.length ≤ k ∧ k < (S (i + 1)).objs.length
            · have := hh.2; simp only at this; omega
            · rw [hkeep k hc, hr] at hk; cases hk
      · by_cases hw : Wr ops S i k
        · simp only [if_pos hw] at hob
          obtain ⟨c1, c2⟩ := (hwr k).1 hw
          cases hr : ρ k with
          | some L' => rw [hT's k L' hr]; exact t2 k ob c2 c1 hob
          | none => rw [hT'n k hr]; exact hkey k c1 ob (t4 k ob hr c2 hob)
        · simp only [if_neg hw] at hob
          have := hv0 k ob hk hob
          cases hr : ρ k with
          | some L' => rw [hT's k L' hr, t3 k fun hh => hw ((hwr k).2 hh)]; exact this
          | none => rw [hT'n k hr]; exact this
      · by_cases hmi : m = i
        · subst hmi
          simp only [if_pos hw]; omega
        · rw [hne m hmi] at hm
          by_cases hwi : Wr ops S i k
          · simp only [if_pos hwi]
            obtain ⟨om, hom, hWm, hmk, _⟩ := hw
            obtain ⟨c1, c2⟩ := (hwr k).1 hwi
            rcases ok.conf i m o om ho hom (fun e => hmi e.symm) hWm (.inr hW) with h | h | h
            · rw [hbehind m h] at hm; cases hm
            · have := reach_lt ok h; omega
            · exact absurd hmk (h k c1)
          · simp only [if_neg hwi]; exact hv1 m k hm hw
      · have hmi : m ≠ i := fun e => by rw [e, heq] at hm; cases hm
        rw [hne m hmi] at hm
        by_cases hwi : Wr ops S i k
        · simp only [if_pos hwi]
          obtain ⟨om, hom, hWm, hmk, _⟩ := hw
          obtain ⟨c1, c2⟩ := (hwr k).1 hwi
          rcases ok.conf i m o om ho hom (fun e => hmi e.symm) hWm (.inr hW) with h | h | h
          · have := reach_lt ok h; omega
          · have := reach_listed hD.closed h hdirect
            rw [hm] at this; cases this
          · exact absurd hmk (h k c1)
        · simp only [if_neg hwi]; exact hv2 m k hm hw
      · by_cases hwi : Wr ops S i k
        · simp only [if_pos hwi]
          have := (hwr k).1 hwi
          exact ⟨by omega, by omega⟩
        · simp only [if_neg hwi]; exact hv3 k hk
    | false =>
      obtain ⟨new, hn1, hcut⟩ := stepA_cut hW hstep'
      rw [hrefs] at hcut
      have hcl : (cutO (refsS (S i) o) (S i).objs).length = (S i).objs.length := cutO_length _ _
      have hlen2 : (cutO (refsS (S i) o) (S i).objs ++ new).length = (S (i + 1)).objs.length := by rw [hobj', hn1, List.length_append, List.length_append, hcl]
      refine step_tab hΓ hW hcut hS hSl (fun hm => ?_) fun v w' F' ρ' hF hρ hkeep hS' hv hmu => ?_
      · simp only [hcl, hlen2]
        refine ⟨fun k ob hk => ?_, hfresh, hlenN⟩
        rw [obA_append, hcl] at hk
        by_cases hkl : k < (S i).objs.length
        · rw [if_pos hkl, obA_cut] at hk
          split at hk
          · rename_i hmem; exact key (.inl hm) k hmem ob hk
          · cases hk
        · rw [if_neg hkl] at hk
          have hob : obA (S (i + 1)).objs k = some ob := by rw [hobj', hn1, obA_append, if_neg hkl]; exact hk
          exact hv4 i k ob hio (hfresh k (by omega) (obA_lt hob)) (by omega) hob
      · simp only [hcl, hlen2] at hkeep
        have hno : ∀ k, ¬Wr ops S i k := fun k ⟨o', h1, h2, _⟩ => by rw [ho] at h1; cases h1; rw [hW] at h2; cases h2
        refine next v w' F' ρ' T ver hF hρ hkeep hS' rfl hv hmu hv0 (fun m k hm hw => ?_) (fun m k hm hw => ?_) hv3 (fun _ _ => rfl)
        · have hmi : m ≠ i := fun e => hno k (by rw [← e]; exact hw)
          rw [hne m hmi] at hm; exact hv1 m k hm hw
        · have hmi : m ≠ i := fun e => hno k (by rw [← e]; exact hw)
          rw [hne m hmi] at hm; exact hv2 m k hm hw
end law
theorem valAt_eq {Γ : Cx} {ops : Array Oper} {S : Nat → St} (hst : ∀ (i : Nat) o, ops[i]? = some o → stepA Γ true ops.toList o (fun x => x = S (i + 1)) (S i)) (hd : ∀ (i j : Nat) oi oj d, ops[i]? = some oi → ops[j]? = some oj → i ≠ j → oi.dst = some d → oj.dst ≠ some d) {i : Nat} (hi : i ≤ ops.size) (x : Operand) :
    valAt ops.toList (S 0).env (S ops.size).env i x = evalA (S i).env x := by
  cases x with
  | tmp t =>
    simp only [valAt, evalA]
    cases hany : (ops.toList.take i).any (fun o => match o.dst with | some d => Nat.beq d t | none => false) with
    | true =>
      rw [cond_true]
      rw [List.any_eq_true] at hany
      obtain ⟨o, ho, hot⟩ := hany
      obtain ⟨j, hj⟩ := List.getElem?_of_mem ho
      have hji : j < i := by have := getElem?_lt hj; simp at this; omega
      rw [List.getElem?_take_of_lt hji] at hj
      have hoj : ops[j]? = some o := by simpa using hj
      have hdt : o.dst = some t := by
        cases hdo : o.dst with
        | none => rw [hdo] at hot; cases hot
        | some d => rw [hdo] at hot; rw [Nat.eq_of_beq_eq_true hot]
      have one : ∀ n, j < n → n ≤ ops.size → lkA (S n).env t = lkA (S (j + 1)).env t := fun n h1 h2 => by
        rcases env_track2 hst n h2 t with ⟨k, ok', q1, q2, q3, q4⟩ | ⟨q1, _⟩
        · by_cases hkj : k = j
          · rw [q4, hkj]
          · exact absurd q3 (hd j k o ok' t hoj q2 (Ne.symm hkj) hdt)
        · exact absurd hdt (q1 j o h1 hoj)
      rw [one i hji hi, one ops.size (by omega) (Nat.le_refl _)]
    | false =>
      rw [cond_false]
      rcases env_track2 hst i hi t with ⟨k, ok', q1, q2, q3, q4⟩ | ⟨_, q2⟩
      · exfalso
        rw [List.any_eq_false] at hany
        refine hany ok' ?_ ?_
        · apply List.mem_of_getElem? (i := k)
          rw [List.getElem?_take_of_lt q1]
          simpa using q2
        · simp [q3]
      · rw [q2]
  | _ => rfl
theorem draw_sound2 {Γ : Cx} (hfol : P.follows .mixedOrders = true) (hΓ : CxOK P Γ) {id : Nat} {ops : Array Oper} {Q : St → Prop} {st : St} {a : Act} (hB : drawB ops = false) (h : runA Γ true ops.toList ops.toList (fun s => drawQ true ops st.env s.env = true ∧ Q s) st) (hI : Inv N H0 F0 w0 Γ.nt st a w)
    {Qw : Exit → Act → World → Prop} (hQ : ∀ st' a' w', Q st' → Inv N H0 F0 w0 Γ.nt st' a' w' → Qw .normal a' w') : (Code.region id ops true).wp P Qw a w := by
  obtain ⟨S, h0, hst, hC, hQS⟩ := run_states _ _ _ h
  have hst : ∀ (i : Nat) o, ops[i]? = some o → stepA Γ true ops.toList o (fun x => x = S (i + 1)) (S i) := fun i o hi => hst i o (by simpa using hi)
  simp only [Array.length_toList] at hC hQS
  replace hC : drawC ops st.env (S ops.size).env = true := by simpa [drawQ, hB] using hC
  rw [← h0] at hC hI
  have hz : ∀ (j : Nat) oj, ops[j]? = some oj → (oj, j) ∈ ops.toList.zipIdx := fun j oj hj => by
    rw [List.mem_zipIdx_iff_getElem?]
    simpa using hj
  have h1 : ∀ (j : Nat) oj, ops[j]? = some oj → (∀ e ∈ oj.after.toList, Region.binds .any e = true → e.on < j) ∧ ∀ (i : Nat) oi, ops[i]? = some oi → pairC ops (S 0).env (S ops.size).env (Region.before ops) i j oi oj = true := by
    intro j oj hj
    unfold drawC at hC
    have := List.all_eq_true.1 hC _ (hz j oj hj)
    simp only [Bool.and_eq_true] at this
    refine ⟨fun e he hb => ?_, fun i oi hi => List.all_eq_true.1 this.2 _ (hz i oi hi)⟩
    have := Array.all_eq_true'.1 this.1 e (by simpa using he)
    simpa [hb] using this
  have hdst : ∀ (i j : Nat) oi oj d, ops[i]? = some oi → ops[j]? = some oj → i ≠ j → oi.dst = some d → oj.dst ≠ some d := fun i j oi oj d hi hj hne hd => by
    have := (h1 j oj hj).2 i oi hi
    simp only [pairC, hd, Bool.or_eq_true, beq_iff_eq, hne, false_or, Bool.and_eq_true, bne_iff_ne] at this
    exact this.1.1
  have hrefs : ∀ (i : Nat) o, ops[i]? = some o → refsAt ops.toList (S 0).env (S ops.size).env i o = refsS (S i) o := fun i o hi => by
    unfold refsAt refsS refsOp
    simp only [valAt_eq hst hdst (Nat.le_of_lt (getElem?_ltA hi))]
  have ok : DrawOK2 ops S := by
    refine { back := fun j oj hj => (h1 j oj hj).1, dst := hdst, deps := fun i j oi oj d hi hj hlt hd hr => ?_, anti := fun i j oi oj d hi hj hlt hd hr => ?_, conf := fun i j oi oj hi hj hne hW hm => ?_ }
    · have := (h1 j oj hj).2 i oi hi
      simp only [pairC, hd, Bool.or_eq_true, beq_iff_eq, show i ≠ j by omega, false_or, Bool.and_eq_true] at this
      have := this.1.2
      simpa [hr, hlt] using this
    · have := (h1 j oj hj).2 i oi hi
      simp only [pairC, hd, Bool.or_eq_true, beq_iff_eq, show i ≠ j by omega, false_or, Bool.and_eq_true] at this
      have := this.1.2
      simpa [hr, show ¬ i < j by omega] using this
    · have := (h1 j oj hj).2 i oi hi
      have hmm : (memOp oi.op || isW oi.op) = true := by simpa using hm
      simp only [pairC, Bool.or_eq_true, beq_iff_eq, hne, false_or, Bool.and_eq_true, hW, hmm, Bool.not_true, Bool.false_eq_true] at this
      rcases this.2 with (h | h) | h
      · exact .inl (before_reach ops j i h)
      · exact .inr (.inl (before_reach ops i j h))
      · refine .inr (.inr fun k hk hk' => ?_)
        rw [hrefs i oi hi, hrefs j oj hj] at h
        have := List.all_eq_true.1 h k hk
        rw [List.contains_iff_mem.2 hk'] at this
        cases this
  refine wp_region_any hfol ?_
  obtain ⟨F, ρ, hS, hSl, hn, hd⟩ := hI
  have hz : ∀ k, (Array.replicate ops.size false).getD k false = false := fun k => getD_replicate_false _ _
  have hmono : ∀ i j, i ≤ j → j ≤ ops.size → (S i).objs.length ≤ (S j).objs.length := fun i j h h' => len_le hst h h'
  have hb := fun k (hk : k < (S ops.size).objs.length) => bornA_spec (S := S) k ops.size hmono hk
  have h0n := hmono 0 ops.size (Nat.zero_le _) (Nat.le_refl _)
  refine draw_law2 (S := S) hΓ ok hst (fun a' w' hI' => hQ _ _ _ hQS hI') ops.size _ a _ ?_ ?_
  · refine { size := by simp, closed := (fun j oj _ hl => by rw [hz] at hl; cases hl), tsz := hn, defers := hd, ex := ⟨F, ρ, mkT (S ops.size).objs.length (fun k => obA (S (bornA S k ops.size)).objs k), fun k => bornA S k ops.size, hS.table (by rw [mkT_length]; exact h0n) fun k L ob hk ho => ?_, mkT_length _ _, fun t => ⟨(fun i o _ _ hl => by rw [hz] at hl; cases hl), fun _ => hSl t⟩, fun k L hk => .inl (hS.dom k L hk), fun k ob hk ho => ?_, fun i k hl => by (rw [hz] at hl; cases hl), fun i k _ hw => ?_, fun k hk => ?_, fun i k ob hi _ hk ho => ?_⟩ }
    · have hk0 := hS.dom k L hk
      obtain ⟨q1, q2, q3⟩ := hb k (by omega)
      have : bornA S k ops.size = 0 := by
        cases hbk : bornA S k ops.size with
        | zero => rfl
        | succ m => have := q3 0 (by omega); omega
      rw [obA_mkT, if_pos (by omega), this] at ho
      exact ho
    · rw [mkT_length] at hk
      rw [obA_mkT, if_pos hk]; exact ho
    · obtain ⟨o, ho, _, _, hkl⟩ := hw
      have hil := getElem?_ltA ho
      have := hmono i ops.size (by omega) (Nat.le_refl _)
      obtain ⟨q1, q2, q3⟩ := hb k (by omega)
      rcases Nat.lt_or_ge i (bornA S k ops.size) with h | h
      · have := q3 i h; omega
      · exact h
    · rw [mkT_length] at hk
      obtain ⟨q1, q2, q3⟩ := hb k hk
      exact ⟨q2, q1⟩
    · have hkl := obA_lt ho
      have := hmono (i + 1) ops.size (by omega) (Nat.le_refl _)
      obtain ⟨q1, q2, q3⟩ := hb k (by omega)
      have hbi : bornA S k ops.size = i + 1 := by
        rcases Nat.lt_trichotomy (bornA S k ops.size) (i + 1) with h | h | h
        · have := hmono (bornA S k ops.size) i (by omega) (by omega); omega
        · exact h
        · have := q3 (i + 1) h; omega
      rw [obA_mkT, if_pos (by omega), hbi]; exact ho
  · have : ∀ n, unl (Array.replicate ops.size false) n = n := by
      intro n
      induction n with
      | zero => rfl
      | succ n ih => simp only [unl, ih, hz]; rfl
    exact this _
end Go.AI
end
section
namespace Go.AI
variable {P : Program} {F F' : Nat → Option Obj} {ρ ρ' : Nat → Option Loc} {N : Nat} {H0 F0 : Nat → Option Obj} {O objs : List (Option Ob)} {w w0 : World}
def exM : Ex → Exit
  | .normal => .normal
  | .exit i => .exit i
  | .ret => .ret
def PostM (N : Nat) (H0 F0 : Nat → Option Obj) (w0 : World) (nt : Nat) (Q : Ex → St → Prop) : Exit → Act → World → Prop := fun e a w => ∃ e' st', e = exM e' ∧ Q e' st' ∧ Inv N H0 F0 w0 nt st' a w
theorem wp_sound {Γ : Cx} (hfol : P.follows .mixedOrders = true) (hΓ : CxOK P Γ) : ∀ (c : Code) (Q : Ex → St → Prop) (st : St) (a : Act) (w : World), wpA Γ c Q st → Inv N H0 F0 w0 Γ.nt st a w → c.wp P (PostM N H0 F0 w0 Γ.nt Q) a w := by
  intro c
  induction c with
  | skip => intro Q st a w h hI; exact wp_skip ⟨.normal, st, rfl, h, hI⟩
  | region id ops draw =>
    intro Q st a w h hI
    obtain ⟨s1, hsh, h⟩ := h
    replace hI := desc_sound hsh hI
    cases draw with
    | false => exact wp_region_list (run_seq hΓ ops.toList _ s1 a w h hI fun st' a' w' hq hI' => ⟨.normal, st', rfl, hq.2, hI'⟩)
    | true =>
      cases hB : drawB ops with
      | true => exact draw_sound (Q := fun s => drawQ true ops s1.env s.env = true ∧ Q .normal s) hfol hΓ hB h hI fun st' a' w' hq hI' => ⟨.normal, st', rfl, hq.2, hI'⟩
      | false => exact draw_sound2 hfol hΓ hB h hI fun st' a' w' hq hI' => ⟨.normal, st', rfl, hq, hI'⟩
  | seq x y ihx ihy =>
    intro Q st a w h hI
    refine wp_seq (wp_mono (ihx _ st a w h hI) fun e a' w' hp => ?_)
    obtain ⟨e', st', rfl, hq, hI'⟩ := hp
    cases e' with
    | normal =>
      obtain ⟨s1, hsh, hq⟩ := hq
      exact ihy Q s1 a' w' hq (desc_sound hsh hI')
    | exit i => exact ⟨.exit i, st', rfl, hq, hI'⟩
    | ret => exact ⟨.ret, st', rfl, hq, hI'⟩
  | cond c x y ihx ihy =>
    intro Q st a w h hI
    obtain ⟨F, ρ, hS, hSl, hn, hdf⟩ := hI
    simp only [wpA] at h
    unfold condA at h
    split at h
    · rename_i t ht
      have hc := evalA_sound hSl c
      rw [ht] at hc
      refine wp_cond_split hc.bool (fun e => ihx Q st a w (h.1 e) ⟨F, ρ, hS, hSl, hn, hdf⟩) (fun e => ihy Q st a w (h.2 e) ⟨F, ρ, hS, hSl, hn, hdf⟩)
    · exact h.elim
  | block id c ih =>
    intro Q st a w h hI
    refine wp_block (wp_mono (ih _ st a w h hI) fun e a' w' hp => ?_)
    obtain ⟨e', st', rfl, hq, hI'⟩ := hp
    cases e' with
    | normal => exact ⟨.normal, st', rfl, hq, hI'⟩
    | ret => exact ⟨.ret, st', rfl, hq, hI'⟩
    | exit i =>
      simp only [blockQ] at hq
      show if i = id then _ else _
      cases hb : Nat.beq i id with
      | true =>
        rw [hb, cond_true] at hq
        rw [if_pos (Nat.eq_of_beq_eq_true hb)]
        exact ⟨.normal, st', rfl, hq, hI'⟩
      | false =>
        rw [hb, cond_false] at hq
        have hne : i ≠ id := fun e => by subst e; simp at hb
        rw [if_neg hne]
        exact ⟨.exit i, st', rfl, hq, hI'⟩
  | loop c ih =>
    intro Q st a w h hI
    obtain ⟨I, n, ⟨s0, hsh0, h0⟩, hround⟩ := h
    have key : ∀ (k m : Nat) (st : St) (a : Act) (w : World), m < k → I m st → Inv N H0 F0 w0 Γ.nt st a w → Code.rounds P c (PostM N H0 F0 w0 Γ.nt Q) k a w := by
      intro k
      induction k with
      | zero => intro m st a w hm; omega
      | succ k ihk =>
        intro m st a w hm hIm hI
        refine wp_mono (ih _ st a w (hround m st hIm) hI) fun e a' w' hp => ?_
        obtain ⟨e', st', rfl, hq, hI'⟩ := hp
        cases e' with
        | normal =>
          obtain ⟨m', s1, hm', hsh, hq⟩ := hq
          exact ihk m' s1 a' w' (by omega) hq (desc_sound hsh hI')
        | exit i => exact ⟨.exit i, st', rfl, hq, hI'⟩
        | ret => exact ⟨.ret, st', rfl, hq, hI'⟩
    exact wp_loop_rounds (n + 1) (key (n + 1) n s0 a w (by omega) h0 (desc_sound hsh0 hI))
  | exit id => intro Q st a w h hI; exact wp_exit ⟨.exit id, st, rfl, h, hI⟩
  | ret => intro Q st a w h hI; exact wp_ret ⟨.ret, st, rfl, h, hI⟩
  | _ => intro Q st a w h; exact h.elim
def resV (Γ : Nat → Ty) (st : St) : ResultVar → Option (AV × Prop)
  | .tmp t => some (lkA st.env t, True)
  | .cell a t => bif (Γ t).ok then (match loadA (Γ t) st.objs (lkA st.env a) with
    | some e => some (e.v, e.ob)
    | none => none) else none
def resVs (Γ : Nat → Ty) (st : St) : List ResultVar → Option (List AV × Prop)
  | [] => some ([], True)
  | r :: rs => match resV Γ st r, resVs Γ st rs with
    | some (v, p), some (vs, q) => some (v :: vs, p ∧ q)
    | _, _ => none
def retA (Γ : Nat → Ty) (rs : List ResultVar) (r : AV) (st : St) : Prop :=
  match resVs Γ st rs with
  | some ([v], p) => p ∧ outA st.objs v r ∧ (ksE (entA v r)).Nodup
  | some (vs, p) => match r with
    | .tup l => p ∧ outT st.objs vs l ∧ (ksE (entT vs l)).Nodup
    | _ => False
  | none => False
def postA (Γ : Nat → Ty) (rs : List ResultVar) (r : AV) : Ex → St → Prop
  | .exit _, _ => False
  | _, st => retA Γ rs r st
def resS (tmps : Array Value) : ResultVar → Sem Value
  | .tmp t => pure (tmps.getD t undef)
  | .cell a t => do loadVar t (← asAddr (tmps.getD a undef))
theorem results_eq (fn : Func) (tmps : Array Value) : results fn tmps = (do let vs ← fn.results.mapM (resS tmps); pure (if h : vs.size = 1 then vs[0] else .tuple vs)) := by
  rfl
theorem resV_sound {Γ : Nat → Ty} (hΓ : TyOK P Γ) {st : St} {tmps : Array Value} (hS : Sim N H0 F0 F ρ st.objs w.heap) (hSl : Slots F ρ st.env tmps) {r : ResultVar} {v : AV} {p : Prop} (h : resV Γ st r = some (v, p)) (hp : p) :
    ∃ x, (resS tmps r).run P w = .ok x w ∧ ARep F ρ v x := by
  cases r with
  | tmp t => simp only [resV, Option.some.injEq, Prod.mk.injEq] at h; obtain ⟨rfl, rfl⟩ := h; exact ⟨_, rfl, hSl t⟩
  | cell a t =>
    simp only [resV] at h
    cases hok : (Γ t).ok with
    | false => rw [hok] at h; cases h
    | true =>
      rw [hok, cond_true] at h
      split at h
      · rename_i e he
        simp only [Option.some.injEq, Prod.mk.injEq] at h
        obtain ⟨rfl, rfl⟩ := h
        obtain ⟨_, _, _, x, hx, hr⟩ := loadA_sound (hΓ t hok) hS (fun _ _ h => h) he hp (hSl a)
        refine ⟨x, ?_, hr⟩
        simp only [Instr.loadAt, resS, Sem.run_bind] at hx ⊢
        cases hv : tmps.getD a undef with
        | pointer q =>
          cases q with
          | none => rw [hv] at hx; simp [Instr.sureAddr] at hx
          | some q => rw [hv] at hx; simpa [Instr.sureAddr, asAddr] using hx
        | _ => rw [hv] at hx; simp [Instr.sureAddr] at hx
      · cases h
theorem resVs_sound {Γ : Nat → Ty} (hΓ : TyOK P Γ) {st : St} {tmps : Array Value} (hS : Sim N H0 F0 F ρ st.objs w.heap) (hSl : Slots F ρ st.env tmps) : ∀ (rs : List ResultVar) (vs : List AV) (p : Prop), resVs Γ st rs = some (vs, p) → p →
    ∃ xs : List Value, (rs.mapM (resS tmps)).run P w = .ok xs w ∧ CR F ρ vs xs := by
  intro rs
  induction rs with
  | nil => intro vs p h _; cases h; exact ⟨[], rfl, rfl, fun i a v ha => by simp at ha⟩
  | cons r rs ih =>
    intro vs p h hp
    simp only [resVs] at h
    split at h
    · rename_i v p1 vs' q h1 h2
      cases h
      obtain ⟨x, hx, hr⟩ := resV_sound hΓ hS hSl h1 hp.1
      obtain ⟨xs, hxs, hc⟩ := ih vs' q h2 hp.2
      refine ⟨x :: xs, ?_, by simp [hc.1], fun i a u ha hu => ?_⟩
      · rw [List.mapM_cons]
        simp only [Sem.run_bind, hx, Result.andThen_ok, hxs, Sem.run_pure]
      · cases i with
        | zero => simp at ha hu; subst ha; subst hu; exact hr
        | succ i => exact hc.2 i a u (by simpa using ha) (by simpa using hu)
    · cases h
theorem callOK_of {Γ : Cx} (hfol : P.follows .mixedOrders = true) (hΓ : CxOK P Γ) {f : FuncId} {fn : Func} {c : Code} {args : List AV} {r : AV} (hf : P.funcs[f]? = some fn) (hb : fn.body = some c) (hnm : (fn.name == "runtime.NumGoroutine") = false)
    (hnt : Γ.nt = fn.ntmps) (hlen : args.length ≤ fn.ntmps) (h : wpA Γ c (postA Γ.ty fn.results.toList r) ⟨(List.range args.length).zip args, []⟩) : CallOK P f args r := by
  refine ⟨⟨fn, c, hf, hb, hnm⟩, fun F w vs hvs hF => ?_⟩
  have hvl : args.length = vs.size := by have := hvs.1; simpa using this
  refine calls_of_wp hf hb ?_
  have hS : Sim w.heap.size (fun b => w.heap[b]?) F F noR [] w.heap := { size := Nat.le_refl _, old := fun b _ => rfl, f0 := FLe.refl _, fnew := fun b o h _ => h, frz := hF, loc := fun k L h => by simp [noR] at h, dom := fun k L h => by simp [noR] at h, obj := fun k L ob h => by simp [noR] at h, sep := fun k k' L L' ob ob' h => by simp [noR] at h, inn := ⟨fun _ _ => none, ⟨(fun k c M h => by cases h), (fun k c M k' L ob h => by cases h), (fun k c M k' c' M' h => by cases h), (fun k L sz es h => by simp [noR] at h)⟩⟩ }
  have hSl : Slots F noR ((List.range args.length).zip args) (vs ++ Array.replicate (fn.ntmps - vs.size) undef) := by
    intro t
    rcases lkA_zip (List.range args.length) args t (by simp) with h | ⟨i, a, h1, h2, h3⟩
    · rw [h]; exact .top _
    · rw [h3]
      have hi := getElem?_lt h2
      have : i = t := by
        rw [List.getElem?_range hi] at h1
        exact Option.some.inj h1
      subst this
      have hv : vs[i]? = some vs[i] := Array.getElem?_eq_getElem (by omega)
      have : (vs ++ Array.replicate (fn.ntmps - vs.size) undef).getD i undef = vs[i] := by
        rw [Array.getD_eq_getD_getElem?, Array.getElem?_append_left (by omega), hv]; rfl
      rw [this]
      exact hvs.2 i a _ h2 (by simp)
  refine wp_mono (wp_sound hfol hΓ c _ _ _ w h ⟨F, noR, hS, hSl, by simp [hnt]; omega, rfl, Mu.refl w⟩) fun e a' w' hp => ?_
  obtain ⟨e', st', rfl, hq, F', ρ', hS', hSl', hn', hdf'⟩ := hp
  have fin : retA Γ.ty fn.results.toList r st' → a'.defers = [] ∧ ∃ v, (results fn a'.tmps).run P w' = .ok v w' ∧ ∃ v' F' ρ, Ending.returned v = .returned v' ∧ Sim w.heap.size (fun b => w.heap[b]?) F F' ρ ((impR true 0 r).2.map some) w'.heap ∧ ARep F' ρ (impR true 0 r).1 v' ∧ Mu w w' := by
    intro hr
    refine ⟨hdf'.1, ?_⟩
    unfold retA at hr
    have hmap : ∀ (xs : List Value), (fn.results.toList.mapM (resS a'.tmps)).run P w' = .ok xs w' → (results fn a'.tmps).run P w' = .ok (if h : xs.toArray.size = 1 then xs.toArray[0] else .tuple xs.toArray) w' := by
      intro xs hxs
      rw [results_eq, Array.mapM_eq_mapM_toList]
      simp only [Sem.run_bind, Sem.run_map, hxs, Result.andThen_ok, Sem.run_pure]
    split at hr
    · rename_i v p hres
      obtain ⟨hp, ho, hnd⟩ := hr
      obtain ⟨xs, hxs, hcr⟩ := resVs_sound hΓ.ty hS' hSl' _ _ _ hres hp
      match xs, hcr.1 with
      | [x], _ =>
        obtain ⟨g1, g2⟩ := outA_ok ho 0
        refine ⟨x, by rw [hmap _ hxs]; rfl, x, F', outRho ρ' (entA v r), rfl, ?_, ?_⟩
        · have hi : (impR true 0 r).2 = (impA true 0 r).2 := by
            cases r with
            | tup l =>
              cases v <;> simp [outA, outV] at ho
              all_goals (rename_i y; cases y <;> simp at ho)
            | _ => rfl
          rw [hi]
          exact hS'.out (by rw [g1]) hnd g2
        · have hi : (impR true 0 r).1 = (impA true 0 r).1 := by
            cases r with
            | tup l =>
              cases v <;> simp [outA, outV] at ho
              all_goals (rename_i y; cases y <;> simp at ho)
            | _ => rfl
          rw [hi]
          exact ⟨outA_rep ho (fun j x hx => by rw [Nat.zero_add]; exact hx) (hcr.2 0 v x rfl rfl), hdf'.2⟩
    · rename_i vs' p hne hres
      split at hr
      · rename_i l
        obtain ⟨hp, ho, hnd⟩ := hr
        obtain ⟨xs, hxs, hcr⟩ := resVs_sound hΓ.ty hS' hSl' _ _ _ hres hp
        obtain ⟨g1, g2⟩ := outT_ok vs' l 0 ho
        have hne1 : xs.toArray.size ≠ 1 := by
          intro h1
          have : vs'.length = 1 := by rw [hcr.1]; simpa using h1
          match vs', this with
          | [y], _ => exact hne y rfl
        refine ⟨.tuple xs.toArray, by rw [hmap _ hxs, dif_neg hne1], _, F', outRho ρ' (entT vs' l), rfl, hS'.out (by rw [g1]; rfl) hnd g2, ?_⟩
        have := outT_rep (F := F') (ρ := ρ') (E := entT vs' l) vs' l 0 xs ho (fun j x hx => by rw [Nat.zero_add]; exact hx) hcr
        exact ⟨.tup _ _ (by have := this.1; simpa using this) fun j a v ha hv => this.2 j a v ha (by simpa using hv), hdf'.2⟩
      · exact hr.elim
    · exact hr.elim
  cases e' with
  | normal => exact fin hq
  | ret => exact fin hq
  | exit i => exact hq.elim
end Go.AI
end
section
namespace Go.AI
variable {P : Program} {F F' : Nat → Option Obj} {ρ ρ' : Nat → Option Loc} {w : World}
def plainK (P : Program) (t : TypeId) : Prop := (∃ k, P.underlying t = some (.int k)) ∨ P.underlying t = some .bool ∨ P.underlying t = some .string
theorem run_part_plain {t : TypeId} (h : plainK P t) {cs : Array Value} {o : Nat} {v : Value} (hv : cs[o]? = some v) : (part t cs o).run P w = .ok v w := by
  have hag : (isAgg t).run P w = .ok false w := by
    rcases h with ⟨k, h⟩ | h | h <;> rw [run_isAgg w h] <;> rfl
  simp only [part, Sem.run_bind, hag, Result.andThen_ok, Bool.false_eq_true, if_false, hv, Sem.run_pure]
def fitT (P : Program) (t : TypeId) : TK → Prop
  | .int _ => ∃ k, P.underlying t = some (.int k)
  | .bool => P.underlying t = some .bool
  | .string => P.underlying t = some .string
  | _ => False
theorem fitT_plain {t : TypeId} {k : TK} (h : fitT P t k) : plainK P t := by
  cases k with
  | int _ => exact .inl h
  | bool => exact .inr (.inl h)
  | string => exact .inr (.inr h)
  | _ => exact h.elim
theorem eqFields_run (d : Nat) (xs ys : Array Value) : ∀ (fs : List Field) (ks : List TK) (i : Nat) (l l' : List AV) (r : Bool), fs.length = ks.length →
    (∀ (j : Nat) f k, fs[j]? = some f → ks[j]? = some k → f.name ≠ "_" ∧ f.offset = i + j ∧ fitT P f.type k) → eqCells ks l l' = some r →
    (∀ (j : Nat) a, l[j]? = some a → ∃ v, xs[i + j]? = some v ∧ ARep F ρ a v) → (∀ (j : Nat) a, l'[j]? = some a → ∃ v, ys[i + j]? = some v ∧ ARep F ρ a v) → (Op.eqFields (d + 1) xs ys fs).run P w = .ok r w := by
  intro fs
  induction fs with
  | nil =>
    intro ks i l l' r hn _ h _ _
    cases ks with
    | cons => cases hn
    | nil =>
      cases l with
      | cons => simp [eqCells] at h
      | nil => cases l' with
        | cons => simp [eqCells] at h
        | nil => simp [eqCells] at h; subst h; rfl
  | cons f fs ih =>
    intro ks i l l' r hn hf h hl hl'
    cases ks with
    | nil => cases hn
    | cons k ks =>
      obtain ⟨hname, hoff, hfit⟩ := hf 0 f k rfl rfl
      have hrec : ∀ (m m' : List AV) (x y : AV) (r' : Bool), l = x :: m → l' = y :: m' → eqCells ks m m' = some r' → (Op.eqFields (d + 1) xs ys fs).run P w = .ok r' w := by
        intro m m' x y r' e1 e2 hr'
        subst e1; subst e2
        refine ih ks (i + 1) m m' r' (by simpa using hn) (fun j f k hf' hk' => ?_) hr' (fun j a ha => ?_) (fun j a ha => ?_)
        · obtain ⟨a1, a2, a3⟩ := hf (j + 1) f k (by simpa using hf') (by simpa using hk'); exact ⟨a1, by omega, a3⟩
        · obtain ⟨v, h1, h2⟩ := hl (j + 1) a (by simpa using ha); exact ⟨v, by rw [← h1]; congr 1; omega, h2⟩
        · obtain ⟨v, h1, h2⟩ := hl' (j + 1) a (by simpa using ha); exact ⟨v, by rw [← h1]; congr 1; omega, h2⟩
      have step : ∀ (x y : AV) (m m' : List AV) (b r' : Bool), l = x :: m → l' = y :: m' → eqCells ks m m' = some r' → r = (b && r') → (∀ u v, ARep F ρ x u → ARep F ρ y v → (Op.equalIn (d + 1) f.type u v).run P w = .ok b w) → (Op.eqFields (d + 1) xs ys (f :: fs)).run P w = .ok r w := by
        intro x y m m' b r' e1 e2 hr' hb hrun
        obtain ⟨u, hu1, hu2⟩ := hl 0 x (by rw [e1]; rfl)
        obtain ⟨v, hv1, hv2⟩ := hl' 0 y (by rw [e2]; rfl)
        have hpl := fitT_plain hfit
        simp only [Op.eqFields]
        rw [if_pos hname]
        have hp1 := run_part_plain (P := P) (w := w) hpl (o := f.offset) (cs := xs) (v := u) (by rw [hoff]; simpa using hu1)
        have hp2 := run_part_plain (P := P) (w := w) hpl (o := f.offset) (cs := ys) (v := v) (by rw [hoff]; simpa using hv1)
        simp only [Sem.run_bind, hp1, hp2, Result.andThen_ok, hrun u v hu2 hv2]
        cases b with
        | false => simp [hb]
        | true => simp only [Bool.not_true, Bool.false_eq_true, if_false]; rw [hrec m m' x y r' e1 e2 hr', hb]; rfl
      unfold eqCells at h
      split at h
      · rename_i heq; cases heq
      · rename_i k0 ks0 k1 a xs0 k2 b ys0 e0
        cases e0
        split at h
        · rename_i r' hr'
          cases hk : (k1 == k2) with
          | false => rw [hk] at h; cases h
          | true =>
            rw [hk, cond_true] at h
            have : k1 = k2 := by simpa using hk
            subst this
            cases h
            refine step _ _ _ _ (a == b) r' rfl rfl hr' rfl fun u v hu hv => ?_
            rw [hu.int, hv.int]
            obtain ⟨k3, hk3⟩ := hfit
            exact run_equalIn_int w d f.type k1 k3 a b hk3
        · cases h
      · rename_i ks0 a xs0 b ys0 e0
        cases e0
        split at h
        · rename_i r' hr'
          cases h
          refine step _ _ _ _ (a == b) r' rfl rfl hr' rfl fun u v hu hv => ?_
          rw [hu.bool, hv.bool]
          exact run_equalIn_bool' w d f.type a b hfit
        · cases h
      · rename_i ks0 a xs0 b ys0 e0
        cases e0
        split at h
        · rename_i r' hr'
          cases h
          refine step _ _ _ _ (a == b) r' rfl rfl hr' rfl fun u v hu hv => ?_
          rw [hu.str, hv.str, run_equalIn_string w d f.type _ _ hfit, bytes_toList, bytes_toList]
        · cases h
      · cases h
theorem eq_flat {t : TypeId} {fields : Array Field} {ks : List TK} (hd : P.underlying t = some (.struct fields)) (hst : P.stoodInHeld t = false) (hg : P.eqGuardType P.depth t = false) (hn : fields.size = ks.length)
    (hf : ∀ (j : Nat) f k, fields[j]? = some f → ks[j]? = some k → f.name ≠ "_" ∧ f.offset = j ∧ fitT P f.type k) : EqFacts P t ks := by
  intro l l' r xs ys F ρ w x y h hx hy
  have hfo : P.fieldsOf t = fields := by simp [Program.fieldsOf, hd]
  have hrun : (Op.equalIn 10000 t (.agg xs) (.agg ys)).run P w = .ok r w := by
    rw [run_equalIn_struct w 9999 t xs ys (by rw [hfo]; exact hd) hst, hfo]
    cases hx with
    | agg _ _ hxl hxr =>
      cases hy with
      | agg _ _ hyl hyr =>
        refine eqFields_run (F := F) (ρ := ρ) 9998 xs ys fields.toList ks 0 l l' r (by simpa using hn) (fun j f k h1 h2 => ?_) h (fun j a ha => ?_) (fun j a ha => ?_)
        · obtain ⟨a1, a2, a3⟩ := hf j f k (by simpa using h1) h2; exact ⟨a1, by omega, a3⟩
        · have hj := getElem?_lt ha
          refine ⟨xs[j], ?_, hxr j a _ ha (Array.getElem?_eq_getElem (by omega))⟩
          rw [Nat.zero_add]; exact Array.getElem?_eq_getElem (by omega)
        · have hj := getElem?_lt ha
          refine ⟨ys[j], ?_, hyr j a _ ha (Array.getElem?_eq_getElem (by omega))⟩
          rw [Nat.zero_add]; exact Array.getElem?_eq_getElem (by omega)
  constructor
  · simp only [Sem.run_bind, run_eqGuard_agg w .eql t x y xs ys hg, Result.andThen_ok]
    rw [run_eql_struct, hrun]; rfl
  · simp only [Sem.run_bind, run_eqGuard_agg w .neq t x y xs ys hg, Result.andThen_ok]
    rw [run_neq_struct, hrun]; rfl
theorem info_of {t : TypeId} {z : Value} {s b : Nat} (h : (P.info? t).map (fun i => (i.zero, i.size, i.bytes)) = some (some z, s, b)) : ∃ i, P.info? t = some i ∧ i.size = s ∧ i.bytes = b ∧ i.zero = some z := by
  rw [Option.map_eq_some_iff] at h
  obtain ⟨i, h1, h2⟩ := h
  simp only [Prod.mk.injEq] at h2
  exact ⟨i, h1, h2.2.1, h2.2.2, h2.1⟩
end Go.AI
end
section
namespace Go.AI
variable {P : Program} {F F' : Nat → Option Obj} {ρ ρ' : Nat → Option Loc} {w : World}
theorem run_checkKey_plain1 {t : TypeId} (h : plainK P t) (e : Bool) (n : Nat) (v : Value) : (Instr.checkKey e (n + 1) t v).run P w = .ok () w := by
  rcases h with ⟨k, h⟩ | h | h <;> simp only [Instr.checkKey, Sem.run_bind, run_underlying h, Result.andThen_ok] <;> rfl
theorem run_checkFields (e : Bool) (n : Nat) (cs : Array Value) : ∀ (fs : List Field), (∀ f ∈ fs, plainK P f.type ∧ ∃ v, cs[f.offset]? = some v) →
    (forIn fs PUnit.unit fun (f : Field) (_ : PUnit) => (do
      if f.name ≠ "_" then Instr.checkKey e (n + 1) f.type (← part f.type cs f.offset)
      pure (ForInStep.yield PUnit.unit) : Sem (ForInStep PUnit))).run P w = .ok PUnit.unit w := by
  intro fs
  induction fs with
  | nil => intro _; rfl
  | cons f fs ih =>
    intro h
    obtain ⟨hp, v, hv⟩ := h f (by simp)
    have ih' := ih fun g hg => h g (by simp [hg])
    rw [List.forIn_cons]
    by_cases hn : f.name ≠ "_"
    · simp only [hn, ne_eq, not_false_eq_true, if_true, Sem.run_bind, run_part_plain (w := w) hp hv, Result.andThen_ok, run_checkKey_plain1 (w := w) hp e n v, Sem.run_pure]
      simpa using ih'
    · simp only [hn, if_false, Sem.run_bind, Result.andThen_ok, Sem.run_pure]
      simpa using ih'
theorem bytes_refl (s : ByteArray) : (s == s) = true := by
  show (s.data == s.data) = true
  simp
theorem eqCells_len : ∀ (ks : List TK) (l l' : List AV) (r : Bool), eqCells ks l l' = some r → l.length = ks.length ∧ l'.length = ks.length := by
  intro ks
  induction ks with
  | nil =>
    intro l l' r h
    cases l with
    | cons => simp [eqCells] at h
    | nil => cases l' with
      | cons => simp [eqCells] at h
      | nil => exact ⟨rfl, rfl⟩
  | cons k ks ih =>
    intro l l' r h
    unfold eqCells at h
    split at h
    · rename_i heq; cases heq
    · rename_i e0; cases e0
      split at h
      · rename_i r' hr'
        obtain ⟨a, b⟩ := ih _ _ _ hr'
        simp [a, b]
      · cases h
    · rename_i e0; cases e0
      split at h
      · rename_i r' hr'
        obtain ⟨a, b⟩ := ih _ _ _ hr'
        simp [a, b]
      · cases h
    · rename_i e0; cases e0
      split at h
      · rename_i r' hr'
        obtain ⟨a, b⟩ := ih _ _ _ hr'
        simp [a, b]
      · cases h
    · cases h
theorem eqCells_bits (n : Nat) : ∀ (ks : List TK) (a b : List D) (xs ys : List Value), eqCells ks (a.map .d) (b.map .d) = some true → a.length = xs.length → b.length = ys.length →
    (∀ (i : Nat) (x : D) (u : Value), a[i]? = some x → xs[i]? = some u → DRep F x u) → (∀ (i : Nat) (x : D) (u : Value), b[i]? = some x → ys[i]? = some u → DRep F x u) → ((ys.zip xs).all fun (y, x) => Instr.sameBits n y x) = true := by
  intro ks
  induction ks with
  | nil =>
    intro a b xs ys h h1 h2 _ _
    obtain ⟨e1, e2⟩ := eqCells_len _ _ _ _ h
    have : xs = [] := List.length_eq_zero_iff.1 (by rw [← h1]; simpa using e1)
    subst this
    simp
  | cons k ks ih =>
    intro a b xs ys h h1 h2 ha hb
    obtain ⟨e1, e2⟩ := eqCells_len _ _ _ _ h
    match a, e1 with
    | x :: a, _ =>
      match b, e2 with
      | y :: b, _ =>
        match xs, h1 with
        | u :: xs, h1 =>
          match ys, h2 with
          | v :: ys, h2 =>
            have hxu := ha 0 x u rfl rfl
            have hyv := hb 0 y v rfl rfl
            have rest : ∀ r', eqCells ks (a.map .d) (b.map .d) = some r' → r' = true → ((ys.zip xs).all fun (y, x) => Instr.sameBits n y x) = true := fun r' hr' e => by
              subst e
              exact ih a b xs ys hr' (by simpa using h1) (by simpa using h2) (fun i x u hx hu => ha (i + 1) x u (by simpa using hx) (by simpa using hu)) (fun i x u hx hu => hb (i + 1) x u (by simpa using hx) (by simpa using hu))
            have fin : ∀ r', eqCells ks (a.map .d) (b.map .d) = some r' → r' = true → Instr.sameBits n v u = true → (((v :: ys).zip (u :: xs)).all fun (y, x) => Instr.sameBits n y x) = true := fun r' hr' e hs => by
              simp only [List.zip_cons_cons, List.all_cons, hs, rest r' hr' e, Bool.and_self]
            simp only [List.map_cons] at h
            unfold eqCells at h
            split at h
            · rename_i heq; cases heq
            · rename_i k0 ks0 k1 p xs0 k2 q ys0 e0 e3 e4; cases e0
              simp only [List.cons.injEq, AV.d.injEq] at e3 e4
              obtain ⟨rfl, rfl⟩ := e3
              obtain ⟨rfl, rfl⟩ := e4
              split at h
              · rename_i r' hr'
                cases hk : (k1 == k2) with
                | false => rw [hk] at h; cases h
                | true =>
                  rw [hk] at h
                  simp only [cond_true, Option.some.injEq, Bool.and_eq_true, beq_iff_eq] at h hk
                  cases hxu; cases hyv
                  refine fin r' hr' h.2 ?_
                  simp only [Instr.sameBits, Bool.and_eq_true, beq_iff_eq]
                  exact ⟨hk.symm, h.1.symm⟩
              · cases h
            · rename_i e0 e3 e4; cases e0
              simp only [List.cons.injEq, AV.d.injEq] at e3 e4
              obtain ⟨rfl, rfl⟩ := e3
              obtain ⟨rfl, rfl⟩ := e4
              split at h
              · rename_i r' hr'
                simp only [Option.some.injEq, Bool.and_eq_true, beq_iff_eq] at h
                cases hxu; cases hyv
                refine fin r' hr' h.2 ?_
                simp only [Instr.sameBits, beq_iff_eq]
                exact h.1.symm
              · cases h
            · rename_i e0 e3 e4; cases e0
              simp only [List.cons.injEq, AV.d.injEq] at e3 e4
              obtain ⟨rfl, rfl⟩ := e3
              obtain ⟨rfl, rfl⟩ := e4
              split at h
              · rename_i r' hr'
                simp only [Option.some.injEq, Bool.and_eq_true, beq_iff_eq] at h
                cases hxu; cases hyv
                refine fin r' hr' h.2 ?_
                obtain ⟨h, _⟩ := h
                subst h
                simp only [Instr.sameBits]
                exact bytes_refl _
              · cases h
            · cases h
theorem kv_agg {cs : List D} {x : Value} (h : KV F true cs x) : ∃ vs : Array Value, x = .agg vs ∧ ARep F ρ (.agg (cs.map .d)) (.agg vs) ∧ cs.length = vs.size ∧ ∀ (i : Nat) (x : D) (u : Value), cs[i]? = some x → vs[i]? = some u → DRep F x u := by
  obtain ⟨vs, h1, h2, h3⟩ := h
  refine ⟨vs, h1, .agg _ _ (by simpa using h2) fun i a v ha hv => ?_, h2, h3⟩
  simp only [List.getElem?_map, Option.map_eq_some_iff] at ha
  obtain ⟨d, hd, rfl⟩ := ha
  exact .d _ _ (h3 i d v hd hv)
theorem keyFacts_flat {t : TypeId} {fields : Array Field} {ks : List TK} (hd : P.underlying t = some (.struct fields)) (hst : P.stoodInHeld t = false) (hn : fields.size = ks.length)
    (hf : ∀ (j : Nat) f k, fields[j]? = some f → ks[j]? = some k → f.name ≠ "_" ∧ f.offset = j ∧ fitT P f.type k) : KeyFacts P t true ks := by
  have hfo : P.fieldsOf t = fields := by simp [Program.fieldsOf, hd]
  refine ⟨fun F a x w b hx hs => ?_, ⟨_, hd, fun F a b x y r hx hy h => ?_⟩, fun F a b x y r w hx hy h => ?_, fun F a b x y hx hy h => ?_⟩
  · obtain ⟨vs, rfl, _, hl, hv⟩ := kv_agg (ρ := fun _ => none) hx
    obtain ⟨r, hr⟩ := Option.isSome_iff_exists.1 hs
    have hlen := (eqCells_len _ _ _ _ hr).1
    show (Instr.checkKey b (9999 + 1) t (.agg vs)).run P w = _
    rw [Instr.checkKey]
    simp only [Sem.run_bind, run_underlying hd, Result.andThen_ok]
    have := run_checkFields (P := P) (w := w) b 9998 vs fields.toList (fun f hfm => by
      obtain ⟨j, hj⟩ := List.mem_iff_getElem?.1 hfm
      have hj' : fields[j]? = some f := by simpa using hj
      have hjl : j < ks.length := by rw [← hn]; exact getElem?_ltA hj'
      obtain ⟨_, h2, h3⟩ := hf j f _ hj' (List.getElem?_eq_getElem hjl)
      refine ⟨fitT_plain h3, ?_⟩
      rw [h2]
      exact ⟨_, Array.getElem?_eq_getElem (by simp at hlen; omega)⟩)
    simp at this ⊢
    rw [this]; rfl
  · obtain ⟨vs, rfl, _⟩ := kv_agg (ρ := fun _ => none) hx
    rfl
  · obtain ⟨xs, rfl, hxr, hxl, _⟩ := kv_agg (ρ := fun _ => none) hx
    obtain ⟨ys, rfl, hyr, hyl, _⟩ := kv_agg (ρ := fun _ => none) hy
    show (Op.equalIn 10000 t (.agg xs) (.agg ys)).run P w = .ok r w
    rw [run_equalIn_struct w 9999 t xs ys (by rw [hfo]; exact hd) hst, hfo]
    cases hxr with
    | agg _ _ hxl' hxr =>
      cases hyr with
      | agg _ _ hyl' hyr =>
        refine eqFields_run (F := F) (ρ := fun _ => none) 9998 xs ys fields.toList ks 0 _ _ r (by simpa using hn) (fun j f k h1 h2 => ?_) h (fun j a ha => ?_) (fun j a ha => ?_)
        · obtain ⟨a1, a2, a3⟩ := hf j f k (by simpa using h1) h2; exact ⟨a1, by omega, a3⟩
        · have hj := getElem?_lt ha
          refine ⟨xs[j], ?_, hxr j a _ ha (Array.getElem?_eq_getElem (by omega))⟩
          rw [Nat.zero_add]; exact Array.getElem?_eq_getElem (by omega)
        · have hj := getElem?_lt ha
          refine ⟨ys[j], ?_, hyr j a _ ha (Array.getElem?_eq_getElem (by omega))⟩
          rw [Nat.zero_add]; exact Array.getElem?_eq_getElem (by omega)
  · obtain ⟨xs, rfl, _, hxl, hxv⟩ := kv_agg (ρ := fun _ => none) hx
    obtain ⟨ys, rfl, _, hyl, hyv⟩ := kv_agg (ρ := fun _ => none) hy
    have hlen := eqCells_len _ _ _ _ h
    simp only [List.length_map] at hlen
    show Instr.sameBits (9999 + 1) (.agg ys) (.agg xs) = true
    rw [Instr.sameBits]
    simp only [Bool.and_eq_true, beq_iff_eq]
    refine ⟨by omega, ?_⟩
    exact eqCells_bits 9999 ks a b xs.toList ys.toList h (by simpa using hxl) (by simpa using hyl) (fun i x u hx hu => hxv i x u hx (by simpa using hu)) (fun i x u hx hu => hyv i x u hx (by simpa using hu))
end Go.AI
end
section
namespace Go.AI
def iadd (k : IntKind) (a b : Int) : Int := k.wrap (a + b)
def isub (k : IntKind) (a b : Int) : Int := k.wrap (a - b)
def iquo (k : IntKind) (a b : Int) : Int := k.wrap (a.tdiv b)
def irem (a b : Int) : Int := a.tmod b
def iand (k : IntKind) (a b : Int) : Int := k.wrap (BitVec.ofInt k.bits a &&& BitVec.ofInt k.bits b).toNat
def ishl (k : IntKind) (a b : Int) : Int := k.wrap (a * 2 ^ (min b.toNat k.bits))
def ishr (k : IntKind) (a b : Int) : Int := a.fdiv (2 ^ (min b.toNat k.bits))
def idx {α : Type} (xs : List α) (i : Int) : Option α := if 0 ≤ i then xs[i.toNat]? else none
def app {α : Type} (eb : Nat) (xs ys : List α) : Option (List α) := if (xs.length + ys.length) * eb ≤ 70368744177664 then some (xs ++ ys) else none
def cat (x y : List UInt8) : Option (List UInt8) := if x.length + y.length ≤ 9223372036854775807 then some (x ++ y) else none
def sub {α : Type} (xs : List α) (l h : Int) : Option (List α) := if 0 ≤ l ∧ l ≤ h ∧ h ≤ xs.length then some ((xs.take h.toNat).drop l.toNat) else none
def put {α : Type} (xs : List α) (i : Int) (y : α) : Option (List α) := if 0 ≤ i ∧ i < xs.length then some (xs.set i.toNat y) else none
def sidx (s : List UInt8) (i : Int) : Option Int := if 0 ≤ i ∧ i < s.length then some (s[i.toNat]?.getD 0).toNat else none
def guardB (b : Bool) : Option Unit := if b then some () else none
def mkl {α : Type} (eb : Nat) (n : Int) (z : α) : Option (List α) := if 0 ≤ n ∧ n.toNat * eb ≤ 70368744177664 then some (List.replicate n.toNat z) else none
def bstr (bs : List Int) : Option (List UInt8) := if bs.all (fun n => decide (0 ≤ n) && decide (n < 256)) then some (bs.map fun n => UInt8.ofNat n.toNat) else none
def bytesOf (s : List UInt8) : List Int := s.map fun b => (b.toNat : Int)
def mget {κ α : Type} [DecidableEq κ] (k : κ) : List (κ × α) → Option α
  | [] => none
  | p :: r => if k = p.1 then some p.2 else mget k r
def mput {κ α : Type} [DecidableEq κ] (k : κ) (v : α) : List (κ × α) → List (κ × α)
  | [] => [(k, v)]
  | p :: r => if k = p.1 then (k, v) :: r else p :: mput k v r
theorem bind_some {α β : Type} {x : Option α} {f : α → Option β} {r : β} (h : x.bind f = some r) : ∃ a, x = some a ∧ f a = some r := Option.bind_eq_some_iff.1 h
theorem idx_some {α : Type} {xs : List α} {i : Int} {x : α} (h : idx xs i = some x) : 0 ≤ i ∧ i < xs.length ∧ xs[i.toNat]? = some x := by
  unfold idx at h
  split at h
  · rename_i h0
    have := (List.getElem?_eq_some_iff.1 h).1
    exact ⟨h0, by omega, h⟩
  · cases h
theorem app_some {α : Type} {eb : Nat} {xs ys zs : List α} (h : app eb xs ys = some zs) : (xs.length + ys.length) * eb ≤ 70368744177664 ∧ zs = xs ++ ys := by
  unfold app at h
  split at h
  · rename_i h0; cases h; exact ⟨h0, rfl⟩
  · cases h
def whl {σ ρ : Type} (body : σ → Option (σ ⊕ ρ)) : Nat → σ → Option ρ
  | 0, _ => none
  | n + 1, x => match body x with
    | none => none
    | some (.inl y) => whl body n y
    | some (.inr r) => some r
end Go.AI
end
section
namespace Go.AI
def bodyOf (f : Func) : Code := f.body.getD .skip
def child : Code → Nat → Code
  | .seq a b, i => bif Nat.beq i 0 then a else b
  | .cond _ a b, i => bif Nat.beq i 0 then a else b
  | .block _ c, _ => c
  | .loop c, _ => c
  | _, _ => .skip
def nav : List Nat → Code → Code
  | [], c => c
  | i :: p, c => nav p (child c i)
def opsIn : Code → List Oper
  | .region _ ops _ => ops.toList
  | _ => []
def arrIn : Code → Array Oper
  | .region _ ops _ => ops
  | _ => #[]
def drIn : Code → Bool
  | .region _ _ d => d
  | _ => false
def isReg : Code → Bool
  | .region _ _ _ => true
  | _ => false
def condOp : Code → Operand
  | .cond c _ _ => c
  | _ => .tmp 0
def runFrom (Γ : Cx) (C : Code) (p : List Nat) (i : Nat) (K : St → Prop) (s : St) : Prop := runA Γ (drIn (nav p C)) (opsIn (nav p C)) ((opsIn (nav p C)).drop i) K s
theorem stepA_mono {Γ : Cx} {d : Bool} {all : List Oper} {o : Oper} {Q Q' : St → Prop} {s : St} (hQ : ∀ s, Q s → Q' s) (h : stepA Γ d all o Q s) : stepA Γ d all o Q' s := by
  unfold stepA at h ⊢
  cases hg : guardA all s.env o.guard with
  | none => rw [hg] at h; exact h.elim
  | some g =>
    rw [hg] at h
    simp only at h ⊢
    cases hdst : dstOk Γ.nt o.dst with
    | false => rw [hdst] at h; exact h.elim
    | true =>
      rw [hdst] at h
      simp only [Bool.not_true, cond_false] at h ⊢
      refine ⟨fun hgt => ?_, fun hgf => by obtain ⟨v, obs, hm, hq⟩ := h.2 hgf; exact ⟨v, obs, hm, hQ _ hq⟩⟩
      rcases h.1 hgt with h | h | h
      case inr.inr =>
        refine .inr (.inr ?_)
        obtain ⟨hdr, hgn, h⟩ := h
        refine ⟨hdr, hgn, ?_⟩
        split at h
        · obtain ⟨h1, h2⟩ := h
          exact ⟨h1, h2.imp (hQ _) (hQ _)⟩
        · exact h.elim
      case inr.inl =>
        refine .inr (.inl ?_)
        unfold stepF at h ⊢
        split at h
        · exact ⟨h.1, hQ _ h.2⟩
        · exact h.elim
      refine .inl ?_
      unfold stepG at h ⊢
      split at h
      · obtain ⟨h1, h⟩ := h
        unfold callA at h ⊢
        split at h
        · obtain ⟨hob, m, r, hcall, hflat, hq⟩ := h
          exact ⟨h1, hob, m, r, hcall, hflat, hQ _ hq⟩
        · exact h.elim
      · split at h
        · exact ⟨h.1, hQ _ h.2⟩
        · exact h.elim
      · split at h
        · rename_i e he
          obtain ⟨h1, h2, h3⟩ := h
          refine ⟨h1, h2, ?_⟩
          cases hc : ((e.upd.isSome && o.guard.isSome) || (!e.rm.isEmpty && (o.guard.isSome || (d && !isW o.op)))) with
          | true => rw [hc] at h3; exact h3.elim
          | false => rw [hc, cond_false] at h3; rw [cond_false]; exact hQ _ h3
        · exact h.elim
theorem runA_mono {Γ : Cx} {d : Bool} {all : List Oper} {Q Q' : St → Prop} (hQ : ∀ s, Q s → Q' s) : ∀ (l : List Oper) (s : St), runA Γ d all l Q s → runA Γ d all l Q' s := by
  intro l
  induction l with
  | nil => intro s h; exact hQ s h
  | cons o l ih => intro s h; exact stepA_mono ih h
theorem wpA_mono {Γ : Cx} : ∀ {c : Code} {Q Q' : Ex → St → Prop} {s : St}, (∀ e s, Q e s → Q' e s) → wpA Γ c Q s → wpA Γ c Q' s := by
  intro c
  induction c with
  | skip => intro Q Q' s hQ h; exact hQ _ _ h
  | region id ops d => intro Q Q' s hQ h; obtain ⟨s', h1, h2⟩ := h; exact ⟨s', h1, runA_mono (fun s hs => ⟨hs.1, hQ _ s hs.2⟩) _ _ h2⟩
  | seq a b iha ihb =>
    intro Q Q' s hQ h
    refine iha (fun e s h => ?_) h
    cases e with
    | normal => obtain ⟨s', h1, h2⟩ := h; exact ⟨s', h1, ihb hQ h2⟩
    | exit i => exact hQ _ _ h
    | ret => exact hQ _ _ h
  | cond c a b iha ihb =>
    intro Q Q' s hQ h
    simp only [wpA] at h ⊢
    unfold condA at h ⊢
    split at h
    · exact ⟨fun e => iha hQ (h.1 e), fun e => ihb hQ (h.2 e)⟩
    · exact h.elim
  | block id c ih =>
    intro Q Q' s hQ h
    refine ih (fun e s h => ?_) h
    cases e with
    | normal => exact hQ _ _ h
    | ret => exact hQ _ _ h
    | exit i =>
      simp only [blockQ] at h ⊢
      cases hb : Nat.beq i id with
      | true => rw [hb] at h; exact hQ _ _ h
      | false => rw [hb] at h; exact hQ _ _ h
  | loop c ih =>
    intro Q Q' s hQ h
    obtain ⟨I, n, h0, h⟩ := h
    refine ⟨I, n, h0, fun n s hI => ih (fun e s h => ?_) (h n s hI)⟩
    cases e with
    | normal => exact h
    | exit i => exact hQ _ _ h
    | ret => exact hQ _ _ h
  | exit id => intro Q Q' s hQ h; exact hQ _ _ h
  | ret => intro Q Q' s hQ h; exact hQ _ _ h
  | _ => intro Q Q' s hQ h; exact h.elim
variable {Γ : Cx} {C : Code} {p p0 p1 : List Nat} {Q : Ex → St → Prop} {s s' : St} {K : St → Prop}
theorem at_seq (h : nav p C = .seq (nav p0 C) (nav p1 C)) (hw : wpA Γ (nav p0 C) (seqQ (wpA Γ (nav p1 C) Q) Q) s) : wpA Γ (nav p C) Q s := by rw [h]; exact hw
theorem at_block (id : Nat) (h : nav p C = .block id (nav p0 C)) (hw : wpA Γ (nav p0 C) (blockQ id Q) s) : wpA Γ (nav p C) Q s := by rw [h]; exact hw
theorem at_cond (t : Bool) (h : nav p C = .cond (condOp (nav p C)) (nav p0 C) (nav p1 C)) (hc : evalA s.env (condOp (nav p C)) = .d (.bool t)) (h1 : t = true → wpA Γ (nav p0 C) Q s) (h2 : t = false → wpA Γ (nav p1 C) Q s) : wpA Γ (nav p C) Q s := by
  rw [h]; simp only [wpA, hc, condA]; exact ⟨h1, h2⟩
theorem at_exit (i : Nat) (h : nav p C = .exit i) (hq : Q (.exit i) s) : wpA Γ (nav p C) Q s := by rw [h]; exact hq
theorem at_ret (h : nav p C = .ret) (hq : Q .ret s) : wpA Γ (nav p C) Q s := by rw [h]; exact hq
theorem at_skip (h : nav p C = .skip) (hq : Q .normal s) : wpA Γ (nav p C) Q s := by rw [h]; exact hq
def regQ (C : Code) (p : List Nat) (s0 : St) (Q : Ex → St → Prop) : Ex → St → Prop := fun e s => drawQ (drIn (nav p C)) (arrIn (nav p C)) s0.env s.env = true ∧ Q e s
theorem at_region (h : isReg (nav p C) = true) (hs : Shift s s') (hk : runFrom Γ C p 0 (regQ C p s' Q .normal) s') : wpA Γ (nav p C) Q s := by
  unfold runFrom regQ at hk
  cases hc : nav p C with
  | region id ops d => rw [hc] at hk; exact ⟨s', hs, hk⟩
  | _ => rw [hc] at h; cases h
theorem at_end (n : Nat) (h : Nat.ble (opsIn (nav p C)).length n = true) (hk : K s) : runFrom Γ C p n K s := by
  unfold runFrom
  rw [List.drop_eq_nil_of_le (Nat.le_of_ble_eq_true h)]
  exact hk
theorem q_blockH {id : Nat} (h : Q .normal s) : blockQ id Q (.exit id) s := by
  show bif Nat.beq id id then _ else _
  have : Nat.beq id id = true := Nat.beq_refl id
  rw [this]; exact h
theorem q_blockX {id i : Nat} (hn : Nat.beq i id = false) (h : Q (.exit i) s) : blockQ id Q (.exit i) s := by
  show bif Nat.beq i id then _ else _
  rw [hn]; exact h
def roundQ {σ ρ : Type} (st : σ → St) (E : ρ → Ex → St → Prop) (z : σ ⊕ ρ) : Ex → St → Prop
  | .normal, s => ∃ y, z = .inl y ∧ Shift s (st y)
  | e, s => ∃ r, z = .inr r ∧ E r e s
theorem round_go {σ ρ : Type} {st : σ → St} {E : ρ → Ex → St → Prop} {y : σ} (h : Shift s (st y)) : roundQ st E (.inl y) .normal s := ⟨y, rfl, h⟩
theorem round_exit {σ ρ : Type} {st : σ → St} {E : ρ → Ex → St → Prop} {r : ρ} {i : Nat} (h : E r (.exit i) s) : roundQ st E (.inr r) (.exit i) s := ⟨r, rfl, h⟩
theorem round_ret {σ ρ : Type} {st : σ → St} {E : ρ → Ex → St → Prop} {r : ρ} (h : E r .ret s) : roundQ st E (.inr r) .ret s := ⟨r, rfl, h⟩
theorem at_loop {σ ρ : Type} {body : σ → Option (σ ⊕ ρ)} {n : Nat} {x : σ} {r : ρ} (st : σ → St) (E : ρ → Ex → St → Prop) (h : nav p C = .loop (nav p0 C)) (hr : whl body n x = some r) (hs : Shift s (st x))
    (hb : ∀ x z, body x = some z → wpA Γ (nav p0 C) (roundQ st E z) (st x)) (hE : ∀ e s, E r e s → Q e s) : wpA Γ (nav p C) Q s := by
  rw [h]
  refine ⟨fun m s => ∃ x, s = st x ∧ whl body m x = some r, n, ⟨_, hs, x, rfl, hr⟩, ?_⟩
  rintro m _ ⟨x, rfl, hm⟩
  cases m with
  | zero => cases hm
  | succ m =>
    unfold whl at hm
    split at hm
    · cases hm
    · rename_i y hy
      have := hb x _ hy
      refine wpA_mono ?_ this
      intro e s' hq
      cases e with
      | normal =>
        obtain ⟨y', e1, hsh⟩ := hq
        cases e1
        exact ⟨m, _, Nat.lt_succ_self m, hsh, y, rfl, hm⟩
      | exit i => obtain ⟨_, e1, _⟩ := hq; cases e1
      | ret => obtain ⟨_, e1, _⟩ := hq; cases e1
    · rename_i r' hy
      cases hm
      have := hb x _ hy
      refine wpA_mono ?_ this
      intro e s' hq
      cases e with
      | normal => obtain ⟨_, e1, _⟩ := hq; cases e1
      | exit i => obtain ⟨r', e1, he⟩ := hq; cases e1; exact hE _ _ he
      | ret => obtain ⟨r', e1, he⟩ := hq; cases e1; exact hE _ _ he
end Go.AI
end
section
namespace Go.AI
def binOK (op : BinOp) (x y : AV) : Bool :=
  match op with
  | .quo => match y with | .d (.int _ b) => !(b == 0) | _ => false
  | .rem => match y with | .d (.int _ b) => !(b == 0) | _ => false
  | .shl => match y with | .d (.int _ b) => decide (0 ≤ b) | _ => false
  | .shr => match y with | .d (.int _ b) => decide (0 ≤ b) | _ => false
  | .add => match x with | .d (.int _ _) => true | _ => false
  | _ => true
def obOK (ty : Nat → Ty) (ev : Operand → AV) (objs : List (Option Ob)) : Op → Bool
  | .move _ => true
  | .assign _ => true
  | .alloc _ => true
  | .box _ _ => true
  | .build _ _ => true
  | .nilCheck _ => true
  | .unOp _ _ _ => true
  | .fieldAddr _ _ _ => true
  | .field _ _ _ => true
  | .extract _ _ => true
  | .makeMap _ _ => true
  | .load t a => match ev a with
    | .ptr k off => match obA objs k with
      | some (.box cells) => Nat.ble (off + (ty t).size) cells.length
      | _ => false
    | .dptr e off => Nat.ble (off + (ty t).size) e.length
    | _ => false
  | .store t a v => match ev a with
    | .ptr k off => match obA objs k with
      | some (.box cells) => Nat.beq (cellsA (ev v)).length (ty t).size && Nat.ble (off + (ty t).size) cells.length
      | _ => false
    | _ => false
  | .binOp op _ x y _ => binOK op (ev x) (ev y)
  | .convert s _ x => match (ty s).kind, ev x with
    | .int _, .d (.int _ _) => true
    | .string, .d (.str _) => true
    | _, _ => false
  | .call ⟨.builtin .len, _, _⟩ => true
  | .call ⟨.builtin .min, _, _⟩ => true
  | .call ⟨.builtin .max, _, _⟩ => true
  | .buildSlice _ _ parts => parts.toList.all fun p => (cellsA (ev p.2)).all isDD
  | .indexAddr t x i => match (ty t).kind, ev x, ev i with
    | .array n _, .ptr _ _, .d (.int _ m) => decide (0 ≤ m) && decide (m < n)
    | .array n _, .eptr _ _ _ _, .d (.int _ m) => decide (0 ≤ m) && decide (m < n)
    | .array n _, .dptr _ _, .d (.int _ m) => decide (0 ≤ m) && decide (m < n)
    | _, _, _ => false
  | _ => false
theorem val_ob {v : AV} {e : Eff} (h : val v = some e) : e.ob := by cases h; trivial
theorem valOb_ob {v : AV} {ob : Prop} {e : Eff} (h : valOb v ob = some e) (ho : ob) : e.ob := by cases h; exact ho
theorem bif_some {α : Type} {b : Bool} {x : Option α} {e : α} (h : (bif b then x else none) = some e) : b = true ∧ x = some e := by
  cases b with
  | true => exact ⟨rfl, h⟩
  | false => cases h
theorem intA_ob {op : BinOp} {k k' k'' : IntKind} {a b : Int} {e : Eff} (h : intA op k a b = some e) (ho : binOK op (.d (.int k' a)) (.d (.int k'' b)) = true) : e.ob := by
  cases op <;> simp only [intA] at h <;> first | exact val_ob h | (refine valOb_ob h ?_; simpa [binOK] using ho) | cases h
theorem binA_ob {t : Ty} {op : BinOp} {x y : AV} {e : Eff} (h : binA t op x y = some e) (ho : binOK op x y = true) : e.ob := by
  unfold binA at h
  split at h
  · split at h
    · exact valOb_ob h (by simpa [binOK] using ho)
    · exact valOb_ob h (by simpa [binOK] using ho)
    · obtain ⟨_, h⟩ := bif_some h
      exact intA_ob h ho
  · cases op <;> simp only [strA] at h <;> first | exact val_ob h | (simp [binOK] at ho; done) | cases h
  · split at h
    · obtain ⟨_, h⟩ := bif_some h
      split at h
      · exact val_ob h
      · exact val_ob h
      · cases h
    · cases h
  · obtain ⟨_, h⟩ := bif_some h
    split at h
    · exact val_ob h
    · exact val_ob h
    · cases h
  · cases h
theorem expD_ob {objs : List (Option Ob)} {v : AV} {r : Rd D} (hd : isDD v = true) (h : expD objs v = some r) : r.ob ∧ r.ks = [] := by
  cases v with
  | d x => cases x <;> (cases h; exact ⟨trivial, rfl⟩)
  | _ => cases hd
theorem expDs_ob {objs : List (Option Ob)} : ∀ {l : List AV} {r : Rd (List D)}, l.all isDD = true → expDs objs l = some r → r.ob ∧ r.ks = [] := by
  intro l
  induction l with
  | nil => intro r _ h; cases h; exact ⟨trivial, rfl⟩
  | cons v l ih =>
    intro r hd h
    simp only [List.all_cons, Bool.and_eq_true] at hd
    simp only [expDs] at h
    split at h
    · rename_i r1 r2 h1 h2
      cases h
      obtain ⟨a1, a2⟩ := expD_ob hd.1 h1
      obtain ⟨b1, b2⟩ := ih hd.2 h2
      exact ⟨⟨a1, b1⟩, by simp [a2, b2]⟩
    · cases h
theorem fillE_ob {objs : List (Option Ob)} {esz : Nat} : ∀ {parts : List (Nat × AV)} {es : List (List D)} {r : Rd (List (List D))}, (parts.all fun p => (cellsA p.2).all isDD) = true → fillE objs esz es parts = some r → r.ob := by
  intro parts
  induction parts with
  | nil => intro es r _ h; cases h; trivial
  | cons p parts ih =>
    intro es r hd h
    obtain ⟨i, v⟩ := p
    simp only [List.all_cons, Bool.and_eq_true] at hd
    simp only [fillE] at h
    split at h
    · rename_i r1 h1
      obtain ⟨_, h⟩ := bif_some h
      split at h
      · rename_i r2 h2
        cases h
        exact ⟨(expDs_ob hd.1 h1).1, ih hd.2 h2⟩
      · cases h
    · cases h
theorem obOK_sound {ty : Nat → Ty} {ev : Operand → AV} {objs : List (Option Ob)} {op : Op} {e : Eff} (ho : obOK ty ev objs op = true) (h : opA ty ev objs op = some e) : e.ob := by
  cases op with
  | move x => exact val_ob h
  | assign x => exact val_ob h
  | alloc t => obtain ⟨_, h⟩ := bif_some h; cases h; trivial
  | box t v => obtain ⟨_, h⟩ := bif_some h; cases h; trivial
  | build t parts =>
    obtain ⟨_, h⟩ := bif_some h
    split at h
    · exact val_ob h
    · cases h
  | nilCheck x =>
    simp only [opA] at h
    split at h <;> first | exact val_ob h | cases h
  | unOp op t x =>
    cases op <;> simp only [opA] at h <;> first | (split at h <;> first | exact val_ob h | cases h) | cases h
  | fieldAddr t x f =>
    obtain ⟨_, h⟩ := bif_some h
    unfold fieldAtA at h
    split at h
    · split at h
      · split at h <;> first | exact val_ob h | cases h
      · cases h
    · cases h
  | field t x f =>
    simp only [opA] at h
    obtain ⟨_, h⟩ := bif_some h
    unfold fieldA at h
    split at h
    · split at h
      · split at h
        · split at h <;> first | exact val_ob h | cases h
        · cases h
      · cases h
    · cases h
  | extract x i =>
    simp only [opA] at h
    split at h
    · split at h
      · exact val_ob h
      · cases h
    · cases h
  | makeMap t r =>
    cases r with
    | none =>
      obtain ⟨_, h⟩ := bif_some h
      split at h
      · cases h; trivial
      · cases h
    | some x =>
      obtain ⟨_, h⟩ := bif_some h
      split at h
      · cases h; trivial
      · cases h
  | load t a =>
    obtain ⟨_, h⟩ := bif_some h
    simp only [obOK] at ho
    split at ho
    · rename_i k off ha
      rw [ha] at h
      simp only [loadA] at h
      split at ho
      · rename_i cells hc
        rw [hc] at h
        simp only at h
        split at h
        · exact valOb_ob h (Nat.le_of_ble_eq_true ho)
        · cases h
      · cases ho
    · rename_i e' off ha
      rw [ha] at h
      simp only [loadA] at h
      split at h
      · exact valOb_ob h (Nat.le_of_ble_eq_true ho)
      · cases h
    · cases ho
  | store t a v =>
    obtain ⟨_, h⟩ := bif_some h
    simp only [obOK] at ho
    split at ho
    · rename_i k off ha
      rw [ha] at h
      simp only [storeA] at h
      split at ho
      · rename_i cells hc
        rw [hc] at h
        simp only at h
        obtain ⟨_, h⟩ := bif_some h
        cases h
        simp only [Bool.and_eq_true] at ho
        exact ⟨Nat.eq_of_beq_eq_true ho.1, Nat.le_of_ble_eq_true ho.2⟩
      · cases ho
    · cases ho
  | binOp op t x y t' => exact binA_ob h ho
  | convert a b x =>
    obtain ⟨_, h⟩ := bif_some h
    simp only [obOK] at ho
    split at ho
    · rename_i k1 k2 n hk hx
      rw [hk, hx] at h
      unfold convA at h
      split at h
      · rename_i heq _; cases heq
      · exact val_ob h
      · exact val_ob h
      · cases h
    · rename_i n hk hx
      rw [hk, hx] at h
      unfold convA at h
      split at h
      · rename_i heq _; cases heq
      · exact val_ob h
      · exact val_ob h
      · cases h
    · cases ho
  | call c =>
    obtain ⟨callee, args, ts⟩ := c
    cases callee with
    | value f => cases ho
    | invoke r m => cases ho
    | builtin b =>
      cases b <;> first | (cases ho; done) | skip
      all_goals simp only [opA] at h
      · split at h
        · obtain ⟨_, h⟩ := bif_some h
          unfold lenA at h
          split at h <;> first | exact val_ob h | cases h
        · cases h
      · split at h
        · exact val_ob h
        · cases h
      · split at h
        · exact val_ob h
        · cases h
  | buildSlice t len parts =>
    obtain ⟨_, h⟩ := bif_some h
    split at h
    · obtain ⟨_, h⟩ := bif_some h
      split at h
      · rename_i r hr
        cases h
        refine fillE_ob (parts := parts.toList.map fun p => (p.1, ev p.2)) ?_ hr
        rw [List.all_map]
        exact ho
      · cases h
    · cases h
  | indexAddr t x i =>
    obtain ⟨_, h⟩ := bif_some h
    simp only [obOK] at ho
    split at ho
    · rename_i n esz k off k' m hk hx hi
      rw [hk, hx, hi] at h
      simp only [intOf, idxA] at h
      exact valOb_ob h (by simpa using ho)
    · rename_i n esz a b c d k' m hk hx hi
      rw [hk, hx, hi] at h
      simp only [intOf, idxA] at h
      exact valOb_ob h (by simpa using ho)
    · rename_i n esz a b k' m hk hx hi
      rw [hk, hx, hi] at h
      simp only [intOf, idxA] at h
      exact valOb_ob h (by simpa using ho)
    · cases ho
  | _ => cases ho
end Go.AI
end
section
namespace Go.AI
def notGv : AV → Bool
  | .gv _ _ => false
  | _ => true
theorem gobA_of {g : Bool} : ∀ {l : List AV}, l.all notGv = true → gobA g l := by
  intro l
  induction l with
  | nil => intro _; trivial
  | cons v l ih =>
    intro h
    simp only [List.all_cons, Bool.and_eq_true] at h
    cases v <;> first | exact ih h.2 | (cases h.1; done)
def isPC : Op → Bool
  | .pick _ _ _ => true
  | .call ⟨.value _, _, _⟩ => true
  | _ => false
def stepP (Γ : Cx) (all : List Oper) (o : Oper) (st : St) : Option St :=
  match guardA all st.env o.guard with
  | none => none
  | some g => bif dstOk Γ.nt o.dst && !isPC o.op && obOK Γ.ty (fun x => unG (evalA st.env x)) st.objs o.op && (o.op.operands.toList.map (evalA st.env)).all notGv && !(o.guard.isSome && isW o.op) then
      (match opA Γ.ty (fun x => unG (evalA st.env x)) st.objs o.op with
      | some e => bif (e.upd.isSome && o.guard.isSome) || !e.rm.isEmpty then none else some (effA o.dst o.guard.isSome g e st)
      | none => none)
    else none
theorem stepG_of {Γ : Cx} {d : Bool} {o : Oper} {Q : St → Prop} {st : St} {g : Bool} (hpc : isPC o.op = false) (h : match opA Γ.ty (fun x => unG (evalA st.env x)) st.objs o.op with
      | some e => gobA g (o.op.operands.toList.map (evalA st.env)) ∧ (g = true → e.ob) ∧ (bif (e.upd.isSome && o.guard.isSome) || (!e.rm.isEmpty && (o.guard.isSome || (d && !isW o.op))) then False else Q (effA o.dst o.guard.isSome g e st))
      | none => False) : stepG Γ d o Q st g := by
  unfold stepG
  split
  · rename_i hop; rw [hop] at hpc; cases hpc
  · rename_i hop; rw [hop] at hpc; cases hpc
  · exact h
theorem stepP_ok {Γ : Cx} {d : Bool} {all : List Oper} {o : Oper} {st st' : St} {Q : St → Prop} (h : stepP Γ all o st = some st') (hq : Q st') : stepA Γ d all o Q st := by
  unfold stepP at h
  unfold stepA
  cases hg : guardA all st.env o.guard with
  | none => rw [hg] at h; cases h
  | some g =>
    rw [hg] at h
    obtain ⟨hc, h⟩ := bif_some h
    simp only [Bool.and_eq_true, Bool.not_eq_true'] at hc
    obtain ⟨⟨⟨⟨h1, h2⟩, h3⟩, h4⟩, h5⟩ := hc
    simp only [h1, Bool.not_true, cond_false]
    split at h
    · rename_i e he
      cases hb : (e.upd.isSome && o.guard.isSome) || !e.rm.isEmpty with
      | true => rw [hb] at h; cases h
      | false =>
        rw [hb, cond_false] at h
        cases h
        simp only [Bool.or_eq_false_iff, Bool.not_eq_false'] at hb
        obtain ⟨hb1, hb2⟩ := hb
        have hrm : e.rm = [] := isEmpty_nil hb2
        refine ⟨fun _ => .inl (stepG_of h2 ?_), fun hgf => ?_⟩
        · rw [he]
          refine ⟨gobA_of h4, fun _ => obOK_sound h3 he, ?_⟩
          rw [hb1, hrm]
          exact hq
        · have hgs : o.guard.isSome = true := by
            cases hgo : o.guard with
            | none => rw [hgo] at hg; cases hg; cases hgf
            | some x => rfl
          have hupd : e.upd = none := by
            rw [hgs, Bool.and_true] at hb1
            cases hu : e.upd with
            | none => rfl
            | some x => rw [hu] at hb1; cases hb1
          refine ⟨e.v, e.obs, fun hm => ?_, ?_⟩
          · rw [hgs, Bool.true_and] at h5
            exact opA_noobs h5 hm he
          · subst hgf
            simp only [effA, hrm, hupd, rmA, updA] at hq
            exact hq
    · cases h
def runP (Γ : Cx) (all : List Oper) : List Oper → St → Option St
  | [], st => some st
  | o :: l, st => match stepP Γ all o st with
    | some st' => runP Γ all l st'
    | none => none
variable {Γ : Cx} {C : Code} {p p0 p1 : List Nat} {Q : Ex → St → Prop} {s s' : St} {K : St → Prop} {i : Nat}
theorem runP_ok {d : Bool} {all : List Oper} : ∀ (l m : List Oper) (st : St), runP Γ all l st = some s' → runA Γ d all m K s' → runA Γ d all (l ++ m) K st := by
  intro l
  induction l with
  | nil => intro m st h hk; cases h; exact hk
  | cons o l ih =>
    intro m st h hk
    simp only [runP] at h
    split at h
    · rename_i st1 h1
      exact stepP_ok h1 (ih m st1 h hk)
    · cases h
theorem chunk (n j : Nat) (h : runP Γ (opsIn (nav p C)) (((opsIn (nav p C)).drop i).take n) s = some s') (hj : i + n = j) (hk : runFrom Γ C p j K s') : runFrom Γ C p i K s := by
  unfold runFrom at hk ⊢
  have : (opsIn (nav p C)).drop i = ((opsIn (nav p C)).drop i).take n ++ (opsIn (nav p C)).drop j := by
    rw [← hj, ← List.drop_drop, List.take_append_drop]
  rw [this]
  exact runP_ok _ _ _ h hk
def OpIs (x : Option Eff) (v : AV) (obs : List Ob) (rm : List Nat) (upd : Option (Nat × Ob)) : Prop := ∃ ob, x = some ⟨v, obs, rm, upd, ob⟩ ∧ ob
def opOf (Γ : Cx) (c : Code) (i : Nat) (s : St) : Option Eff :=
  match (opsIn c)[i]? with
  | some o => opA Γ.ty (fun x => unG (evalA s.env x)) s.objs o.op
  | none => none
def nextS (Γ : Cx) (c : Code) (i : Nat) (v : AV) (obs : List Ob) (rm : List Nat) (upd : Option (Nat × Ob)) (s : St) : Option St :=
  match (opsIn c)[i]? with
  | some o => bif o.guard.isNone && dstOk Γ.nt o.dst && !isPC o.op && (o.op.operands.toList.map (evalA s.env)).all notGv && !(!rm.isEmpty && (drIn c && !isW o.op)) then some ⟨putA o.dst false true v s.env, updA (rmA s.objs rm) upd ++ obs.map some⟩ else none
  | none => none
theorem drop_cons {all : List Oper} {o : Oper} (h : all[i]? = some o) : all.drop i = o :: all.drop (i + 1) := by
  have hl := getElem?_lt h
  rw [List.getElem?_eq_getElem hl] at h
  cases h
  exact List.drop_eq_getElem_cons hl
theorem spec {v : AV} {obs : List Ob} {rm : List Nat} {upd : Option (Nat × Ob)} {x : Option Eff} (j : Nat) (hx : opOf Γ (nav p C) i s = x) (ho : OpIs x v obs rm upd) (hn : nextS Γ (nav p C) i v obs rm upd s = some s') (hj : i + 1 = j) (hk : runFrom Γ C p j K s') : runFrom Γ C p i K s := by
  subst hj
  unfold runFrom at hk ⊢
  unfold opOf at hx
  unfold nextS at hn
  split at hn
  · rename_i o hi
    rw [hi] at hx
    obtain ⟨hc, hn⟩ := bif_some hn
    simp only [Bool.and_eq_true, Bool.not_eq_true'] at hc
    obtain ⟨⟨⟨⟨h1, h2⟩, h3⟩, h4⟩, h5⟩ := hc
    cases hn
    rw [drop_cons hi]
    show stepA _ _ _ _ _ _
    have hgN : o.guard = none := by simpa using h1
    unfold stepA
    rw [hgN]
    simp only [guardA, h2, Bool.not_true, cond_false]
    refine ⟨fun _ => .inl (stepG_of h3 ?_), fun h => by cases h⟩
    obtain ⟨ob, e1, hob⟩ := ho
    simp only [hx, e1]
    refine ⟨gobA_of h4, fun _ => hob, ?_⟩
    rw [hgN]
    simp only [Option.isSome_none, Bool.and_false, Bool.false_or, h5, cond_false]
    exact hk
  · cases hn
def impAll (g : Bool) : List Bool → Prop
  | [] => True
  | b :: r => (g = true → b = true) ∧ impAll g r
theorem impZ {g : Bool} : impAll g [] := trivial
theorem impK {g b : Bool} {r : List Bool} (h : g = true → b = true) (hr : impAll g r) : impAll g (b :: r) := ⟨h, hr⟩
def gvs : List AV → List Bool
  | [] => []
  | .gv g _ :: r => g :: gvs r
  | _ :: r => gvs r
theorem gobA_imp {g : Bool} : ∀ {l : List AV}, impAll g (gvs l) → gobA g l := by
  intro l
  induction l with
  | nil => intro _; trivial
  | cons v l ih =>
    intro h
    cases v <;> first | exact ih h | exact ⟨h.1, ih h.2⟩
def gAt (c : Code) (i : Nat) (s : St) : Option Bool :=
  match (opsIn c)[i]? with
  | some o => match o.guard with
    | some x => guardA (opsIn c) s.env (some x)
    | none => none
  | none => none
def gvsAt (c : Code) (i : Nat) (s : St) : List Bool :=
  match (opsIn c)[i]? with
  | some o => gvs (o.op.operands.toList.map (evalA s.env))
  | none => []
def nextG (Γ : Cx) (c : Code) (i : Nat) (g : Bool) (v : AV) (obs : List Ob) (s : St) : Option St :=
  match (opsIn c)[i]? with
  | some o => bif o.guard.isSome && dstOk Γ.nt o.dst && !isPC o.op && (memOp o.op || obs.isEmpty) then some ⟨putA o.dst true g v s.env, s.objs ++ obs.map some⟩ else none
  | none => none
theorem specG {g : Bool} {v : AV} {obs : List Ob} {x : Option Eff} {gs : List Bool} (j : Nat) (hg : gAt (nav p C) i s = some g) (hx : opOf Γ (nav p C) i s = x) (ho : g = true → OpIs x v obs [] none) (hgs : gvsAt (nav p C) i s = gs) (hi : impAll g gs) (hn : nextG Γ (nav p C) i g v obs s = some s') (hj : i + 1 = j) (hk : runFrom Γ C p j K s') : runFrom Γ C p i K s := by
  subst hj
  unfold runFrom at hk ⊢
  unfold opOf at hx
  unfold nextG at hn
  unfold gAt at hg
  unfold gvsAt at hgs
  split at hn
  · rename_i o hii
    rw [hii] at hx hg hgs
    simp only at hx hg hgs
    obtain ⟨hc, hn⟩ := bif_some hn
    simp only [Bool.and_eq_true, Bool.not_eq_true'] at hc
    obtain ⟨⟨⟨h1, h2⟩, h3⟩, h4⟩ := hc
    cases hn
    rw [drop_cons hii]
    show stepA _ _ _ _ _ _
    unfold stepA
    cases hgo : o.guard with
    | none => rw [hgo] at h1; cases h1
    | some y =>
      rw [hgo] at hg
      simp only at hg
      simp only [hg, h2, Bool.not_true, cond_false]
      refine ⟨fun hgt => .inl (stepG_of h3 ?_), fun hgf => ⟨v, obs, fun hm => ?_, ?_⟩⟩
      · obtain ⟨ob, e1, hob⟩ := ho hgt
        simp only [hx, e1]
        refine ⟨gobA_imp (by rw [hgs]; exact hi), fun _ => hob, ?_⟩
        simp only [Option.isSome_none, Bool.false_and, List.isEmpty_nil, Bool.not_true, Bool.or_self, cond_false, hgo]
        exact hk
      · rw [hm, Bool.false_or] at h4
        exact isEmpty_nil h4
      · subst hgf; exact hk
  · cases hn
def pickOf (c : Code) (i : Nat) (s : St) : Option Eff :=
  match (opsIn c)[i]? with
  | some o => match o.op with
    | .pick x y z => pickA (evalA s.env x) (evalA s.env y) (evalA s.env z)
    | _ => none
  | none => none
def nextP (Γ : Cx) (c : Code) (i : Nat) (v : AV) (s : St) : Option St :=
  match (opsIn c)[i]? with
  | some o => bif o.guard.isNone && dstOk Γ.nt o.dst then some ⟨putA o.dst false true v s.env, s.objs⟩ else none
  | none => none
theorem specP {v : AV} {x : Option Eff} (j : Nat) (hx : pickOf (nav p C) i s = x) (ho : OpIs x v [] [] none) (hn : nextP Γ (nav p C) i v s = some s') (hj : i + 1 = j) (hk : runFrom Γ C p j K s') : runFrom Γ C p i K s := by
  subst hj
  unfold runFrom at hk ⊢
  unfold pickOf at hx
  unfold nextP at hn
  split at hn
  · rename_i o hi
    rw [hi] at hx
    simp only at hx
    obtain ⟨hc, hn⟩ := bif_some hn
    simp only [Bool.and_eq_true] at hc
    obtain ⟨h1, h2⟩ := hc
    cases hn
    obtain ⟨ob, e1, hob⟩ := ho
    rw [drop_cons hi]
    show stepA _ _ _ _ _ _
    have hgN : o.guard = none := by simpa using h1
    split at hx
    · rename_i a b c hop
      unfold stepA
      rw [hgN]
      simp only [guardA, h2, Bool.not_true, cond_false]
      refine ⟨fun _ => .inl ?_, fun h => by cases h⟩
      unfold stepG
      rw [hop]
      have : opA Γ.ty (evalA s.env) s.objs (.pick a b c) = some ⟨v, [], [], none, ob⟩ := by rw [← e1, ← hx]; rfl
      simp only [this]
      refine ⟨fun _ => hob, ?_⟩
      rw [hgN]
      simpa [effA, rmA, updA] using hk
    · rw [← hx] at e1; cases e1
  · cases hn
end Go.AI
end
section
namespace Go.AI
def leAll : List (Nat × Nat) → Prop
  | [] => True
  | (a, b) :: r => a ≤ b ∧ leAll r
theorem leZ : leAll [] := trivial
theorem leK {a b : Nat} {r : List (Nat × Nat)} (h : a ≤ b) (hr : leAll r) : leAll ((a, b) :: r) := ⟨h, hr⟩
theorem leAll_append {l m : List (Nat × Nat)} (h : leAll (l ++ m)) : leAll l ∧ leAll m := by
  induction l with
  | nil => exact ⟨trivial, h⟩
  | cons a l ih => exact ⟨⟨h.1, (ih h.2).1⟩, (ih h.2).2⟩
def xD (objs : List (Option Ob)) : AV → Option (D × List Nat × List (Nat × Nat))
  | .d .nil => some (.sl [], [], [])
  | .d x => some (x, [], [])
  | .osl k sz lo n => match obA objs k with
    | some (.arr sz' es) => bif Nat.beq sz sz' then some (.sl ((es.drop lo).take n), [k], [(lo + n, es.length)]) else none
    | _ => none
  | _ => none
def xDs (objs : List (Option Ob)) : List AV → Option (List D × List Nat × List (Nat × Nat))
  | [] => some ([], [], [])
  | v :: vs => match xD objs v, xDs objs vs with
    | some (x, k, o), some (xs, ks, os) => some (x :: xs, k ++ ks, o ++ os)
    | _, _ => none
def xA (objs : List (Option Ob)) : AV → Option (AV × List Nat × List (Nat × Nat))
  | .agg l => match xDs objs l with
    | some (x, k, o) => some (.agg (x.map .d), k, o)
    | none => none
  | v => match xD objs v with
    | some (x, k, o) => some (.d x, k, o)
    | none => none
def xAs (objs : List (Option Ob)) : List AV → Option (List AV × List Nat × List (Nat × Nat))
  | [] => some ([], [], [])
  | v :: vs => match xA objs v, xAs objs vs with
    | some (x, k, o), some (xs, ks, os) => some (x :: xs, k ++ ks, o ++ os)
    | _, _ => none
theorem xD_ok {objs : List (Option Ob)} {v : AV} {x : D} {ks : List Nat} {o : List (Nat × Nat)} (h : xD objs v = some (x, ks, o)) (ho : leAll o) : ∃ ob, expD objs v = some ⟨x, ks, ob⟩ ∧ ob := by
  unfold xD at h
  split at h
  · cases h; exact ⟨_, rfl, trivial⟩
  · rename_i y hy
    cases h
    refine ⟨True, ?_, trivial⟩
    unfold expD
    split
    · rename_i e; cases e; exact absurd rfl hy
    · rename_i e; cases e; rfl
    · rename_i e; cases e
    · rename_i e1 _; exact absurd rfl (e1 _)
  · rename_i k sz lo n
    split at h
    · rename_i sz' es hob
      obtain ⟨hb, h⟩ := bif_some h
      cases h
      refine ⟨_, ?_, ho.1⟩
      simp only [expD, hob, hb, cond_true]
    · cases h
  · cases h
theorem xDs_ok {objs : List (Option Ob)} : ∀ {l : List AV} {x : List D} {ks : List Nat} {o : List (Nat × Nat)}, xDs objs l = some (x, ks, o) → leAll o → ∃ ob, expDs objs l = some ⟨x, ks, ob⟩ ∧ ob := by
  intro l
  induction l with
  | nil => intro x ks o h _; cases h; exact ⟨_, rfl, trivial⟩
  | cons v l ih =>
    intro x ks o h ho
    simp only [xDs] at h
    split at h
    · rename_i a b c a' b' c' h1 h2
      cases h
      obtain ⟨o1, o2⟩ := leAll_append ho
      obtain ⟨p1, e1, q1⟩ := xD_ok h1 o1
      obtain ⟨p2, e2, q2⟩ := ih h2 o2
      exact ⟨p1 ∧ p2, by simp only [expDs, e1, e2], q1, q2⟩
    · cases h
theorem xA_ok {objs : List (Option Ob)} {v x : AV} {ks : List Nat} {o : List (Nat × Nat)} (h : xA objs v = some (x, ks, o)) (ho : leAll o) : ∃ ob, expA objs v = some ⟨x, ks, ob⟩ ∧ ob := by
  unfold xA at h
  split at h
  · split at h
    · rename_i h1
      cases h
      obtain ⟨p1, e1, q1⟩ := xDs_ok h1 ho
      exact ⟨_, by simp only [expA, e1], q1⟩
    · cases h
  · rename_i hn
    split at h
    · rename_i h1
      cases h
      obtain ⟨p1, e1, q1⟩ := xD_ok h1 ho
      refine ⟨p1, ?_, q1⟩
      unfold expA
      split
      · exact absurd rfl (hn _)
      · rw [e1]
    · cases h
theorem xAs_ok {objs : List (Option Ob)} : ∀ {l : List AV} {x : List AV} {ks : List Nat} {o : List (Nat × Nat)}, xAs objs l = some (x, ks, o) → leAll o → ∃ ob, expAs objs l = some ⟨x, ks, ob⟩ ∧ ob := by
  intro l
  induction l with
  | nil => intro x ks o h _; cases h; exact ⟨_, rfl, trivial⟩
  | cons v l ih =>
    intro x ks o h ho
    simp only [xAs] at h
    split at h
    · rename_i a b c a' b' c' h1 h2
      cases h
      obtain ⟨o1, o2⟩ := leAll_append ho
      obtain ⟨p1, e1, q1⟩ := xA_ok h1 o1
      obtain ⟨p2, e2, q2⟩ := ih h2 o2
      exact ⟨p1 ∧ p2, by simp only [expAs, e1, e2], q1, q2⟩
    · cases h
def callAt (c : Code) (i : Nat) (s : St) : Option (FuncId × List AV × List Nat × List (Nat × Nat)) :=
  match (opsIn c)[i]? with
  | some o => match o.op with
    | .call ⟨.value (.func f), args, _⟩ => match xAs s.objs (args.toList.map fun x => unG (evalA s.env x)) with
      | some (x, ks, os) => some (f, x, ks, os)
      | none => none
    | _ => none
  | none => none
def lensC : List AV → List Nat
  | [] => []
  | .own _ es :: r => es.length :: lensC r
  | _ :: r => lensC r
def lensA : AV → List Nat
  | .own _ es => [es.length]
  | .agg l => lensC l
  | _ => []
def lensT : List AV → List Nat
  | [] => []
  | v :: r => lensA v ++ lensT r
def lensR : AV → List Nat
  | .tup l => lensT l
  | v => lensA v
def ilC (m : Bool) (n : Nat) : List Nat → List AV → List AV × List Nat
  | ls, [] => ([], ls)
  | ls, .own sz es :: r => bif m then (.osl n sz 0 (ls.headD 0) :: (ilC m (n + 1) ls.tail r).1, (ilC m (n + 1) ls.tail r).2) else (.d (.sl es) :: (ilC m n ls.tail r).1, (ilC m n ls.tail r).2)
  | ls, .d x :: r => (.d x :: (ilC m n ls r).1, (ilC m n ls r).2)
  | ls, _ :: r => (.top :: (ilC m n ls r).1, (ilC m n ls r).2)
def ilA (m : Bool) (n : Nat) (ls : List Nat) : AV → AV × List Nat
  | .own sz es => bif m then (.osl n sz 0 (ls.headD 0), ls.tail) else (.d (.sl es), ls.tail)
  | .agg l => (.agg (ilC m n ls l).1, (ilC m n ls l).2)
  | .d x => (.d x, ls)
  | _ => (.top, ls)
def ilT (m : Bool) (n : Nat) : List Nat → List AV → List AV
  | _, [] => []
  | ls, v :: r => (ilA m n ls v).1 :: ilT m (n + (impA m n v).2.length) (ilA m n ls v).2 r
def ilR (m : Bool) (n : Nat) (ls : List Nat) : AV → AV
  | .tup l => .tup (ilT m n ls l)
  | v => (ilA m n ls v).1
theorem ilC_ok (m : Bool) : ∀ (l : List AV) (n : Nat) (rest : List Nat), ilC m n (lensC l ++ rest) l = ((impC m n l).1, rest) := by
  intro l
  induction l with
  | nil => intro n rest; rfl
  | cons v l ih =>
    intro n rest
    cases v <;> simp only [lensC, List.cons_append, ilC, impC, List.headD_cons, List.tail_cons, ih] <;> try rfl
    cases m <;> simp only [cond_true, cond_false]
theorem ilA_ok (m : Bool) (v : AV) (n : Nat) (rest : List Nat) : ilA m n (lensA v ++ rest) v = ((impA m n v).1, rest) := by
  cases v with
  | own sz es => cases m <;> rfl
  | agg l => simp only [lensA, ilA, impA, ilC_ok]
  | _ => rfl
theorem ilT_ok (m : Bool) : ∀ (l : List AV) (n : Nat), ilT m n (lensT l) l = (impT m n l).1 := by
  intro l
  induction l with
  | nil => intro n; rfl
  | cons v l ih => intro n; simp only [lensT, ilT, impT, ilA_ok, ih]
theorem ilR_ok (m : Bool) (n : Nat) (r : AV) {ls : List Nat} (h : lensR r = ls) : ilR m n ls r = (impR m n r).1 := by
  subst h
  cases r with
  | tup l => simp only [lensR, ilR, impR, ilT_ok]
  | own sz es => have := ilA_ok m (.own sz es) n []; simp only [List.append_nil] at this; simp only [lensR, ilR, impR, this]
  | agg l => have := ilA_ok m (.agg l) n []; simp only [List.append_nil] at this; simp only [lensR, ilR, impR, this]
  | _ => rfl
def nextC (Γ : Cx) (c : Code) (i : Nat) (m : Bool) (ls : List Nat) (r : AV) (s : St) : Option St :=
  match (opsIn c)[i]? with
  | some o => bif o.guard.isNone && dstOk Γ.nt o.dst && (o.op.operands.toList.map (evalA s.env)).all notGv then some ⟨putA o.dst false true (ilR m s.objs.length ls r) s.env, s.objs ++ (impR m s.objs.length r).2.map some⟩ else none
  | none => none
def nextCG (Γ : Cx) (c : Code) (i : Nat) (g m : Bool) (ls : List Nat) (r : AV) (s : St) : Option St :=
  match (opsIn c)[i]? with
  | some o => bif o.guard.isSome && dstOk Γ.nt o.dst then some ⟨putA o.dst true g (ilR m s.objs.length ls r) s.env, s.objs ++ (impR m s.objs.length r).2.map some⟩ else none
  | none => none
variable {Γ : Cx} {C : Code} {p p0 p1 : List Nat} {Q : Ex → St → Prop} {s s' : St} {K : St → Prop} {i : Nat}
theorem args_gv {o : Oper} {f : FuncId} {args : Array Operand} {ts : Array TypeId} (hop : o.op = .call ⟨.value (.func f), args, ts⟩) {env : List (Nat × AV)} (h : (o.op.operands.toList.map (evalA env)).all notGv = true) : (args.toList.map (evalA env)).all notGv = true := by
  rw [hop] at h
  simp only [Op.operands, Call.operands] at h
  simp only [Array.toList_append, List.map_append, List.all_append, Bool.and_eq_true] at h
  exact h.2
theorem callS (j : Nat) (m : Bool) {f : FuncId} {xs ys : List AV} {ks : List Nat} {obl : List (Nat × Nat)} {r : AV} (hc : callAt (nav p C) i s = some (f, xs, ks, obl)) (hob : leAll obl) (hxs : xs = ys) (hr : Γ.calls f ys r) (hf : ks = [] ∨ flatR r) {ls : List Nat} (hls : lensR r = ls) (hn : nextC Γ (nav p C) i m ls r s = some s') (hj : i + 1 = j) (hk : runFrom Γ C p j K s') : runFrom Γ C p i K s := by
  subst hj
  subst hxs
  unfold runFrom at hk ⊢
  unfold callAt at hc
  unfold nextC at hn
  rw [ilR_ok m _ r hls] at hn
  split at hn
  · rename_i o hi
    rw [hi] at hc
    simp only at hc
    obtain ⟨hcc, hn⟩ := bif_some hn
    simp only [Bool.and_eq_true] at hcc
    obtain ⟨⟨h1, h2⟩, h3⟩ := hcc
    cases hn
    rw [drop_cons hi]
    show stepA _ _ _ _ _ _
    have hgN : o.guard = none := by simpa using h1
    split at hc
    · rename_i f' args ts hop
      split at hc
      · rename_i x ks' os hx
        cases hc
        obtain ⟨ob, e1, q1⟩ := xAs_ok hx hob
        unfold stepA
        rw [hgN]
        simp only [guardA, h2, Bool.not_true, cond_false]
        refine ⟨fun _ => .inl ?_, fun h => by cases h⟩
        unfold stepG
        rw [hop]
        refine ⟨gobA_of (args_gv hop h3), ?_⟩
        unfold callA
        rw [e1]
        refine ⟨fun _ => q1, m, r, fun _ => hr, ?_, ?_⟩
        · rcases hf with rfl | hf
          · trivial
          · cases ks.isEmpty <;> first | trivial | exact hf
        · rw [hgN]; exact hk
      · cases hc
    · cases hc
  · cases hn
theorem callG {g : Bool} {gs : List Bool} (j : Nat) (m : Bool) {f : FuncId} {xs ys : List AV} {ks : List Nat} {obl : List (Nat × Nat)} {r : AV} (hg : gAt (nav p C) i s = some g) (hc : callAt (nav p C) i s = some (f, xs, ks, obl)) (hob : leAll obl) (hxs : xs = ys) (hr : g = true → Γ.calls f ys r) (hf : ks = [] ∨ flatR r) (hgs : gvsAt (nav p C) i s = gs) (hi : impAll g gs) {ls : List Nat} (hls : lensR r = ls) (hn : nextCG Γ (nav p C) i g m ls r s = some s') (hj : i + 1 = j) (hk : runFrom Γ C p j K s') : runFrom Γ C p i K s := by
  subst hj
  subst hxs
  unfold runFrom at hk ⊢
  unfold callAt at hc
  unfold gAt at hg
  unfold gvsAt at hgs
  unfold nextCG at hn
  rw [ilR_ok m _ r hls] at hn
  split at hn
  · rename_i o hii
    rw [hii] at hc hg hgs
    simp only at hc hg hgs
    obtain ⟨hcc, hn⟩ := bif_some hn
    simp only [Bool.and_eq_true] at hcc
    obtain ⟨h1, h2⟩ := hcc
    cases hn
    rw [drop_cons hii]
    show stepA _ _ _ _ _ _
    cases hgo : o.guard with
    | none => rw [hgo] at h1; cases h1
    | some y =>
      rw [hgo] at hg
      simp only at hg
      split at hc
      · rename_i f' args ts hop
        split at hc
        · rename_i x ks' os hx
          cases hc
          obtain ⟨ob, e1, q1⟩ := xAs_ok hx hob
          unfold stepA
          rw [hgo]
          simp only [hg, h2, Bool.not_true, cond_false]
          refine ⟨fun hgt => .inl ?_, fun hgf => ⟨(impR m s.objs.length r).1, (impR m s.objs.length r).2, (fun hm => by rw [hop] at hm; cases hm), ?_⟩⟩
          · unfold stepG
            rw [hop]
            refine ⟨?_, ?_⟩
            · have := gobA_imp (g := g) (l := o.op.operands.toList.map (evalA s.env)) (by rw [hgs]; exact hi)
              rw [hop] at this
              simp only [Op.operands, Call.operands, Array.toList_append, List.map_append] at this
              exact this
            · unfold callA
              rw [e1]
              refine ⟨fun _ => q1, m, r, hr, ?_, ?_⟩
              · rcases hf with rfl | hf
                · trivial
                · cases ks.isEmpty <;> first | trivial | exact hf
              · rw [hgo]; exact hk
          · subst hgf; exact hk
        · cases hc
      · cases hc
  · cases hn
def resB1 (ty : Nat → Ty) (s : St) : ResultVar → Option AV
  | .tmp t => some (lkA s.env t)
  | .cell a t => match lkA s.env a with
    | .ptr k off => match obA s.objs k with
      | some (.box cells) => bif (ty t).ok && Nat.ble (off + (ty t).size) cells.length then ldCells cells off (ty t) else none
      | _ => none
    | _ => none
def resB (ty : Nat → Ty) (s : St) : List ResultVar → Option (List AV)
  | [] => some []
  | r :: rs => match resB1 ty s r, resB ty s rs with
    | some v, some vs => some (v :: vs)
    | _, _ => none
theorem resB1_ok {ty : Nat → Ty} {r : ResultVar} {v : AV} (h : resB1 ty s r = some v) : ∃ q, resV ty s r = some (v, q) ∧ q := by
  cases r with
  | tmp t => cases h; exact ⟨_, rfl, trivial⟩
  | cell a t =>
    simp only [resB1] at h
    split at h
    · rename_i k off ha
      split at h
      · rename_i cells hc
        obtain ⟨hb, h⟩ := bif_some h
        simp only [Bool.and_eq_true] at hb
        refine ⟨_, ?_, Nat.le_of_ble_eq_true hb.2⟩
        simp only [resV, hb.1, cond_true, ha, loadA, hc, h, valOb]
      · cases h
    · cases h
theorem resB_ok {ty : Nat → Ty} : ∀ {rs : List ResultVar} {vs : List AV}, resB ty s rs = some vs → ∃ q, resVs ty s rs = some (vs, q) ∧ q := by
  intro rs
  induction rs with
  | nil => intro vs h; cases h; exact ⟨_, rfl, trivial⟩
  | cons r rs ih =>
    intro vs h
    simp only [resB] at h
    split at h
    · rename_i v vs' h1 h2
      cases h
      obtain ⟨p1, e1, q1⟩ := resB1_ok h1
      obtain ⟨p2, e2, q2⟩ := ih h2
      exact ⟨p1 ∧ p2, by simp only [resVs, e1, e2], q1, q2⟩
    · cases h
theorem ret1 {ty : Nat → Ty} {rs : List ResultVar} {v r : AV} (ks : List Nat) (h : resB ty s rs = some [v]) (ho : outA s.objs v r) (hks : ksE (entA v r) = ks) (hnd : ks.Nodup) : retA ty rs r s := by
  have hn : (ksE (entA v r)).Nodup := by rw [hks]; exact hnd
  obtain ⟨q, e, hq⟩ := resB_ok h
  unfold retA
  rw [e]
  exact ⟨hq, ho, hn⟩
theorem retT {ty : Nat → Ty} {rs : List ResultVar} {vs l : List AV} (h : resB ty s rs = some vs) (hl : Nat.beq vs.length 1 = false) (ho : outT s.objs vs l) (ks : List Nat) (hks : ksE (entT vs l) = ks) (hnd : ks.Nodup) : retA ty rs (.tup l) s := by
  have hn : (ksE (entT vs l)).Nodup := by rw [hks]; exact hnd
  obtain ⟨q, e, hq⟩ := resB_ok h
  unfold retA
  rw [e]
  split
  · rename_i heq
    simp only [Option.some.injEq, Prod.mk.injEq] at heq
    obtain ⟨rfl, _⟩ := heq
    cases hl
  · rename_i heq
    simp only [Option.some.injEq, Prod.mk.injEq] at heq
    obtain ⟨rfl, rfl⟩ := heq
    exact ⟨hq, ho, hn⟩
  · rename_i heq; cases heq
theorem outV_d {objs : List (Option Ob)} {x : D} : outV objs (.d x) (.d x) := by
  cases x <;> first | rfl | exact .inl rfl
theorem outV_nilO {objs : List (Option Ob)} {sz : Nat} : outV objs (.d .nil) (.own sz []) := rfl
theorem outV_own {α : Type} {enc : α → List D} {xs : List α} {objs : List (Option Ob)} {k sz : Nat} (h : obA objs k = some (.arr sz (xs.map enc))) : outV objs (.osl k sz 0 xs.length) (.own sz (xs.map enc)) := by
  have hb : Nat.beq sz sz = true := Nat.beq_refl sz
  simp only [outV, h, hb, cond_true, List.length_map, Nat.zero_add, Nat.le_refl, List.drop_zero, true_and]
  exact (List.take_of_length_le (by simp)).symm
theorem fn_ok {P : Program} (hfol : P.follows .mixedOrders = true) (hΓ : CxOK P Γ) {f : FuncId} {fn : Func} {args : List AV} {r : AV} (hf : P.funcs[f]? = some fn) (hb : fn.body = some (bodyOf fn)) (hnm : (fn.name == "runtime.NumGoroutine") = false)
    (hnt : Γ.nt = fn.ntmps) (hlen : Nat.ble args.length fn.ntmps = true) (hs : (⟨(List.range args.length).zip args, []⟩ : St) = s) (h : wpA Γ (nav [] (bodyOf fn)) (postA Γ.ty fn.results.toList r) s) : CallOK P f args r :=
  callOK_of hfol hΓ hf hb hnm hnt (Nat.le_of_ble_eq_true hlen) (by rw [hs]; exact h)
theorem sh_gc (ts : List Nat) (h : gcA ts s = s') : Shift s s' := by subst h; exact .gc ts
theorem sh_refl : Shift s s := .refl s
def boxAt (s : St) (k : Nat) : List AV :=
  match obA s.objs k with
  | some (.box cells) => cells
  | _ => []
def isBox (s : St) (k : Nat) : Bool :=
  match obA s.objs k with
  | some (.box _) => true
  | _ => false
theorem boxAt_ok {k : Nat} (h : isBox s k = true) : obA s.objs k = some (.box (boxAt s k)) := by
  unfold isBox at h
  unfold boxAt
  split at h
  · rename_i hh; rw [hh]
  · cases h
theorem sh_nilc (k i sz : Nat) (h : (isBox s k, (boxAt s k)[i]?) = (true, some (.d .nil))) : Shift s ⟨s.env, s.objs.set k (some (.box ((boxAt s k).set i (.osl s.objs.length sz 0 0)))) ++ [some (.arr sz [])]⟩ := by
  simp only [Prod.mk.injEq] at h
  exact .nilc k i sz _ (boxAt_ok h.1) h.2
def arrOf (s : St) : AV → Option (Nat × Nat × Nat × Nat × List (List D))
  | .osl k sz lo n => match obA s.objs k with
    | some (.arr sz' es) => bif Nat.beq sz sz' then some (k, sz, lo, n, es) else none
    | _ => none
  | _ => none
theorem arrOf_ok {v : AV} {k sz lo n : Nat} {es : List (List D)} (h : arrOf s v = some (k, sz, lo, n, es)) : v = .osl k sz lo n ∧ obA s.objs k = some (.arr sz es) := by
  unfold arrOf at h
  split at h
  · split at h
    · rename_i hob
      obtain ⟨hb, h1⟩ := bif_some h
      clear h
      have h := h1
      have := Nat.eq_of_beq_eq_true hb
      subst this
      simp only [Option.some.injEq, Prod.mk.injEq] at h
      obtain ⟨rfl, rfl, rfl, rfl, rfl⟩ := h
      exact ⟨rfl, hob⟩
    · cases h
  · cases h
theorem sh_frz (t : Nat) (E : List (List D)) {k sz lo n : Nat} {es : List (List D)} (h : arrOf s (lkA s.env t) = some (k, sz, lo, n, es)) (hE : (es.drop lo).take n = E) (hn : lo + n ≤ es.length) : Shift s ⟨(t, .d (.sl E)) :: s.env, s.objs.set k none⟩ := by
  subst hE
  obtain ⟨h1, h2⟩ := arrOf_ok h
  exact .frzA t k sz lo n es h1 h2 hn
theorem sh_sub (t : Nat) (E : List (List D)) (M : Nat) {k sz lo n : Nat} {es : List (List D)} (h : arrOf s (lkA s.env t) = some (k, sz, lo, n, es)) (hE : (es.drop lo).take n = E) (hn : lo + n ≤ es.length) (hM : n = M) : Shift s ⟨(t, .osl s.objs.length sz 0 M) :: s.env, s.objs.set k none ++ [some (.arr sz E)]⟩ := by
  subst hE
  subst hM
  obtain ⟨h1, h2⟩ := arrOf_ok h
  exact .sub t k sz lo n es h1 h2 hn
theorem sh_frzc (kb i : Nat) (E : List (List D)) {k sz lo n : Nat} {es : List (List D)} (h : (isBox s kb, ((boxAt s kb)[i]?).bind (arrOf s)) = (true, some (k, sz, lo, n, es))) (hE : (es.drop lo).take n = E) (hn : lo + n ≤ es.length) : Shift s ⟨s.env, (s.objs.set k none).set kb (some (.box ((boxAt s kb).set i (.d (.sl E)))))⟩ := by
  subst hE
  simp only [Prod.mk.injEq, Option.bind_eq_some_iff] at h
  obtain ⟨h0, v, hv, h⟩ := h
  obtain ⟨h1, h2⟩ := arrOf_ok h
  subst h1
  exact .frzC kb i k sz lo n _ es (boxAt_ok h0) hv h2 hn
theorem sh_subc (kb i : Nat) (E : List (List D)) (M : Nat) {k sz lo n : Nat} {es : List (List D)} (h : (isBox s kb, ((boxAt s kb)[i]?).bind (arrOf s)) = (true, some (k, sz, lo, n, es))) (hE : (es.drop lo).take n = E) (hn : lo + n ≤ es.length) (hM : n = M) : Shift s ⟨s.env, (s.objs.set k none).set kb (some (.box ((boxAt s kb).set i (.osl s.objs.length sz 0 M)))) ++ [some (.arr sz E)]⟩ := by
  subst hE
  subst hM
  simp only [Prod.mk.injEq, Option.bind_eq_some_iff] at h
  obtain ⟨h0, v, hv, h⟩ := h
  obtain ⟨h1, h2⟩ := arrOf_ok h
  subst h1
  exact .subC kb i k sz lo n _ es (boxAt_ok h0) hv h2 hn
theorem sh_len (t k sz lo n m : Nat) (h : lkA s.env t = .osl k sz lo n) (e : n = m) : Shift s ⟨(t, .osl k sz lo m) :: s.env, s.objs⟩ := by
  subst e
  have := Shift.dup (st := s) t
  rwa [h] at this
theorem take_all {α : Type} {enc : α → List D} {xs : List α} : ((xs.map enc).drop 0).take xs.length = xs.map enc := by
  rw [List.drop_zero]; exact List.take_of_length_le (by simp)
theorem takeE {α : Type} {enc : α → List D} {xs : List α} : AV.d (.sl (((xs.map enc).drop 0).take xs.length)) = AV.d (.sl (xs.map enc)) := by rw [take_all]
theorem consE {a b : AV} {l m : List AV} (h : a = b) (h' : l = m) : a :: l = b :: m := by rw [h, h']
theorem aggE {l m : List AV} (h : l = m) : AV.agg l = AV.agg m := by rw [h]
def freshOf (Γ : Cx) (c : Code) (i : Nat) (s : St) : Option (List (List D)) :=
  match (opsIn c)[i]? with
  | some o => opF Γ.ty (fun x => unG (evalA s.env x)) o.op
  | none => none
def nextF (Γ : Cx) (c : Code) (i : Nat) (es : List (List D)) (s : St) : Option St :=
  match (opsIn c)[i]? with
  | some o => bif o.guard.isNone && dstOk Γ.nt o.dst && (o.op.operands.toList.map (evalA s.env)).all notGv then some ⟨putA o.dst false true (.d (.sl es)) s.env, s.objs⟩ else none
  | none => none
theorem specF (j : Nat) (es : List (List D)) (hx : freshOf Γ (nav p C) i s = some es) (hn : nextF Γ (nav p C) i es s = some s') (hj : i + 1 = j) (hk : runFrom Γ C p j K s') : runFrom Γ C p i K s := by
  subst hj
  unfold runFrom at hk ⊢
  unfold freshOf at hx
  unfold nextF at hn
  split at hn
  · rename_i o hi
    rw [hi] at hx
    simp only at hx
    obtain ⟨hc, hn⟩ := bif_some hn
    simp only [Bool.and_eq_true] at hc
    obtain ⟨⟨h1, h2⟩, h3⟩ := hc
    cases hn
    rw [drop_cons hi]
    show stepA _ _ _ _ _ _
    have hgN : o.guard = none := by simpa using h1
    unfold stepA
    rw [hgN]
    simp only [guardA, h2, Bool.not_true, cond_false]
    refine ⟨fun _ => .inr (.inl ?_), fun h => by cases h⟩
    unfold stepF
    rw [hx]
    refine ⟨gobA_of h3, ?_⟩
    rw [hgN]
    exact hk
  · cases hn
def opPl (Γ : Cx) (c : Code) (i : Nat) (s : St) : Option (AV × List Ob) :=
  match (opsIn c)[i]? with
  | some o => bif obOK Γ.ty (fun x => unG (evalA s.env x)) s.objs o.op then (match opA Γ.ty (fun x => unG (evalA s.env x)) s.objs o.op with
    | some ⟨v, obs, [], none, _⟩ => some (v, obs)
    | _ => none) else none
  | none => none
theorem is_pl {v : AV} {obs : List Ob} (h : opPl Γ (nav p C) i s = some (v, obs)) : OpIs (opOf Γ (nav p C) i s) v obs [] none := by
  unfold opPl at h
  unfold opOf
  split at h
  · rename_i o hi
    try rw [hi]
    obtain ⟨hb, h⟩ := bif_some h
    split at h
    · rename_i he
      cases h
      exact ⟨_, he, obOK_sound hb he⟩
    · cases h
  · cases h
theorem gimp {α : Type} {g : Bool} {x y : Option α} {z : α} (h : (if g = true then x else y) = some z) : g = true → x = some z := fun e => by rw [if_pos e] at h; exact h
end Go.AI
end
section
namespace Go.AI
def eI64 (n : Int) : List D := [.int .i64 n]
def eU8 (n : Int) : List D := [.int .u8 n]
def eB (b : Bool) : List D := [.bool b]
def eL {α : Type} (e : α → List D) (l : List α) : List D := [.sl (l.map e)]
variable {α κ : Type} {enc : α → List D} {objs : List (Option Ob)}
theorem OpIs.of {x : Option Eff} {v : AV} {obs : List Ob} {rm : List Nat} {upd : Option (Nat × Ob)} {ob : Prop} (h : x = some ⟨v, obs, rm, upd, ob⟩) (ho : ob) : OpIs x v obs rm upd := ⟨ob, h, ho⟩
theorem map_idx {xs : List α} {i : Int} {x : α} (h : idx xs i = some x) : (xs.map enc)[i.toNat]? = some (enc x) := by
  rw [List.getElem?_map, (idx_some h).2.2]; rfl
theorem is_idxD {xs : List α} {i : Int} {x : α} {esz eb : Nat} {ez : List D} (h : idx xs i = some x) (hl : Nat.beq (enc x).length esz = true) : OpIs (idxA (.slice esz eb ez) (.d (.sl (xs.map enc))) i) (.dptr (enc x) 0) [] [] none := by
  obtain ⟨h0, h1, _⟩ := idx_some h
  refine .of (ob := 0 ≤ i ∧ i < (xs.map enc).length ∧ (enc x).length = esz) ?_ ⟨h0, by simpa using h1, Nat.eq_of_beq_eq_true hl⟩
  simp only [idxA, valOb, map_idx (enc := enc) h, Option.getD_some]
theorem is_idxO {xs : List α} {i : Int} {x : α} {esz eb k : Nat} {ez : List D} (h : idx xs i = some x) : OpIs (idxA (.slice esz eb ez) (.osl k esz 0 xs.length) i) (.eptr k esz (0 + i.toNat) 0) [] [] none := by
  obtain ⟨h0, h1, _⟩ := idx_some h
  exact .of rfl ⟨h0, h1, rfl⟩
theorem is_ldA {xs : List α} {i : Int} {x : α} {k sz off : Nat} {t : Ty} {v : AV} (hk : obA objs k = some (.arr sz (xs.map enc))) (h : idx xs i = some x) (hv : ldCells ((enc x).map .d) off t = some v) (hl : Nat.ble (off + t.size) (enc x).length = true) :
    OpIs (loadA t objs (.eptr k sz (0 + i.toNat) off)) v [] [] none := by
  obtain ⟨h0, h1, _⟩ := idx_some h
  have e := map_idx (enc := enc) h
  refine .of (ob := sz = sz ∧ 0 + i.toNat < (xs.map enc).length ∧ off + t.size ≤ (enc x).length) ?_ ⟨rfl, ?_, Nat.le_of_ble_eq_true hl⟩
  · simp only [loadA, hk, Nat.zero_add, e, Option.getD_some, hv, valOb]
  · have := getElem?_lt e; omega
theorem is_stA {xs zs : List α} {i : Int} {x y : α} {k sz off : Nat} {t : Ty} {v : AV} {r : List D} {ks : List Nat} {obl : List (Nat × Nat)} (hk : obA objs k = some (.arr sz (xs.map enc))) (h : idx xs i = some x) (hz : put xs i y = some zs) (hx : xDs objs (cellsA v) = some (r, ks, obl)) (hob : leAll obl)
    (hc : (cellsOk v && (cellsA v).all solid && !ks.contains k) = true) (hy : spliceD (enc x) off r = enc y) (hl : (Nat.beq r.length t.size && Nat.ble (off + t.size) sz) = true) :
    OpIs (storeA t objs (.eptr k sz (0 + i.toNat) off) v) .top [] ks (some (k, .arr sz (zs.map enc))) := by
  obtain ⟨h0, h1, _⟩ := idx_some h
  have e := map_idx (enc := enc) h
  obtain ⟨ob, e1, q1⟩ := xDs_ok hx hob
  simp only [Bool.and_eq_true] at hl
  have hzz : zs = xs.set i.toNat y := by
    unfold put at hz
    split at hz
    · cases hz; rfl
    · cases hz
  refine .of (ob := sz = sz ∧ r.length = t.size ∧ 0 + i.toNat < (xs.map enc).length ∧ off + t.size ≤ sz ∧ ob) ?_ ⟨rfl, Nat.eq_of_beq_eq_true hl.1, ?_, Nat.le_of_ble_eq_true hl.2, q1⟩
  · simp only [storeA, hk, e1, hc, cond_true, Nat.zero_add, e, Option.getD_some, hy, hzz, List.map_set]
  · have := getElem?_lt e; omega
theorem app_ob {xs ys zs : List α} {eb : Nat} (h : app eb xs ys = some zs) : (xs.length + (ys.map enc).length) * eb ≤ 70368744177664 ∧ xs.length + (ys.map enc).length = zs.length ∧ zs = xs ++ ys := by
  obtain ⟨h1, h2⟩ := app_some h
  subst h2
  exact ⟨by simpa using h1, by simp, rfl⟩
theorem is_app {xs ys zs : List α} {esz eb k : Nat} {E : List (List D)} {ob : Prop} (hk : obA objs k = some (.arr esz (xs.map enc))) (hE : E = ys.map enc) (hl : ∀ y, (enc y).length = esz) (ho : ob) (h : app eb xs ys = some zs) :
    OpIs (appendA esz eb objs (.osl k esz 0 xs.length) E ob) (.osl objs.length esz 0 zs.length) [.arr esz (zs.map enc)] [k] none := by
  subst hE
  obtain ⟨h1, h2, h3⟩ := app_ob (enc := enc) h
  subst h3
  have hb : Nat.beq esz esz = true := Nat.beq_refl esz
  refine .of (ob := 0 + xs.length ≤ (xs.map enc).length ∧ (∀ e ∈ ys.map enc, e.length = esz) ∧ (xs.length + (ys.map enc).length) * eb ≤ 70368744177664 ∧ ob) ?_ ⟨by simp, ?_, h1, ho⟩
  · simp only [appendA, hk, hb, Bool.true_or, Bool.and_self, cond_true, List.drop_zero, h2]
    have e1 : List.take xs.length (List.map enc xs) = List.map enc xs := List.take_of_length_le (by simp)
    simp only [e1, List.map_append]
  · intro e he
    simp only [List.mem_map] at he
    obtain ⟨y, _, rfl⟩ := he
    exact hl y
theorem is_cat {x y z : List UInt8} (h : cat x y = some z) : OpIs (strA .add x y) (.d (.str z)) [] [] none := by
  unfold cat at h
  split at h
  · rename_i h0
    cases h
    exact .of rfl (by show ((x.length + y.length : Nat) : Int) ≤ 9223372036854775807; omega)
  · cases h
theorem is_sidx {s : List UInt8} {i b : Int} (h : sidx s i = some b) : OpIs (valOb (.d (.int .u8 (s[i.toNat]?.getD 0).toNat)) (0 ≤ i ∧ i < s.length)) (.d (.int .u8 b)) [] [] none := by
  unfold sidx at h
  split at h
  · rename_i h0
    cases h
    exact .of rfl h0
  · cases h
theorem is_ssub {s z : List UInt8} {l h : Int} (hz : sub s l h = some z) : OpIs (valOb (.d (.str ((s.take h.toNat).drop l.toNat))) (0 ≤ l ∧ l ≤ h ∧ h ≤ s.length)) (.d (.str z)) [] [] none := by
  unfold sub at hz
  split at hz
  · rename_i h0
    cases hz
    exact .of rfl h0
  · cases hz
theorem is_mk {zs : List α} {n : Int} {z : α} {esz eb : Nat} {ez : List D} (h : mkl eb n z = some zs) (he : enc z = ez) : OpIs (some ⟨.osl objs.length esz 0 n.toNat, [.arr esz (List.replicate n.toNat ez)], [], none, 0 ≤ n ∧ n = n ∧ n.toNat * eb ≤ 70368744177664⟩) (.osl objs.length esz 0 zs.length) [.arr esz (zs.map enc)] [] none := by
  unfold mkl at h
  split at h
  · rename_i h0
    cases h
    refine .of (ob := 0 ≤ n ∧ n = n ∧ n.toNat * eb ≤ 70368744177664) ?_ ⟨h0.1, rfl, h0.2⟩
    simp [he]
  · cases h
theorem is_bstr {bs : List Int} {z : List UInt8} (h : bstr bs = some z) {eb : Nat} : OpIs (convA (.slice 1 eb [.int .u8 0]) .string (.d (.sl (bs.map fun n => [.int .u8 n])))) (.d (.str z)) [] [] none := by
  unfold bstr at h
  split at h
  · rename_i h0
    cases h
    simp only [List.all_eq_true, Bool.and_eq_true, decide_eq_true_eq] at h0
    refine .of (ob := True ∧ ∀ e ∈ bs.map fun n => [D.int .u8 n], isByte e) ?_ ⟨trivial, ?_⟩
    · simp only [convA, elemsA, valOb, List.map_map]
      rfl
    · intro e he
      simp only [List.mem_map] at he
      obtain ⟨n, hn, rfl⟩ := he
      obtain ⟨h1, h2⟩ := h0 n hn
      refine ⟨UInt8.ofNat n.toNat, ?_⟩
      have : (UInt8.ofNat n.toNat).toNat = n.toNat := by simp; omega
      rw [this]
      congr 2
      omega
  · cases h
theorem is_len {xs : List α} {esz eb : Nat} {ez : List D} : OpIs (lenA (.slice esz eb ez) (.d (.sl (xs.map enc)))) (.d (.int .i64 xs.length)) [] [] none := by
  refine .of (ob := True) ?_ trivial
  simp only [lenA, val, List.length_map]
theorem is_slO {xs zs : List α} {l h : Int} {esz eb k : Nat} {ez : List D} (hz : sub xs l h = some zs) : OpIs (valOb (.osl k esz (0 + l.toNat) (h.toNat - l.toNat)) (0 ≤ l ∧ l ≤ h ∧ h ≤ (xs.length : Int) ∧ esz = esz)) (.osl k esz (0 + l.toNat) (h.toNat - l.toNat)) [] [] none := by
  unfold sub at hz
  split at hz
  · rename_i h0
    exact .of rfl ⟨h0.1, h0.2.1, h0.2.2, rfl⟩
  · cases hz
theorem sub_cut {xs zs : List α} {l h : Int} (hz : sub xs l h = some zs) : ((xs.map enc).drop (0 + l.toNat)).take (h.toNat - l.toNat) = zs.map enc := by
  unfold sub at hz
  split at hz
  · cases hz
    rw [Nat.zero_add, List.map_drop, List.map_take, List.take_drop]
    by_cases hh : l.toNat ≤ h.toNat
    · rw [Nat.add_sub_cancel' hh]
    · rename_i h0; omega
  · cases hz
theorem sub_le {xs zs : List α} {l h : Int} (hz : sub xs l h = some zs) : (0 + l.toNat) + (h.toNat - l.toNat) ≤ (xs.map enc).length := by
  unfold sub at hz
  split at hz
  · rename_i h0; simp; omega
  · cases hz
theorem sub_len {xs zs : List α} {l h : Int} (hz : sub xs l h = some zs) : h.toNat - l.toNat = zs.length := by
  unfold sub at hz
  split at hz
  · rename_i h0; cases hz; simp; omega
  · cases hz
theorem put_len {xs zs : List α} {i : Int} {y : α} (hz : put xs i y = some zs) : xs.length = zs.length := by
  unfold put at hz
  split at hz
  · cases hz; simp
  · cases hz
theorem cut_put {xs zs : List α} (h : xs.length = zs.length) : ((zs.map enc).drop 0).take xs.length = zs.map enc := by
  rw [h]; exact take_all
theorem le_put {xs zs : List α} (h : xs.length = zs.length) : 0 + xs.length ≤ (zs.map enc).length := by simp [h]
theorem bytes_map {s : List UInt8} : (s.map fun b => [D.int .u8 b.toNat]) = (bytesOf s).map fun n => [D.int .u8 n] := by
  simp only [bytesOf, List.map_map]; rfl
theorem guard_t {b : Bool} {u : Unit} (h : guardB b = some u) : b = true := by
  unfold guardB at h
  split at h
  · assumption
  · cases h
theorem guard_nz {b : Int} {u : Unit} (h : guardB (!(b == 0)) = some u) : b ≠ 0 := by
  have := guard_t h
  simpa using this
theorem guard_ge {b : Int} {u : Unit} (h : guardB (decide (0 ≤ b)) = some u) : 0 ≤ b := by
  have := guard_t h
  simpa using this
theorem is_ob {v : AV} {ob : Prop} (h : ob) : OpIs (valOb v ob) v [] [] none := .of rfl h
theorem pick_and {t x y : Bool} : OpIs (pickA (.d (.bool t)) (.gv t (.d (.bool x))) (.d (.bool y))) (.d (.bool (bif t then x else y))) [] [] none := .of rfl ⟨trivial, fun h => h, trivial⟩
theorem pick_or {t x y : Bool} : OpIs (pickA (.d (.bool t)) (.d (.bool x)) (.gv (!t) (.d (.bool y)))) (.d (.bool (bif t then x else y))) [] [] none := .of rfl ⟨trivial, trivial, fun h => h⟩
variable {encK : κ → List D} [DecidableEq κ]
def encM (encK : κ → List D) (enc : α → List D) (m : List (κ × α)) : List (List D × List D) := m.map fun p => (encK p.1, enc p.2)
theorem get_m {ks : List TK} (heq : ∀ a b, eqCells ks ((encK a).map .d) ((encK b).map .d) = some (decide (a = b))) (k : κ) (m : List (κ × α)) : getM ks (encK k) (encM encK enc m) = (mget k m).map enc := by
  induction m with
  | nil => rfl
  | cons p m ih =>
    have : eqK ks (encK k) (encK p.1) = decide (k = p.1) := by simp only [eqK, heq, Option.getD_some]
    simp only [encM, List.map_cons, getM, this, mget]
    by_cases h : k = p.1
    · simp only [h, decide_true, cond_true, if_true, Option.map_some]
    · simp only [h, decide_false, cond_false, if_false]; exact ih
theorem put_m {ks : List TK} (heq : ∀ a b, eqCells ks ((encK a).map .d) ((encK b).map .d) = some (decide (a = b))) (k : κ) (v : α) (m : List (κ × α)) : putM ks (encK k) (enc v) (encM encK enc m) = encM encK enc (mput k v m) := by
  induction m with
  | nil => rfl
  | cons p m ih =>
    have : eqK ks (encK k) (encK p.1) = decide (k = p.1) := by simp only [eqK, heq, Option.getD_some]
    simp only [encM, List.map_cons, putM, this, mput]
    by_cases h : k = p.1
    · simp only [h, decide_true, cond_true, if_true, List.map_cons]
    · simp only [h, decide_false, cond_false, if_false, List.map_cons]
      congr 1
theorem keys_m {ks : List TK} (heq : ∀ a b, eqCells ks ((encK a).map .d) ((encK b).map .d) = some (decide (a = b))) (k : κ) (m : List (κ × α)) : keysOk ks (encK k) (encM encK enc m) := by
  refine ⟨by rw [heq]; rfl, fun p hp => ?_⟩
  simp only [encM, List.mem_map] at hp
  obtain ⟨q, _, rfl⟩ := hp
  simp only [heq, Option.isSome_some]
theorem is_look1 {ks : List TK} {k : Nat} {m : List (κ × α)} {key : κ} {l : List AV} {z : α} {vz : List D} {e1 : α → D} (heq : ∀ a b, eqCells ks ((encK a).map .d) ((encK b).map .d) = some (decide (a = b))) (he : ∀ x, enc x = [e1 x]) (hz : vz = [e1 z]) (hk : obA objs k = some (.map true false (encM encK enc m))) (hx : xDs objs l = some (encK key, [], [])) (ok : Bool) :
    OpIs (lookA (.map ks true false vz) objs (.mp k) (.agg l) ok) (bif ok then .tup [.d (e1 ((mget key m).getD z)), .d (.bool (mget key m).isSome)] else .d (e1 ((mget key m).getD z))) [] [] none := by
  obtain ⟨ob, e2, q⟩ := xDs_ok hx leZ
  have hv : kvV false ((getM ks (encK key) (encM encK enc m)).getD vz) = .d (e1 ((mget key m).getD z)) := by
    rw [get_m heq, hz]
    cases mget key m with
    | none => rfl
    | some x => simp only [Option.map_some, Option.getD_some, he]; rfl
  have hs : (getM ks (encK key) (encM encK enc m)).isSome = (mget key m).isSome := by rw [get_m heq]; cases mget key m <;> rfl
  refine .of (ob := ob ∧ keysOk ks (encK key) (encM encK enc m)) ?_ ⟨q, keys_m heq key m⟩
  simp only [lookA, hk, kvA, cond_true, e2, List.isEmpty_nil, beq_self_eq_true, Bool.and_self, valOb, hv, hs]
theorem is_put1 {ks : List TK} {k : Nat} {m : List (κ × α)} {key : κ} {l : List AV} {v : AV} {y : α} {vz : List D} {e1 : α → D} (heq : ∀ a b, eqCells ks ((encK a).map .d) ((encK b).map .d) = some (decide (a = b))) (he : ∀ x, enc x = [e1 x]) (hz : Nat.beq vz.length 1 = true) (hk : obA objs k = some (.map true false (encM encK enc m))) (hx : xDs objs l = some (encK key, [], [])) (hv : v = .d (e1 y)) (hvx : xDs objs [v] = some (enc y, [], [])) :
    OpIs (mputA (.map ks true false vz) objs (.mp k) (.agg l) v) .top [] [] (some (k, .map true false (encM encK enc (mput key y m)))) := by
  obtain ⟨ob, e2, q⟩ := xDs_ok hx leZ
  obtain ⟨ob', e3, q'⟩ := xDs_ok hvx leZ
  have hkv : kvA objs false v = some ⟨enc y, [], ob'⟩ := by subst hv; exact e3
  refine .of (ob := ob ∧ ob' ∧ keysOk ks (encK key) (encM encK enc m) ∧ k ∉ ([] : List Nat) ∧ (enc y).length = vz.length) ?_ ⟨q, q', keys_m heq key m, by simp, by rw [he, Nat.eq_of_beq_eq_true hz]; rfl⟩
  simp only [mputA, hk, kvA, cond_true, e2]
  simp only [kvA] at hkv
  rw [hkv]
  simp only [put_m heq]
  rfl
end Go.AI
end
section
namespace Go.AI
variable {Γ : Cx} {C : Code} {p p0 p1 : List Nat} {Q : Ex → St → Prop} {s s' : St} {K : St → Prop} {i : Nat}
variable {α β : Type} {enc : β → List D} {encN : α → List AV} {objs : List (Option Ob)}
def nL {γ : Type} (sz : Nat) (e : γ → List D) (l : List γ) : List AV := [.own sz (l.map e)]
def keepOf (Γ : Cx) (c : Code) (i : Nat) (s : St) : Option (Nat × List (List D)) :=
  match (opsIn c)[i]? with
  | some o => opK Γ.ty (fun x => unG (evalA s.env x)) o.op
  | none => none
def nextK (Γ : Cx) (c : Code) (i : Nat) (obj : Bool) (esz : Nat) (es : List (List D)) (s : St) : Option St :=
  match (opsIn c)[i]? with
  | some o => bif !drIn c && o.guard.isNone && dstOk Γ.nt o.dst && (o.op.operands.toList.map (evalA s.env)).all notGv then (bif obj then some ⟨putA o.dst false true (.osl s.objs.length esz 0 es.length) s.env, s.objs ++ [some (.arr esz es)]⟩ else some ⟨putA o.dst false true (.d (.sl es)) s.env, s.objs⟩) else none
  | none => none
theorem specK (j : Nat) (obj : Bool) {esz : Nat} (es : List (List D)) (hx : keepOf Γ (nav p C) i s = some (esz, es)) (hn : nextK Γ (nav p C) i obj esz es s = some s') (hj : i + 1 = j) (hk : runFrom Γ C p j K s') : runFrom Γ C p i K s := by
  subst hj
  unfold runFrom at hk ⊢
  unfold keepOf at hx
  unfold nextK at hn
  split at hn
  · rename_i o hi
    rw [hi] at hx
    simp only at hx
    obtain ⟨hc, hn⟩ := bif_some hn
    simp only [Bool.and_eq_true, Bool.not_eq_true'] at hc
    obtain ⟨⟨⟨h0, h1⟩, h2⟩, h3⟩ := hc
    rw [drop_cons hi]
    show stepA _ _ _ _ _ _
    have hgN : o.guard = none := by simpa using h1
    unfold stepA
    rw [hgN]
    simp only [guardA, h2, Bool.not_true, cond_false]
    refine ⟨fun _ => .inr (.inr ⟨h0, hgN, ?_⟩), fun h => by cases h⟩
    rw [hx]
    refine ⟨gobA_of h3, ?_⟩
    cases obj with
    | true => rw [cond_true] at hn; cases hn; exact .inr hk
    | false => rw [cond_false] at hn; cases hn; exact .inl hk
  · cases hn
def arrAt (s : St) (k : Nat) : Option (Nat × List (List D)) :=
  match obA s.objs k with
  | some (.arr sz es) => some (sz, es)
  | _ => none
def narrAt (s : St) (k : Nat) : Option (Nat × List (List AV)) :=
  match obA s.objs k with
  | some (.narr sz es) => some (sz, es)
  | _ => none
theorem arrAt_ok {k sz : Nat} {es : List (List D)} (h : arrAt s k = some (sz, es)) : obA s.objs k = some (.arr sz es) := by
  unfold arrAt at h
  split at h
  · rename_i hh; cases h; exact hh
  · cases h
theorem narrAt_ok {k sz : Nat} {es : List (List AV)} (h : narrAt s k = some (sz, es)) : obA s.objs k = some (.narr sz es) := by
  unfold narrAt at h
  split at h
  · rename_i hh; cases h; exact hh
  · cases h
def nilB : AV → AV → Bool
  | .own 0 [], .own _ [] => true
  | _, _ => false
def nilBs : List AV → List AV → Bool
  | [], [] => true
  | a :: l, b :: m => nilB a b && nilBs l m
  | _, _ => false
def nilBss : List (List AV) → List (List AV) → Bool
  | [], [] => true
  | a :: l, b :: m => nilBs a b && nilBss l m
  | _, _ => false
theorem nilB_ok {a b : AV} (h : nilB a b = true) : a = .own 0 [] ∧ ∃ s, b = .own s [] := by
  unfold nilB at h
  split at h
  · exact ⟨rfl, _, rfl⟩
  · cases h
theorem nilBs_ok : ∀ {l m : List AV}, nilBs l m = true → l.length = m.length ∧ ∀ (j : Nat) (a a' : AV), l[j]? = some a → m[j]? = some a' → a = a' ∨ (a = .own 0 [] ∧ ∃ s, a' = .own s []) := by
  intro l
  induction l with
  | nil => intro m h; cases m with | nil => exact ⟨rfl, fun j a a' h => by simp at h⟩ | cons => cases h
  | cons a l ih =>
    intro m h
    cases m with
    | nil => cases h
    | cons b m =>
      simp only [nilBs, Bool.and_eq_true] at h
      obtain ⟨h1, h2⟩ := ih h.2
      refine ⟨by simp [h1], fun j x y hx hy => ?_⟩
      cases j with
      | zero => simp at hx hy; subst hx; subst hy; exact .inr (nilB_ok h.1)
      | succ j => exact h2 j x y (by simpa using hx) (by simpa using hy)
theorem nilBss_ok : ∀ {l m : List (List AV)}, nilBss l m = true → l.length = m.length ∧ ∀ (i : Nat) (e e' : List AV), l[i]? = some e → m[i]? = some e' → e.length = e'.length ∧ ∀ (j : Nat) (a a' : AV), e[j]? = some a → e'[j]? = some a' → a = a' ∨ (a = .own 0 [] ∧ ∃ s, a' = .own s []) := by
  intro l
  induction l with
  | nil => intro m h; cases m with | nil => exact ⟨rfl, fun j a a' h => by simp at h⟩ | cons => cases h
  | cons a l ih =>
    intro m h
    cases m with
    | nil => cases h
    | cons b m =>
      simp only [nilBss, Bool.and_eq_true] at h
      obtain ⟨h1, h2⟩ := ih h.2
      refine ⟨by simp [h1], fun j x y hx hy => ?_⟩
      cases j with
      | zero => simp at hx hy; subst hx; subst hy; exact nilBs_ok h.1
      | succ j => exact h2 j x y (by simpa using hx) (by simpa using hy)
theorem sh_toN (k : Nat) (E : List (List AV)) {sz : Nat} {es : List (List D)} (h : arrAt s k = some (sz, es)) (hb : nilBss (es.map fun e => e.map toN) E = true) : Shift s ⟨s.env, s.objs.set k (some (.narr sz E))⟩ := by
  have ho := arrAt_ok h
  obtain ⟨h1, h2⟩ := nilBss_ok hb
  have a := Shift.toN (st := s) k sz es ho
  have b := Shift.reown (st := ⟨s.env, s.objs.set k (some (.narr sz (es.map fun e => e.map toN)))⟩) k sz (es.map fun e => e.map toN) E (obA_set_same ho) h1 h2
  have := Shift.trans a b
  simpa using this
theorem sh_reN (k : Nat) {sz : Nat} {xss yss : List α} {row : List AV} {y : α} (h : narrAt s k = some (sz, xss.map encN ++ [row])) (hy : yss = xss ++ [y]) (hb : nilBs row (encN y) = true) : Shift s ⟨s.env, s.objs.set k (some (.narr sz (yss.map encN)))⟩ := by
  have ho := narrAt_ok h
  subst hy
  refine Shift.reown k sz _ _ ho (by simp) fun i e e' hi hi' => ?_
  rw [List.map_append] at hi'
  by_cases hlt : i < (xss.map encN).length
  · rw [List.getElem?_append_left hlt] at hi hi'
    rw [hi] at hi'
    cases hi'
    exact ⟨rfl, fun j a a' ha ha' => .inl (by rw [ha] at ha'; exact Option.some.inj ha')⟩
  · rw [List.getElem?_append_right (by omega)] at hi hi'
    have : i - (xss.map encN).length = 0 := by have := getElem?_lt hi; simp at this; simp at *; omega
    rw [this] at hi hi'
    simp at hi hi'
    subst hi; subst hi'
    exact nilBs_ok hb
theorem app_one {eb : Nat} {xss yss : List α} {y : α} (h : app eb xss [y] = some yss) : yss = xss ++ [y] := (app_some h).2
theorem is_appN {xss yss : List α} {y : α} {esz eb k : Nat} {e : List D} {ob : Prop} (hk : obA objs k = some (.narr esz (xss.map encN))) (hl : Nat.beq e.length esz = true) (ho : ob) (h : app eb xss [y] = some yss) :
    OpIs (appendA esz eb objs (.osl k esz 0 xss.length) [e] ob) (.osl objs.length esz 0 yss.length) [.narr esz (xss.map encN ++ [e.map toN])] [k] none := by
  obtain ⟨h1, h2⟩ := app_some h
  subst h2
  have hb : Nat.beq esz esz = true := Nat.beq_refl esz
  have h0 : Nat.beq 0 0 = true := rfl
  refine .of (ob := xss.length ≤ (xss.map encN).length ∧ (∀ e' ∈ [e], e'.length = esz) ∧ (xss.length + [e].length) * eb ≤ 70368744177664 ∧ ob) ?_ ⟨by simp, ?_, by simpa using h1, ho⟩
  · simp only [appendA, hk, hb, h0, Bool.and_self, cond_true]
    have e1 : List.take xss.length (List.map encN xss) = List.map encN xss := List.take_of_length_le (by simp)
    simp [e1]
  · intro e' he
    simp at he
    subst he
    exact Nat.eq_of_beq_eq_true hl
theorem sh_out (k j isz : Nat) {sz : Nat} {xss : List α} {x : α} {ys : List β} {n : Int} (h : narrAt s k = some (sz, xss.map encN)) (hx : idx xss n = some x) (hj : (encN x)[j]? = some (.own isz (ys.map enc))) :
    Shift s ⟨s.env, s.objs.set k (some (.narr sz ((xss.map encN).set n.toNat ((encN x).set j (.osl s.objs.length isz 0 ys.length))))) ++ [some (.arr isz (ys.map enc))]⟩ := by
  have ho := narrAt_ok h
  have hi : (xss.map encN)[n.toNat]? = some (encN x) := by rw [List.getElem?_map, (idx_some hx).2.2]; rfl
  have := Shift.out (st := s) k sz n.toNat j isz _ _ _ ho hi hj
  simpa using this
theorem sh_inn (k j m isz : Nat) {sz : Nat} {xss yss : List α} {x y : α} {row : List AV} {zs : List β} {n : Int} (h : (narrAt s k, arrAt s m) = (some (sz, (xss.map encN).set n.toNat row), some (isz, zs.map enc))) (hx : idx xss n = some x) (hr : row[j]? = some (.osl m isz 0 zs.length)) (hy : row.set j (.own isz (zs.map enc)) = encN y) (hp : xss.set n.toNat y = yss) :
    Shift s ⟨s.env, (s.objs.set m none).set k (some (.narr sz (yss.map encN)))⟩ := by
  simp only [Prod.mk.injEq] at h
  have ho := narrAt_ok h.1
  have hm := arrAt_ok h.2
  obtain ⟨h0, h1, _⟩ := idx_some hx
  have hlt : n.toNat < (xss.map encN).length := by simp; omega
  have hi : ((xss.map encN).set n.toNat row)[n.toNat]? = some row := List.getElem?_set_self hlt
  have hlen : zs.length = (zs.map enc).length := by simp
  rw [hlen] at hr
  have := Shift.inn (st := s) k sz n.toNat j m isz _ row (zs.map enc) ho hi hr hm
  rw [hy, List.set_set] at this
  rw [← hp, List.map_set]
  exact this
theorem is_ldN {xss : List α} {x : α} {row : List AV} {n : Int} {k sz off : Nat} {t : Ty} {v : AV} (hk : obA objs k = some (.narr sz ((xss.map encN).set n.toNat row))) (h : idx xss n = some x) (hv : ldCells row off t = some v) (hs : (cellsA v).all solid = true) (hl : Nat.ble (off + t.size) row.length = true) :
    OpIs (loadA t objs (.eptr k sz (0 + n.toNat) off)) v [] [] none := by
  obtain ⟨h0, h1, _⟩ := idx_some h
  have hlt : n.toNat < (xss.map encN).length := by simp; omega
  have hi : ((xss.map encN).set n.toNat row)[n.toNat]? = some row := List.getElem?_set_self hlt
  refine .of (ob := sz = sz ∧ 0 + n.toNat < ((xss.map encN).set n.toNat row).length ∧ off + t.size ≤ row.length ∧ (cellsA v).all solid = true) ?_ ⟨rfl, ?_, Nat.le_of_ble_eq_true hl, hs⟩
  · simp only [loadA, hk, Nat.zero_add, hi, Option.getD_some, hv, valOb]
  · simp only [List.length_set, Nat.zero_add]; exact hlt
theorem is_stN {xss : List α} {x : α} {row row' : List AV} {n : Int} {k sz off : Nat} {t : Ty} {v : AV} (hk : obA objs k = some (.narr sz ((xss.map encN).set n.toNat row))) (h : idx xss n = some x) (hc : (cellsOk v && (cellsA v).all solid) = true) (hy : splice row off (cellsA v) = row') (hl : (Nat.beq (cellsA v).length t.size && Nat.ble (off + t.size) sz) = true) :
    OpIs (storeA t objs (.eptr k sz (0 + n.toNat) off) v) .top [] [] (some (k, .narr sz ((xss.map encN).set n.toNat row'))) := by
  obtain ⟨h0, h1, _⟩ := idx_some h
  have hlt : n.toNat < (xss.map encN).length := by simp; omega
  have hi : ((xss.map encN).set n.toNat row)[n.toNat]? = some row := List.getElem?_set_self hlt
  simp only [Bool.and_eq_true] at hl
  refine .of (ob := sz = sz ∧ (cellsA v).length = t.size ∧ 0 + n.toNat < ((xss.map encN).set n.toNat row).length ∧ off + t.size ≤ sz) ?_ ⟨rfl, Nat.eq_of_beq_eq_true hl.1, ?_, Nat.le_of_ble_eq_true hl.2⟩
  · simp only [storeA, hk, hc, cond_true, Nat.zero_add, hi, Option.getD_some, hy, List.set_set]
  · simp only [List.length_set, Nat.zero_add]; exact hlt
theorem sh_frzN (t : Nat) {k sz : Nat} {xss : List α} {encD : α → List D} (h : (lkA s.env t, narrAt s k) = (.osl k sz 0 xss.length, some (sz, xss.map encN))) (hd : ∀ x, (encN x).map ofN = encD x) (hn : ∀ x, (encN x).all isN = true) : Shift s ⟨(t, .d (.sl (xss.map encD))) :: s.env, s.objs.set k none⟩ := by
  simp only [Prod.mk.injEq] at h
  have ho := narrAt_ok h.2
  have hlen : xss.length = (xss.map encN).length := by simp
  have ht := h.1
  rw [hlen] at ht
  have := Shift.frz (st := s) t k sz _ ht ho (fun e he a ha => by
    simp only [List.mem_map] at he
    obtain ⟨x, _, rfl⟩ := he
    exact List.all_eq_true.1 (hn x) a ha)
  have e1 : (List.map (fun e => List.map ofN e) (List.map encN xss)) = xss.map encD := by
    rw [List.map_map]
    exact List.map_congr_left fun x _ => hd x
  rw [e1] at this
  exact this
def clrAt (s : St) (k : Nat) : St :=
  match obA s.objs k with
  | some (.narr sz es) => ⟨s.env, s.objs.set k (some (.narr sz (es.map fun e => e.map clrA)))⟩
  | _ => s
theorem set_self {O : List (Option Ob)} {k : Nat} {ob : Ob} (h : obA O k = some ob) : O.set k (some ob) = O := by
  unfold obA at h
  split at h
  · rename_i hk
    cases h
    apply List.ext_getElem?
    intro i
    rw [List.getElem?_set]
    split
    · rename_i e; subst e
      split
      · exact hk.symm
      · rename_i hl; have := getElem?_lt hk; omega
    · rfl
  · cases h
theorem sh_gcN (ts : List Nat) (k : Nat) {sz : Nat} {xss : List α} (h : gcA ts s = clrAt s' k) (hn : narrAt s' k = some (sz, xss.map encN)) (hc : ∀ x, (encN x).map clrA = encN x) : Shift s s' := by
  have ho := narrAt_ok hn
  have e1 : clrAt s' k = s' := by
    unfold clrAt
    rw [ho]
    have e2 : (List.map (fun e => List.map clrA e) (List.map encN xss)) = xss.map encN := by
      rw [List.map_map]
      exact List.map_congr_left fun x _ => hc x
    simp only [e2, set_self ho]
  rw [e1] at h
  exact sh_gc ts h
end Go.AI
end
section
namespace Go.AI
variable {Γ : Cx} {C : Code} {p : List Nat} {Q : Ex → St → Prop} {s s' : St} {K : St → Prop} {i : Nat}
variable {α β ζ : Type}
theorem getD_ok {x : Option α} {d : α} (h : x.isSome = true) : x = some (x.getD d) := by
  cases x with
  | none => cases h
  | some x => rfl
structure WP (Γ : Cx) (C : Code) (p : List Nat) (Q : Ex → St → Prop) (s : St) : Prop where
  out : wpA Γ (nav p C) Q s
structure RF (Γ : Cx) (C : Code) (p : List Nat) (i : Nat) (Q : Ex → St → Prop) (s : St) : Prop where
  out : runFrom Γ C p i (Q .normal) s
structure PQ (Q : Ex → St → Prop) (e : Ex) (s : St) : Prop where
  out : Q e s
structure RA (ty : Nat → Ty) (rs : List ResultVar) (r : AV) (s : St) : Prop where
  out : retA ty rs r s
theorem RF.of {Γ : Cx} {C : Code} {p : List Nat} {i : Nat} {Q : Ex → St → Prop} {s s' : St} {j : Nat} (h : runFrom Γ C p j (Q .normal) s' → runFrom Γ C p i (Q .normal) s) (hk : RF Γ C p j Q s') : RF Γ C p i Q s := ⟨h hk.out⟩
theorem nav_snoc (k : Nat) : ∀ (p : List Nat) (C : Code), nav (p ++ [k]) C = child (nav p C) k := by
  intro p
  induction p with
  | nil => intro C; rfl
  | cons a p ih => intro C; exact ih (child C a)
def isSeq : Code → Bool
  | .seq _ _ => true
  | _ => false
def isCond : Code → Bool
  | .cond _ _ _ => true
  | _ => false
def isBlk (id : Nat) : Code → Bool
  | .block i _ => Nat.beq i id
  | _ => false
def isLoop : Code → Bool
  | .loop _ => true
  | _ => false
theorem seq_nav (h : isSeq (nav p C) = true) : nav p C = .seq (nav (p ++ [0]) C) (nav (p ++ [1]) C) := by
  rw [nav_snoc, nav_snoc]
  cases hc : nav p C <;> rw [hc] at h <;> first | rfl | cases h
theorem cond_nav (h : isCond (nav p C) = true) : nav p C = .cond (condOp (nav p C)) (nav (p ++ [0]) C) (nav (p ++ [1]) C) := by
  rw [nav_snoc, nav_snoc]
  cases hc : nav p C <;> rw [hc] at h <;> first | rfl | cases h
theorem blk_nav {id : Nat} (h : isBlk id (nav p C) = true) : nav p C = .block id (nav (p ++ [0]) C) := by
  rw [nav_snoc]
  cases hc : nav p C with
  | block j c => rw [hc] at h; have := Nat.eq_of_beq_eq_true h; subst this; rfl
  | _ => rw [hc] at h; cases h
theorem loop_nav (h : isLoop (nav p C) = true) : nav p C = .loop (nav (p ++ [0]) C) := by
  rw [nav_snoc]
  cases hc : nav p C <;> rw [hc] at h <;> first | rfl | cases h
theorem sq (hw : WP Γ C (p ++ [0]) (seqQ (wpA Γ (nav (p ++ [1]) C) Q) Q) s) (h : isSeq (nav p C) = true := by kernel_rfl) : WP Γ C p Q s := ⟨at_seq (seq_nav h) hw.out⟩
theorem rg (hs : Shift s s') (hk : RF Γ C p 0 (regQ C p s' Q) s') (h : isReg (nav p C) = true := by kernel_rfl) : WP Γ C p Q s := ⟨at_region h hs hk.out⟩
theorem rz (hk : RF Γ C p 0 (regQ C p s Q) s) (h : isReg (nav p C) = true := by kernel_rfl) : WP Γ C p Q s := ⟨at_region h sh_refl hk.out⟩
theorem sr (hk : RF Γ C (p ++ [0]) 0 (regQ C (p ++ [0]) s (seqQ (wpA Γ (nav (p ++ [1]) C) Q) Q)) s) (h : (isSeq (nav p C) && isReg (nav (p ++ [0]) C)) = true := by kernel_rfl) : WP Γ C p Q s := by
  simp only [Bool.and_eq_true] at h
  exact sq (rz hk h.2) h.1
theorem ae {s0 : St} (hk : PQ Q .normal s) (h : Nat.ble (opsIn (nav p C)).length i = true := by kernel_rfl) (hd : drawQ (drIn (nav p C)) (arrIn (nav p C)) s0.env s.env = true := by kernel_rfl) : RF Γ C p i (regQ C p s0 Q) s := ⟨at_end i h ⟨hd, hk.out⟩⟩
theorem en {s0 : St} {p' : List Nat} (hk : WP Γ C p' Q s) (h : Nat.ble (opsIn (nav p C)).length i = true := by kernel_rfl) (hd : drawQ (drIn (nav p C)) (arrIn (nav p C)) s0.env s.env = true := by kernel_rfl) : RF Γ C p i (regQ C p s0 (seqQ (wpA Γ (nav p' C) Q) Q)) s := ⟨at_end i h ⟨hd, ⟨s, .refl s, hk.out⟩⟩⟩
theorem bk (id : Nat) (hw : WP Γ C (p ++ [0]) (blockQ id Q) s) (h : isBlk id (nav p C) = true := by kernel_rfl) : WP Γ C p Q s := ⟨at_block id (blk_nav h) hw.out⟩
theorem ex (k : Nat) (hq : PQ Q (.exit k) s) (h : nav p C = .exit k := by kernel_rfl) : WP Γ C p Q s := ⟨at_exit k h hq.out⟩
theorem re (hq : PQ Q .ret s) (h : nav p C = .ret := by kernel_rfl) : WP Γ C p Q s := ⟨at_ret h hq.out⟩
theorem sk (hq : PQ Q .normal s) (h : nav p C = .skip := by kernel_rfl) : WP Γ C p Q s := ⟨at_skip h hq.out⟩
theorem cn {c : Bool} {x y : Option ζ} {r : ζ} (H : (if c = true then x else y) = some r) (h1 : x = some r → WP Γ C (p ++ [0]) Q s) (h2 : y = some r → WP Γ C (p ++ [1]) Q s) (h : isCond (nav p C) = true := by kernel_rfl) (hc : evalA s.env (condOp (nav p C)) = .d (.bool c) := by kernel_rfl) : WP Γ C p Q s := by
  refine ⟨at_cond c (cond_nav h) hc (fun e => ?_) (fun e => ?_)⟩
  · rw [if_pos e] at H; exact (h1 H).out
  · rw [if_neg (by rw [e]; simp)] at H; exact (h2 H).out
theorem sj {σ ζ : Type} (sJ : σ → St) (F : σ → Option ζ) (z : ζ) (hb : ∀ x, F x = some z → WP Γ C (p ++ [1]) Q (sJ x)) (ha : (∀ x, F x = some z → WP Γ C (p ++ [1]) Q (sJ x)) → WP Γ C (p ++ [0]) (seqQ (wpA Γ (nav (p ++ [1]) C) Q) Q) s) (h : isSeq (nav p C) = true := by kernel_rfl) : WP Γ C p Q s := sq (ha hb) h
theorem lp {σ ρ : Type} {body : σ → Option (σ ⊕ ρ)} {n : Nat} {x : σ} {r : ρ} (st : σ → St) (E : ρ → Ex → St → Prop) (hr : whl body n x = some r) (hs : Shift s (st x))
    (hb : ∀ x z, body x = some z → WP Γ C (p ++ [0]) (roundQ st E z) (st x)) (hE : ∀ e s, E r e s → PQ Q e s) (h : isLoop (nav p C) = true := by kernel_rfl) : WP Γ C p Q s := ⟨at_loop st E (loop_nav h) hr hs (fun x z hx => (hb x z hx).out) (fun e s he => (hE e s he).out)⟩
theorem fo {P : Program} {fn : Func} {f : FuncId} {args : List AV} {r : AV} (hfol : P.follows .mixedOrders = true) (hΓ : CxOK P Γ) (hf : P.funcs[f]? = some fn) (h : WP Γ (bodyOf fn) [] (postA Γ.ty fn.results.toList r) s)
    (hb : fn.body = some (bodyOf fn) := by kernel_rfl) (hnm : (fn.name == "runtime.NumGoroutine") = false := by kernel_rfl) (hnt : Γ.nt = fn.ntmps := by kernel_rfl) (hlen : Nat.ble args.length fn.ntmps = true := by kernel_rfl) (hs : (⟨(List.range args.length).zip args, []⟩ : St) = s := by kernel_rfl) : CallOK P f args r :=
  fn_ok hfol hΓ hf hb hnm hnt hlen hs h.out
theorem bx {G : Prop} {x : Option α} {f : α → Option β} {r : β} (h : x.bind f = some r) (k : ∀ a, x = some a → f a = some r → G) : G := by obtain ⟨a, h1, h2⟩ := bind_some h; exact k a h1 h2
theorem bs {x : Option α} {f : α → Option β} {r : β} (h : x.bind f = some r) : ∃ a, x = some a ∧ f a = some r := bind_some h
theorem qs (hs : Shift s s') (h : WP Γ C p Q s') : PQ (seqQ (wpA Γ (nav p C) Q) Q) .normal s := ⟨s', hs, h.out⟩
theorem qz (h : WP Γ C p Q s) : PQ (seqQ (wpA Γ (nav p C) Q) Q) .normal s := ⟨s, .refl s, h.out⟩
theorem qx {B : St → Prop} {k : Nat} (h : PQ Q (.exit k) s) : PQ (seqQ B Q) (.exit k) s := ⟨h.out⟩
theorem qr {B : St → Prop} (h : PQ Q .ret s) : PQ (seqQ B Q) .ret s := ⟨h.out⟩
theorem qN {id : Nat} (h : PQ Q .normal s) : PQ (blockQ id Q) .normal s := ⟨h.out⟩
theorem qH {id : Nat} (h : PQ Q .normal s) : PQ (blockQ id Q) (.exit id) s := ⟨q_blockH h.out⟩
theorem qX {id k : Nat} (hn : Nat.beq k id = false) (h : PQ Q (.exit k) s) : PQ (blockQ id Q) (.exit k) s := ⟨q_blockX hn h.out⟩
theorem qR {id : Nat} (h : PQ Q .ret s) : PQ (blockQ id Q) .ret s := ⟨h.out⟩
theorem og {σ ρ : Type} {st : σ → St} {E : ρ → Ex → St → Prop} {y : σ} (h : Shift s (st y)) : PQ (roundQ st E (.inl y)) .normal s := ⟨round_go h⟩
theorem oe {σ ρ : Type} {st : σ → St} {E : ρ → Ex → St → Prop} {r : ρ} {k : Nat} (h : E r (.exit k) s) : PQ (roundQ st E (.inr r)) (.exit k) s := ⟨round_exit h⟩
theorem or {σ ρ : Type} {st : σ → St} {E : ρ → Ex → St → Prop} {r : ρ} (h : E r .ret s) : PQ (roundQ st E (.inr r)) .ret s := ⟨round_ret h⟩
theorem pr {ty : Nat → Ty} {rs : List ResultVar} {r : AV} (h : RA ty rs r s) : PQ (postA ty rs r) .ret s := ⟨h.out⟩
def nxP (Γ : Cx) (C : Code) (p : List Nat) (i n : Nat) (s : St) : St := (runP Γ (opsIn (nav p C)) (((opsIn (nav p C)).drop i).take n) s).getD s
theorem ck (n : Nat) (hk : RF Γ C p (i + n) Q (nxP Γ C p i n s)) (h : (runP Γ (opsIn (nav p C)) (((opsIn (nav p C)).drop i).take n) s).isSome = true := by kernel_rfl) : RF Γ C p i Q s := ⟨chunk n _ (getD_ok h) rfl hk.out⟩
def OpAt (_ : St) (x : Option Eff) (v : AV) (obs : List Ob) (rm : List Nat) (upd : Option (Nat × Ob)) : Prop := OpIs x v obs rm upd
theorem sp {v : AV} {obs : List Ob} {rm : List Nat} {upd : Option (Nat × Ob)} {x : Option Eff} (ho : OpAt s x v obs rm upd) (hk : RF Γ C p (i + 1) Q ((nextS Γ (nav p C) i v obs rm upd s).getD s)) (hx : opOf Γ (nav p C) i s = x := by kernel_rfl) (hn : (nextS Γ (nav p C) i v obs rm upd s).isSome = true := by kernel_rfl) : RF Γ C p i Q s := ⟨spec _ hx ho (getD_ok hn) rfl hk.out⟩
def opV (Γ : Cx) (c : Code) (i : Nat) (s : St) : AV := match opOf Γ c i s with
  | some e => e.v
  | none => .top
theorem so {ob : Prop} (ho : ob) (hk : RF Γ C p (i + 1) Q ((nextS Γ (nav p C) i (opV Γ (nav p C) i s) [] [] none s).getD s)) (hx : opOf Γ (nav p C) i s = valOb (opV Γ (nav p C) i s) ob := by kernel_rfl) (hn : (nextS Γ (nav p C) i (opV Γ (nav p C) i s) [] [] none s).isSome = true := by kernel_rfl) : RF Γ C p i Q s := sp (is_ob ho) hk hx hn
theorem sG {g : Bool} {v : AV} {obs : List Ob} {x : Option Eff} {gs : List Bool} (ho : g = true → OpAt s x v obs [] none) (hi : impAll g gs) (hk : RF Γ C p (i + 1) Q ((nextG Γ (nav p C) i g v obs s).getD s)) (hg : gAt (nav p C) i s = some g := by kernel_rfl) (hx : opOf Γ (nav p C) i s = x := by kernel_rfl) (hgs : gvsAt (nav p C) i s = gs := by kernel_rfl) (hn : (nextG Γ (nav p C) i g v obs s).isSome = true := by kernel_rfl) : RF Γ C p i Q s := ⟨specG _ hg hx ho hgs hi (getD_ok hn) rfl hk.out⟩
theorem soG {g : Bool} {ob : Prop} {gs : List Bool} (ho : g = true → ob) (hi : impAll g gs) (hk : RF Γ C p (i + 1) Q ((nextG Γ (nav p C) i g (opV Γ (nav p C) i s) [] s).getD s)) (hg : gAt (nav p C) i s = some g := by kernel_rfl) (hx : opOf Γ (nav p C) i s = valOb (opV Γ (nav p C) i s) ob := by kernel_rfl) (hgs : gvsAt (nav p C) i s = gs := by kernel_rfl) (hn : (nextG Γ (nav p C) i g (opV Γ (nav p C) i s) [] s).isSome = true := by kernel_rfl) : RF Γ C p i Q s := sG (fun e => is_ob (ho e)) hi hk hg hx hgs hn
def plV (Γ : Cx) (c : Code) (i : Nat) (s : St) : AV × List Ob := (opPl Γ c i s).getD (.top, [])
theorem gp (g : Bool) {gs : List Bool} (hi : impAll g gs) (hk : RF Γ C p (i + 1) Q ((nextG Γ (nav p C) i g (plV Γ (nav p C) i s).1 (plV Γ (nav p C) i s).2 s).getD s)) (hg : gAt (nav p C) i s = some g := by kernel_rfl) (hp : (opPl Γ (nav p C) i s).isSome = true := by kernel_rfl) (hgs : gvsAt (nav p C) i s = gs := by kernel_rfl) (hn : (nextG Γ (nav p C) i g (plV Γ (nav p C) i s).1 (plV Γ (nav p C) i s).2 s).isSome = true := by kernel_rfl) : RF Γ C p i Q s :=
  ⟨specG _ hg rfl (fun _ => is_pl (getD_ok (d := (.top, [])) hp)) hgs hi (getD_ok hn) rfl hk.out⟩
def gl (Γ : Cx) (c : Code) (g : Bool) : Nat → Nat → St → Option (List Bool × St)
  | 0, _, s => some ([], s)
  | n + 1, i, s => match gAt c i s, (opPl Γ c i s).isSome, nextG Γ c i g (plV Γ c i s).1 (plV Γ c i s).2 s with
    | some g', true, some s1 => match gl Γ c g n (i + 1) s1 with
      | some (l, s2) => some (g' :: (gvsAt c i s ++ l), s2)
      | none => none
    | _, _, _ => none
theorem impAll_of {g : Bool} : ∀ {l : List Bool}, (∀ b ∈ l, b = g) → impAll g l := by
  intro l
  induction l with
  | nil => intro _; trivial
  | cons b l ih => intro h; exact ⟨fun e => by rw [h b (by simp)]; exact e, ih fun x hx => h x (by simp [hx])⟩
theorem gl_ok {g : Bool} : ∀ (n i : Nat) (s : St) (l : List Bool) (s2 : St), gl Γ (nav p C) g n i s = some (l, s2) → (∀ b ∈ l, b = g) → RF Γ C p (i + n) Q s2 → RF Γ C p i Q s := by
  intro n
  induction n with
  | zero => intro i s l s2 h _ hk; cases h; exact hk
  | succ n ih =>
    intro i s l s2 h hl hk
    simp only [gl] at h
    split at h
    · rename_i g' s1 h1 h2 h3
      split at h
      · rename_i l' s2' h4
        cases h
        have e : g' = g := hl g' (by simp)
        subst e
        have hlast := ih (i + 1) s1 l' s2 h4 (fun b hb => hl b (by simp [hb])) (by rw [Nat.add_assoc, Nat.add_comm 1 n]; exact hk)
        refine gp g' (impAll_of fun b hb => hl b (by simp [hb])) ?_ h1 h2 rfl (by rw [h3]; rfl)
        rw [h3]
        exact hlast
      · cases h
    · cases h
theorem gc (n : Nat) (g : Bool) (hk : RF Γ C p (i + n) Q ((gl Γ (nav p C) g n i s).getD ([], s)).2) (h1 : (gl Γ (nav p C) g n i s).isSome = true := by kernel_rfl) (h2 : ((gl Γ (nav p C) g n i s).getD ([], s)).1 = List.replicate ((gl Γ (nav p C) g n i s).getD ([], s)).1.length g := by kernel_rfl) : RF Γ C p i Q s := by
  refine gl_ok n i s _ _ (getD_ok (d := ([], s)) h1) (fun b hb => ?_) hk
  have hb' : b ∈ ((gl Γ (nav p C) g n i s).getD ([], s)).1 := hb
  rw [h2] at hb'
  exact List.eq_of_mem_replicate hb'
def bo : AV → Bool
  | .d (.bool b) => b
  | .gv _ (.d (.bool b)) => b
  | _ => false
def pkO (c : Code) (i : Nat) (s : St) : AV × AV × AV :=
  match (opsIn c)[i]? with
  | some o => match o.op with
    | .pick x y z => (evalA s.env x, evalA s.env y, evalA s.env z)
    | _ => (.top, .top, .top)
  | none => (.top, .top, .top)
def pkT (c : Code) (i : Nat) (s : St) : Bool := bo (pkO c i s).1
def pkX (c : Code) (i : Nat) (s : St) : Bool := bo (pkO c i s).2.1
def pkY (c : Code) (i : Nat) (s : St) : Bool := bo (pkO c i s).2.2
def pkV (c : Code) (i : Nat) (s : St) : AV := .d (.bool (bif pkT c i s then pkX c i s else pkY c i s))
theorem pA (hk : RF Γ C p (i + 1) Q ((nextP Γ (nav p C) i (pkV (nav p C) i s) s).getD s)) (h : pickOf (nav p C) i s = pickA (.d (.bool (pkT (nav p C) i s))) (.gv (pkT (nav p C) i s) (.d (.bool (pkX (nav p C) i s)))) (.d (.bool (pkY (nav p C) i s))) := by kernel_rfl) (hn : (nextP Γ (nav p C) i (pkV (nav p C) i s) s).isSome = true := by kernel_rfl) : RF Γ C p i Q s := ⟨specP _ h pick_and (getD_ok hn) rfl hk.out⟩
theorem pO (hk : RF Γ C p (i + 1) Q ((nextP Γ (nav p C) i (pkV (nav p C) i s) s).getD s)) (h : pickOf (nav p C) i s = pickA (.d (.bool (pkT (nav p C) i s))) (.d (.bool (pkX (nav p C) i s))) (.gv (!(pkT (nav p C) i s)) (.d (.bool (pkY (nav p C) i s)))) := by kernel_rfl) (hn : (nextP Γ (nav p C) i (pkV (nav p C) i s) s).isSome = true := by kernel_rfl) : RF Γ C p i Q s := ⟨specP _ h pick_or (getD_ok hn) rfl hk.out⟩
theorem sF (hk : RF Γ C p (i + 1) Q ((nextF Γ (nav p C) i ((freshOf Γ (nav p C) i s).getD []) s).getD s)) (hx : (freshOf Γ (nav p C) i s).isSome = true := by kernel_rfl) (hn : (nextF Γ (nav p C) i ((freshOf Γ (nav p C) i s).getD []) s).isSome = true := by kernel_rfl) : RF Γ C p i Q s := ⟨specF _ _ (getD_ok hx) (getD_ok hn) rfl hk.out⟩
theorem sK (obj : Bool) (hk : RF Γ C p (i + 1) Q ((nextK Γ (nav p C) i obj ((keepOf Γ (nav p C) i s).getD (0, [])).1 ((keepOf Γ (nav p C) i s).getD (0, [])).2 s).getD s)) (hx : (keepOf Γ (nav p C) i s).isSome = true := by kernel_rfl) (hn : (nextK Γ (nav p C) i obj ((keepOf Γ (nav p C) i s).getD (0, [])).1 ((keepOf Γ (nav p C) i s).getD (0, [])).2 s).isSome = true := by kernel_rfl) : RF Γ C p i Q s := ⟨specK _ obj _ (getD_ok (d := (0, [])) hx) (getD_ok hn) rfl hk.out⟩
theorem ca (m : Bool) {f : FuncId} {ys : List AV} {r : AV} (hr : Γ.calls f ys r) (hk : RF Γ C p (i + 1) Q ((nextC Γ (nav p C) i m (lensR r) r s).getD s)) (hc : callAt (nav p C) i s = some (f, ys, [], []) := by kernel_rfl) (hn : (nextC Γ (nav p C) i m (lensR r) r s).isSome = true := by kernel_rfl) : RF Γ C p i Q s := ⟨callS _ m hc leZ rfl hr (.inl rfl) rfl (getD_ok hn) rfl hk.out⟩
theorem cb (m : Bool) {f : FuncId} {xs ys : List AV} {ks : List Nat} {obl : List (Nat × Nat)} {r : AV} {ls : List Nat} (hob : leAll obl) (hxs : xs = ys) (hr : Γ.calls f ys r) (hf : ks = [] ∨ flatR r) (hls : lensR r = ls) (hk : RF Γ C p (i + 1) Q ((nextC Γ (nav p C) i m ls r s).getD s)) (hc : callAt (nav p C) i s = some (f, xs, ks, obl) := by kernel_rfl) (hn : (nextC Γ (nav p C) i m ls r s).isSome = true := by kernel_rfl) : RF Γ C p i Q s := ⟨callS _ m hc hob hxs hr hf hls (getD_ok hn) rfl hk.out⟩
theorem cG (m : Bool) {g : Bool} {gs : List Bool} {f : FuncId} {xs ys : List AV} {ks : List Nat} {obl : List (Nat × Nat)} {r : AV} {ls : List Nat} (hob : leAll obl) (hxs : xs = ys) (hr : g = true → Γ.calls f ys r) (hf : ks = [] ∨ flatR r) (hi : impAll g gs) (hls : lensR r = ls) (hk : RF Γ C p (i + 1) Q ((nextCG Γ (nav p C) i g m ls r s).getD s)) (hg : gAt (nav p C) i s = some g := by kernel_rfl) (hc : callAt (nav p C) i s = some (f, xs, ks, obl) := by kernel_rfl) (hgs : gvsAt (nav p C) i s = gs := by kernel_rfl) (hn : (nextCG Γ (nav p C) i g m ls r s).isSome = true := by kernel_rfl) : RF Γ C p i Q s := ⟨callG _ m hg hc hob hxs hr hf hgs hi hls (getD_ok hn) rfl hk.out⟩
theorem at_idxD (e : α → List D) {xs : List α} {n : Int} {x : α} (h : idx xs n = some x) : OpAt s (valOb (.dptr ((xs.map e)[n.toNat]?.getD []) 0) (0 ≤ n ∧ n < (xs.map e).length ∧ ((xs.map e)[n.toNat]?.getD []).length = (e x).length)) (.dptr (e x) 0) [] [] none :=
  is_idxD (esz := (e x).length) (eb := 0) (ez := []) h (Nat.beq_refl _)
theorem at_idxO (k esz : Nat) {xs : List α} {n : Int} {x : α} (h : idx xs n = some x) : OpAt s (valOb (.eptr k esz (0 + n.toNat) 0) (0 ≤ n ∧ n < (xs.length : Nat) ∧ esz = esz)) (.eptr k esz (0 + n.toNat) 0) [] [] none := is_idxO (esz := esz) (eb := 0) (ez := []) h
def ldV (l : List D) (off : Nat) (t : Ty) : AV := (ldCells (l.map .d) off t).getD .top
theorem at_ldA (e : α → List D) (k off : Nat) (t : Ty) {xs : List α} {n : Int} {x : α} (h : idx xs n = some x) (hk : obA s.objs k = some (.arr (e x).length (xs.map e)) := by kernel_rfl) (hv : (ldCells ((e x).map .d) off t).isSome = true := by kernel_rfl) (hl : Nat.ble (off + t.size) (e x).length = true := by kernel_rfl) :
    OpAt s (loadA t s.objs (.eptr k (e x).length (0 + n.toNat) off)) (ldV (e x) off t) [] [] none := is_ldA hk h (getD_ok hv) hl
def stV (c : Code) (i : Nat) (s : St) : AV :=
  match (opsIn c)[i]? with
  | some o => match o.op with
    | .store _ _ v => unG (evalA s.env v)
    | _ => .top
  | none => .top
def stR (c : Code) (i : Nat) (s : St) : List D := ((xDs s.objs (cellsA (stV c i s))).getD ([], [], [])).1
theorem stA (e : α → List D) (k off : Nat) (t : Ty) {xs zs : List α} {n : Int} {x y : α} (h : idx xs n = some x) (hz : put xs n y = some zs) (hk : RF Γ C p (i + 1) Q ((nextS Γ (nav p C) i .top [] [] (some (k, .arr (e x).length (zs.map e))) s).getD s))
    (h1 : obA s.objs k = some (.arr (e x).length (xs.map e)) := by kernel_rfl) (h2 : xDs s.objs (cellsA (stV (nav p C) i s)) = some (stR (nav p C) i s, [], []) := by kernel_rfl) (h3 : (cellsOk (stV (nav p C) i s) && (cellsA (stV (nav p C) i s)).all solid) = true := by kernel_rfl) (h4 : spliceD (e x) off (stR (nav p C) i s) = e y := by kernel_rfl) (h5 : (Nat.beq (stR (nav p C) i s).length t.size && Nat.ble (off + t.size) (e x).length) = true := by kernel_rfl)
    (hx : opOf Γ (nav p C) i s = storeA t s.objs (.eptr k (e x).length (0 + n.toNat) off) (stV (nav p C) i s) := by kernel_rfl) (hn : (nextS Γ (nav p C) i .top [] [] (some (k, .arr (e x).length (zs.map e))) s).isSome = true := by kernel_rfl) : RF Γ C p i Q s :=
  sp (is_stA h1 h hz h2 leZ (by rw [h3]; rfl) h4 h5) hk hx hn
theorem at_app (e : α → List D) (k esz : Nat) {xs ys zs : List α} {eb : Nat} (h : app eb xs ys = some zs) (hk : obA s.objs k = some (.arr esz (xs.map e)) := by kernel_rfl) (hl : ∀ y, (e y).length = esz := by intro _; rfl) : OpAt s (appendA esz eb s.objs (.osl k esz 0 xs.length) (ys.map e) True) (.osl s.objs.length esz 0 zs.length) [.arr esz (zs.map e)] [k] none := is_app hk rfl hl trivial h
theorem at_appS (k : Nat) {t : List UInt8} {xs zs : List Int} {eb : Nat} (h : app eb xs (bytesOf t) = some zs) (hk : obA s.objs k = some (.arr 1 (xs.map eU8)) := by kernel_rfl) : OpAt s (appendA 1 eb s.objs (.osl k 1 0 xs.length) (t.map fun b => [D.int .u8 b.toNat]) True) (.osl s.objs.length 1 0 zs.length) [.arr 1 (zs.map eU8)] [k] none := is_app (enc := eU8) hk bytes_map (fun _ => rfl) trivial h
theorem at_appO (e : α → List D) (k esz : Nat) {xs ys zs : List α} {eb : Nat} (h : app eb xs ys = some zs) (hk : obA s.objs k = some (.arr esz (xs.map e)) := by kernel_rfl) (hl : ∀ y, (e y).length = esz := by intro _; rfl) : OpAt s (appendA esz eb s.objs (.osl k esz 0 xs.length) (((ys.map e).drop 0).take ys.length) (0 + ys.length ≤ (ys.map e).length)) (.osl s.objs.length esz 0 zs.length) [.arr esz (zs.map e)] [k] none := is_app hk take_all hl (by simp) h
theorem at_cat {x y z : List UInt8} (h : cat x y = some z) : OpAt s (strA .add x y) (.d (.str z)) [] [] none := is_cat h
theorem at_sidx {t : List UInt8} {n b : Int} (h : sidx t n = some b) : OpAt s (valOb (.d (.int .u8 (t[n.toNat]?.getD 0).toNat)) (0 ≤ n ∧ n < t.length)) (.d (.int .u8 b)) [] [] none := is_sidx h
theorem at_ssub {t z : List UInt8} {l h : Int} (hz : sub t l h = some z) : OpAt s (valOb (.d (.str ((t.take h.toNat).drop l.toNat))) (0 ≤ l ∧ l ≤ h ∧ h ≤ t.length)) (.d (.str z)) [] [] none := is_ssub hz
theorem at_slO (k esz : Nat) {xs zs : List α} {l h : Int} (hz : sub xs l h = some zs) : OpAt s (valOb (.osl k esz (0 + l.toNat) (h.toNat - l.toNat)) (0 ≤ l ∧ l ≤ h ∧ h ≤ (xs.length : Int) ∧ esz = esz)) (.osl k esz (0 + l.toNat) (h.toNat - l.toNat)) [] [] none := is_slO (eb := 0) (ez := []) hz
theorem at_mk (e : α → List D) (esz : Nat) {zs : List α} {n : Int} {z : α} {eb : Nat} (h : mkl eb n z = some zs) : OpAt s (some ⟨.osl s.objs.length esz 0 n.toNat, [.arr esz (List.replicate n.toNat (e z))], [], none, 0 ≤ n ∧ n = n ∧ n.toNat * eb ≤ 70368744177664⟩) (.osl s.objs.length esz 0 zs.length) [.arr esz (zs.map e)] [] none := is_mk h rfl
theorem at_bstr {b : List Int} {z : List UInt8} (h : bstr b = some z) : OpAt s (convA (.slice 1 1 [.int .u8 0]) .string (.d (.sl (b.map fun n => [.int .u8 n])))) (.d (.str z)) [] [] none := is_bstr h
theorem at_len (e : α → List D) (xs : List α) : OpAt s (val (.d (.int .i64 (xs.map e).length))) (.d (.int .i64 xs.length)) [] [] none := is_len (esz := 0) (eb := 0) (ez := [])
theorem cl (ls : List Nat) {f : FuncId} {ys : List AV} {r : AV} (hr : Γ.calls f ys r) (hk : RF Γ C p (i + 1) Q ((nextC Γ (nav p C) i true ls r s).getD s)) (hls : lensR r = ls := by simp only [lensR, lensT, lensA, lensC, List.length_map, List.nil_append, List.append_nil, List.cons_append]) (hc : callAt (nav p C) i s = some (f, ys, [], []) := by kernel_rfl) (hn : (nextC Γ (nav p C) i true ls r s).isSome = true := by kernel_rfl) : RF Γ C p i Q s := ⟨callS _ true hc leZ rfl hr (.inl rfl) hls (getD_ok hn) rfl hk.out⟩
theorem at_ldN {encN : α → List AV} {xss : List α} {x : α} {row : List AV} {n : Int} {k sz off : Nat} {t : Ty} {v : AV} (h : idx xss n = some x) (hk : obA s.objs k = some (.narr sz ((xss.map encN).set n.toNat row)) := by kernel_rfl) (hv : ldCells row off t = some v := by kernel_rfl) (hs : (cellsA v).all solid = true := by kernel_rfl) (hl : Nat.ble (off + t.size) row.length = true := by kernel_rfl) :
    OpAt s (loadA t s.objs (.eptr k sz (0 + n.toNat) off)) v [] [] none := is_ldN hk h hv hs hl
theorem at_stN {encN : α → List AV} {xss : List α} {x : α} {row row' : List AV} {n : Int} {k sz off : Nat} {t : Ty} {v : AV} (h : idx xss n = some x) (hk : obA s.objs k = some (.narr sz ((xss.map encN).set n.toNat row)) := by kernel_rfl) (hc : (cellsOk v && (cellsA v).all solid) = true := by kernel_rfl) (hy : splice row off (cellsA v) = row' := by kernel_rfl) (hl : (Nat.beq (cellsA v).length t.size && Nat.ble (off + t.size) sz) = true := by kernel_rfl) :
    OpAt s (storeA t s.objs (.eptr k sz (0 + n.toNat) off) v) .top [] [] (some (k, .narr sz ((xss.map encN).set n.toNat row'))) := is_stN hk h hc hy hl
theorem at_appN {encN : α → List AV} {xss yss : List α} {y : α} {esz eb k : Nat} {e : List D} (h : app eb xss [y] = some yss) (hk : obA s.objs k = some (.narr esz (xss.map encN)) := by kernel_rfl) (hl : Nat.beq e.length esz = true := by kernel_rfl) :
    OpAt s (appendA esz eb s.objs (.osl k esz 0 xss.length) [e] True) (.osl s.objs.length esz 0 yss.length) [.narr esz (xss.map encN ++ [e.map toN])] [k] none := is_appN hk hl trivial h
theorem at_look1 {κ : Type} [DecidableEq κ] {encK : κ → List D} {enc : α → List D} {ks : List TK} {k : Nat} {m : List (κ × α)} {key : κ} {l : List AV} {z : α} {vz : List D} {e1 : α → D} (heq : ∀ a b, eqCells ks ((encK a).map .d) ((encK b).map .d) = some (decide (a = b))) (ok : Bool) (he : ∀ x, enc x = [e1 x] := by intro _; rfl) (hz : vz = [e1 z] := by kernel_rfl) (hk : obA s.objs k = some (.map true false (encM encK enc m)) := by kernel_rfl) (hx : xDs s.objs l = some (encK key, [], []) := by kernel_rfl) :
    OpAt s (lookA (.map ks true false vz) s.objs (.mp k) (.agg l) ok) (bif ok then .tup [.d (e1 ((mget key m).getD z)), .d (.bool (mget key m).isSome)] else .d (e1 ((mget key m).getD z))) [] [] none := is_look1 heq he hz hk hx ok
theorem at_put1 {κ : Type} [DecidableEq κ] {encK : κ → List D} {enc : α → List D} {ks : List TK} {k : Nat} {m : List (κ × α)} {key : κ} {l : List AV} {v : AV} {y : α} {vz : List D} {e1 : α → D} (heq : ∀ a b, eqCells ks ((encK a).map .d) ((encK b).map .d) = some (decide (a = b))) (he : ∀ x, enc x = [e1 x] := by intro _; rfl) (hz : Nat.beq vz.length 1 = true := by kernel_rfl) (hk : obA s.objs k = some (.map true false (encM encK enc m)) := by kernel_rfl) (hx : xDs s.objs l = some (encK key, [], []) := by kernel_rfl) (hv : v = .d (e1 y) := by kernel_rfl) (hvx : xDs s.objs [v] = some (enc y, [], []) := by kernel_rfl) :
    OpAt s (mputA (.map ks true false vz) s.objs (.mp k) (.agg l) v) .top [] [] (some (k, .map true false (encM encK enc (mput key y m)))) := is_put1 heq he hz hk hx hv hvx
def isDat : AV → Bool
  | .d _ => true
  | .agg l => l.all isDD
  | _ => false
theorem ksE_append (l m : List (Option (Nat × Nat × Nat))) : ksE (l ++ m) = ksE l ++ ksE m := by
  induction l with
  | nil => rfl
  | cons a l ih => cases a <;> simp [ksE, ih]
theorem entV_d {a : AV} (h : isDD a = true) : ksE (entV a a) = [] := by
  cases a with
  | d x => cases x <;> rfl
  | _ => cases h
theorem outV_dd {objs : List (Option Ob)} {a : AV} (h : isDD a = true) : outV objs a a := by
  cases a with
  | d x => exact outV_d
  | _ => cases h
theorem dat_C {objs : List (Option Ob)} : ∀ {l : List AV}, l.all isDD = true → outC objs l l ∧ ksE (entC l l) = [] := by
  intro l
  induction l with
  | nil => intro _; exact ⟨trivial, rfl⟩
  | cons a l ih =>
    intro h
    simp only [List.all_cons, Bool.and_eq_true] at h
    obtain ⟨h1, h2⟩ := ih h.2
    exact ⟨⟨outV_dd h.1, h1⟩, by simp only [entC, ksE_append, entV_d h.1, h2, List.append_nil]⟩
theorem dat_A {objs : List (Option Ob)} {a : AV} (h : isDat a = true) : outA objs a a ∧ ksE (entA a a) = [] := by
  cases a with
  | d x => exact ⟨outV_d, entV_d (a := .d x) rfl⟩
  | agg l => exact dat_C h
  | _ => cases h
theorem dat_T {objs : List (Option Ob)} : ∀ {l : List AV}, l.all isDat = true → outT objs l l ∧ ksE (entT l l) = [] := by
  intro l
  induction l with
  | nil => intro _; exact ⟨trivial, rfl⟩
  | cons a l ih =>
    intro h
    simp only [List.all_cons, Bool.and_eq_true] at h
    obtain ⟨h1, h2⟩ := ih h.2
    obtain ⟨h3, h4⟩ := dat_A (objs := objs) h.1
    exact ⟨⟨h3, h1⟩, by simp only [entT, ksE_append, h4, h2, List.append_nil]⟩
theorem rd {ty : Nat → Ty} {rs : List ResultVar} {r : AV} (hd : isDat r = true := by kernel_rfl) (h : resB ty s rs = some [r] := by kernel_rfl) : RA ty rs r s := ⟨ret1 [] h (dat_A hd).1 (dat_A (objs := []) hd).2 (by simp)⟩
theorem rdT {ty : Nat → Ty} {rs : List ResultVar} {l : List AV} (hd : l.all isDat = true := by kernel_rfl) (h : resB ty s rs = some l := by kernel_rfl) (hl : Nat.beq l.length 1 = false := by kernel_rfl) : RA ty rs (.tup l) s := ⟨retT h hl (dat_T hd).1 [] (dat_T (objs := []) hd).2 (by simp)⟩
structure OV (s : St) (a r : AV) : Prop where
  out : outV s.objs a r
structure OC (s : St) (a r : List AV) : Prop where
  out : outC s.objs a r
structure OA (s : St) (a r : AV) : Prop where
  out : outA s.objs a r
structure OT (s : St) (a r : List AV) : Prop where
  out : outT s.objs a r
theorem c0 : OC s [] [] := ⟨trivial⟩
theorem c1 {a r : AV} {l m : List AV} (h : OV s a r) (h' : OC s l m) : OC s (a :: l) (r :: m) := ⟨⟨h.out, h'.out⟩⟩
theorem a1 {l m : List AV} (h : OC s l m) : OA s (.agg l) (.agg m) := ⟨h.out⟩
theorem ad {x : D} {r : AV} (h : OV s (.d x) r) : OA s (.d x) r := ⟨h.out⟩
theorem ao {k sz lo n : Nat} {r : AV} (h : OV s (.osl k sz lo n) r) : OA s (.osl k sz lo n) r := ⟨h.out⟩
theorem t0 : OT s [] [] := ⟨trivial⟩
theorem t1 {a r : AV} {l m : List AV} (h : OA s a r) (h' : OT s l m) : OT s (a :: l) (r :: m) := ⟨⟨h.out, h'.out⟩⟩
theorem vd {x : D} : OV s (.d x) (.d x) := ⟨outV_d⟩
theorem vz {sz : Nat} : OV s (.d .nil) (.own sz []) := ⟨outV_nilO⟩
theorem vo {enc : α → List D} {xs : List α} {k sz : Nat} (h : obA s.objs k = some (.arr sz (xs.map enc)) := by kernel_rfl) : OV s (.osl k sz 0 xs.length) (.own sz (xs.map enc)) := ⟨outV_own h⟩
theorem rO {ty : Nat → Ty} {rs : List ResultVar} {v r : AV} (ks : List Nat) (ho : OA s v r) (h : resB ty s rs = some [v] := by kernel_rfl) (hks : ksE (entA v r) = ks := by kernel_rfl) (hnd : ks.Nodup := by decide) : RA ty rs r s := ⟨ret1 ks h ho.out hks hnd⟩
theorem rT {ty : Nat → Ty} {rs : List ResultVar} {vs l : List AV} (ks : List Nat) (ho : OT s vs l) (h : resB ty s rs = some vs := by kernel_rfl) (hl : Nat.beq vs.length 1 = false := by kernel_rfl) (hks : ksE (entT vs l) = ks := by kernel_rfl) (hnd : ks.Nodup := by decide) : RA ty rs (.tup l) s := ⟨retT h hl ho.out ks hks hnd⟩
end Go.AI
end
section
namespace Go.AI
open Go.Proofs
theorem inf3 : ∃ i, Try.prog.info? 3 = some i ∧ i.size = 1 ∧ i.bytes = 8 ∧ i.zero = some (.int .i64 0) := info_of (by kernel_rfl)
theorem inf4 : ∃ i, Try.prog.info? 4 = some i ∧ i.size = 1 ∧ i.bytes = 1 ∧ i.zero = some (.bool false) := info_of (by kernel_rfl)
theorem inf5 : ∃ i, Try.prog.info? 5 = some i ∧ i.size = 1 ∧ i.bytes = 1 ∧ i.zero = some (.int .u8 0) := info_of (by kernel_rfl)
theorem inf9 : ∃ i, Try.prog.info? 9 = some i ∧ i.size = 1 ∧ i.bytes = 16 ∧ i.zero = some (.string ⟨#[]⟩) := info_of (by kernel_rfl)
theorem inf22 : ∃ i, Try.prog.info? 22 = some i ∧ i.size = 1 ∧ i.bytes = 24 ∧ i.zero = some (.slice none 0 0) := info_of (by kernel_rfl)
theorem inf24 : ∃ i, Try.prog.info? 24 = some i ∧ i.size = 3 ∧ i.bytes = 32 ∧ i.zero = some (.agg #[.int .u8 0, .int .u8 0, .slice none 0 0]) := info_of (by kernel_rfl)
theorem inf26 : ∃ i, Try.prog.info? 26 = some i ∧ i.size = 3 ∧ i.bytes = 24 ∧ i.zero = some (.agg #[.int .i64 0, .int .i64 0, .int .u8 0]) := info_of (by kernel_rfl)
theorem inf27 : ∃ i, Try.prog.info? 27 = some i ∧ i.size = 1 ∧ i.bytes = 24 ∧ i.zero = some (.slice none 0 0) := info_of (by kernel_rfl)
theorem inf29 : ∃ i, Try.prog.info? 29 = some i ∧ i.size = 1 ∧ i.bytes = 24 ∧ i.zero = some (.slice none 0 0) := info_of (by kernel_rfl)
theorem inf31 : ∃ i, Try.prog.info? 31 = some i ∧ i.size = 3 ∧ i.bytes = 40 ∧ i.zero = some (.agg #[.int .i64 0, .int .u8 0, .slice none 0 0]) := info_of (by kernel_rfl)
theorem inf33 : ∃ i, Try.prog.info? 33 = some i ∧ i.size = 1 ∧ i.bytes = 24 ∧ i.zero = some (.slice none 0 0) := info_of (by kernel_rfl)
theorem inf34 : ∃ i, Try.prog.info? 34 = some i ∧ i.size = 1 ∧ i.bytes = 1 ∧ i.zero = some (.int .i8 0) := info_of (by kernel_rfl)
theorem inf39 : ∃ i, Try.prog.info? 39 = some i ∧ i.size = 1 ∧ i.bytes = 24 ∧ i.zero = some (.slice none 0 0) := info_of (by kernel_rfl)
theorem inf41 : ∃ i, Try.prog.info? 41 = some i ∧ i.size = 7 ∧ i.bytes = 80 ∧ i.zero = some (.agg #[.string ⟨#[]⟩, .slice none 0 0, .int .i64 0, .int .i64 0, .int .i64 0, .int .u8 0, .bool false]) := info_of (by kernel_rfl)
theorem inf44 : ∃ i, Try.prog.info? 44 = some i ∧ i.size = 1 ∧ i.bytes = 24 ∧ i.zero = some (.slice none 0 0) := info_of (by kernel_rfl)
theorem inf47 : ∃ i, Try.prog.info? 47 = some i ∧ i.size = 1 ∧ i.bytes = 24 ∧ i.zero = some (.slice none 0 0) := info_of (by kernel_rfl)
theorem inf50 : ∃ i, Try.prog.info? 50 = some i ∧ i.size = 1 ∧ i.bytes = 24 ∧ i.zero = some (.slice none 0 0) := info_of (by kernel_rfl)
theorem inf55 : ∃ i, Try.prog.info? 55 = some i ∧ i.size = 6 ∧ i.bytes = 64 ∧ i.zero = some (.agg #[.string ⟨#[]⟩, .slice none 0 0, .int .u8 0, .int .u8 0, .int .i64 0, .int .i64 0]) := info_of (by kernel_rfl)
theorem inf57 : ∃ i, Try.prog.info? 57 = some i ∧ i.size = 2 ∧ i.bytes = 48 ∧ i.zero = some (.agg #[.slice none 0 0, .slice none 0 0]) := info_of (by kernel_rfl)
theorem inf64 : ∃ i, Try.prog.info? 64 = some i ∧ i.size = 1 ∧ i.bytes = 1 ∧ i.zero = some (.int .u8 0) := info_of (by kernel_rfl)
theorem inf67 : ∃ i, Try.prog.info? 67 = some i ∧ i.size = 2 ∧ i.bytes = 2 ∧ i.zero = some (.agg #[.int .u8 0, .int .u8 0]) := info_of (by kernel_rfl)
theorem inf69 : ∃ i, Try.prog.info? 69 = some i ∧ i.size = 6 ∧ i.bytes = 56 ∧ i.zero = some (.agg #[.slice none 0 0, .slice none 0 0, .int .u8 0, .int .u8 0, .int .u8 0, .int .u8 0]) := info_of (by kernel_rfl)
theorem inf74 : ∃ i, Try.prog.info? 74 = some i ∧ i.size = 1 ∧ i.bytes = 8 ∧ i.zero = some (.int .i64 0) := info_of (by kernel_rfl)
theorem inf77 : ∃ i, Try.prog.info? 77 = some i ∧ i.size = 1 ∧ i.bytes = 24 ∧ i.zero = some (.slice none 0 0) := info_of (by kernel_rfl)
theorem inf84 : ∃ i, Try.prog.info? 84 = some i ∧ i.size = 3 ∧ i.bytes = 24 ∧ i.zero = some (.agg #[.int .i64 0, .int .i64 0, .int .i64 0]) := info_of (by kernel_rfl)
theorem inf87 : ∃ i, Try.prog.info? 87 = some i ∧ i.size = 1 ∧ i.bytes = 24 ∧ i.zero = some (.slice none 0 0) := info_of (by kernel_rfl)
theorem inf95 : ∃ i, Try.prog.info? 95 = some i ∧ i.size = 1 ∧ i.bytes = 8 ∧ i.zero = some (.pointer none) := info_of (by kernel_rfl)
theorem inf102 : ∃ i, Try.prog.info? 102 = some i ∧ i.size = 1 ∧ i.bytes = 8 ∧ i.zero = some (.pointer none) := info_of (by kernel_rfl)
theorem inf107 : ∃ i, Try.prog.info? 107 = some i ∧ i.size = 2 ∧ i.bytes = 16 ∧ i.zero = some (.agg #[.int .i64 0, .int .i64 0]) := info_of (by kernel_rfl)
theorem inf110 : ∃ i, Try.prog.info? 110 = some i ∧ i.size = 1 ∧ i.bytes = 8 ∧ i.zero = some (.map none) := info_of (by kernel_rfl)
theorem inf114 : ∃ i, Try.prog.info? 114 = some i ∧ i.size = 1 ∧ i.bytes = 8 ∧ i.zero = some (.map none) := info_of (by kernel_rfl)
theorem inf116 : ∃ i, Try.prog.info? 116 = some i ∧ i.size = 3 ∧ i.bytes = 40 ∧ i.zero = some (.agg #[.pointer none, .slice none 0 0, .map none]) := info_of (by kernel_rfl)
theorem inf118 : ∃ i, Try.prog.info? 118 = some i ∧ i.size = 2 ∧ i.bytes = 16 ∧ i.zero = some (.agg #[.int .i64 0, .int .i64 0]) := info_of (by kernel_rfl)
theorem inf119 : ∃ i, Try.prog.info? 119 = some i ∧ i.size = 1 ∧ i.bytes = 24 ∧ i.zero = some (.slice none 0 0) := info_of (by kernel_rfl)
theorem inf121 : ∃ i, Try.prog.info? 121 = some i ∧ i.size = 3 ∧ i.bytes = 72 ∧ i.zero = some (.agg #[.slice none 0 0, .slice none 0 0, .slice none 0 0]) := info_of (by kernel_rfl)
theorem inf124 : ∃ i, Try.prog.info? 124 = some i ∧ i.size = 1 ∧ i.bytes = 24 ∧ i.zero = some (.slice none 0 0) := info_of (by kernel_rfl)
theorem inf128 : ∃ i, Try.prog.info? 128 = some i ∧ i.size = 3 ∧ i.bytes = 32 ∧ i.zero = some (.agg #[.int .i64 0, .int .i64 0, .string ⟨#[]⟩]) := info_of (by kernel_rfl)
theorem inf130 : ∃ i, Try.prog.info? 130 = some i ∧ i.size = 2 ∧ i.bytes = 32 ∧ i.zero = some (.agg #[.slice none 0 0, .int .i64 0]) := info_of (by kernel_rfl)
theorem inf131 : ∃ i, Try.prog.info? 131 = some i ∧ i.size = 1 ∧ i.bytes = 24 ∧ i.zero = some (.slice none 0 0) := info_of (by kernel_rfl)
theorem inf132 : ∃ i, Try.prog.info? 132 = some i ∧ i.size = 1 ∧ i.bytes = 8 ∧ i.zero = some (.pointer none) := info_of (by kernel_rfl)
theorem inf135 : ∃ i, Try.prog.info? 135 = some i ∧ i.size = 1 ∧ i.bytes = 8 ∧ i.zero = some (.pointer none) := info_of (by kernel_rfl)
theorem inf137 : ∃ i, Try.prog.info? 137 = some i ∧ i.size = 4 ∧ i.bytes = 64 ∧ i.zero = some (.agg #[.int .i64 0, .int .u8 0, .slice none 0 0, .slice none 0 0]) := info_of (by kernel_rfl)
theorem inf139 : ∃ i, Try.prog.info? 139 = some i ∧ i.size = 1 ∧ i.bytes = 24 ∧ i.zero = some (.slice none 0 0) := info_of (by kernel_rfl)
theorem inf141 : ∃ i, Try.prog.info? 141 = some i ∧ i.size = 3 ∧ i.bytes = 48 ∧ i.zero = some (.agg #[.string ⟨#[]⟩, .slice none 0 0, .int .i64 0]) := info_of (by kernel_rfl)
def ty : Nat → Ty
  | 3 => ⟨true, [], 1, false, [.int .i64 0], .int .i64⟩
  | 4 => ⟨true, [], 1, false, [.bool false], .bool⟩
  | 5 => ⟨true, [], 1, false, [.int .u8 0], .int .u8⟩
  | 9 => ⟨true, [], 1, false, [.str []], .string⟩
  | 22 => ⟨true, [], 1, false, [.nil], .slice 6 56 [.nil, .nil, .int .u8 0, .int .u8 0, .int .u8 0, .int .u8 0]⟩
  | 24 => ⟨true, [], 3, true, [.int .u8 0, .int .u8 0, .nil], .struct [(0, 1), (1, 1), (2, 1)]⟩
  | 26 => ⟨true, [.int .i64, .int .i64, .int .u8], 3, true, [.int .i64 0, .int .i64 0, .int .u8 0], .struct [(0, 1), (1, 1), (2, 1)]⟩
  | 27 => ⟨true, [], 1, false, [.nil], .slice 1 1 [.int .i8 0]⟩
  | 29 => ⟨true, [], 1, false, [.nil], .slice 6 64 [.str [], .nil, .int .u8 0, .int .u8 0, .int .i64 0, .int .i64 0]⟩
  | 31 => ⟨true, [], 3, true, [.int .i64 0, .int .u8 0, .nil], .struct [(0, 1), (1, 1), (2, 1)]⟩
  | 33 => ⟨true, [], 1, false, [.nil], .slice 1 8 [.int .i64 0]⟩
  | 34 => ⟨true, [], 1, false, [.int .i8 0], .int .i8⟩
  | 39 => ⟨true, [], 1, false, [.nil], .slice 1 1 [.int .u8 0]⟩
  | 41 => ⟨true, [], 7, true, [.str [], .nil, .int .i64 0, .int .i64 0, .int .i64 0, .int .u8 0, .bool false], .struct [(0, 1), (1, 1), (2, 1), (3, 3), (6, 1)]⟩
  | 44 => ⟨true, [], 1, false, [.nil], .slice 3 24 [.int .i64 0, .int .i64 0, .int .u8 0]⟩
  | 47 => ⟨true, [], 1, false, [.nil], .slice 1 1 [.bool false]⟩
  | 50 => ⟨true, [], 1, false, [.nil], .slice 1 1 [.int .u8 0]⟩
  | 55 => ⟨true, [], 6, true, [.str [], .nil, .int .u8 0, .int .u8 0, .int .i64 0, .int .i64 0], .struct [(0, 1), (1, 1), (2, 1), (3, 1), (4, 1), (5, 1)]⟩
  | 57 => ⟨true, [], 2, true, [.nil, .nil], .array 2 1⟩
  | 64 => ⟨true, [], 1, false, [.int .u8 0], .int .u8⟩
  | 67 => ⟨true, [], 2, true, [.int .u8 0, .int .u8 0], .array 2 1⟩
  | 69 => ⟨true, [], 6, true, [.nil, .nil, .int .u8 0, .int .u8 0, .int .u8 0, .int .u8 0], .struct [(0, 1), (1, 1), (2, 1), (3, 1), (4, 2)]⟩
  | 74 => ⟨true, [], 1, false, [.int .i64 0], .int .i64⟩
  | 77 => ⟨true, [], 1, false, [.nil], .slice 1 16 [.str []]⟩
  | 84 => ⟨true, [], 3, true, [.int .i64 0, .int .i64 0, .int .i64 0], .array 3 1⟩
  | 87 => ⟨true, [], 1, false, [.nil], .slice 1 24 [.nil]⟩
  | 95 => ⟨true, [], 1, false, [.nilp], .other⟩
  | 102 => ⟨true, [], 1, false, [.nilp], .other⟩
  | 107 => ⟨true, [], 2, true, [.int .i64 0, .int .i64 0], .array 2 1⟩
  | 110 => ⟨true, [], 1, false, [.nilm], .map [.int .i64, .int .i64, .int .u8] true false [.int .i64 0]⟩
  | 114 => ⟨true, [], 1, false, [.nilm], .map [.int .i64, .int .i64] true false [.bool false]⟩
  | 116 => ⟨true, [], 3, true, [.nilp, .nil, .nilm], .struct [(0, 1), (1, 1), (2, 1)]⟩
  | 118 => ⟨true, [.int .i64, .int .i64], 2, true, [.int .i64 0, .int .i64 0], .struct [(0, 1), (1, 1)]⟩
  | 119 => ⟨true, [], 1, false, [.nil], .slice 1 24 [.nil]⟩
  | 121 => ⟨true, [], 3, true, [.nil, .nil, .nil], .struct [(0, 1), (1, 1), (2, 1)]⟩
  | 124 => ⟨true, [], 1, false, [.nil], .slice 3 32 [.int .i64 0, .int .i64 0, .str []]⟩
  | 128 => ⟨true, [], 3, true, [.int .i64 0, .int .i64 0, .str []], .struct [(0, 2), (2, 1)]⟩
  | 130 => ⟨true, [], 2, true, [.nil, .int .i64 0], .struct [(0, 1), (1, 1)]⟩
  | 131 => ⟨true, [], 1, false, [.nil], .slice 2 32 [.nil, .int .i64 0]⟩
  | 132 => ⟨true, [], 1, false, [.nilp], .other⟩
  | 135 => ⟨true, [], 1, false, [.nilp], .other⟩
  | 137 => ⟨true, [], 4, true, [.int .i64 0, .int .u8 0, .nil, .nil], .struct [(0, 3), (3, 1)]⟩
  | 139 => ⟨true, [], 1, false, [.nil], .slice 3 48 [.str [], .nil, .int .i64 0]⟩
  | 141 => ⟨true, [], 3, true, [.str [], .nil, .int .i64 0], .struct [(0, 1), (1, 1), (2, 1)]⟩
  | _ => ⟨false, [], 0, false, [], .other⟩
theorem tf3 : TyFacts Try.prog 3 (ty 3) := {
  info := by obtain ⟨i, h1, h2, _, h4⟩ := inf3; exact ⟨i, _, h1, h2, h4, rfl⟩
  plain := rfl
  desc := ⟨_, Try.underlying3, rfl, rfl⟩
  one := fun h => by first | rfl | cases h
  pos := by decide
  eq := fun h => absurd rfl h }
theorem tf4 : TyFacts Try.prog 4 (ty 4) := {
  info := by obtain ⟨i, h1, h2, _, h4⟩ := inf4; exact ⟨i, _, h1, h2, h4, rfl⟩
  plain := rfl
  desc := ⟨_, Try.underlying4, rfl, rfl⟩
  one := fun h => by first | rfl | cases h
  pos := by decide
  eq := fun h => absurd rfl h }
theorem tf5 : TyFacts Try.prog 5 (ty 5) := {
  info := by obtain ⟨i, h1, h2, _, h4⟩ := inf5; exact ⟨i, _, h1, h2, h4, rfl⟩
  plain := rfl
  desc := ⟨_, Try.underlying5, rfl, rfl⟩
  one := fun h => by first | rfl | cases h
  pos := by decide
  eq := fun h => absurd rfl h }
theorem tf9 : TyFacts Try.prog 9 (ty 9) := {
  info := by obtain ⟨i, h1, h2, _, h4⟩ := inf9; exact ⟨i, _, h1, h2, h4, rfl⟩
  plain := rfl
  desc := ⟨_, Try.underlying9, rfl, rfl⟩
  one := fun h => by first | rfl | cases h
  pos := by decide
  eq := fun h => absurd rfl h }
theorem tf22 : TyFacts Try.prog 22 (ty 22) := {
  info := by obtain ⟨i, h1, h2, _, h4⟩ := inf22; exact ⟨i, _, h1, h2, h4, rfl⟩
  plain := rfl
  desc := ⟨_, Try.underlying22, rfl, (by obtain ⟨j, h1, h2, h3, h4⟩ := inf69; exact ⟨_, j, _, rfl, h1, h2, h3, h4, rfl, rfl, rfl, fun h => by cases h⟩)⟩
  one := fun h => by first | rfl | cases h
  pos := by decide
  eq := fun h => absurd rfl h }
theorem tf24 : TyFacts Try.prog 24 (ty 24) := {
  info := by obtain ⟨i, h1, h2, _, h4⟩ := inf24; exact ⟨i, _, h1, h2, h4, rfl⟩
  plain := rfl
  desc := ⟨_, Try.underlying24, rfl, ⟨_, rfl, rfl, fun i o s h => match i, h with | 0, h => (by cases h; exact (by obtain ⟨j, h1, h2, _⟩ := inf5; exact ⟨_, j, rfl, rfl, h1, h2, by decide, _, Try.underlying5, by decide⟩)) | 1, h => (by cases h; exact (by obtain ⟨j, h1, h2, _⟩ := inf5; exact ⟨_, j, rfl, rfl, h1, h2, by decide, _, Try.underlying5, by decide⟩)) | 2, h => (by cases h; exact (by obtain ⟨j, h1, h2, _⟩ := inf22; exact ⟨_, j, rfl, rfl, h1, h2, by decide, _, Try.underlying22, by decide⟩)) | n + 3, h => by simp at h⟩⟩
  one := fun h => by first | rfl | cases h
  pos := by decide
  eq := fun h => absurd rfl h }
theorem tf26 : TyFacts Try.prog 26 (ty 26) := {
  info := by obtain ⟨i, h1, h2, _, h4⟩ := inf26; exact ⟨i, _, h1, h2, h4, rfl⟩
  plain := rfl
  desc := ⟨_, Try.underlying26, rfl, ⟨_, rfl, rfl, fun i o s h => match i, h with | 0, h => (by cases h; exact (by obtain ⟨j, h1, h2, _⟩ := inf3; exact ⟨_, j, rfl, rfl, h1, h2, by decide, _, Try.underlying3, by decide⟩)) | 1, h => (by cases h; exact (by obtain ⟨j, h1, h2, _⟩ := inf3; exact ⟨_, j, rfl, rfl, h1, h2, by decide, _, Try.underlying3, by decide⟩)) | 2, h => (by cases h; exact (by obtain ⟨j, h1, h2, _⟩ := inf5; exact ⟨_, j, rfl, rfl, h1, h2, by decide, _, Try.underlying5, by decide⟩)) | n + 3, h => by simp at h⟩⟩
  one := fun h => by first | rfl | cases h
  pos := by decide
  eq := fun _ => eq_flat Try.underlying26 (by kernel_rfl) (by kernel_rfl) rfl fun j f k h1 h2 => match j, h1, h2 with | 0, h1, h2 => (by cases h1; cases h2; exact ⟨by decide, rfl, ⟨_, Try.underlying3⟩⟩) | 1, h1, h2 => (by cases h1; cases h2; exact ⟨by decide, rfl, ⟨_, Try.underlying3⟩⟩) | 2, h1, h2 => (by cases h1; cases h2; exact ⟨by decide, rfl, ⟨_, Try.underlying5⟩⟩) | n + 3, h1, _ => by simp at h1 }
theorem tf27 : TyFacts Try.prog 27 (ty 27) := {
  info := by obtain ⟨i, h1, h2, _, h4⟩ := inf27; exact ⟨i, _, h1, h2, h4, rfl⟩
  plain := rfl
  desc := ⟨_, Try.underlying27, rfl, (by obtain ⟨j, h1, h2, h3, h4⟩ := inf34; exact ⟨_, j, _, rfl, h1, h2, h3, h4, rfl, rfl, rfl, fun h => by cases h⟩)⟩
  one := fun h => by first | rfl | cases h
  pos := by decide
  eq := fun h => absurd rfl h }
theorem tf29 : TyFacts Try.prog 29 (ty 29) := {
  info := by obtain ⟨i, h1, h2, _, h4⟩ := inf29; exact ⟨i, _, h1, h2, h4, rfl⟩
  plain := rfl
  desc := ⟨_, Try.underlying29, rfl, (by obtain ⟨j, h1, h2, h3, h4⟩ := inf55; exact ⟨_, j, _, rfl, h1, h2, h3, h4, rfl, rfl, rfl, fun h => by cases h⟩)⟩
  one := fun h => by first | rfl | cases h
  pos := by decide
  eq := fun h => absurd rfl h }
theorem tf31 : TyFacts Try.prog 31 (ty 31) := {
  info := by obtain ⟨i, h1, h2, _, h4⟩ := inf31; exact ⟨i, _, h1, h2, h4, rfl⟩
  plain := rfl
  desc := ⟨_, Try.underlying31, rfl, ⟨_, rfl, rfl, fun i o s h => match i, h with | 0, h => (by cases h; exact (by obtain ⟨j, h1, h2, _⟩ := inf3; exact ⟨_, j, rfl, rfl, h1, h2, by decide, _, Try.underlying3, by decide⟩)) | 1, h => (by cases h; exact (by obtain ⟨j, h1, h2, _⟩ := inf5; exact ⟨_, j, rfl, rfl, h1, h2, by decide, _, Try.underlying5, by decide⟩)) | 2, h => (by cases h; exact (by obtain ⟨j, h1, h2, _⟩ := inf29; exact ⟨_, j, rfl, rfl, h1, h2, by decide, _, Try.underlying29, by decide⟩)) | n + 3, h => by simp at h⟩⟩
  one := fun h => by first | rfl | cases h
  pos := by decide
  eq := fun h => absurd rfl h }
theorem tf33 : TyFacts Try.prog 33 (ty 33) := {
  info := by obtain ⟨i, h1, h2, _, h4⟩ := inf33; exact ⟨i, _, h1, h2, h4, rfl⟩
  plain := rfl
  desc := ⟨_, Try.underlying33, rfl, (by obtain ⟨j, h1, h2, h3, h4⟩ := inf3; exact ⟨_, j, _, rfl, h1, h2, h3, h4, rfl, rfl, rfl, fun h => by cases h⟩)⟩
  one := fun h => by first | rfl | cases h
  pos := by decide
  eq := fun h => absurd rfl h }
theorem tf34 : TyFacts Try.prog 34 (ty 34) := {
  info := by obtain ⟨i, h1, h2, _, h4⟩ := inf34; exact ⟨i, _, h1, h2, h4, rfl⟩
  plain := rfl
  desc := ⟨_, Try.underlying34, rfl, rfl⟩
  one := fun h => by first | rfl | cases h
  pos := by decide
  eq := fun h => absurd rfl h }
theorem tf39 : TyFacts Try.prog 39 (ty 39) := {
  info := by obtain ⟨i, h1, h2, _, h4⟩ := inf39; exact ⟨i, _, h1, h2, h4, rfl⟩
  plain := rfl
  desc := ⟨_, Try.underlying39, rfl, (by obtain ⟨j, h1, h2, h3, h4⟩ := inf64; exact ⟨_, j, _, rfl, h1, h2, h3, h4, rfl, rfl, rfl, fun _ => Try.underlying64⟩)⟩
  one := fun h => by first | rfl | cases h
  pos := by decide
  eq := fun h => absurd rfl h }
theorem tf41 : TyFacts Try.prog 41 (ty 41) := {
  info := by obtain ⟨i, h1, h2, _, h4⟩ := inf41; exact ⟨i, _, h1, h2, h4, rfl⟩
  plain := rfl
  desc := ⟨_, Try.underlying41, rfl, ⟨_, rfl, rfl, fun i o s h => match i, h with | 0, h => (by cases h; exact (by obtain ⟨j, h1, h2, _⟩ := inf9; exact ⟨_, j, rfl, rfl, h1, h2, by decide, _, Try.underlying9, by decide⟩)) | 1, h => (by cases h; exact (by obtain ⟨j, h1, h2, _⟩ := inf39; exact ⟨_, j, rfl, rfl, h1, h2, by decide, _, Try.underlying39, by decide⟩)) | 2, h => (by cases h; exact (by obtain ⟨j, h1, h2, _⟩ := inf3; exact ⟨_, j, rfl, rfl, h1, h2, by decide, _, Try.underlying3, by decide⟩)) | 3, h => (by cases h; exact (by obtain ⟨j, h1, h2, _⟩ := inf26; exact ⟨_, j, rfl, rfl, h1, h2, by decide, _, Try.underlying26, by decide⟩)) | 4, h => (by cases h; exact (by obtain ⟨j, h1, h2, _⟩ := inf4; exact ⟨_, j, rfl, rfl, h1, h2, by decide, _, Try.underlying4, by decide⟩)) | n + 5, h => by simp at h⟩⟩
  one := fun h => by first | rfl | cases h
  pos := by decide
  eq := fun h => absurd rfl h }
theorem tf44 : TyFacts Try.prog 44 (ty 44) := {
  info := by obtain ⟨i, h1, h2, _, h4⟩ := inf44; exact ⟨i, _, h1, h2, h4, rfl⟩
  plain := rfl
  desc := ⟨_, Try.underlying44, rfl, (by obtain ⟨j, h1, h2, h3, h4⟩ := inf26; exact ⟨_, j, _, rfl, h1, h2, h3, h4, rfl, rfl, rfl, fun h => by cases h⟩)⟩
  one := fun h => by first | rfl | cases h
  pos := by decide
  eq := fun h => absurd rfl h }
theorem tf47 : TyFacts Try.prog 47 (ty 47) := {
  info := by obtain ⟨i, h1, h2, _, h4⟩ := inf47; exact ⟨i, _, h1, h2, h4, rfl⟩
  plain := rfl
  desc := ⟨_, Try.underlying47, rfl, (by obtain ⟨j, h1, h2, h3, h4⟩ := inf4; exact ⟨_, j, _, rfl, h1, h2, h3, h4, rfl, rfl, rfl, fun h => by cases h⟩)⟩
  one := fun h => by first | rfl | cases h
  pos := by decide
  eq := fun h => absurd rfl h }
theorem tf50 : TyFacts Try.prog 50 (ty 50) := {
  info := by obtain ⟨i, h1, h2, _, h4⟩ := inf50; exact ⟨i, _, h1, h2, h4, rfl⟩
  plain := rfl
  desc := ⟨_, Try.underlying50, rfl, (by obtain ⟨j, h1, h2, h3, h4⟩ := inf5; exact ⟨_, j, _, rfl, h1, h2, h3, h4, rfl, rfl, rfl, fun _ => Try.underlying5⟩)⟩
  one := fun h => by first | rfl | cases h
  pos := by decide
  eq := fun h => absurd rfl h }
theorem tf55 : TyFacts Try.prog 55 (ty 55) := {
  info := by obtain ⟨i, h1, h2, _, h4⟩ := inf55; exact ⟨i, _, h1, h2, h4, rfl⟩
  plain := rfl
  desc := ⟨_, Try.underlying55, rfl, ⟨_, rfl, rfl, fun i o s h => match i, h with | 0, h => (by cases h; exact (by obtain ⟨j, h1, h2, _⟩ := inf9; exact ⟨_, j, rfl, rfl, h1, h2, by decide, _, Try.underlying9, by decide⟩)) | 1, h => (by cases h; exact (by obtain ⟨j, h1, h2, _⟩ := inf39; exact ⟨_, j, rfl, rfl, h1, h2, by decide, _, Try.underlying39, by decide⟩)) | 2, h => (by cases h; exact (by obtain ⟨j, h1, h2, _⟩ := inf5; exact ⟨_, j, rfl, rfl, h1, h2, by decide, _, Try.underlying5, by decide⟩)) | 3, h => (by cases h; exact (by obtain ⟨j, h1, h2, _⟩ := inf5; exact ⟨_, j, rfl, rfl, h1, h2, by decide, _, Try.underlying5, by decide⟩)) | 4, h => (by cases h; exact (by obtain ⟨j, h1, h2, _⟩ := inf3; exact ⟨_, j, rfl, rfl, h1, h2, by decide, _, Try.underlying3, by decide⟩)) | 5, h => (by cases h; exact (by obtain ⟨j, h1, h2, _⟩ := inf3; exact ⟨_, j, rfl, rfl, h1, h2, by decide, _, Try.underlying3, by decide⟩)) | n + 6, h => by simp at h⟩⟩
  one := fun h => by first | rfl | cases h
  pos := by decide
  eq := fun h => absurd rfl h }
theorem tf57 : TyFacts Try.prog 57 (ty 57) := {
  info := by obtain ⟨i, h1, h2, _, h4⟩ := inf57; exact ⟨i, _, h1, h2, h4, rfl⟩
  plain := rfl
  desc := ⟨_, Try.underlying57, rfl, (by obtain ⟨j, h1, h2, _⟩ := inf33; exact ⟨_, j, rfl, h1, h2⟩)⟩
  one := fun h => by first | rfl | cases h
  pos := by decide
  eq := fun h => absurd rfl h }
theorem tf64 : TyFacts Try.prog 64 (ty 64) := {
  info := by obtain ⟨i, h1, h2, _, h4⟩ := inf64; exact ⟨i, _, h1, h2, h4, rfl⟩
  plain := rfl
  desc := ⟨_, Try.underlying64, rfl, rfl⟩
  one := fun h => by first | rfl | cases h
  pos := by decide
  eq := fun h => absurd rfl h }
theorem tf67 : TyFacts Try.prog 67 (ty 67) := {
  info := by obtain ⟨i, h1, h2, _, h4⟩ := inf67; exact ⟨i, _, h1, h2, h4, rfl⟩
  plain := rfl
  desc := ⟨_, Try.underlying67, rfl, (by obtain ⟨j, h1, h2, _⟩ := inf5; exact ⟨_, j, rfl, h1, h2⟩)⟩
  one := fun h => by first | rfl | cases h
  pos := by decide
  eq := fun h => absurd rfl h }
theorem tf69 : TyFacts Try.prog 69 (ty 69) := {
  info := by obtain ⟨i, h1, h2, _, h4⟩ := inf69; exact ⟨i, _, h1, h2, h4, rfl⟩
  plain := rfl
  desc := ⟨_, Try.underlying69, rfl, ⟨_, rfl, rfl, fun i o s h => match i, h with | 0, h => (by cases h; exact (by obtain ⟨j, h1, h2, _⟩ := inf50; exact ⟨_, j, rfl, rfl, h1, h2, by decide, _, Try.underlying50, by decide⟩)) | 1, h => (by cases h; exact (by obtain ⟨j, h1, h2, _⟩ := inf50; exact ⟨_, j, rfl, rfl, h1, h2, by decide, _, Try.underlying50, by decide⟩)) | 2, h => (by cases h; exact (by obtain ⟨j, h1, h2, _⟩ := inf5; exact ⟨_, j, rfl, rfl, h1, h2, by decide, _, Try.underlying5, by decide⟩)) | 3, h => (by cases h; exact (by obtain ⟨j, h1, h2, _⟩ := inf5; exact ⟨_, j, rfl, rfl, h1, h2, by decide, _, Try.underlying5, by decide⟩)) | 4, h => (by cases h; exact (by obtain ⟨j, h1, h2, _⟩ := inf67; exact ⟨_, j, rfl, rfl, h1, h2, by decide, _, Try.underlying67, by decide⟩)) | n + 5, h => by simp at h⟩⟩
  one := fun h => by first | rfl | cases h
  pos := by decide
  eq := fun h => absurd rfl h }
theorem tf74 : TyFacts Try.prog 74 (ty 74) := {
  info := by obtain ⟨i, h1, h2, _, h4⟩ := inf74; exact ⟨i, _, h1, h2, h4, rfl⟩
  plain := rfl
  desc := ⟨_, Try.underlying74, rfl, rfl⟩
  one := fun h => by first | rfl | cases h
  pos := by decide
  eq := fun h => absurd rfl h }
theorem tf77 : TyFacts Try.prog 77 (ty 77) := {
  info := by obtain ⟨i, h1, h2, _, h4⟩ := inf77; exact ⟨i, _, h1, h2, h4, rfl⟩
  plain := rfl
  desc := ⟨_, Try.underlying77, rfl, (by obtain ⟨j, h1, h2, h3, h4⟩ := inf9; exact ⟨_, j, _, rfl, h1, h2, h3, h4, rfl, rfl, rfl, fun h => by cases h⟩)⟩
  one := fun h => by first | rfl | cases h
  pos := by decide
  eq := fun h => absurd rfl h }
theorem tf84 : TyFacts Try.prog 84 (ty 84) := {
  info := by obtain ⟨i, h1, h2, _, h4⟩ := inf84; exact ⟨i, _, h1, h2, h4, rfl⟩
  plain := rfl
  desc := ⟨_, Try.underlying84, rfl, (by obtain ⟨j, h1, h2, _⟩ := inf3; exact ⟨_, j, rfl, h1, h2⟩)⟩
  one := fun h => by first | rfl | cases h
  pos := by decide
  eq := fun h => absurd rfl h }
theorem tf87 : TyFacts Try.prog 87 (ty 87) := {
  info := by obtain ⟨i, h1, h2, _, h4⟩ := inf87; exact ⟨i, _, h1, h2, h4, rfl⟩
  plain := rfl
  desc := ⟨_, Try.underlying87, rfl, (by obtain ⟨j, h1, h2, h3, h4⟩ := inf33; exact ⟨_, j, _, rfl, h1, h2, h3, h4, rfl, rfl, rfl, fun h => by cases h⟩)⟩
  one := fun h => by first | rfl | cases h
  pos := by decide
  eq := fun h => absurd rfl h }
theorem tf95 : TyFacts Try.prog 95 (ty 95) := {
  info := by obtain ⟨i, h1, h2, _, h4⟩ := inf95; exact ⟨i, _, h1, h2, h4, rfl⟩
  plain := rfl
  desc := ⟨_, Try.underlying95, rfl, trivial⟩
  one := fun h => by first | rfl | cases h
  pos := by decide
  eq := fun h => absurd rfl h }
theorem tf102 : TyFacts Try.prog 102 (ty 102) := {
  info := by obtain ⟨i, h1, h2, _, h4⟩ := inf102; exact ⟨i, _, h1, h2, h4, rfl⟩
  plain := rfl
  desc := ⟨_, Try.underlying102, rfl, trivial⟩
  one := fun h => by first | rfl | cases h
  pos := by decide
  eq := fun h => absurd rfl h }
theorem tf107 : TyFacts Try.prog 107 (ty 107) := {
  info := by obtain ⟨i, h1, h2, _, h4⟩ := inf107; exact ⟨i, _, h1, h2, h4, rfl⟩
  plain := rfl
  desc := ⟨_, Try.underlying107, rfl, (by obtain ⟨j, h1, h2, _⟩ := inf3; exact ⟨_, j, rfl, h1, h2⟩)⟩
  one := fun h => by first | rfl | cases h
  pos := by decide
  eq := fun h => absurd rfl h }
theorem tf110 : TyFacts Try.prog 110 (ty 110) := {
  info := by obtain ⟨i, h1, h2, _, h4⟩ := inf110; exact ⟨i, _, h1, h2, h4, rfl⟩
  plain := rfl
  desc := ⟨_, Try.underlying110, rfl, (by obtain ⟨j, h1, h2, h3, h4⟩ := inf3; exact ⟨_, _, j, _, rfl, (keyFacts_flat Try.underlying26 (by kernel_rfl) rfl fun j f k h1 h2 => match j, h1, h2 with | 0, h1, h2 => (by cases h1; cases h2; exact ⟨by decide, rfl, ⟨_, Try.underlying3⟩⟩) | 1, h1, h2 => (by cases h1; cases h2; exact ⟨by decide, rfl, ⟨_, Try.underlying3⟩⟩) | 2, h1, h2 => (by cases h1; cases h2; exact ⟨by decide, rfl, ⟨_, Try.underlying5⟩⟩) | n + 3, h1, _ => by simp at h1), h1, h4, rfl, (fun h => by cases h), (fun _ => ⟨_, rfl, rfl⟩)⟩)⟩
  one := fun h => by first | rfl | cases h
  pos := by decide
  eq := fun h => absurd rfl h }
theorem tf114 : TyFacts Try.prog 114 (ty 114) := {
  info := by obtain ⟨i, h1, h2, _, h4⟩ := inf114; exact ⟨i, _, h1, h2, h4, rfl⟩
  plain := rfl
  desc := ⟨_, Try.underlying114, rfl, (by obtain ⟨j, h1, h2, h3, h4⟩ := inf4; exact ⟨_, _, j, _, rfl, (keyFacts_flat Try.underlying118 (by kernel_rfl) rfl fun j f k h1 h2 => match j, h1, h2 with | 0, h1, h2 => (by cases h1; cases h2; exact ⟨by decide, rfl, ⟨_, Try.underlying3⟩⟩) | 1, h1, h2 => (by cases h1; cases h2; exact ⟨by decide, rfl, ⟨_, Try.underlying3⟩⟩) | n + 2, h1, _ => by simp at h1), h1, h4, rfl, (fun h => by cases h), (fun _ => ⟨_, rfl, rfl⟩)⟩)⟩
  one := fun h => by first | rfl | cases h
  pos := by decide
  eq := fun h => absurd rfl h }
theorem tf116 : TyFacts Try.prog 116 (ty 116) := {
  info := by obtain ⟨i, h1, h2, _, h4⟩ := inf116; exact ⟨i, _, h1, h2, h4, rfl⟩
  plain := rfl
  desc := ⟨_, Try.underlying116, rfl, ⟨_, rfl, rfl, fun i o s h => match i, h with | 0, h => (by cases h; exact (by obtain ⟨j, h1, h2, _⟩ := inf102; exact ⟨_, j, rfl, rfl, h1, h2, by decide, _, Try.underlying102, by decide⟩)) | 1, h => (by cases h; exact (by obtain ⟨j, h1, h2, _⟩ := inf39; exact ⟨_, j, rfl, rfl, h1, h2, by decide, _, Try.underlying39, by decide⟩)) | 2, h => (by cases h; exact (by obtain ⟨j, h1, h2, _⟩ := inf114; exact ⟨_, j, rfl, rfl, h1, h2, by decide, _, Try.underlying114, by decide⟩)) | n + 3, h => by simp at h⟩⟩
  one := fun h => by first | rfl | cases h
  pos := by decide
  eq := fun h => absurd rfl h }
theorem tf118 : TyFacts Try.prog 118 (ty 118) := {
  info := by obtain ⟨i, h1, h2, _, h4⟩ := inf118; exact ⟨i, _, h1, h2, h4, rfl⟩
  plain := rfl
  desc := ⟨_, Try.underlying118, rfl, ⟨_, rfl, rfl, fun i o s h => match i, h with | 0, h => (by cases h; exact (by obtain ⟨j, h1, h2, _⟩ := inf3; exact ⟨_, j, rfl, rfl, h1, h2, by decide, _, Try.underlying3, by decide⟩)) | 1, h => (by cases h; exact (by obtain ⟨j, h1, h2, _⟩ := inf3; exact ⟨_, j, rfl, rfl, h1, h2, by decide, _, Try.underlying3, by decide⟩)) | n + 2, h => by simp at h⟩⟩
  one := fun h => by first | rfl | cases h
  pos := by decide
  eq := fun _ => eq_flat Try.underlying118 (by kernel_rfl) (by kernel_rfl) rfl fun j f k h1 h2 => match j, h1, h2 with | 0, h1, h2 => (by cases h1; cases h2; exact ⟨by decide, rfl, ⟨_, Try.underlying3⟩⟩) | 1, h1, h2 => (by cases h1; cases h2; exact ⟨by decide, rfl, ⟨_, Try.underlying3⟩⟩) | n + 2, h1, _ => by simp at h1 }
theorem tf119 : TyFacts Try.prog 119 (ty 119) := {
  info := by obtain ⟨i, h1, h2, _, h4⟩ := inf119; exact ⟨i, _, h1, h2, h4, rfl⟩
  plain := rfl
  desc := ⟨_, Try.underlying119, rfl, (by obtain ⟨j, h1, h2, h3, h4⟩ := inf139; exact ⟨_, j, _, rfl, h1, h2, h3, h4, rfl, rfl, rfl, fun h => by cases h⟩)⟩
  one := fun h => by first | rfl | cases h
  pos := by decide
  eq := fun h => absurd rfl h }
theorem tf121 : TyFacts Try.prog 121 (ty 121) := {
  info := by obtain ⟨i, h1, h2, _, h4⟩ := inf121; exact ⟨i, _, h1, h2, h4, rfl⟩
  plain := rfl
  desc := ⟨_, Try.underlying121, rfl, ⟨_, rfl, rfl, fun i o s h => match i, h with | 0, h => (by cases h; exact (by obtain ⟨j, h1, h2, _⟩ := inf119; exact ⟨_, j, rfl, rfl, h1, h2, by decide, _, Try.underlying119, by decide⟩)) | 1, h => (by cases h; exact (by obtain ⟨j, h1, h2, _⟩ := inf47; exact ⟨_, j, rfl, rfl, h1, h2, by decide, _, Try.underlying47, by decide⟩)) | 2, h => (by cases h; exact (by obtain ⟨j, h1, h2, _⟩ := inf47; exact ⟨_, j, rfl, rfl, h1, h2, by decide, _, Try.underlying47, by decide⟩)) | n + 3, h => by simp at h⟩⟩
  one := fun h => by first | rfl | cases h
  pos := by decide
  eq := fun h => absurd rfl h }
theorem tf124 : TyFacts Try.prog 124 (ty 124) := {
  info := by obtain ⟨i, h1, h2, _, h4⟩ := inf124; exact ⟨i, _, h1, h2, h4, rfl⟩
  plain := rfl
  desc := ⟨_, Try.underlying124, rfl, (by obtain ⟨j, h1, h2, h3, h4⟩ := inf128; exact ⟨_, j, _, rfl, h1, h2, h3, h4, rfl, rfl, rfl, fun h => by cases h⟩)⟩
  one := fun h => by first | rfl | cases h
  pos := by decide
  eq := fun h => absurd rfl h }
theorem tf128 : TyFacts Try.prog 128 (ty 128) := {
  info := by obtain ⟨i, h1, h2, _, h4⟩ := inf128; exact ⟨i, _, h1, h2, h4, rfl⟩
  plain := rfl
  desc := ⟨_, Try.underlying128, rfl, ⟨_, rfl, rfl, fun i o s h => match i, h with | 0, h => (by cases h; exact (by obtain ⟨j, h1, h2, _⟩ := inf118; exact ⟨_, j, rfl, rfl, h1, h2, by decide, _, Try.underlying118, by decide⟩)) | 1, h => (by cases h; exact (by obtain ⟨j, h1, h2, _⟩ := inf9; exact ⟨_, j, rfl, rfl, h1, h2, by decide, _, Try.underlying9, by decide⟩)) | n + 2, h => by simp at h⟩⟩
  one := fun h => by first | rfl | cases h
  pos := by decide
  eq := fun h => absurd rfl h }
theorem tf130 : TyFacts Try.prog 130 (ty 130) := {
  info := by obtain ⟨i, h1, h2, _, h4⟩ := inf130; exact ⟨i, _, h1, h2, h4, rfl⟩
  plain := rfl
  desc := ⟨_, Try.underlying130, rfl, ⟨_, rfl, rfl, fun i o s h => match i, h with | 0, h => (by cases h; exact (by obtain ⟨j, h1, h2, _⟩ := inf124; exact ⟨_, j, rfl, rfl, h1, h2, by decide, _, Try.underlying124, by decide⟩)) | 1, h => (by cases h; exact (by obtain ⟨j, h1, h2, _⟩ := inf3; exact ⟨_, j, rfl, rfl, h1, h2, by decide, _, Try.underlying3, by decide⟩)) | n + 2, h => by simp at h⟩⟩
  one := fun h => by first | rfl | cases h
  pos := by decide
  eq := fun h => absurd rfl h }
theorem tf131 : TyFacts Try.prog 131 (ty 131) := {
  info := by obtain ⟨i, h1, h2, _, h4⟩ := inf131; exact ⟨i, _, h1, h2, h4, rfl⟩
  plain := rfl
  desc := ⟨_, Try.underlying131, rfl, (by obtain ⟨j, h1, h2, h3, h4⟩ := inf130; exact ⟨_, j, _, rfl, h1, h2, h3, h4, rfl, rfl, rfl, fun h => by cases h⟩)⟩
  one := fun h => by first | rfl | cases h
  pos := by decide
  eq := fun h => absurd rfl h }
theorem tf132 : TyFacts Try.prog 132 (ty 132) := {
  info := by obtain ⟨i, h1, h2, _, h4⟩ := inf132; exact ⟨i, _, h1, h2, h4, rfl⟩
  plain := rfl
  desc := ⟨_, Try.underlying132, rfl, trivial⟩
  one := fun h => by first | rfl | cases h
  pos := by decide
  eq := fun h => absurd rfl h }
theorem tf135 : TyFacts Try.prog 135 (ty 135) := {
  info := by obtain ⟨i, h1, h2, _, h4⟩ := inf135; exact ⟨i, _, h1, h2, h4, rfl⟩
  plain := rfl
  desc := ⟨_, Try.underlying135, rfl, trivial⟩
  one := fun h => by first | rfl | cases h
  pos := by decide
  eq := fun h => absurd rfl h }
theorem tf137 : TyFacts Try.prog 137 (ty 137) := {
  info := by obtain ⟨i, h1, h2, _, h4⟩ := inf137; exact ⟨i, _, h1, h2, h4, rfl⟩
  plain := rfl
  desc := ⟨_, Try.underlying137, rfl, ⟨_, rfl, rfl, fun i o s h => match i, h with | 0, h => (by cases h; exact (by obtain ⟨j, h1, h2, _⟩ := inf31; exact ⟨_, j, rfl, rfl, h1, h2, by decide, _, Try.underlying31, by decide⟩)) | 1, h => (by cases h; exact (by obtain ⟨j, h1, h2, _⟩ := inf77; exact ⟨_, j, rfl, rfl, h1, h2, by decide, _, Try.underlying77, by decide⟩)) | n + 2, h => by simp at h⟩⟩
  one := fun h => by first | rfl | cases h
  pos := by decide
  eq := fun h => absurd rfl h }
theorem tf139 : TyFacts Try.prog 139 (ty 139) := {
  info := by obtain ⟨i, h1, h2, _, h4⟩ := inf139; exact ⟨i, _, h1, h2, h4, rfl⟩
  plain := rfl
  desc := ⟨_, Try.underlying139, rfl, (by obtain ⟨j, h1, h2, h3, h4⟩ := inf141; exact ⟨_, j, _, rfl, h1, h2, h3, h4, rfl, rfl, rfl, fun h => by cases h⟩)⟩
  one := fun h => by first | rfl | cases h
  pos := by decide
  eq := fun h => absurd rfl h }
theorem tf141 : TyFacts Try.prog 141 (ty 141) := {
  info := by obtain ⟨i, h1, h2, _, h4⟩ := inf141; exact ⟨i, _, h1, h2, h4, rfl⟩
  plain := rfl
  desc := ⟨_, Try.underlying141, rfl, ⟨_, rfl, rfl, fun i o s h => match i, h with | 0, h => (by cases h; exact (by obtain ⟨j, h1, h2, _⟩ := inf9; exact ⟨_, j, rfl, rfl, h1, h2, by decide, _, Try.underlying9, by decide⟩)) | 1, h => (by cases h; exact (by obtain ⟨j, h1, h2, _⟩ := inf39; exact ⟨_, j, rfl, rfl, h1, h2, by decide, _, Try.underlying39, by decide⟩)) | 2, h => (by cases h; exact (by obtain ⟨j, h1, h2, _⟩ := inf3; exact ⟨_, j, rfl, rfl, h1, h2, by decide, _, Try.underlying3, by decide⟩)) | n + 3, h => by simp at h⟩⟩
  one := fun h => by first | rfl | cases h
  pos := by decide
  eq := fun h => absurd rfl h }
theorem tyOK : TyOK Try.prog ty := by
  intro t h
  unfold ty at h
  split at h
  · exact tf3
  · exact tf4
  · exact tf5
  · exact tf9
  · exact tf22
  · exact tf24
  · exact tf26
  · exact tf27
  · exact tf29
  · exact tf31
  · exact tf33
  · exact tf34
  · exact tf39
  · exact tf41
  · exact tf44
  · exact tf47
  · exact tf50
  · exact tf55
  · exact tf57
  · exact tf64
  · exact tf67
  · exact tf69
  · exact tf74
  · exact tf77
  · exact tf84
  · exact tf87
  · exact tf95
  · exact tf102
  · exact tf107
  · exact tf110
  · exact tf114
  · exact tf116
  · exact tf118
  · exact tf119
  · exact tf121
  · exact tf124
  · exact tf128
  · exact tf130
  · exact tf131
  · exact tf132
  · exact tf135
  · exact tf137
  · exact tf139
  · exact tf141
  · cases h
theorem follows : Try.prog.follows .mixedOrders = true := by kernel_rfl
def cx (n : Nat) : Cx := ⟨ty, n, CallOK Try.prog⟩
theorem cxOK (n : Nat) : CxOK Try.prog (cx n) := ⟨tyOK, fun _ _ _ h => h⟩
end Go.AI
end
section
namespace Go.AI
structure Arr3 (α : Type) where
  a0 : α
  a1 : α
  a2 : α
  deriving DecidableEq, Inhabited
structure GRule where
  Print : (List UInt8)
  Cells : (List Int)
  Left : Int
  Right : Int
  From : Int
  To : Int
  deriving DecidableEq, Inhabited
structure GState where
  Mode : Int
  Last : Int
  Need : Int
  deriving DecidableEq, Inhabited
structure GTable where
  Modes : Int
  Accept : Int
  Rules : (List GRule)
  deriving DecidableEq, Inhabited
structure GTrace where
  Text : (List UInt8)
  Cells : (List Int)
  At : Int
  End : GState
  Ok : Bool
  deriving DecidableEq, Inhabited
structure Arr2 (α : Type) where
  a0 : α
  a1 : α
  deriving DecidableEq, Inhabited
structure GRawRule where
  P : (List Int)
  C : (List Int)
  L : Int
  R : Int
  W : (Arr2 Int)
  deriving DecidableEq, Inhabited
structure GRaw where
  Base : Int
  Drop : Int
  More : (List GRawRule)
  deriving DecidableEq, Inhabited
def FSixdotlaw03_rule (n : Nat) (p0_ : (List UInt8)) (p1_ : Int) (p2_ : (Arr3 Int)) : Option GRule :=
  some ({ Print := p0_, Cells := [p1_], Left := 63, Right := IntKind.u8.wrap p2_.a0, From := p2_.a1, To := p2_.a2 } : GRule)
def FAutomaton_Start (n : Nat)  : Option GState :=
  some ({ Mode := 0, Last := 0, Need := 63 } : GState)
def FAutomaton_has (n : Nat) (p0_ : Int) (p1_ : Int) : Option Bool :=
  (if ((decide (0 ≤ p1_)) && (decide (p1_ < 8))) = true then guardB (decide (0 ≤ p1_)) else some default).bind fun (u1 : Unit) =>
  some (((decide (0 ≤ p1_)) && (decide (p1_ < 8))) && ((iand .u8 (ishr .u8 p0_ p1_) 1) == 1))
def FTable_Class (n : Nat) (p0_ : Int) : Option Int :=
  if ((decide (97 ≤ iand .u8 p0_ 127)) && (decide (iand .u8 p0_ 127 ≤ 122))) = true then
    some 1
  else
    if ((decide (65 ≤ iand .u8 p0_ 127)) && (decide (iand .u8 p0_ 127 ≤ 90))) = true then
      some 2
    else
      if ((decide (48 ≤ iand .u8 p0_ 127)) && (decide (iand .u8 p0_ 127 ≤ 57))) = true then
        some 3
      else
        if ((iand .u8 p0_ 127) == 32) = true then
          some 4
        else
          some 5
def FAutomaton_Step (n : Nat) (p0_ : GTable) (p1_ : GState) (p2_ : Int) : Option (GState × Bool) :=
  if ((decide (p2_ < 0)) || (decide (p2_ ≥ ((List.length p0_.Rules : Nat) : Int)))) = true then
    some (({ Mode := 0, Last := 0, Need := 0 } : GState), false)
  else
    (idx p0_.Rules p2_).bind fun (x1 : GRule) =>
    (if (!(x1.From != p1_.Mode)) = true then FAutomaton_has n x1.Left p1_.Last else some default).bind fun (r1 : Bool) =>
    if ((x1.From != p1_.Mode) || (!r1)) = true then
      some (({ Mode := 0, Last := 0, Need := 0 } : GState), false)
    else
      if (x1.Print == []) = true then
        if ((iand .u8 p1_.Need x1.Right) == 0) = true then
          some (({ Mode := 0, Last := 0, Need := 0 } : GState), false)
        else
          some (({ Mode := x1.To, Last := p1_.Last, Need := iand .u8 p1_.Need x1.Right } : GState), true)
      else
        (sidx x1.Print 0).bind fun (b1 : Int) =>
        (FTable_Class n b1).bind fun (r2 : Int) =>
        (FAutomaton_has n p1_.Need r2).bind fun (r3 : Bool) =>
        if (!r3) = true then
          some (({ Mode := 0, Last := 0, Need := 0 } : GState), false)
        else
          (sidx x1.Print (isub .i64 ((List.length x1.Print : Nat) : Int) 1)).bind fun (b2 : Int) =>
          (FTable_Class n b2).bind fun (r4 : Int) =>
          some (({ Mode := x1.To, Last := r4, Need := x1.Right } : GState), true)
def FAutomaton_Accepts (n : Nat) (p0_ : GTable) (p1_ : GState) : Option Bool :=
  (if decide (p1_.Mode < p0_.Modes) = true then FAutomaton_has n p0_.Accept p1_.Mode else some default).bind fun (r5 : Bool) =>
  (if ((decide (p1_.Mode < p0_.Modes)) && r5) = true then FAutomaton_has n p1_.Need 0 else some default).bind fun (r6 : Bool) =>
  some (((decide (p1_.Mode < p0_.Modes)) && r5) && r6)
def FAutomaton_Run_L1 (n : Nat) (p0_ : GTable) (p1_ : (List Int)) (text_1 : (List Int)) (cells_1 : (List Int)) (s_1 : GState) (at_1 : Int) (x_1 : Int) : Option (((List Int) × (List Int) × GState × Int × Int) ⊕ ((List Int) × (List Int) × GState × Int)) :=
  if decide (x_1 < ((List.length p1_ : Nat) : Int)) = true then
    (idx p1_ x_1).bind fun (x2 : Int) =>
    (FAutomaton_Step n p0_ s_1 x2).bind fun (r8 : (GState × Bool)) =>
    if (!r8.2) = true then
      some (Sum.inr (text_1, cells_1, s_1, at_1))
    else
      (idx p0_.Rules x2).bind fun (x3 : GRule) =>
      (app 1 text_1 (bytesOf x3.Print)).bind fun (l1 : (List Int)) =>
      (idx p0_.Rules x2).bind fun (x4 : GRule) =>
      (app 1 cells_1 x4.Cells).bind fun (l2 : (List Int)) =>
      some (Sum.inl (l1, l2, r8.1, (iadd .i64 at_1 1), (iadd .i64 x_1 1)))
  else
    some (Sum.inr (text_1, cells_1, s_1, at_1))
def FAutomaton_Run (n : Nat) (p0_ : GTable) (p1_ : (List Int)) : Option GTrace :=
  (FAutomaton_Start n).bind fun (r7 : GState) =>
  (whl (fun (x : ((List Int) × (List Int) × GState × Int × Int)) => FAutomaton_Run_L1 n p0_ p1_ x.1 x.2.1 x.2.2.1 x.2.2.2.1 x.2.2.2.2) n (([] : List Int), ([] : List Int), r7, 0, 0)).bind fun (y1 : ((List Int) × (List Int) × GState × Int)) =>
  (bstr y1.1).bind fun (s1 : (List UInt8)) =>
  (if (y1.2.2.2 == ((List.length p1_ : Nat) : Int)) = true then FAutomaton_Accepts n p0_ y1.2.2.1 else some default).bind fun (r9 : Bool) =>
  some ({ Text := s1, Cells := y1.2.1, At := y1.2.2.2, End := y1.2.2.1, Ok := ((y1.2.2.2 == ((List.length p1_ : Nat) : Int)) && r9) } : GTrace)
def FAutomaton_explore_J1 (n : Nat) (x_2 : Int) (states_5 : (List GState)) (from_5 : (List (List Int))) (number_4 : (List (GState × Int))) : Option (((List GState) × (List (List Int)) × (List (GState × Int)) × Int) ⊕ ((List GState) × (List (List Int)) × (List (GState × Int)))) :=
  some (Sum.inl (states_5, from_5, number_4, (iadd .i64 x_2 1)))
def FAutomaton_explore_J2 (n : Nat) (k_1 : Int) (x_2 : Int) (states_6 : (List GState)) (from_6 : (List (List Int))) (number_5 : (List (GState × Int))) (n_1 : Int) : Option (((List GState) × (List (List Int)) × (List (GState × Int)) × Int) ⊕ ((List GState) × (List (List Int)) × (List (GState × Int)))) :=
  (idx from_6 n_1).bind fun (x6 : (List Int)) =>
  (app 8 x6 [k_1]).bind fun (l3 : (List Int)) =>
  FAutomaton_explore_J1 n x_2 states_6 (List.set from_6 (Int.toNat n_1) l3) number_5
def FAutomaton_explore_L2 (n : Nat) (p0_ : GTable) (k_1 : Int) (states_3 : (List GState)) (from_3 : (List (List Int))) (number_2 : (List (GState × Int))) (x_2 : Int) : Option (((List GState) × (List (List Int)) × (List (GState × Int)) × Int) ⊕ ((List GState) × (List (List Int)) × (List (GState × Int)))) :=
  if decide (x_2 < ((List.length p0_.Rules : Nat) : Int)) = true then
    (idx states_3 k_1).bind fun (x5 : GState) =>
    (FAutomaton_Step n p0_ x5 x_2).bind fun (r11 : (GState × Bool)) =>
    if (!r11.2) = true then
      FAutomaton_explore_J1 n x_2 states_3 from_3 number_2
    else
      if (!(Option.isSome (mget r11.1 number_2))) = true then
        (app 24 states_3 [r11.1]).bind fun (l4 : (List GState)) =>
        (app 24 from_3 [([] : (List Int))]).bind fun (l5 : (List (List Int))) =>
        FAutomaton_explore_J2 n k_1 x_2 l4 l5 (mput r11.1 ((List.length states_3 : Nat) : Int) number_2) ((List.length states_3 : Nat) : Int)
      else
        FAutomaton_explore_J2 n k_1 x_2 states_3 from_3 number_2 (Option.getD (mget r11.1 number_2) 0)
  else
    some (Sum.inr (states_3, from_3, number_2))
def FAutomaton_explore_L1 (n : Nat) (p0_ : GTable) (states_1 : (List GState)) (from_1 : (List (List Int))) (number_1 : (List (GState × Int))) (k_1 : Int) : Option (((List GState) × (List (List Int)) × (List (GState × Int)) × Int) ⊕ ((List GState) × (List (List Int)))) :=
  if decide (k_1 < ((List.length states_1 : Nat) : Int)) = true then
    (whl (fun (x : ((List GState) × (List (List Int)) × (List (GState × Int)) × Int)) => FAutomaton_explore_L2 n p0_ k_1 x.1 x.2.1 x.2.2.1 x.2.2.2) n (states_1, from_1, number_1, 0)).bind fun (y2 : ((List GState) × (List (List Int)) × (List (GState × Int)))) =>
    some (Sum.inl (y2.1, y2.2.1, y2.2.2, (iadd .i64 k_1 1)))
  else
    some (Sum.inr (states_1, from_1))
def FAutomaton_explore (n : Nat) (p0_ : GTable) : Option ((List GState) × (List (List Int))) :=
  (FAutomaton_Start n).bind fun (r10 : GState) =>
  (whl (fun (x : ((List GState) × (List (List Int)) × (List (GState × Int)) × Int)) => FAutomaton_explore_L1 n p0_ x.1 x.2.1 x.2.2.1 x.2.2.2) n ([r10], ([[]] : List (List Int)), (mput r10 0 []), 0)).bind fun (y3 : ((List GState) × (List (List Int)))) =>
  some (y3.1, y3.2)
def FAutomaton_States (n : Nat) (p0_ : GTable) : Option (List GState) :=
  (FAutomaton_explore n p0_).bind fun (r12 : ((List GState) × (List (List Int)))) =>
  some r12.1
def FAutomaton_Alive_J1 (n : Nat) (x_3 : Int) (alive_3 : (List Bool)) (open_3 : (List Int)) : Option (((List Bool) × (List Int) × Int) ⊕ ((List Bool) × (List Int))) :=
  some (Sum.inl (alive_3, open_3, (iadd .i64 x_3 1)))
def FAutomaton_Alive_L1 (n : Nat) (p0_ : GTable) (r13 : ((List GState) × (List (List Int)))) (alive_1 : (List Bool)) (open_1 : (List Int)) (x_3 : Int) : Option (((List Bool) × (List Int) × Int) ⊕ ((List Bool) × (List Int))) :=
  if decide (x_3 < ((List.length r13.1 : Nat) : Int)) = true then
    (idx r13.1 x_3).bind fun (x7 : GState) =>
    (FAutomaton_Accepts n p0_ x7).bind fun (r14 : Bool) =>
    if r14 = true then
      (idx alive_1 x_3).bind fun (x8 : Bool) =>
      (put alive_1 x_3 true).bind fun (l7 : (List Bool)) =>
      (app 8 open_1 [x_3]).bind fun (l8 : (List Int)) =>
      FAutomaton_Alive_J1 n x_3 l7 l8
    else
      FAutomaton_Alive_J1 n x_3 alive_1 open_1
  else
    some (Sum.inr (alive_1, open_1))
def FAutomaton_Alive_J2 (n : Nat) (x_4 : Int) (alive_8 : (List Bool)) (open_7 : (List Int)) : Option (((List Bool) × (List Int) × Int) ⊕ ((List Bool) × (List Int))) :=
  some (Sum.inl (alive_8, open_7, (iadd .i64 x_4 1)))
def FAutomaton_Alive_L3 (n : Nat) (r13 : ((List GState) × (List (List Int)))) (x10 : (List Int)) (alive_6 : (List Bool)) (open_5 : (List Int)) (x_4 : Int) : Option (((List Bool) × (List Int) × Int) ⊕ ((List Bool) × (List Int))) :=
  if decide (x_4 < ((List.length x10 : Nat) : Int)) = true then
    (idx x10 x_4).bind fun (x11 : Int) =>
    (idx alive_6 x11).bind fun (x12 : Bool) =>
    if (!x12) = true then
      (idx alive_6 x11).bind fun (x13 : Bool) =>
      (put alive_6 x11 true).bind fun (l10 : (List Bool)) =>
      (app 8 open_5 [x11]).bind fun (l11 : (List Int)) =>
      FAutomaton_Alive_J2 n x_4 l10 l11
    else
      FAutomaton_Alive_J2 n x_4 alive_6 open_5
  else
    some (Sum.inr (alive_6, open_5))
def FAutomaton_Alive_L2 (n : Nat) (r13 : ((List GState) × (List (List Int)))) (alive_4 : (List Bool)) (open_4 : (List Int)) : Option (((List Bool) × (List Int)) ⊕ (List Bool)) :=
  if decide (((List.length open_4 : Nat) : Int) > 0) = true then
    (idx open_4 (isub .i64 ((List.length open_4 : Nat) : Int) 1)).bind fun (x9 : Int) =>
    (sub open_4 0 (isub .i64 ((List.length open_4 : Nat) : Int) 1)).bind fun (l9 : (List Int)) =>
    (idx r13.2 x9).bind fun (x10 : (List Int)) =>
    (whl (fun (x : ((List Bool) × (List Int) × Int)) => FAutomaton_Alive_L3 n r13 x10 x.1 x.2.1 x.2.2) n (alive_4, l9, 0)).bind fun (y5 : ((List Bool) × (List Int))) =>
    some (Sum.inl (y5.1, y5.2))
  else
    some (Sum.inr alive_4)
def FAutomaton_Alive (n : Nat) (p0_ : GTable) : Option (List Bool) :=
  (FAutomaton_explore n p0_).bind fun (r13 : ((List GState) × (List (List Int)))) =>
  (mkl 1 ((List.length r13.1 : Nat) : Int) (false : Bool)).bind fun (l6 : (List Bool)) =>
  (whl (fun (x : ((List Bool) × (List Int) × Int)) => FAutomaton_Alive_L1 n p0_ r13 x.1 x.2.1 x.2.2) n (l6, ([] : List Int), 0)).bind fun (y4 : ((List Bool) × (List Int))) =>
  (whl (fun (x : ((List Bool) × (List Int))) => FAutomaton_Alive_L2 n r13 x.1 x.2) n (y4.1, y4.2)).bind fun (y6 : (List Bool)) =>
  some y6
def FSixdotref02_SameCells_L1 (n : Nat) (p0_ : (List Int)) (p1_ : (List Int)) (i_1 : Int) : Option (Int ⊕ (Unit ⊕ Bool)) :=
  if decide (i_1 < ((List.length p0_ : Nat) : Int)) = true then
    (idx p0_ i_1).bind fun (x14 : Int) =>
    (idx p1_ i_1).bind fun (x15 : Int) =>
    if (x14 != x15) = true then
      some (Sum.inr (Sum.inr false))
    else
      some (Sum.inl (iadd .i64 i_1 1))
  else
    some (Sum.inr (Sum.inl ()))
def FSixdotref02_SameCells (n : Nat) (p0_ : (List Int)) (p1_ : (List Int)) : Option Bool :=
  if (((List.length p0_ : Nat) : Int) != ((List.length p1_ : Nat) : Int)) = true then
    some false
  else
    (whl (fun (x : Int) => FSixdotref02_SameCells_L1 n p0_ p1_ x) n 0).bind fun (y7 : (Unit ⊕ Bool)) =>
    match y7 with
    | Sum.inl y8 =>
      some true
    | Sum.inr y9 =>
      some y9
def FSixdotlaw03_sanity_L1 (n : Nat) (r15 : GRule) (r16 : GRule) (r17 : GRule) (r18 : GRule) (r20 : (GState × Bool)) (r21 : (GState × Bool)) (r22 : (GState × Bool)) (r23 : GTrace) (r24 : GTrace) (r25 : GTrace) (r26 : (List GState)) (r27 : (List Bool)) (i_2 : Int) : Option (Int ⊕ (Unit ⊕ Bool)) :=
  if decide (i_2 < ((List.length r26 : Nat) : Int)) = true then
    (idx r26 i_2).bind fun (x16 : GState) =>
    (idx [({ Mode := 0, Last := 0, Need := 63 } : GState), ({ Mode := 0, Last := 1, Need := 63 } : GState), ({ Mode := 1, Last := 0, Need := 8 } : GState), ({ Mode := 1, Last := 1, Need := 8 } : GState), ({ Mode := 1, Last := 3, Need := 63 } : GState), ({ Mode := 0, Last := 4, Need := 63 } : GState), ({ Mode := 1, Last := 4, Need := 8 } : GState)] i_2).bind fun (x17 : GState) =>
    (if (!(!((x16.Mode == x17.Mode) && ((x16.Last == x17.Last) && ((x16.Need == x17.Need) && true))))) = true then idx r27 i_2 else some default).bind fun (x18 : Bool) =>
    if ((!((x16.Mode == x17.Mode) && ((x16.Last == x17.Last) && ((x16.Need == x17.Need) && true)))) || (!x18)) = true then
      some (Sum.inr (Sum.inr false))
    else
      some (Sum.inl (iadd .i64 i_2 1))
  else
    some (Sum.inr (Sum.inl ()))
def FSixdotlaw03_sanity (n : Nat)  : Option Bool :=
  (FSixdotlaw03_rule n [97] 1 ({ a0 := 63, a1 := 0, a2 := 0 } : (Arr3 Int))).bind fun (r15 : GRule) =>
  (FSixdotlaw03_rule n [] 60 ({ a0 := 8, a1 := 0, a2 := 1 } : (Arr3 Int))).bind fun (r16 : GRule) =>
  (FSixdotlaw03_rule n [49] 1 ({ a0 := 63, a1 := 1, a2 := 1 } : (Arr3 Int))).bind fun (r17 : GRule) =>
  (FSixdotlaw03_rule n [32] 0 ({ a0 := 63, a1 := 1, a2 := 0 } : (Arr3 Int))).bind fun (r18 : GRule) =>
  (FAutomaton_Start n).bind fun (r19 : GState) =>
  (FAutomaton_Step n ({ Modes := 2, Accept := 3, Rules := [r15, r16, r17, r18] } : GTable) r19 1).bind fun (r20 : (GState × Bool)) =>
  (FAutomaton_Step n ({ Modes := 2, Accept := 3, Rules := [r15, r16, r17, r18] } : GTable) r20.1 0).bind fun (r21 : (GState × Bool)) =>
  (FAutomaton_Step n ({ Modes := 2, Accept := 3, Rules := [r15, r16, r17, r18] } : GTable) r20.1 4).bind fun (r22 : (GState × Bool)) =>
  (FAutomaton_Run n ({ Modes := 2, Accept := 3, Rules := [r15, r16, r17, r18] } : GTable) [1, 2, 3, 0]).bind fun (r23 : GTrace) =>
  (FAutomaton_Run n ({ Modes := 2, Accept := 3, Rules := [r15, r16, r17, r18] } : GTable) [1, 0]).bind fun (r24 : GTrace) =>
  (FAutomaton_Run n ({ Modes := 2, Accept := 3, Rules := [r15, r16, r17, r18] } : GTable) [1]).bind fun (r25 : GTrace) =>
  (FAutomaton_States n ({ Modes := 2, Accept := 3, Rules := [r15, r16, r17, r18] } : GTable)).bind fun (r26 : (List GState)) =>
  (FAutomaton_Alive n ({ Modes := 2, Accept := 3, Rules := [r15, r16, r17, r18] } : GTable)).bind fun (r27 : (List Bool)) =>
  if ((((List.length r26 : Nat) : Int) != ((List.length [({ Mode := 0, Last := 0, Need := 63 } : GState), ({ Mode := 0, Last := 1, Need := 63 } : GState), ({ Mode := 1, Last := 0, Need := 8 } : GState), ({ Mode := 1, Last := 1, Need := 8 } : GState), ({ Mode := 1, Last := 3, Need := 63 } : GState), ({ Mode := 0, Last := 4, Need := 63 } : GState), ({ Mode := 1, Last := 4, Need := 8 } : GState)] : Nat) : Int)) || (((List.length r27 : Nat) : Int) != ((List.length [({ Mode := 0, Last := 0, Need := 63 } : GState), ({ Mode := 0, Last := 1, Need := 63 } : GState), ({ Mode := 1, Last := 0, Need := 8 } : GState), ({ Mode := 1, Last := 1, Need := 8 } : GState), ({ Mode := 1, Last := 3, Need := 63 } : GState), ({ Mode := 0, Last := 4, Need := 63 } : GState), ({ Mode := 1, Last := 4, Need := 8 } : GState)] : Nat) : Int))) = true then
    some false
  else
    (whl (fun (x : Int) => FSixdotlaw03_sanity_L1 n r15 r16 r17 r18 r20 r21 r22 r23 r24 r25 r26 r27 x) n 0).bind fun (y10 : (Unit ⊕ Bool)) =>
    match y10 with
    | Sum.inl y11 =>
      (if (((r20.2 && ((r20.1.Mode == 1) && ((r20.1.Last == 0) && ((r20.1.Need == 8) && true)))) && (!r21.2)) && (!r22.2)) = true then FAutomaton_Start n else some default).bind fun (r28 : GState) =>
      (if (r23.Ok && (r23.Text == [49, 32, 97])) = true then FSixdotref02_SameCells n r23.Cells [60, 1, 0, 1] else some default).bind fun (r29 : Bool) =>
      (if (((((r20.2 && ((r20.1.Mode == 1) && ((r20.1.Last == 0) && ((r20.1.Need == 8) && true)))) && (!r21.2)) && (!r22.2)) && ((r28.Mode == 0) && ((r28.Last == 0) && ((r28.Need == 63) && true)))) && (((((((r23.Ok && (r23.Text == [49, 32, 97])) && r29) && (r23.At == 4)) && (r24.At == 1)) && (!r24.Ok)) && (r25.At == 1)) && (!r25.Ok))) = true then idx r26 1 else some default).bind fun (x19 : GState) =>
      (if (((((r20.2 && ((r20.1.Mode == 1) && ((r20.1.Last == 0) && ((r20.1.Need == 8) && true)))) && (!r21.2)) && (!r22.2)) && ((r28.Mode == 0) && ((r28.Last == 0) && ((r28.Need == 63) && true)))) && (((((((r23.Ok && (r23.Text == [49, 32, 97])) && r29) && (r23.At == 4)) && (r24.At == 1)) && (!r24.Ok)) && (r25.At == 1)) && (!r25.Ok))) = true then FAutomaton_Accepts n ({ Modes := 2, Accept := 3, Rules := [r15, r16, r17, r18] } : GTable) x19 else some default).bind fun (r30 : Bool) =>
      (if ((((((r20.2 && ((r20.1.Mode == 1) && ((r20.1.Last == 0) && ((r20.1.Need == 8) && true)))) && (!r21.2)) && (!r22.2)) && ((r28.Mode == 0) && ((r28.Last == 0) && ((r28.Need == 63) && true)))) && (((((((r23.Ok && (r23.Text == [49, 32, 97])) && r29) && (r23.At == 4)) && (r24.At == 1)) && (!r24.Ok)) && (r25.At == 1)) && (!r25.Ok))) && r30) = true then FAutomaton_Accepts n ({ Modes := 2, Accept := 3, Rules := [r15, r16, r17, r18] } : GTable) r20.1 else some default).bind fun (r31 : Bool) =>
      (if (((((((r20.2 && ((r20.1.Mode == 1) && ((r20.1.Last == 0) && ((r20.1.Need == 8) && true)))) && (!r21.2)) && (!r22.2)) && ((r28.Mode == 0) && ((r28.Last == 0) && ((r28.Need == 63) && true)))) && (((((((r23.Ok && (r23.Text == [49, 32, 97])) && r29) && (r23.At == 4)) && (r24.At == 1)) && (!r24.Ok)) && (r25.At == 1)) && (!r25.Ok))) && r30) && (!r31)) = true then FAutomaton_Accepts n ({ Modes := 2, Accept := 3, Rules := [r15, r16, r17, r18] } : GTable) ({ Mode := 2, Last := 0, Need := 63 } : GState) else some default).bind fun (r32 : Bool) =>
      some ((((((((r20.2 && ((r20.1.Mode == 1) && ((r20.1.Last == 0) && ((r20.1.Need == 8) && true)))) && (!r21.2)) && (!r22.2)) && ((r28.Mode == 0) && ((r28.Last == 0) && ((r28.Need == 63) && true)))) && (((((((r23.Ok && (r23.Text == [49, 32, 97])) && r29) && (r23.At == 4)) && (r24.At == 1)) && (!r24.Ok)) && (r25.At == 1)) && (!r25.Ok))) && r30) && (!r31)) && (!r32))
    | Sum.inr y12 =>
      some y12
def FSixdotref02_simple (n : Nat) (p0_ : (List UInt8)) (p1_ : (List Int)) (p2_ : (Arr2 Int)) : Option GRule :=
  some ({ Print := p0_, Cells := p1_, Left := 63, Right := 63, From := p2_.a0, To := p2_.a1 } : GRule)
def FSixdotref02_letters (n : Nat)  : Option (List GRule) :=
  (FSixdotref02_simple n [97] [1] ({ a0 := 0, a1 := 0 } : (Arr2 Int))).bind fun (r33 : GRule) =>
  (FSixdotref02_simple n [98] [3] ({ a0 := 0, a1 := 0 } : (Arr2 Int))).bind fun (r34 : GRule) =>
  (FSixdotref02_simple n [99] [9] ({ a0 := 0, a1 := 0 } : (Arr2 Int))).bind fun (r35 : GRule) =>
  (FSixdotref02_simple n [32] [0] ({ a0 := 0, a1 := 0 } : (Arr2 Int))).bind fun (r36 : GRule) =>
  some [r33, r34, r35, r36]
def FSixdotref02_indicator (n : Nat) (p0_ : Int) (p1_ : Int) (p2_ : (Arr2 Int)) : Option GRule :=
  (FSixdotref02_simple n [] [p0_] p2_).bind fun (r37 : GRule) =>
  (guardB (decide (0 ≤ p1_))).bind fun (u2 : Unit) =>
  some ({ Print := r37.Print, Cells := r37.Cells, Left := r37.Left, Right := ishl .u8 1 p1_, From := r37.From, To := r37.To } : GRule)
def FSixdotref02_Base_J1 (n : Nat) (l_1 : (List GRule)) : Option GTable :=
  some ({ Modes := 1, Accept := 1, Rules := l_1 } : GTable)
def FSixdotref02_Base (n : Nat) (p0_ : Int) : Option GTable :=
  (FSixdotref02_letters n).bind fun (r38 : (List GRule)) =>
  if ((irem p0_ 8) == 1) = true then
    (FSixdotref02_indicator n 60 3 ({ a0 := 0, a1 := 1 } : (Arr2 Int))).bind fun (r39 : GRule) =>
    (FSixdotref02_simple n [49] [1] ({ a0 := 1, a1 := 1 } : (Arr2 Int))).bind fun (r40 : GRule) =>
    (FSixdotref02_simple n [50] [3] ({ a0 := 1, a1 := 1 } : (Arr2 Int))).bind fun (r41 : GRule) =>
    (FSixdotref02_simple n [32] [0] ({ a0 := 1, a1 := 0 } : (Arr2 Int))).bind fun (r42 : GRule) =>
    (app 64 r38 [r39, r40, r41, r42]).bind fun (l12 : (List GRule)) =>
    some ({ Modes := 2, Accept := 3, Rules := l12 } : GTable)
  else
    if ((irem p0_ 8) == 2) = true then
      (FSixdotref02_indicator n 32 2 ({ a0 := 0, a1 := 1 } : (Arr2 Int))).bind fun (r43 : GRule) =>
      (FSixdotref02_simple n [65] [1] ({ a0 := 1, a1 := 0 } : (Arr2 Int))).bind fun (r44 : GRule) =>
      (FSixdotref02_simple n [66] [3] ({ a0 := 1, a1 := 0 } : (Arr2 Int))).bind fun (r45 : GRule) =>
      (app 64 r38 [r43, r44, r45]).bind fun (l13 : (List GRule)) =>
      some ({ Modes := 2, Accept := 1, Rules := l13 } : GTable)
    else
      if ((irem p0_ 8) == 3) = true then
        (FSixdotref02_simple n [97, 98] [7] ({ a0 := 0, a1 := 0 } : (Arr2 Int))).bind fun (r46 : GRule) =>
        (FSixdotref02_simple n [97, 98, 99] [15] ({ a0 := 0, a1 := 0 } : (Arr2 Int))).bind fun (r47 : GRule) =>
        (FSixdotref02_simple n [99, 97] [4, 4] ({ a0 := 0, a1 := 0 } : (Arr2 Int))).bind fun (r48 : GRule) =>
        (app 64 r38 [r46, r47, r48]).bind fun (l14 : (List GRule)) =>
        FSixdotref02_Base_J1 n l14
      else
        if ((irem p0_ 8) == 4) = true then
          (FSixdotref02_simple n [45] [1, 3] ({ a0 := 0, a1 := 0 } : (Arr2 Int))).bind fun (r49 : GRule) =>
          (app 64 r38 [r49]).bind fun (l15 : (List GRule)) =>
          FSixdotref02_Base_J1 n l15
        else
          if ((irem p0_ 8) == 5) = true then
            (FSixdotref02_simple n [98] [44] ({ a0 := 0, a1 := 0 } : (Arr2 Int))).bind fun (r50 : GRule) =>
            (FSixdotref02_simple n [99, 97, 98] [44] ({ a0 := 0, a1 := 0 } : (Arr2 Int))).bind fun (r51 : GRule) =>
            (FSixdotref02_simple n [45] [36] ({ a0 := 0, a1 := 0 } : (Arr2 Int))).bind fun (r52 : GRule) =>
            (app 64 r38 [({ Print := r50.Print, Cells := r50.Cells, Left := 17, Right := r50.Right, From := r50.From, To := r50.To } : GRule), ({ Print := r51.Print, Cells := r51.Cells, Left := 2, Right := r51.Right, From := r51.From, To := r51.To } : GRule), r52]).bind fun (l16 : (List GRule)) =>
            FSixdotref02_Base_J1 n l16
          else
            if ((irem p0_ 8) == 6) = true then
              (FSixdotref02_indicator n 40 1 ({ a0 := 0, a1 := 1 } : (Arr2 Int))).bind fun (r53 : GRule) =>
              (FSixdotref02_simple n [225] [1] ({ a0 := 1, a1 := 0 } : (Arr2 Int))).bind fun (r54 : GRule) =>
              (FSixdotref02_simple n [226] [3] ({ a0 := 1, a1 := 0 } : (Arr2 Int))).bind fun (r55 : GRule) =>
              (app 64 r38 [r53, r54, r55]).bind fun (l17 : (List GRule)) =>
              some ({ Modes := 2, Accept := 1, Rules := l17 } : GTable)
            else
              if ((irem p0_ 8) == 7) = true then
                (FSixdotref02_simple n [45] [1, 5] ({ a0 := 0, a1 := 0 } : (Arr2 Int))).bind fun (r56 : GRule) =>
                (FSixdotref02_simple n [49] [5, 5] ({ a0 := 0, a1 := 0 } : (Arr2 Int))).bind fun (r57 : GRule) =>
                (FSixdotref02_simple n [50] [5, 9] ({ a0 := 0, a1 := 0 } : (Arr2 Int))).bind fun (r58 : GRule) =>
                (app 64 r38 [r56, r57, r58]).bind fun (l18 : (List GRule)) =>
                FSixdotref02_Base_J1 n l18
              else
                FSixdotref02_Base_J1 n r38
def FSixdotref02_Rule_L1 (n : Nat) (p0_ : GRawRule) (p1_ : Int) (x20 : Int) (x21 : Int) (out_1 : (List UInt8)) (i_3 : Int) : Option (((List UInt8) × Int) ⊕ (List UInt8)) :=
  if ((decide (i_3 < ((List.length p0_.P : Nat) : Int))) && (decide (i_3 < 3))) = true then
    (idx p0_.P i_3).bind fun (x22 : Int) =>
    (sub [97, 98, 99, 65, 66, 49, 50, 45, 46] (IntKind.i64.wrap (irem x22 9)) (iadd .i64 (IntKind.i64.wrap (irem x22 9)) 1)).bind fun (s2 : (List UInt8)) =>
    (cat out_1 s2).bind fun (s3 : (List UInt8)) =>
    some (Sum.inl (s3, (iadd .i64 i_3 1)))
  else
    some (Sum.inr out_1)
def FSixdotref02_Rule_L2 (n : Nat) (p0_ : GRawRule) (p1_ : Int) (x20 : Int) (x21 : Int) (y13 : (List UInt8)) (out_3 : (List Int)) (i_4 : Int) : Option (((List Int) × Int) ⊕ (List Int)) :=
  if ((decide (i_4 < ((List.length p0_.C : Nat) : Int))) && (decide (i_4 < 2))) = true then
    (idx p0_.C i_4).bind fun (x24 : Int) =>
    (idx [1, 3, 9, 5, 7, 32, 44, 60] (irem x24 8)).bind fun (x25 : Int) =>
    (app 1 out_3 [x25]).bind fun (l19 : (List Int)) =>
    some (Sum.inl (l19, (iadd .i64 i_4 1)))
  else
    some (Sum.inr out_3)
def FSixdotref02_Rule (n : Nat) (p0_ : GRawRule) (p1_ : Int) : Option GRule :=
  (idx [63, 63, 2, 8, 17, 62, 4, 1] (irem p0_.L 8)).bind fun (x20 : Int) =>
  (idx [63, 63, 2, 8, 17, 62, 4, 1] (irem p0_.R 8)).bind fun (x21 : Int) =>
  (guardB (!(p1_ == 0))).bind fun (u3 : Unit) =>
  (guardB (!(p1_ == 0))).bind fun (u4 : Unit) =>
  (whl (fun (x : ((List UInt8) × Int)) => FSixdotref02_Rule_L1 n p0_ p1_ x20 x21 x.1 x.2) n ([], 0)).bind fun (y13 : (List UInt8)) =>
  (idx [1, 3, 9, 5, 7, 32, 44, 60] (irem (iquo .u8 p0_.L 8) 8)).bind fun (x23 : Int) =>
  (whl (fun (x : ((List Int) × Int)) => FSixdotref02_Rule_L2 n p0_ p1_ x20 x21 y13 x.1 x.2) n ([x23], 0)).bind fun (y14 : (List Int)) =>
  some ({ Print := y13, Cells := y14, Left := x20, Right := x21, From := irem (IntKind.i64.wrap p0_.W.a0) p1_, To := irem (IntKind.i64.wrap p0_.W.a1) p1_ } : GRule)
def FSixdotref02_Character (n : Nat) (p0_ : Int) : Option Bool :=
  some ((decide (iand .u8 p0_ 127 ≥ 32)) && (decide (iand .u8 p0_ 127 ≤ 126)))
def FSixdotref02_Text_L1 (n : Nat) (p0_ : (List UInt8)) (i_5 : Int) : Option (Int ⊕ (Unit ⊕ (Int × Int))) :=
  if decide (i_5 < ((List.length p0_ : Nat) : Int)) = true then
    (sidx p0_ i_5).bind fun (b3 : Int) =>
    (FSixdotref02_Character n b3).bind fun (r59 : Bool) =>
    if (!r59) = true then
      some (Sum.inr (Sum.inr (i_5, 60)))
    else
      some (Sum.inl (iadd .i64 i_5 1))
  else
    some (Sum.inr (Sum.inl ()))
def FSixdotref02_Text (n : Nat) (p0_ : (List UInt8)) : Option (Int × Int) :=
  (whl (fun (x : Int) => FSixdotref02_Text_L1 n p0_ x) n 0).bind fun (y15 : (Unit ⊕ (Int × Int))) =>
  match y15 with
  | Sum.inl y16 =>
    some (((List.length p0_ : Nat) : Int), 0)
  | Sum.inr y17 =>
    some y17
def FSixdotref02_IsText (n : Nat) (p0_ : (List UInt8)) : Option Bool :=
  (FSixdotref02_Text n p0_).bind fun (r60 : (Int × Int)) =>
  some (r60.2 == 0)
def FSixdotref02_Space (n : Nat) (p0_ : Int) : Option Bool :=
  some ((iand .u8 p0_ 127) == 32)
def FSixdotref02_Sound_L1 (n : Nat) (p0_ : GRule) (space_1 : Bool) (i_6 : Int) : Option ((Bool × Int) ⊕ Bool) :=
  if decide (i_6 < ((List.length p0_.Print : Nat) : Int)) = true then
    (if (!space_1) = true then sidx p0_.Print i_6 else some default).bind fun (b4 : Int) =>
    (if (!space_1) = true then FSixdotref02_Space n b4 else some default).bind fun (r62 : Bool) =>
    some (Sum.inl ((space_1 || r62), (iadd .i64 i_6 1)))
  else
    some (Sum.inr space_1)
def FSixdotref02_Sound_L2 (n : Nat) (p0_ : GRule) (y18 : Bool) (blank_1 : Bool) (i_7 : Int) : Option ((Bool × Int) ⊕ (Bool ⊕ Bool)) :=
  if decide (i_7 < ((List.length p0_.Cells : Nat) : Int)) = true then
    (idx p0_.Cells i_7).bind fun (x26 : Int) =>
    if decide (x26 ≥ 63) = true then
      some (Sum.inr (Sum.inr false))
    else
      (if (!blank_1) = true then idx p0_.Cells i_7 else some default).bind fun (x27 : Int) =>
      some (Sum.inl ((blank_1 || (x27 == 0)), (iadd .i64 i_7 1)))
  else
    some (Sum.inr (Sum.inl blank_1))
def FSixdotref02_Sound (n : Nat) (p0_ : GRule) (p1_ : Int) : Option Bool :=
  (FSixdotref02_IsText n p0_.Print).bind fun (r61 : Bool) =>
  if ((((!r61) || (decide (((List.length p0_.Print : Nat) : Int) > 4))) || (decide (((List.length p0_.Cells : Nat) : Int) < 1))) || (decide (((List.length p0_.Cells : Nat) : Int) > 4))) = true then
    some false
  else
    if ((((((((decide (p0_.Left < 1)) || (decide (p0_.Left > 63))) || (decide (p0_.Right < 1))) || (decide (p0_.Right > 63))) || (decide (p0_.From < 0))) || (decide (p0_.From ≥ p1_))) || (decide (p0_.To < 0))) || (decide (p0_.To ≥ p1_))) = true then
      some false
    else
      (whl (fun (x : (Bool × Int)) => FSixdotref02_Sound_L1 n p0_ x.1 x.2) n (false, 0)).bind fun (y18 : Bool) =>
      (whl (fun (x : (Bool × Int)) => FSixdotref02_Sound_L2 n p0_ y18 x.1 x.2) n (false, 0)).bind fun (y19 : (Bool ⊕ Bool)) =>
      match y19 with
      | Sum.inl y20 =>
        if (!y18) = true then
          some (!y20)
        else
          some (((((List.length p0_.Print : Nat) : Int) == 1) && (((List.length p0_.Cells : Nat) : Int) == 1)) && y20)
      | Sum.inr y21 =>
        some y21
def FSixdotref02_SameRule (n : Nat) (p0_ : GRule) (p1_ : GRule) : Option Bool :=
  (if (p0_.Print == p1_.Print) = true then FSixdotref02_SameCells n p0_.Cells p1_.Cells else some default).bind fun (r63 : Bool) =>
  some ((((((p0_.Print == p1_.Print) && r63) && (p0_.Left == p1_.Left)) && (p0_.Right == p1_.Right)) && (p0_.From == p1_.From)) && (p0_.To == p1_.To))
def FSixdotref02_Check_L2 (n : Nat) (p0_ : GTable) (i_8 : Int) (k_2 : Int) : Option (Int ⊕ (Unit ⊕ (Int × Int))) :=
  if decide (k_2 < i_8) = true then
    (idx p0_.Rules k_2).bind fun (x29 : GRule) =>
    (idx p0_.Rules i_8).bind fun (x30 : GRule) =>
    (FSixdotref02_SameRule n x29 x30).bind fun (r65 : Bool) =>
    if r65 = true then
      some (Sum.inr (Sum.inr (i_8, 20)))
    else
      some (Sum.inl (iadd .i64 k_2 1))
  else
    some (Sum.inr (Sum.inl ()))
def FSixdotref02_Check_L1 (n : Nat) (p0_ : GTable) (i_8 : Int) : Option (Int ⊕ (Unit ⊕ (Int × Int))) :=
  if decide (i_8 < ((List.length p0_.Rules : Nat) : Int)) = true then
    (idx p0_.Rules i_8).bind fun (x28 : GRule) =>
    (FSixdotref02_Sound n x28 p0_.Modes).bind fun (r64 : Bool) =>
    if (!r64) = true then
      some (Sum.inr (Sum.inr (i_8, 20)))
    else
      (whl (fun (x : Int) => FSixdotref02_Check_L2 n p0_ i_8 x) n 0).bind fun (y22 : (Unit ⊕ (Int × Int))) =>
      match y22 with
      | Sum.inl y23 =>
        some (Sum.inl (iadd .i64 i_8 1))
      | Sum.inr y24 =>
        some (Sum.inr (Sum.inr y24))
  else
    some (Sum.inr (Sum.inl ()))
def FSixdotref02_Check (n : Nat) (p0_ : GTable) : Option (Int × Int) :=
  (if (!(((decide (p0_.Modes < 1)) || (decide (p0_.Modes > 8))) || (p0_.Accept == 0))) = true then guardB (decide (0 ≤ p0_.Modes)) else some default).bind fun (u5 : Unit) =>
  if ((((((decide (p0_.Modes < 1)) || (decide (p0_.Modes > 8))) || (p0_.Accept == 0)) || (decide (IntKind.i64.wrap p0_.Accept ≥ ishl .i64 1 p0_.Modes))) || (decide (((List.length p0_.Rules : Nat) : Int) < 1))) || (decide (((List.length p0_.Rules : Nat) : Int) > 64))) = true then
    some ((-1), 1)
  else
    (whl (fun (x : Int) => FSixdotref02_Check_L1 n p0_ x) n 0).bind fun (y25 : (Unit ⊕ (Int × Int))) =>
    match y25 with
    | Sum.inl y26 =>
      some (0, 0)
    | Sum.inr y27 =>
      some y27
def FSixdotref02_Valid (n : Nat) (p0_ : GTable) : Option Bool :=
  (FSixdotref02_Check n p0_).bind fun (r66 : (Int × Int)) =>
  some (r66.2 == 0)
def FSixdotref02_Made_J1 (n : Nat) (i_9 : Int) (t_3 : (List GRule)) : Option (((List GRule) × Int) ⊕ (List GRule)) :=
  some (Sum.inl (t_3, (iadd .i64 i_9 1)))
def FSixdotref02_Made_L1 (n : Nat) (p0_ : GRaw) (r67 : GTable) (t_1 : (List GRule)) (i_9 : Int) : Option (((List GRule) × Int) ⊕ (List GRule)) :=
  if decide (i_9 < ((List.length r67.Rules : Nat) : Int)) = true then
    (guardB (decide (0 ≤ i_9))).bind fun (u6 : Unit) =>
    if ((iand .u8 (ishr .u8 p0_.Drop i_9) 1) == 0) = true then
      (idx r67.Rules i_9).bind fun (x31 : GRule) =>
      (app 64 t_1 [x31]).bind fun (l20 : (List GRule)) =>
      FSixdotref02_Made_J1 n i_9 l20
    else
      FSixdotref02_Made_J1 n i_9 t_1
  else
    some (Sum.inr t_1)
def FSixdotref02_Made_J2 (n : Nat) (i_10 : Int) (t_6 : (List GRule)) : Option (((List GRule) × Int) ⊕ (List GRule)) :=
  some (Sum.inl (t_6, (iadd .i64 i_10 1)))
def FSixdotref02_Made_L2 (n : Nat) (p0_ : GRaw) (r67 : GTable) (t_4 : (List GRule)) (i_10 : Int) : Option (((List GRule) × Int) ⊕ (List GRule)) :=
  if ((decide (i_10 < ((List.length p0_.More : Nat) : Int))) && (decide (i_10 < 2))) = true then
    (idx p0_.More i_10).bind fun (x32 : GRawRule) =>
    (FSixdotref02_Rule n x32 r67.Modes).bind fun (r68 : GRule) =>
    (app 64 t_4 [r68]).bind fun (l21 : (List GRule)) =>
    (FSixdotref02_Valid n ({ Modes := r67.Modes, Accept := r67.Accept, Rules := l21 } : GTable)).bind fun (r69 : Bool) =>
    if (!r69) = true then
      (sub l21 0 (isub .i64 ((List.length l21 : Nat) : Int) 1)).bind fun (l22 : (List GRule)) =>
      FSixdotref02_Made_J2 n i_10 l22
    else
      FSixdotref02_Made_J2 n i_10 l21
  else
    some (Sum.inr t_4)
def FSixdotref02_Made_J3 (n : Nat) (t_7 : GTable) : Option GTable :=
  some t_7
def FSixdotref02_Made (n : Nat) (p0_ : GRaw) : Option GTable :=
  (FSixdotref02_Base n p0_.Base).bind fun (r67 : GTable) =>
  (whl (fun (x : ((List GRule) × Int)) => FSixdotref02_Made_L1 n p0_ r67 x.1 x.2) n (([] : List GRule), 0)).bind fun (y28 : (List GRule)) =>
  (whl (fun (x : ((List GRule) × Int)) => FSixdotref02_Made_L2 n p0_ r67 x.1 x.2) n (y28, 0)).bind fun (y29 : (List GRule)) =>
  if (((List.length y29 : Nat) : Int) == 0) = true then
    FSixdotref02_Made_J3 n r67
  else
    FSixdotref02_Made_J3 n ({ Modes := r67.Modes, Accept := r67.Accept, Rules := y29 } : GTable)
def FSixdotref03_Bit (n : Nat) (p0_ : Int) (p1_ : Int) : Option Bool :=
  (if ((decide (p1_ ≥ 0)) && (decide (p1_ < 8))) = true then guardB (decide (0 ≤ p1_)) else some default).bind fun (u7 : Unit) =>
  some (((decide (p1_ ≥ 0)) && (decide (p1_ < 8))) && ((iand .u8 (ishr .u8 p0_ p1_) 1) == 1))
def FSixdotref02_Class (n : Nat) (p0_ : Int) : Option Int :=
  if ((decide (iand .u8 p0_ 127 ≥ 97)) && (decide (iand .u8 p0_ 127 ≤ 122))) = true then
    some 1
  else
    if ((decide (iand .u8 p0_ 127 ≥ 65)) && (decide (iand .u8 p0_ 127 ≤ 90))) = true then
      some 2
    else
      if ((decide (iand .u8 p0_ 127 ≥ 48)) && (decide (iand .u8 p0_ 127 ≤ 57))) = true then
        some 3
      else
        if ((iand .u8 p0_ 127) == 32) = true then
          some 4
        else
          some 5
def FSixdotref03_Step (n : Nat) (p0_ : GTable) (p1_ : GState) (p2_ : Int) : Option (GState × Bool) :=
  if ((decide (p2_ < 0)) || (decide (p2_ ≥ ((List.length p0_.Rules : Nat) : Int)))) = true then
    some (({ Mode := 0, Last := 0, Need := 0 } : GState), false)
  else
    (idx p0_.Rules p2_).bind fun (x33 : GRule) =>
    (if (!(x33.From != p1_.Mode)) = true then FSixdotref03_Bit n x33.Left p1_.Last else some default).bind fun (r70 : Bool) =>
    if ((x33.From != p1_.Mode) || (!r70)) = true then
      some (({ Mode := 0, Last := 0, Need := 0 } : GState), false)
    else
      if ((((List.length x33.Print : Nat) : Int) == 0) && ((iand .u8 p1_.Need x33.Right) == 0)) = true then
        some (({ Mode := 0, Last := 0, Need := 0 } : GState), false)
      else
        if (((List.length x33.Print : Nat) : Int) == 0) = true then
          some (({ Mode := x33.To, Last := p1_.Last, Need := iand .u8 p1_.Need x33.Right } : GState), true)
        else
          (sidx x33.Print 0).bind fun (b5 : Int) =>
          (FSixdotref02_Class n b5).bind fun (r71 : Int) =>
          (FSixdotref03_Bit n p1_.Need r71).bind fun (r72 : Bool) =>
          if (!r72) = true then
            some (({ Mode := 0, Last := 0, Need := 0 } : GState), false)
          else
            (sidx x33.Print (isub .i64 ((List.length x33.Print : Nat) : Int) 1)).bind fun (b6 : Int) =>
            (FSixdotref02_Class n b6).bind fun (r73 : Int) =>
            some (({ Mode := x33.To, Last := r73, Need := x33.Right } : GState), true)
def FSixdotref03_Accepts (n : Nat) (p0_ : GTable) (p1_ : GState) : Option Bool :=
  (if ((decide (p1_.Mode ≥ 0)) && (decide (p1_.Mode < p0_.Modes))) = true then FSixdotref03_Bit n p0_.Accept p1_.Mode else some default).bind fun (r74 : Bool) =>
  (if (((decide (p1_.Mode ≥ 0)) && (decide (p1_.Mode < p0_.Modes))) && r74) = true then FSixdotref03_Bit n p1_.Need 0 else some default).bind fun (r75 : Bool) =>
  some ((((decide (p1_.Mode ≥ 0)) && (decide (p1_.Mode < p0_.Modes))) && r74) && r75)
def FSixdotref03_Start (n : Nat)  : Option GState :=
  some ({ Mode := 0, Last := 0, Need := 63 } : GState)
def FSixdotref03_Same (n : Nat) (p0_ : GTrace) (p1_ : GTrace) : Option Bool :=
  (if (p0_.Text == p1_.Text) = true then FSixdotref02_SameCells n p0_.Cells p1_.Cells else some default).bind fun (r79 : Bool) =>
  some (((((p0_.Text == p1_.Text) && r79) && (p0_.At == p1_.At)) && ((p0_.End.Mode == p1_.End.Mode) && ((p0_.End.Last == p1_.End.Last) && ((p0_.End.Need == p1_.End.Need) && true)))) && (p0_.Ok == p1_.Ok))
def FSixdotref03_Index_L1 (n : Nat) (p0_ : (List GState)) (p1_ : GState) (i_12 : Int) : Option (Int ⊕ (Unit ⊕ Int)) :=
  if decide (i_12 < ((List.length p0_ : Nat) : Int)) = true then
    (idx p0_ i_12).bind fun (x39 : GState) =>
    if ((x39.Mode == p1_.Mode) && ((x39.Last == p1_.Last) && ((x39.Need == p1_.Need) && true))) = true then
      some (Sum.inr (Sum.inr i_12))
    else
      some (Sum.inl (iadd .i64 i_12 1))
  else
    some (Sum.inr (Sum.inl ()))
def FSixdotref03_Index (n : Nat) (p0_ : (List GState)) (p1_ : GState) : Option Int :=
  (whl (fun (x : Int) => FSixdotref03_Index_L1 n p0_ p1_ x) n 0).bind fun (y33 : (Unit ⊕ Int)) =>
  match y33 with
  | Sum.inl y34 =>
    some (-1)
  | Sum.inr y35 =>
    some y35
def FSixdotref03_States_J1 (n : Nat) (k_3 : Int) (out_21 : (List GState)) : Option (((List GState) × Int) ⊕ (List GState)) :=
  some (Sum.inl (out_21, (iadd .i64 k_3 1)))
def FSixdotref03_States_L2 (n : Nat) (p0_ : GTable) (i_13 : Int) (out_19 : (List GState)) (k_3 : Int) : Option (((List GState) × Int) ⊕ (List GState)) :=
  if decide (k_3 < ((List.length p0_.Rules : Nat) : Int)) = true then
    (idx out_19 i_13).bind fun (x40 : GState) =>
    (FSixdotref03_Step n p0_ x40 k_3).bind fun (r81 : (GState × Bool)) =>
    (if r81.2 = true then FSixdotref03_Index n out_19 r81.1 else some default).bind fun (r82 : Int) =>
    if (r81.2 && (decide (r82 < 0))) = true then
      (app 24 out_19 [r81.1]).bind fun (l24 : (List GState)) =>
      FSixdotref03_States_J1 n k_3 l24
    else
      FSixdotref03_States_J1 n k_3 out_19
  else
    some (Sum.inr out_19)
def FSixdotref03_States_L1 (n : Nat) (p0_ : GTable) (out_17 : (List GState)) (i_13 : Int) : Option (((List GState) × Int) ⊕ (List GState)) :=
  if decide (i_13 < ((List.length out_17 : Nat) : Int)) = true then
    (whl (fun (x : ((List GState) × Int)) => FSixdotref03_States_L2 n p0_ i_13 x.1 x.2) n (out_17, 0)).bind fun (y36 : (List GState)) =>
    some (Sum.inl (y36, (iadd .i64 i_13 1)))
  else
    some (Sum.inr out_17)
def FSixdotref03_States (n : Nat) (p0_ : GTable) : Option (List GState) :=
  (FSixdotref03_Start n).bind fun (r80 : GState) =>
  (whl (fun (x : ((List GState) × Int)) => FSixdotref03_States_L1 n p0_ x.1 x.2) n ([r80], 0)).bind fun (y37 : (List GState)) =>
  some y37
def FSixdotref03_Alive_L1 (n : Nat) (p0_ : GTable) (r83 : (List GState)) (out_22 : (List Bool)) (i_15 : Int) : Option (((List Bool) × Int) ⊕ (List Bool)) :=
  if decide (i_15 < ((List.length r83 : Nat) : Int)) = true then
    (idx r83 i_15).bind fun (x43 : GState) =>
    (FSixdotref03_Accepts n p0_ x43).bind fun (r84 : Bool) =>
    (app 1 out_22 [r84]).bind fun (l25 : (List Bool)) =>
    some (Sum.inl (l25, (iadd .i64 i_15 1)))
  else
    some (Sum.inr out_22)
def FSixdotref03_Alive_J1 (n : Nat) (k_4 : Int) (out_30 : (List Bool)) (grown_6 : Bool) : Option (((List Bool) × Bool × Int) ⊕ ((List Bool) × Bool)) :=
  some (Sum.inl (out_30, grown_6, (iadd .i64 k_4 1)))
def FSixdotref03_Alive_L4 (n : Nat) (p0_ : GTable) (r83 : (List GState)) (i_16 : Int) (out_28 : (List Bool)) (grown_4 : Bool) (k_4 : Int) : Option (((List Bool) × Bool × Int) ⊕ ((List Bool) × Bool)) :=
  (if decide (k_4 < ((List.length p0_.Rules : Nat) : Int)) = true then idx out_28 i_16 else some default).bind fun (x44 : Bool) =>
  if ((decide (k_4 < ((List.length p0_.Rules : Nat) : Int))) && (!x44)) = true then
    (idx r83 i_16).bind fun (x45 : GState) =>
    (FSixdotref03_Step n p0_ x45 k_4).bind fun (r85 : (GState × Bool)) =>
    (if r85.2 = true then FSixdotref03_Index n r83 r85.1 else some default).bind fun (r86 : Int) =>
    (if r85.2 = true then idx out_28 r86 else some default).bind fun (x46 : Bool) =>
    if (r85.2 && x46) = true then
      (idx out_28 i_16).bind fun (x47 : Bool) =>
      (put out_28 i_16 true).bind fun (l26 : (List Bool)) =>
      FSixdotref03_Alive_J1 n k_4 l26 true
    else
      FSixdotref03_Alive_J1 n k_4 out_28 grown_4
  else
    some (Sum.inr (out_28, grown_4))
def FSixdotref03_Alive_L3 (n : Nat) (p0_ : GTable) (r83 : (List GState)) (out_26 : (List Bool)) (grown_2 : Bool) (i_16 : Int) : Option (((List Bool) × Bool × Int) ⊕ ((List Bool) × Bool)) :=
  if decide (i_16 < ((List.length r83 : Nat) : Int)) = true then
    (whl (fun (x : ((List Bool) × Bool × Int)) => FSixdotref03_Alive_L4 n p0_ r83 i_16 x.1 x.2.1 x.2.2) n (out_26, grown_2, 0)).bind fun (y42 : ((List Bool) × Bool)) =>
    some (Sum.inl (y42.1, y42.2, (iadd .i64 i_16 1)))
  else
    some (Sum.inr (out_26, grown_2))
def FSixdotref03_Alive_L2 (n : Nat) (p0_ : GTable) (r83 : (List GState)) (out_24 : (List Bool)) (grown_1 : Bool) : Option (((List Bool) × Bool) ⊕ (List Bool)) :=
  if grown_1 = true then
    (whl (fun (x : ((List Bool) × Bool × Int)) => FSixdotref03_Alive_L3 n p0_ r83 x.1 x.2.1 x.2.2) n (out_24, false, 0)).bind fun (y43 : ((List Bool) × Bool)) =>
    some (Sum.inl (y43.1, y43.2))
  else
    some (Sum.inr out_24)
def FSixdotref03_Alive (n : Nat) (p0_ : GTable) : Option (List Bool) :=
  (FSixdotref03_States n p0_).bind fun (r83 : (List GState)) =>
  (whl (fun (x : ((List Bool) × Int)) => FSixdotref03_Alive_L1 n p0_ r83 x.1 x.2) n (([] : List Bool), 0)).bind fun (y41 : (List Bool)) =>
  (whl (fun (x : ((List Bool) × Bool)) => FSixdotref03_Alive_L2 n p0_ r83 x.1 x.2) n (y41, true)).bind fun (y44 : (List Bool)) =>
  some y44
def FSixdotref03_home_L1 (n : Nat) (p0_ : GTable) (r109 : (List GState)) (out_31 : (List Int)) (near_1 : (List Bool)) (i_22 : Int) : Option (((List Int) × (List Bool) × Int) ⊕ ((List Int) × (List Bool))) :=
  if decide (i_22 < ((List.length r109 : Nat) : Int)) = true then
    (app 8 out_31 [(-1)]).bind fun (l30 : (List Int)) =>
    (idx r109 i_22).bind fun (x56 : GState) =>
    (FSixdotref03_Accepts n p0_ x56).bind fun (r110 : Bool) =>
    (app 1 near_1 [r110]).bind fun (l31 : (List Bool)) =>
    some (Sum.inl (l30, l31, (iadd .i64 i_22 1)))
  else
    some (Sum.inr (out_31, near_1))
def FSixdotref03_home_J1 (n : Nat) (k_6 : Int) (out_39 : (List Int)) (ring_5 : (List Bool)) (grown_12 : Bool) : Option (((List Int) × (List Bool) × Bool × Int) ⊕ ((List Int) × (List Bool) × Bool)) :=
  some (Sum.inl (out_39, ring_5, grown_12, (iadd .i64 k_6 1)))
def FSixdotref03_home_L4 (n : Nat) (p0_ : GTable) (r109 : (List GState)) (near_3 : (List Bool)) (i_23 : Int) (out_37 : (List Int)) (ring_3 : (List Bool)) (grown_10 : Bool) (k_6 : Int) : Option (((List Int) × (List Bool) × Bool × Int) ⊕ ((List Int) × (List Bool) × Bool)) :=
  (if decide (k_6 < ((List.length p0_.Rules : Nat) : Int)) = true then idx ring_3 i_23 else some default).bind fun (x57 : Bool) =>
  if ((decide (k_6 < ((List.length p0_.Rules : Nat) : Int))) && (!x57)) = true then
    (idx r109 i_23).bind fun (x58 : GState) =>
    (FSixdotref03_Step n p0_ x58 k_6).bind fun (r111 : (GState × Bool)) =>
    (if r111.2 = true then FSixdotref03_Index n r109 r111.1 else some default).bind fun (r112 : Int) =>
    (if r111.2 = true then idx near_3 r112 else some default).bind fun (x59 : Bool) =>
    if (r111.2 && x59) = true then
      (idx ring_3 i_23).bind fun (x60 : Bool) =>
      (put ring_3 i_23 true).bind fun (l33 : (List Bool)) =>
      (idx out_37 i_23).bind fun (x61 : Int) =>
      (put out_37 i_23 k_6).bind fun (l34 : (List Int)) =>
      FSixdotref03_home_J1 n k_6 l34 l33 true
    else
      FSixdotref03_home_J1 n k_6 out_37 ring_3 grown_10
  else
    some (Sum.inr (out_37, ring_3, grown_10))
def FSixdotref03_home_L3 (n : Nat) (p0_ : GTable) (r109 : (List GState)) (near_3 : (List Bool)) (out_35 : (List Int)) (ring_1 : (List Bool)) (grown_8 : Bool) (i_23 : Int) : Option (((List Int) × (List Bool) × Bool × Int) ⊕ ((List Int) × (List Bool) × Bool)) :=
  if decide (i_23 < ((List.length r109 : Nat) : Int)) = true then
    (whl (fun (x : ((List Int) × (List Bool) × Bool × Int)) => FSixdotref03_home_L4 n p0_ r109 near_3 i_23 x.1 x.2.1 x.2.2.1 x.2.2.2) n (out_35, ring_1, grown_8, 0)).bind fun (y62 : ((List Int) × (List Bool) × Bool)) =>
    some (Sum.inl (y62.1, y62.2.1, y62.2.2, (iadd .i64 i_23 1)))
  else
    some (Sum.inr (out_35, ring_1, grown_8))
def FSixdotref03_home_L2 (n : Nat) (p0_ : GTable) (r109 : (List GState)) (out_33 : (List Int)) (near_3 : (List Bool)) (grown_7 : Bool) : Option (((List Int) × (List Bool) × Bool) ⊕ (List Int)) :=
  if grown_7 = true then
    (app 1 ([] : List Bool) near_3).bind fun (l32 : (List Bool)) =>
    (whl (fun (x : ((List Int) × (List Bool) × Bool × Int)) => FSixdotref03_home_L3 n p0_ r109 near_3 x.1 x.2.1 x.2.2.1 x.2.2.2) n (out_33, l32, false, 0)).bind fun (y63 : ((List Int) × (List Bool) × Bool)) =>
    some (Sum.inl (y63.1, y63.2.1, y63.2.2))
  else
    some (Sum.inr out_33)
def FSixdotref03_home (n : Nat) (p0_ : GTable) : Option (List Int) :=
  (FSixdotref03_States n p0_).bind fun (r109 : (List GState)) =>
  (whl (fun (x : ((List Int) × (List Bool) × Int)) => FSixdotref03_home_L1 n p0_ r109 x.1 x.2.1 x.2.2) n (([] : List Int), ([] : List Bool), 0)).bind fun (y61 : ((List Int) × (List Bool))) =>
  (whl (fun (x : ((List Int) × (List Bool) × Bool)) => FSixdotref03_home_L2 n p0_ r109 x.1 x.2.1 x.2.2) n (y61.1, y61.2, true)).bind fun (y64 : (List Int)) =>
  some y64
def FSixdotref03_Walk_J1 (n : Nat) (k_7 : Int) (fit_3 : (List Int)) : Option (((List Int) × Int) ⊕ (List Int)) :=
  some (Sum.inl (fit_3, (iadd .i64 k_7 1)))
def FSixdotref03_Walk_L2 (n : Nat) (p0_ : GTable) (p1_ : (List Int)) (r113 : (List GState)) (r114 : (List Bool)) (r115 : (List Int)) (path_3 : (List Int)) (s_3 : GState) (size_1 : Int) (i_24 : Int) (fit_1 : (List Int)) (k_7 : Int) : Option (((List Int) × Int) ⊕ (List Int)) :=
  if decide (k_7 < ((List.length p0_.Rules : Nat) : Int)) = true then
    (FSixdotref03_Step n p0_ s_3 k_7).bind fun (r117 : (GState × Bool)) =>
    (if r117.2 = true then FSixdotref03_Index n r113 r117.1 else some default).bind fun (r118 : Int) =>
    (if r117.2 = true then idx r114 r118 else some default).bind fun (x63 : Bool) =>
    if (r117.2 && x63) = true then
      (app 8 fit_1 [k_7]).bind fun (l35 : (List Int)) =>
      FSixdotref03_Walk_J1 n k_7 l35
    else
      FSixdotref03_Walk_J1 n k_7 fit_1
  else
    some (Sum.inr fit_1)
def FSixdotref03_Walk_L1 (n : Nat) (p0_ : GTable) (p1_ : (List Int)) (r113 : (List GState)) (r114 : (List Bool)) (r115 : (List Int)) (path_3 : (List Int)) (s_3 : GState) (size_1 : Int) (i_24 : Int) : Option (((List Int) × GState × Int × Int) ⊕ ((List Int) × GState)) :=
  if (((decide (i_24 < ((List.length p1_ : Nat) : Int))) && (decide (i_24 < 10))) && (decide (size_1 ≤ 10))) = true then
    (whl (fun (x : ((List Int) × Int)) => FSixdotref03_Walk_L2 n p0_ p1_ r113 r114 r115 path_3 s_3 size_1 i_24 x.1 x.2) n (([] : List Int), 0)).bind fun (y65 : (List Int)) =>
    if (((List.length y65 : Nat) : Int) == 0) = true then
      some (Sum.inr (path_3, s_3))
    else
      (idx p1_ i_24).bind fun (x64 : Int) =>
      (guardB (!(((List.length y65 : Nat) : Int) == 0))).bind fun (u8 : Unit) =>
      (idx y65 (irem (IntKind.i64.wrap x64) ((List.length y65 : Nat) : Int))).bind fun (x65 : Int) =>
      (app 8 path_3 [x65]).bind fun (l36 : (List Int)) =>
      (idx p0_.Rules x65).bind fun (x66 : GRule) =>
      (FSixdotref03_Step n p0_ s_3 x65).bind fun (r119 : (GState × Bool)) =>
      some (Sum.inl (l36, r119.1, (iadd .i64 size_1 ((List.length x66.Print : Nat) : Int)), (iadd .i64 i_24 1)))
  else
    some (Sum.inr (path_3, s_3))
def FSixdotref03_Walk_L3 (n : Nat) (p0_ : GTable) (r113 : (List GState)) (r115 : (List Int)) (path_5 : (List Int)) (s_5 : GState) : Option (((List Int) × GState) ⊕ (List Int)) :=
  (FSixdotref03_Accepts n p0_ s_5).bind fun (r120 : Bool) =>
  if (!r120) = true then
    (FSixdotref03_Index n r113 s_5).bind fun (r121 : Int) =>
    (idx r115 r121).bind fun (x67 : Int) =>
    (app 8 path_5 [x67]).bind fun (l37 : (List Int)) =>
    (FSixdotref03_Step n p0_ s_5 x67).bind fun (r122 : (GState × Bool)) =>
    some (Sum.inl (l37, r122.1))
  else
    some (Sum.inr path_5)
def FSixdotref03_Walk (n : Nat) (p0_ : GTable) (p1_ : (List Int)) : Option ((List Int) × Bool) :=
  (FSixdotref03_States n p0_).bind fun (r113 : (List GState)) =>
  (FSixdotref03_Alive n p0_).bind fun (r114 : (List Bool)) =>
  (FSixdotref03_home n p0_).bind fun (r115 : (List Int)) =>
  (idx r114 0).bind fun (x62 : Bool) =>
  if (!x62) = true then
    some (([] : List Int), false)
  else
    (FSixdotref03_Start n).bind fun (r116 : GState) =>
    (whl (fun (x : ((List Int) × GState × Int × Int)) => FSixdotref03_Walk_L1 n p0_ p1_ r113 r114 r115 x.1 x.2.1 x.2.2.1 x.2.2.2) n (([] : List Int), r116, 0, 0)).bind fun (y66 : ((List Int) × GState)) =>
    (whl (fun (x : ((List Int) × GState)) => FSixdotref03_Walk_L3 n p0_ r113 r115 x.1 x.2) n (y66.1, y66.2)).bind fun (y67 : (List Int)) =>
    some (y67, true)
def FSixdotlaw03_AutomatonRuns_L1 (n : Nat) (r138 : Bool) (r139 : GTable) (l39 : (List Int)) (s_6 : GState) (cells_3 : (List Int)) (text_3 : (List UInt8)) (at_3 : Int) (i_28 : Int) : Option ((GState × (List Int) × (List UInt8) × Int × Int) ⊕ (GState × (List Int) × (List UInt8) × Int)) :=
  if decide (i_28 < ((List.length l39 : Nat) : Int)) = true then
    (idx l39 i_28).bind fun (x75 : Int) =>
    (FAutomaton_Step n r139 s_6 x75).bind fun (r143 : (GState × Bool)) =>
    (if (!(!r143.2)) = true then idx l39 i_28 else some default).bind fun (x76 : Int) =>
    if ((!r143.2) || (decide (x76 ≥ ((List.length r139.Rules : Nat) : Int)))) = true then
      some (Sum.inr (s_6, cells_3, text_3, at_3))
    else
      (idx l39 i_28).bind fun (x77 : Int) =>
      (idx r139.Rules x77).bind fun (x78 : GRule) =>
      (cat text_3 x78.Print).bind fun (s5 : (List UInt8)) =>
      (idx l39 i_28).bind fun (x79 : Int) =>
      (idx r139.Rules x79).bind fun (x80 : GRule) =>
      (app 1 cells_3 x80.Cells).bind fun (l40 : (List Int)) =>
      some (Sum.inl (r143.1, l40, s5, (iadd .i64 i_28 1), (iadd .i64 i_28 1)))
  else
    some (Sum.inr (s_6, cells_3, text_3, at_3))
def FSixdotlaw03_AutomatonRuns (n : Nat) (p0_ : GRaw) (p1_ : (List Int)) (p2_ : Int) : Option Bool :=
  (FSixdotlaw03_sanity n).bind fun (r138 : Bool) =>
  (FSixdotref02_Made n p0_).bind fun (r139 : GTable) =>
  (FSixdotref03_Walk n r139 p1_).bind fun (r140 : ((List Int) × Bool)) =>
  (if r140.2 = true then FAutomaton_Run n r139 r140.1 else some default).bind fun (r141 : GTrace) =>
  if (r140.2 && (!r141.Ok)) = true then
    some false
  else
    (guardB (!((iadd .i64 ((List.length r140.1 : Nat) : Int) 1) == 0))).bind fun (u9 : Unit) =>
    (sub r140.1 0 (irem (IntKind.i64.wrap p2_) (iadd .i64 ((List.length r140.1 : Nat) : Int) 1))).bind fun (l38 : (List Int)) =>
    (app 8 l38 [irem (IntKind.i64.wrap p2_) 12]).bind fun (l39 : (List Int)) =>
    (FAutomaton_Start n).bind fun (r142 : GState) =>
    (whl (fun (x : (GState × (List Int) × (List UInt8) × Int × Int)) => FSixdotlaw03_AutomatonRuns_L1 n r138 r139 l39 x.1 x.2.1 x.2.2.1 x.2.2.2.1 x.2.2.2.2) n (r142, ([] : List Int), [], 0, 0)).bind fun (y76 : (GState × (List Int) × (List UInt8) × Int)) =>
    (FAutomaton_Run n r139 l39).bind fun (r144 : GTrace) =>
    (if (y76.2.2.2 == ((List.length l39 : Nat) : Int)) = true then FAutomaton_Accepts n r139 y76.1 else some default).bind fun (r145 : Bool) =>
    (FSixdotref03_Same n r144 ({ Text := y76.2.2.1, Cells := y76.2.1, At := y76.2.2.2, End := y76.1, Ok := ((y76.2.2.2 == ((List.length l39 : Nat) : Int)) && r145) } : GTrace)).bind fun (r146 : Bool) =>
    some (r146 && r138)
end Go.AI
end
