/- The theorem: the last one of this text; part 5 of 5 of its proof. It holds with no condition beyond the given statement. -/
import Derived.Test.YtjbjbkidckbalaaLD
import Derived.Test.YtjbjbkidckbalaaRows
section
namespace Go.AI
theorem aliveL2_ev {t : GTable} (ht : TabOK t) {st : List GState} (hF : Found t st) (hD : ∀ i, Done t i st) {al : List Bool} (hal : AliveL t st al) (p1 : List Int) (b : Bool) {i : Nat} {s : GState} (hi : st[i]? = some s) :
    Tot (fun n => whl (fun (x : (Bool × Int)) => FSixdotlaw03_AutomatonAlive_L2 n p1 b t st al (i : Int) x.1 x.2) n (acceptsS t s, 0)) (fun r => r = true ↔ Live t st i) := by
  have hr := ht.1
  have hlen := hF.len
  refine Tot.upto (body := fun n x => FSixdotlaw03_AutomatonAlive_L2 n p1 b t st al (i : Int) x.1 x.2) t.Rules.length (fun m x => x.2 = (m : Int) ∧ (x.1 = true → Live t st i) ∧ (acceptsS t s = true → x.1 = true) ∧ ∀ k j, k < m → Edge t st i k j → al[j]? = some true → x.1 = true) ?_ ?_ _ ⟨rfl, fun h => .acc i s hi h, fun h => h, fun k j hk => by omega⟩
  · rintro m ⟨w, m'⟩ hm ⟨e, h1, h2, h3⟩
    simp only at e h1 h2 h3
    subst e
    unfold FSixdotlaw03_AutomatonAlive_L2
    refine Tot.iteT (by simpa using hm) (Tot.bindC (idx_at hi) (Tot.bindA (fun n => step_eq ht.short n s m) ?_))
    have hix := index_ev (l := st) (s := (stepS t s (m : Nat)).1) (by omega)
    refine Tot.bindE hix ?_
    cases hs : (stepS t s (m : Nat)).2 with
    | false =>
      simp only [Bool.false_and, Bool.and_false, Bool.false_eq_true, if_false, Bool.or_false]
      refine Tot.bindC rfl (Tot.pure ⟨inc64 (by omega), h1, h2, fun k j hk he hj => ?_⟩)
      rcases Nat.lt_or_ge k m with h | h
      · exact h3 k j h he hj
      · have : k = m := by omega
        subst this
        obtain ⟨s1, s2, a1, a2, a3, a4⟩ := he
        rw [hi] at a1
        cases a1
        rw [a4] at hs
        cases hs
    | true =>
      have hmem : (stepS t s (m : Nat)).1 ∈ st := hD (i + 1) i s (by omega) hi m hm hs
      obtain ⟨j, hj1, hj2⟩ := indexS_in hmem
      have hjl : j < al.length := by rw [hal.1]; exact getElem?_lt' hj2
      have hE : Edge t st i m j := ⟨s, _, hi, hm, hj2, Prod.ext rfl hs⟩
      have hge : decide ((j : Int) ≥ 0) = true := by simp
      rw [hj1]
      simp only [hge, Bool.and_true, Bool.true_and]
      have hun : ∀ k j', k < m + 1 → Edge t st i k j' → al[j']? = some true → w = true ∨ j' = j := by
        intro k j' hk he hj'
        rcases Nat.lt_or_ge k m with h | h
        · exact .inl (h3 k j' h he hj')
        · have : k = m := by omega
          subst this
          obtain ⟨s1, s2, a1, a2, a3, a4⟩ := he
          rw [hi] at a1
          cases a1
          rw [a4] at hj2
          exact .inr (get_inj hF.nodup a3 hj2)
      cases w with
      | true =>
        simp only [Bool.not_true, Bool.false_eq_true, if_false, Bool.true_or]
        exact Tot.bindC rfl (Tot.pure ⟨inc64 (by omega), fun _ => h1 rfl, fun _ => rfl, fun _ _ _ _ _ => rfl⟩)
      | false =>
        simp only [Bool.not_false, if_true, Bool.false_or]
        refine Tot.bindC (idx_lt hjl) (Tot.pure ⟨inc64 (by omega), fun h => .step i m j hE ((hal.2 j).1 (by rw [List.getElem?_eq_getElem hjl]; exact congrArg some h)), fun h => absurd (h2 h) (by simp), fun k j' hk he hj' => ?_⟩)
        rcases hun k j' hk he hj' with h | h
        · cases h
        · subst h
          rw [List.getElem?_eq_getElem hjl] at hj'
          exact Option.some.inj hj'
  · rintro ⟨w, m'⟩ ⟨e, h1, h2, h3⟩
    simp only at e h1 h2 h3
    subst e
    unfold FSixdotlaw03_AutomatonAlive_L2
    refine Tot.iteF (by simp) (Tot.pure ⟨h1, fun h => ?_⟩)
    cases h with
    | acc _ s' h h' => rw [hi] at h; cases h; exact h2 h'
    | step _ k j he hj => exact h3 k j (by obtain ⟨_, _, _, h, _⟩ := he; exact h) he ((hal.2 j).2 hj)
theorem law7 {x : GRaw} (hx : RawTabOK x) {l : List Int} (hl : ∀ a ∈ l, U8 a) : Ev (fun n => FSixdotlaw03_AutomatonAlive n x l) true := by
  obtain ⟨t, hM, hE⟩ := made_ev hx
  obtain ⟨hF, hD⟩ := states_ok hM.tab
  have hsl := hF.len
  have h0l := getElem?_lt' hF.first
  refine Tot.ev ?_
  unfold FSixdotlaw03_AutomatonAlive
  refine Tot.bindE sanity_ev (Tot.bindE hE (Tot.bindE (statesA_ev hM.tab) (Tot.bind (aliveA_ev hM.tab) fun al hal => Tot.iteF ?_ ?_)))
  · rw [hal.1]
    have e1 : ((((statesS t).length : Nat) : Int) == 0) = false := by rw [beq_eq_false_iff_ne]; omega
    have e2 : decide ((((statesS t).length : Nat) : Int) > 3000) = false := by rw [decide_eq_false_iff_not]; omega
    rw [e1, e2, bne_self_eq_false]
    rfl
  · have L1 : Tot (fun n => whl (fun (x : Int) => FSixdotlaw03_AutomatonAlive_L1 n l true t (statesS t) al x) n 0) (fun z => z = .inl ()) := by
      refine Tot.upto (body := fun n x => FSixdotlaw03_AutomatonAlive_L1 n l true t (statesS t) al x) (statesS t).length (fun i x => x = (i : Int)) ?_ ?_ _ rfl
      · rintro i _ hi rfl
        have hil : i < al.length := by rw [hal.1]; exact hi
        unfold FSixdotlaw03_AutomatonAlive_L1
        refine Tot.iteT (by simpa using hi) (Tot.bindC (idx_lt hi) (Tot.bindA (fun n => accepts_eq n t _) (Tot.bind (aliveL2_ev hM.tab hF hD hal l true (List.getElem?_eq_getElem hi)) fun w hw => Tot.bindC (idx_lt hil) (Tot.iteF ?_ (Tot.pure (inc64 (by omega)))))))
        have hh := hal.2 i
        rw [List.getElem?_eq_getElem hil] at hh
        have : w = al[i] := by
          cases w <;> cases ha : al[i] <;> rw [ha] at hh <;> simp_all
        rw [this]
        simp
      · rintro _ rfl
        unfold FSixdotlaw03_AutomatonAlive_L1
        exact Tot.iteF (by simp) (Tot.pure rfl)
    refine Tot.bind L1 ?_
    rintro _ rfl
    simp only
    refine Tot.bind (walk_ev hM.tab hl) ?_
    rintro ⟨p, is⟩ ⟨h1, h2, h3⟩
    simp only at h1 h2 h3
    have hal0 : 0 < al.length := by rw [hal.1]; exact h0l
    have hi0 : idx al 0 = some al[0] := idx_lt (i := 0) hal0
    have hb := hal.2 0
    rw [List.getElem?_eq_getElem hal0] at hb
    have he : al[0] = is := by
      cases is <;> cases ha : al[0] <;> rw [ha] at hb <;> simp_all
    refine Tot.bindC hi0 ?_
    rw [he]
    cases is with
    | false => exact Tot.bindC rfl (Tot.pure rfl)
    | true =>
      have hp := h2 rfl
      obtain ⟨s, hg, ha, hr⟩ := hp.run
      have hrun := run_ev hM (p := p) (by have := hp.1; omega)
      rw [hr] at hrun
      simp only [beq_self_eq_true, Bool.not_true, Bool.not_false, Bool.and_self, if_true]
      exact Tot.bindE hrun (Tot.pure rfl)
end Go.AI
end
section
namespace Go.AI
theorem okI_u8 {n : Int} (h : okI .u8 n) : U8 n := by
  unfold okI Lit.wf at h
  have : IntKind.u8.min = 0 ∧ IntKind.u8.max = 255 := by decide
  unfold U8
  simp only [Bool.and_eq_true, decide_eq_true_eq] at h
  omega
theorem okGRaw_ok {x : GRaw} (h : okGRaw x) : RawTabOK x := ⟨(okI_u8 h.1).1, fun r hr => by
  obtain ⟨a, b, c, d, e, f⟩ := h.2.2 r hr
  exact ⟨fun y hy => okI_u8 (a y hy), fun y hy => okI_u8 (b y hy), okI_u8 c, okI_u8 d, okI_u8 e, okI_u8 f⟩⟩
theorem law7d : ∀ x l, okGRaw x → (∀ a ∈ l, okI .u8 a) → ∃ n, FSixdotlaw03_AutomatonAlive n x l = some true := fun _ _ h hl => (law7 (okGRaw_ok h) fun a ha => okI_u8 (hl a ha)).out
end Go.AI
end
section
namespace Go.Proofs.Ytjbjbkidckbalaa
open Go.AI Go.ChangeShapes Go.WideShapes Go.ChangeAt Go.RowKit
theorem own : ownKnob Try.prog.godebug = none := by kernel_rfl
set_option maxRecDepth 100000 in
theorem lifted (os : Os) (started : os.Started) (H : Type) (enc : TypeId × Value → H) :
    ReturnsInHanded {} Try.checked os 7 .any (Rows.automatonAliveSpec.pre6 enc Try.prog Try.f7 Rows.automatonAliveRow.domain false) (Rows.automatonAliveSpec.post enc Try.prog Try.f7 false true false false) := by
  refine returnsInHanded_of_change (C := Try.checked) own started (by kernel_rfl) Try.func7
    (ChangeSpec.witness6 (enc := enc) (C := Try.checked) false ⟨#[], #[.agg #[.int .u8 0, .int .u8 0, .slice none 0 0], .slice none 0 0], []⟩ 8 (by kernel_rfl) (by kernel_rfl) (by kernel_rfl) (by kernel_rfl)) ?_
  intro W base args ds gs before hval0 hW hcnd _
  have hval : ∀ (j : Nat) t v, Try.f7.params[j]? = some t → args[j]? = some v → Value.okWide Try.prog W .any base t v := hval0
  have hW' := hW
  obtain ⟨p, q, hA0, hV, rfl, hfz, hnd⟩ := hW
  have hA : DataW.TrodAll enc Try.prog W 0 (fun _ => true) true Try.f7.params.toList args.toList ds p := hA0
  have hlt := hA.lt
  rw [Try.params7] at hA hval
  obtain ⟨v0, vs0, d0, ds0, p0, q0, hargs, rfl, rfl, h0, r0⟩ := trodAll_cons hA
  obtain ⟨v1, vs1, d1, ds1, p1, q1, rfl, rfl, rfl, h1, r1⟩ := trodAll_cons r0
  obtain ⟨rfl, rfl, rfl⟩ := trodAll_nil r1
  obtain rfl : args = #[v0, v1] := by cases args; simp_all
  obtain ⟨rfl, rfl⟩ := trodVars_none hV
  obtain ⟨cs0, hc0, _⟩ := okWide_struct Try.underlying24 (hval 0 24 v0 rfl rfl)
  obtain ⟨a0, k0, rep0⟩ := arg_agg hc0 h0 rd24
  obtain ⟨x1, y1, z1, hc1⟩ := okWide_slice Try.underlying50 (hval 1 50 v1 rfl rfl)
  obtain ⟨a1, k1, rep1⟩ := arg_one (y := fun a => .sl (List.map eU8 a)) (by rw [hc1]; rfl) h1 rd50 (fun _ => rfl)
  clear hA0 hval0
  simp only [List.append_nil] at hW' hlt
  obtain ⟨n, hn⟩ := law7d a0 a1 k0 k1
  refine (law_walk (FSixdotlaw03_AutomatonAlive_ok hn) (cr_cons rep0 (cr_cons rep1 cr_nil))).mono fun e W' ⟨he, hg, hold⟩ => ?_
  subst he
  exact ⟨_, rfl, post_of_same (pv := []) hW' (fun _ _ _ => (trodAll_cons_mk (shut_bool Try.underlying4 _) trodAll_mk0)) (fun sp hsp => trodAll_cons_mk (stays (by kernel_rfl) (by kernel_rfl) (of_decide_eq_true (by kernel_rfl)) h0 (fun p hp => hlt p (by simp [hp])) (fun p hp => hsp p (by simp [hp])) hold) (trodAll_cons_mk (stays (by kernel_rfl) (by kernel_rfl) (of_decide_eq_true (by kernel_rfl)) h1 (fun p hp => hlt p (by simp [hp])) (fun p hp => hsp p (by simp [hp])) hold) trodAll_mk0)) (fun _ _ => rfl) (by simp) (hg.frame _) hg.2.1 (ok_one (by kernel_rfl) rfl (okWide_bool_mk Try.underlying4 _))⟩
theorem over : Rows.automatonAliveRow.holds Try.pinned (OpenSpec.ofChange Rows.automatonAliveSpec) :=
  OpenClaim.holds_of_wide 7 Try.f7 rfl rfl rfl rfl rfl rfl rfl ⟨rfl, rfl, rfl, rfl, rfl⟩ rfl rfl rfl rfl rfl (by kernel_rfl) Try.func7 (by kernel_rfl)
    (of_decide_eq_true (by kernel_rfl)) (by unfold Func.isWrapper; first | (rw [if_pos (by decide +kernel)]; kernel_rfl) | (rw [if_neg (by decide +kernel)]; exact ⟨rfl, rfl⟩))
    (fun os started H enc _ => lifted os started H enc)
theorem automatonAlive_holds : Rows.AutomatonAliveSaid := over
end Go.Proofs.Ytjbjbkidckbalaa
end
