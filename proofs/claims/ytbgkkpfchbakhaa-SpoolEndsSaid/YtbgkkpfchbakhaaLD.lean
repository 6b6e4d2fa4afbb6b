/- The theorem: the last one of this text; part 4 of 4 of its proof. It holds with no condition beyond the given statement. -/
import Derived.Test.YtbgkkpfchbakhaaLC
import Derived.ChangeArms
import Derived.WalkKit
import Derived.ProofKit
import Derived.OpenShut
import Derived.Carry
import Derived.WideKeyArgs
import Derived.KernelRfl
import Derived.Test.YtbgkkpfchbakhaaRows
section
namespace Go.AI
open Go.Proofs
set_option maxRecDepth 10000
theorem xok (n : Nat) (kl : List Nat) : XOK Try.prog (cxk n kl) := ⟨tyOK, rfl⟩
def eGSpool (x : GSpool) : List D := [.sl (List.map eI64 x.Tries), .sl (List.map eB x.Done), .sl (List.map eI64 x.Taken), .int .i64 x.Now, .bool x.Sealed]
def eGRecord (x : GRecord) : List D := [.int .i64 x.Kind, .int .i64 x.A, .int .i64 x.B]
def eGRaw (x : GRaw) : List D := [.int .u8 x.N, .sl (List.map eU8 x.From), .sl (List.map eU8 x.L)]
section
variable (p0_ : Int)
def f17_s1 : St := ⟨(0, .d (.int .i64 p0_)) :: [], []⟩
variable (s_1 : (List Int)) (s_2 : (List Bool)) (s_3 : (List Int)) (i_1 : Int)
def f17_s2 : St := ⟨(0, .d (.int .i64 p0_)) :: (2, .ptr 0 0) :: (3, .ptr 1 0) :: (4, .d (.int .i64 i_1)) :: [], [some (.box [.osl 2 1 0 (List.length ([] : List Int)), .osl 3 1 0 (List.length ([] : List Bool)), .osl 4 1 0 (List.length ([] : List Int)), .d (.int .i64 0), .d (.bool false)]), some (.box [.osl 5 1 0 (List.length s_1), .osl 6 1 0 (List.length s_2), .osl 7 1 0 (List.length s_3), .d (.int .i64 (-1)), .d (.bool false)]), some (.arr 1 (List.map eI64 ([] : List Int))), some (.arr 1 (List.map eB ([] : List Bool))), some (.arr 1 (List.map eI64 ([] : List Int))), some (.arr 1 (List.map eI64 s_1)), some (.arr 1 (List.map eB s_2)), some (.arr 1 (List.map eI64 s_3))]⟩
variable (s_4 : (List Int)) (s_5 : (List Bool)) (s_6 : (List Int))
def f17_s3 : St := ⟨(2, .ptr 0 0) :: (3, .ptr 1 0) :: [], [some (.box [.osl 2 1 0 (List.length ([] : List Int)), .osl 3 1 0 (List.length ([] : List Bool)), .osl 4 1 0 (List.length ([] : List Int)), .d (.int .i64 0), .d (.bool false)]), some (.box [.osl 5 1 0 (List.length s_4), .osl 6 1 0 (List.length s_5), .osl 7 1 0 (List.length s_6), .d (.int .i64 (-1)), .d (.bool false)]), some (.arr 1 (List.map eI64 ([] : List Int))), some (.arr 1 (List.map eB ([] : List Bool))), some (.arr 1 (List.map eI64 ([] : List Int))), some (.arr 1 (List.map eI64 s_4)), some (.arr 1 (List.map eB s_5)), some (.arr 1 (List.map eI64 s_6))]⟩
def FSixdotref29_New_L1_E (_ : Int) : ((List Int) × (List Bool) × (List Int)) → Ex → St → Prop := fun (y : ((List Int) × (List Bool) × (List Int))) e s => e = Ex.exit 0 ∧ Shift s (f17_s3 y.1 y.2.1 y.2.2)
theorem FSixdotref29_New_L1_ok {n : Nat} {p0_ : Int} (x : ((List Int) × (List Bool) × (List Int) × Int)) (z : (((List Int) × (List Bool) × (List Int) × Int) ⊕ ((List Int) × (List Bool) × (List Int)))) (H : FSixdotref29_New_L1 n p0_ x.1 x.2.1 x.2.2.1 x.2.2.2 = some z) : WP (cxk 27 []) (bodyOf Try.f17) [1,1,0,1,0,0] (roundQ (fun (x : ((List Int) × (List Bool) × (List Int) × Int)) => f17_s2 p0_ x.1 x.2.1 x.2.2.1 x.2.2.2) (FSixdotref29_New_L1_E p0_) z) (f17_s2 p0_ x.1 x.2.1 x.2.2.1 x.2.2.2) := by
  obtain ⟨s_1, s_2, s_3, i_1⟩ := x
  dsimp only [FSixdotref29_New_L1] at H
  refine sq ?_
  refine sr ?_
  refine ck 3 ?_
  refine en ?_
  refine cn H (fun H => ?_) (fun H => ?_)
  · refine sk ?_
    refine qz ?_
    refine sq ?_
    refine bk 1 ?_
    refine sr ?_
    refine ck 3 ?_
    refine bx H fun l1 h1 H => ?_
    refine sp (at_appO eI64 5 1 h1) ?_
    refine ck 2 ?_
    refine en ?_
    refine sr ?_
    refine ck 3 ?_
    refine bx H fun l2 h2 H => ?_
    refine sp (at_appO eB 6 1 h2) ?_
    refine ck 2 ?_
    refine en ?_
    refine rz ?_
    refine ck 3 ?_
    refine bx H fun l3 h3 H => ?_
    refine sp (at_appO eI64 7 1 h3) ?_
    refine ck 2 ?_
    refine ae ?_
    refine qN ?_
    refine qz ?_
    refine rz ?_
    refine ck 3 ?_
    refine ae ?_
    cases H
    exact og (sh_gc [0,2,3,4] (by kernel_rfl))
  · refine ex 0 ?_
    refine qx ?_
    cases H
    exact oe ⟨rfl, sh_gc [2,3] (by kernel_rfl)⟩
theorem FSixdotref29_New_ok {n : Nat} {p0_ : Int} {z : GSpool} (H : FSixdotref29_New n p0_ = some z) : CallOK Try.prog 17 [.d (.int .i64 p0_)] (.agg [.own 1 (List.map eI64 z.Tries), .own 1 (List.map eB z.Done), .own 1 (List.map eI64 z.Taken), .d (.int .i64 z.Now), .d (.bool z.Sealed)]) := by
  dsimp only [FSixdotref29_New] at H
  refine fo (Γ := cxk 27 []) (s := f17_s1 p0_) follows (cxkOK 27 []) Try.func17 ?_
  refine sr ?_
  refine ck 1 ?_
  refine en ?_
  refine sr ?_
  refine ck 3 ?_
  refine en ?_
  refine sq ?_
  refine sr ?_
  refine ck 1 ?_
  refine en ?_
  refine bk 0 ?_
  refine bx H fun y1 h4 H => ?_
  refine lp (fun (x : ((List Int) × (List Bool) × (List Int) × Int)) => f17_s2 p0_ x.1 x.2.1 x.2.2.1 x.2.2.2) (FSixdotref29_New_L1_E p0_) h4 (Shift.trans (Shift.trans (Shift.trans (Shift.trans (Shift.trans (Shift.trans (sh_nilc 0 0 1 (by kernel_rfl)) (sh_nilc 0 1 1 (by kernel_rfl))) (sh_nilc 0 2 1 (by kernel_rfl))) (sh_nilc 1 0 1 (by kernel_rfl))) (sh_nilc 1 1 1 (by kernel_rfl))) (sh_nilc 1 2 1 (by kernel_rfl))) (sh_gc [0,2,3,4] (by kernel_rfl))) (fun x z => FSixdotref29_New_L1_ok x z) ?_
  intro e s hE1
  obtain ⟨rfl, hE1⟩ := hE1
  refine qH ?_
  refine qs (hE1) ?_
  refine sr ?_
  refine ck 2 ?_
  refine en ?_
  refine re ?_
  injection H with H
  subst H
  exact pr (rO (v := .agg [.osl 5 1 0 (List.length y1.1), .osl 6 1 0 (List.length y1.2.1), .osl 7 1 0 (List.length y1.2.2), .d (.int .i64 (-1)), .d (.bool false)]) [5,6,7] (a1 (c1 vo (c1 vo (c1 vo (c1 vd (c1 vd (c0))))))))
end
section
variable (p0_ : Int) (p1_ : Int) (p2_ : Int)
def f29_s1 : St := ⟨(0, .d (.int .i64 p0_)) :: (1, .d (.int .i64 p1_)) :: (2, .d (.int .i64 p2_)) :: [], []⟩
theorem FSixdotlaw29_record_ok {n : Nat} {p0_ : Int} {p1_ : Int} {p2_ : Int} {z : GRecord} (H : FSixdotlaw29_record n p0_ p1_ p2_ = some z) : CallOK Try.prog 29 [.d (.int .i64 p0_), .d (.int .i64 p1_), .d (.int .i64 p2_)] (.agg [.d (.int .i64 z.Kind), .d (.int .i64 z.A), .d (.int .i64 z.B)]) := by
  dsimp only [FSixdotlaw29_record] at H
  refine fo (Γ := cxk 11 []) (s := f29_s1 p0_ p1_ p2_) follows (cxkOK 11 []) Try.func29 ?_
  refine sr ?_
  refine ck 1 ?_
  refine en ?_
  refine sr ?_
  refine ck 5 ?_
  refine en ?_
  refine re ?_
  injection H with H
  subst H
  exact pr (rd)
end
section
variable (p0_ : GSpool)
def f35_s1 : St := ⟨(0, .agg [.d (.sl (List.map eI64 p0_.Tries)), .d (.sl (List.map eB p0_.Done)), .d (.sl (List.map eI64 p0_.Taken)), .d (.int .i64 p0_.Now), .d (.bool p0_.Sealed)]) :: [], []⟩
theorem FSpool_copied_ok {n : Nat} {p0_ : GSpool} {z : GSpool} (H : FSpool_copied n p0_ = some z) : CallOK Try.prog 35 [.agg [.d (.sl (List.map eI64 p0_.Tries)), .d (.sl (List.map eB p0_.Done)), .d (.sl (List.map eI64 p0_.Taken)), .d (.int .i64 p0_.Now), .d (.bool p0_.Sealed)]] (.agg [.own 1 (List.map eI64 z.Tries), .own 1 (List.map eB z.Done), .own 1 (List.map eI64 z.Taken), .d (.int .i64 z.Now), .d (.bool z.Sealed)]) := by
  dsimp only [FSpool_copied] at H
  refine fo (Γ := cxk 36 []) (s := f35_s1 p0_) follows (cxkOK 36 []) Try.func35 ?_
  refine sr ?_
  refine ck 2 ?_
  refine en ?_
  refine sr ?_
  refine ck 3 ?_
  refine en ?_
  refine sr ?_
  refine ck 2 ?_
  refine sp (at_len eI64 p0_.Tries) ?_
  refine bx H fun l4 h5 H => ?_
  refine sp (at_mk eI64 1 h5) ?_
  refine ck 2 ?_
  refine en ?_
  refine sr ?_
  refine ck 2 ?_
  refine sp (at_len eB p0_.Done) ?_
  refine bx H fun l5 h6 H => ?_
  refine sp (at_mk eB 1 h6) ?_
  refine ck 2 ?_
  refine en ?_
  refine sr ?_
  refine ck 2 ?_
  refine sp (at_len eI64 p0_.Taken) ?_
  refine bx H fun l6 h7 H => ?_
  refine sp (at_mk eI64 1 h7) ?_
  refine ck 2 ?_
  refine en ?_
  refine sr ?_
  refine ck 4 ?_
  refine bx H fun l7 h8 H => ?_
  refine xp (xok _ _) eI64 3 1 h8 srcD (fun _ => rfl) ?_
  refine en ?_
  refine sq ?_
  refine rg (sh_subc (k := 3) (sz := 1) 2 0 (List.map eI64 l7) (List.length l7) (by kernel_rfl) (cut_put (cpy_len h8)) (le_put (enc := eI64) (cpy_len h8)) ((cpy_len h8))) ?_
  refine ck 4 ?_
  refine bx H fun l8 h9 H => ?_
  refine xp (xok _ _) eB 4 1 h9 srcD (fun _ => rfl) ?_
  refine en ?_
  refine sq ?_
  refine rg (sh_subc (k := 4) (sz := 1) 2 1 (List.map eB l8) (List.length l8) (by kernel_rfl) (cut_put (cpy_len h9)) (le_put (enc := eB) (cpy_len h9)) ((cpy_len h9))) ?_
  refine ck 4 ?_
  refine bx H fun l9 h10 H => ?_
  refine xp (xok _ _) eI64 5 1 h10 srcD (fun _ => rfl) ?_
  refine en ?_
  refine sq ?_
  refine rg (sh_subc (k := 5) (sz := 1) 2 2 (List.map eI64 l9) (List.length l9) (by kernel_rfl) (cut_put (cpy_len h10)) (le_put (enc := eI64) (cpy_len h10)) ((cpy_len h10))) ?_
  refine ck 2 ?_
  refine en ?_
  refine re ?_
  injection H with H
  subst H
  exact pr (rO (v := .agg [.osl 6 1 0 (List.length l7), .osl 7 1 0 (List.length l8), .osl 8 1 0 (List.length l9), .d (.int .i64 p0_.Now), .d (.bool p0_.Sealed)]) [6,7,8] (a1 (c1 vo (c1 vo (c1 vo (c1 vd (c1 vd (c0))))))))
end
section
variable (p0_ : GSpool) (p1_ : Int)
def f31_s1 : St := ⟨(0, .dptr (eGSpool p0_) 0) :: (1, .d (.int .i64 p1_)) :: [], []⟩
theorem FSpool_known_ok {n : Nat} {p0_ : GSpool} {p1_ : Int} {z : Bool} (H : FSpool_known n p0_ p1_ = some z) : CallOK Try.prog 31 [.dptr (eGSpool p0_) 0, .d (.int .i64 p1_)] (.d (.bool z)) := by
  dsimp only [FSpool_known] at H
  refine fo (Γ := cxk 34 []) (s := f31_s1 p0_ p1_) follows (cxkOK 34 []) Try.func31 ?_
  refine sr ?_
  refine ck 1 ?_
  refine en ?_
  refine sr ?_
  refine ck 5 ?_
  refine gc 3 (decide (p1_ ≥ 0)) ?_
  refine sG (g := decide (p1_ ≥ 0)) (fun hg => at_len eI64 p0_.Tries) (impK (fun hh => hh) (impZ)) ?_
  refine gc 1 (decide (p1_ ≥ 0)) ?_
  refine pA ?_
  refine ck 3 ?_
  refine gc 3 ((decide (p1_ ≥ 0)) && (decide (p1_ < ((List.length p0_.Tries : Nat) : Int)))) ?_
  refine sG (g := ((decide (p1_ ≥ 0)) && (decide (p1_ < ((List.length p0_.Tries : Nat) : Int))))) (fun hg => at_len eB p0_.Done) (impK (fun hh => hh) (impZ)) ?_
  refine gc 1 ((decide (p1_ ≥ 0)) && (decide (p1_ < ((List.length p0_.Tries : Nat) : Int)))) ?_
  refine pA ?_
  refine ck 3 ?_
  refine gc 3 (((decide (p1_ ≥ 0)) && (decide (p1_ < ((List.length p0_.Tries : Nat) : Int)))) && (decide (p1_ < ((List.length p0_.Done : Nat) : Int)))) ?_
  refine sG (g := (((decide (p1_ ≥ 0)) && (decide (p1_ < ((List.length p0_.Tries : Nat) : Int)))) && (decide (p1_ < ((List.length p0_.Done : Nat) : Int))))) (fun hg => at_len eI64 p0_.Taken) (impK (fun hh => hh) (impZ)) ?_
  refine gc 1 (((decide (p1_ ≥ 0)) && (decide (p1_ < ((List.length p0_.Tries : Nat) : Int)))) && (decide (p1_ < ((List.length p0_.Done : Nat) : Int)))) ?_
  refine pA ?_
  refine ck 1 ?_
  refine en ?_
  refine re ?_
  injection H with H
  subst H
  exact pr (rd)
end
section
variable (p0_ : GSpool) (p1_ : Int)
def f61_s1 : St := ⟨(0, .dptr (eGSpool p0_) 0) :: (1, .d (.int .i64 p1_)) :: [], []⟩
theorem FSpool_idle_ok {n : Nat} {p0_ : GSpool} {p1_ : Int} {z : Bool} (H : FSpool_idle n p0_ p1_ = some z) : CallOK Try.prog 61 [.dptr (eGSpool p0_) 0, .d (.int .i64 p1_)] (.d (.bool z)) := by
  dsimp only [FSpool_idle] at H
  refine fo (Γ := cxk 25 []) (s := f61_s1 p0_ p1_) follows (cxkOK 25 []) Try.func61 ?_
  refine sr ?_
  refine ck 1 ?_
  refine en ?_
  refine sr ?_
  refine ck 8 ?_
  refine bx H fun r1 h11 H => ?_
  refine cG false (leZ) rfl (fun hg => FSpool_known_ok (gimp h11 hg)) (Or.inl rfl) (impK (fun hh => hh) (impK (fun hh => hh) (impZ))) rfl ?_
  refine pA ?_
  refine ck 2 ?_
  refine gc 3 ((p0_.Now == (-1)) && r1) ?_
  refine ck 1 ?_
  refine bx H fun x1 h12 H => ?_
  refine sG (fun hg => at_idxD eB (gimp h12 hg)) (impK (fun hh => hh) (impK (fun hh => hh) (impZ))) ?_
  refine gc 2 ((p0_.Now == (-1)) && r1) ?_
  refine pA ?_
  refine ck 1 ?_
  refine en ?_
  refine re ?_
  injection H with H
  subst H
  exact pr (rd)
end
section
variable (p0_ : GRecord) (p1_ : GSpool)
def f60_s1 : St := ⟨(0, .agg [.d (.int .i64 p0_.Kind), .d (.int .i64 p0_.A), .d (.int .i64 p0_.B)]) :: (1, .ptr 0 0) :: [], [some (.box [.osl 1 1 0 (List.length p1_.Tries), .osl 2 1 0 (List.length p1_.Done), .osl 3 1 0 (List.length p1_.Taken), .d (.int .i64 p1_.Now), .d (.bool p1_.Sealed)]), some (.arr 1 (List.map eI64 p1_.Tries)), some (.arr 1 (List.map eB p1_.Done)), some (.arr 1 (List.map eI64 p1_.Taken))]⟩
theorem FSpool_began_apply_ok {n : Nat} {p0_ : GRecord} {p1_ : GSpool} {z : (Bool × GSpool)} (H : FSpool_began_apply n p0_ p1_ = some z) : LentOK Try.prog 60 [.agg [.d (.int .i64 p0_.Kind), .d (.int .i64 p0_.A), .d (.int .i64 p0_.B)], .ptr 0 0] [some (.box [.osl 1 1 0 (List.length p1_.Tries), .osl 2 1 0 (List.length p1_.Done), .osl 3 1 0 (List.length p1_.Taken), .d (.int .i64 p1_.Now), .d (.bool p1_.Sealed)]), some (.arr 1 (List.map eI64 p1_.Tries)), some (.arr 1 (List.map eB p1_.Done)), some (.arr 1 (List.map eI64 p1_.Taken))] 1 (.d (.bool z.1)) [some (.box [.osl 1 1 0 (List.length z.2.Tries), .osl 2 1 0 (List.length z.2.Done), .osl 3 1 0 (List.length z.2.Taken), .d (.int .i64 z.2.Now), .d (.bool z.2.Sealed)]), some (.arr 1 (List.map eI64 z.2.Tries)), some (.arr 1 (List.map eB z.2.Done)), some (.arr 1 (List.map eI64 z.2.Taken))] := by
  dsimp only [FSpool_began_apply] at H
  refine fl (Γ := cxk 38 [1]) (kl := [1]) (s := f60_s1 p0_ p1_) follows (cxkOK 38 [1]) Try.func60 ?_
  refine sr ?_
  refine ck 2 ?_
  refine en ?_
  refine sq ?_
  refine sr ?_
  refine ck 3 ?_
  refine bx H fun r2 h13 H => ?_
  refine cb (ks := [0,1,2,3]) (obl := [(0 + List.length p1_.Tries, List.length (List.map eI64 p1_.Tries)), (0 + List.length p1_.Done, List.length (List.map eB p1_.Done)), (0 + List.length p1_.Taken, List.length (List.map eI64 p1_.Taken))]) false (leK (by simp) (leK (by simp) (leK (by simp) (leZ)))) (consE (dptrE (l' := [(.sl (List.map eI64 p1_.Tries)), (.sl (List.map eB p1_.Done)), (.sl (List.map eI64 p1_.Taken)), (.int .i64 p1_.Now), (.bool p1_.Sealed)]) (consD takeD (consD takeD (consD takeD (consD rfl (consD rfl rfl)))))) (consE rfl rfl)) (FSpool_idle_ok h13) (Or.inr (by simp only [flatR, flatT, flatA, flatC, List.forall_mem_map] <;> simp [D.flat, true_and])) rfl ?_
  refine ck 3 ?_
  refine gc 1 (!(!r2)) ?_
  refine ck 1 ?_
  refine gc 3 (!(!r2)) ?_
  refine ck 1 ?_
  refine gc 1 (!(!r2)) ?_
  refine bx H fun x2 h14 H => ?_
  refine sG (fun hg => at_idxO 1 1 (gimp h14 hg)) (impK (fun hh => hh) (impK (fun hh => hh) (impZ))) ?_
  refine sG (g := (!(!r2))) (fun hg => at_ldA eI64 1 0 (ty 3) (gimp h14 hg)) (impK (fun hh => hh) (impZ)) ?_
  refine gc 2 (!(!r2)) ?_
  refine pO ?_
  refine en ?_
  refine cn H (fun H => ?_) (fun H => ?_)
  · refine sr ?_
    refine ck 1 ?_
    refine en ?_
    refine re ?_
    refine qr ?_
    injection H with H
    subst H
    exact pL (rl (Shift.gc [1,4]))
  · refine sk ?_
    refine qz ?_
    refine sr ?_
    refine ck 8 ?_
    refine bx H fun x3 h15 H => ?_
    refine sp (at_idxO 1 1 h15) ?_
    refine bx H fun l10 h16 H => ?_
    refine stA eI64 1 0 (ty 3) h15 h16 ?_
    refine en ?_
    refine sq ?_
    refine rg (sh_subc (k := 1) (sz := 1) 0 0 (List.map eI64 l10) (List.length l10) (by kernel_rfl) (cut_put (put_len h16)) (le_put (enc := eI64) (put_len h16)) ((put_len h16))) ?_
    refine ck 6 ?_
    refine en ?_
    refine sr ?_
    refine ck 1 ?_
    refine en ?_
    refine re ?_
    injection H with H
    subst H
    exact pL (rl (Shift.gc [1,4]))
end
section
variable (p0_ : GSpool) (p1_ : Int) (p2_ : Int)
def f63_s1 : St := ⟨(0, .dptr (eGSpool p0_) 0) :: (1, .d (.int .i64 p1_)) :: (2, .d (.int .i64 p2_)) :: [], []⟩
theorem FSpool_busy_ok {n : Nat} {p0_ : GSpool} {p1_ : Int} {p2_ : Int} {z : Bool} (H : FSpool_busy n p0_ p1_ p2_ = some z) : CallOK Try.prog 63 [.dptr (eGSpool p0_) 0, .d (.int .i64 p1_), .d (.int .i64 p2_)] (.d (.bool z)) := by
  dsimp only [FSpool_busy] at H
  refine fo (Γ := cxk 29 []) (s := f63_s1 p0_ p1_ p2_) follows (cxkOK 29 []) Try.func63 ?_
  refine sr ?_
  refine ck 1 ?_
  refine en ?_
  refine sr ?_
  refine ck 9 ?_
  refine bx H fun r3 h17 H => ?_
  refine cG false (leZ) rfl (fun hg => FSpool_known_ok (gimp h17 hg)) (Or.inl rfl) (impK (fun hh => hh) (impK (fun hh => hh) (impZ))) rfl ?_
  refine pA ?_
  refine ck 2 ?_
  refine gc 3 ((p0_.Now == p1_) && r3) ?_
  refine ck 1 ?_
  refine bx H fun x4 h18 H => ?_
  refine sG (fun hg => at_idxD eI64 (gimp h18 hg)) (impK (fun hh => hh) (impK (fun hh => hh) (impZ))) ?_
  refine gc 1 ((p0_.Now == p1_) && r3) ?_
  refine ck 1 ?_
  refine gc 1 ((p0_.Now == p1_) && r3) ?_
  refine pA ?_
  refine ck 1 ?_
  refine en ?_
  refine re ?_
  injection H with H
  subst H
  exact pr (rd)
end
section
variable (p0_ : GRecord) (p1_ : GSpool)
def f62_s1 : St := ⟨(0, .agg [.d (.int .i64 p0_.Kind), .d (.int .i64 p0_.A), .d (.int .i64 p0_.B)]) :: (1, .ptr 0 0) :: [], [some (.box [.osl 1 1 0 (List.length p1_.Tries), .osl 2 1 0 (List.length p1_.Done), .osl 3 1 0 (List.length p1_.Taken), .d (.int .i64 p1_.Now), .d (.bool p1_.Sealed)]), some (.arr 1 (List.map eI64 p1_.Tries)), some (.arr 1 (List.map eB p1_.Done)), some (.arr 1 (List.map eI64 p1_.Taken))]⟩
theorem FSpool_finished_apply_ok {n : Nat} {p0_ : GRecord} {p1_ : GSpool} {z : (Bool × GSpool)} (H : FSpool_finished_apply n p0_ p1_ = some z) : LentOK Try.prog 62 [.agg [.d (.int .i64 p0_.Kind), .d (.int .i64 p0_.A), .d (.int .i64 p0_.B)], .ptr 0 0] [some (.box [.osl 1 1 0 (List.length p1_.Tries), .osl 2 1 0 (List.length p1_.Done), .osl 3 1 0 (List.length p1_.Taken), .d (.int .i64 p1_.Now), .d (.bool p1_.Sealed)]), some (.arr 1 (List.map eI64 p1_.Tries)), some (.arr 1 (List.map eB p1_.Done)), some (.arr 1 (List.map eI64 p1_.Taken))] 1 (.d (.bool z.1)) [some (.box [.osl 1 1 0 (List.length z.2.Tries), .osl 2 1 0 (List.length z.2.Done), .osl 3 1 0 (List.length z.2.Taken), .d (.int .i64 z.2.Now), .d (.bool z.2.Sealed)]), some (.arr 1 (List.map eI64 z.2.Tries)), some (.arr 1 (List.map eB z.2.Done)), some (.arr 1 (List.map eI64 z.2.Taken))] := by
  dsimp only [FSpool_finished_apply] at H
  refine fl (Γ := cxk 22 [1]) (kl := [1]) (s := f62_s1 p0_ p1_) follows (cxkOK 22 [1]) Try.func62 ?_
  refine sr ?_
  refine ck 2 ?_
  refine en ?_
  refine sq ?_
  refine sr ?_
  refine ck 5 ?_
  refine bx H fun r4 h19 H => ?_
  refine cb (ks := [0,1,2,3]) (obl := [(0 + List.length p1_.Tries, List.length (List.map eI64 p1_.Tries)), (0 + List.length p1_.Done, List.length (List.map eB p1_.Done)), (0 + List.length p1_.Taken, List.length (List.map eI64 p1_.Taken))]) false (leK (by simp) (leK (by simp) (leK (by simp) (leZ)))) (consE (dptrE (l' := [(.sl (List.map eI64 p1_.Tries)), (.sl (List.map eB p1_.Done)), (.sl (List.map eI64 p1_.Taken)), (.int .i64 p1_.Now), (.bool p1_.Sealed)]) (consD takeD (consD takeD (consD takeD (consD rfl (consD rfl rfl)))))) (consE rfl (consE rfl rfl))) (FSpool_busy_ok h19) (Or.inr (by simp only [flatR, flatT, flatA, flatC, List.forall_mem_map] <;> simp [D.flat, true_and])) rfl ?_
  refine ck 1 ?_
  refine en ?_
  refine cn H (fun H => ?_) (fun H => ?_)
  · refine sr ?_
    refine ck 1 ?_
    refine en ?_
    refine re ?_
    refine qr ?_
    injection H with H
    subst H
    exact pL (rl (Shift.gc [1,4]))
  · refine sk ?_
    refine qz ?_
    refine sr ?_
    refine ck 6 ?_
    refine bx H fun x5 h20 H => ?_
    refine sp (at_idxO 2 1 h20) ?_
    refine bx H fun l11 h21 H => ?_
    refine stA eB 2 0 (ty 4) h20 h21 ?_
    refine en ?_
    refine sq ?_
    refine rg (sh_subc (k := 2) (sz := 1) 0 1 (List.map eB l11) (List.length l11) (by kernel_rfl) (cut_put (put_len h21)) (le_put (enc := eB) (put_len h21)) ((put_len h21))) ?_
    refine ck 4 ?_
    refine en ?_
    refine sr ?_
    refine ck 1 ?_
    refine en ?_
    refine re ?_
    injection H with H
    subst H
    exact pL (rl (Shift.gc [1,4]))
end
section
variable (p0_ : GRecord) (p1_ : GSpool)
def f64_s1 : St := ⟨(0, .agg [.d (.int .i64 p0_.Kind), .d (.int .i64 p0_.A), .d (.int .i64 p0_.B)]) :: (1, .ptr 0 0) :: [], [some (.box [.osl 1 1 0 (List.length p1_.Tries), .osl 2 1 0 (List.length p1_.Done), .osl 3 1 0 (List.length p1_.Taken), .d (.int .i64 p1_.Now), .d (.bool p1_.Sealed)]), some (.arr 1 (List.map eI64 p1_.Tries)), some (.arr 1 (List.map eB p1_.Done)), some (.arr 1 (List.map eI64 p1_.Taken))]⟩
theorem FSpool_spoilt_apply_ok {n : Nat} {p0_ : GRecord} {p1_ : GSpool} {z : (Bool × GSpool)} (H : FSpool_spoilt_apply n p0_ p1_ = some z) : LentOK Try.prog 64 [.agg [.d (.int .i64 p0_.Kind), .d (.int .i64 p0_.A), .d (.int .i64 p0_.B)], .ptr 0 0] [some (.box [.osl 1 1 0 (List.length p1_.Tries), .osl 2 1 0 (List.length p1_.Done), .osl 3 1 0 (List.length p1_.Taken), .d (.int .i64 p1_.Now), .d (.bool p1_.Sealed)]), some (.arr 1 (List.map eI64 p1_.Tries)), some (.arr 1 (List.map eB p1_.Done)), some (.arr 1 (List.map eI64 p1_.Taken))] 1 (.d (.bool z.1)) [some (.box [.osl 1 1 0 (List.length z.2.Tries), .osl 2 1 0 (List.length z.2.Done), .osl 3 1 0 (List.length z.2.Taken), .d (.int .i64 z.2.Now), .d (.bool z.2.Sealed)]), some (.arr 1 (List.map eI64 z.2.Tries)), some (.arr 1 (List.map eB z.2.Done)), some (.arr 1 (List.map eI64 z.2.Taken))] := by
  dsimp only [FSpool_spoilt_apply] at H
  refine fl (Γ := cxk 15 [1]) (kl := [1]) (s := f64_s1 p0_ p1_) follows (cxkOK 15 [1]) Try.func64 ?_
  refine sr ?_
  refine ck 2 ?_
  refine en ?_
  refine sq ?_
  refine sr ?_
  refine ck 5 ?_
  refine bx H fun r5 h22 H => ?_
  refine cb (ks := [0,1,2,3]) (obl := [(0 + List.length p1_.Tries, List.length (List.map eI64 p1_.Tries)), (0 + List.length p1_.Done, List.length (List.map eB p1_.Done)), (0 + List.length p1_.Taken, List.length (List.map eI64 p1_.Taken))]) false (leK (by simp) (leK (by simp) (leK (by simp) (leZ)))) (consE (dptrE (l' := [(.sl (List.map eI64 p1_.Tries)), (.sl (List.map eB p1_.Done)), (.sl (List.map eI64 p1_.Taken)), (.int .i64 p1_.Now), (.bool p1_.Sealed)]) (consD takeD (consD takeD (consD takeD (consD rfl (consD rfl rfl)))))) (consE rfl (consE rfl rfl))) (FSpool_busy_ok h22) (Or.inr (by simp only [flatR, flatT, flatA, flatC, List.forall_mem_map] <;> simp [D.flat, true_and])) rfl ?_
  refine ck 1 ?_
  refine en ?_
  refine cn H (fun H => ?_) (fun H => ?_)
  · refine sr ?_
    refine ck 1 ?_
    refine en ?_
    refine re ?_
    refine qr ?_
    injection H with H
    subst H
    exact pL (rl (Shift.gc [1,4]))
  · refine sk ?_
    refine qz ?_
    refine sr ?_
    refine ck 4 ?_
    refine en ?_
    refine sr ?_
    refine ck 1 ?_
    refine en ?_
    refine re ?_
    injection H with H
    subst H
    exact pL (rl (Shift.gc [1,4]))
end
section
variable (p0_ : (List Int)) (p1_ : Int)
def f41_s1 : St := ⟨(0, .d (.sl (List.map eI64 p0_))) :: (1, .d (.int .i64 p1_)) :: [], []⟩
variable (x_1 : Int)
def f41_s2 : St := ⟨(0, .d (.sl (List.map eI64 p0_))) :: (1, .d (.int .i64 p1_)) :: (7, .d (.int .i64 ((List.length p0_ : Nat) : Int))) :: (8, .d (.int .i64 x_1)) :: [], []⟩
def f41_s3  : St := ⟨[], []⟩
def FSlices_Index_int_int_L1_E (_ : (List Int)) (_ : Int) : (Unit ⊕ Int) → Ex → St → Prop := fun y => Sum.casesOn y (fun (_ : Unit) e s => e = Ex.exit 0 ∧ Shift s (f41_s3)) (fun (y : Int) e s => e = Ex.ret ∧ RA ty (Try.f41).results.toList (.d (.int .i64 y)) s)
theorem FSlices_Index_int_int_L1_ok {n : Nat} {p0_ : (List Int)} {p1_ : Int} (x : Int) (z : (Int ⊕ (Unit ⊕ Int))) (H : FSlices_Index_int_int_L1 n p0_ p1_ x = some z) : WP (cxk 19 []) (bodyOf Try.f41) [1,0,1,0,0] (roundQ (fun (x : Int) => f41_s2 p0_ p1_ x) (FSlices_Index_int_int_L1_E p0_ p1_) z) (f41_s2 p0_ p1_ x) := by
  revert H
  generalize x = x_1
  intro H
  dsimp only [FSlices_Index_int_int_L1] at H
  refine sr ?_
  refine ck 1 ?_
  refine en ?_
  refine sq ?_
  refine cn H (fun H => ?_) (fun H => ?_)
  · refine sk ?_
    refine qz ?_
    refine sq ?_
    refine bk 1 ?_
    refine sr ?_
    refine ck 2 ?_
    refine en ?_
    refine sr ?_
    refine ck 3 ?_
    refine bx H fun x6 h23 H => ?_
    refine sp (at_idxD eI64 h23) ?_
    refine ck 2 ?_
    refine en ?_
    refine cn H (fun H => ?_) (fun H => ?_)
    · refine sr ?_
      refine ck 2 ?_
      refine en ?_
      refine re ?_
      refine qR ?_
      refine qr ?_
      cases H
      exact or ⟨rfl, rd⟩
    · refine sk ?_
      refine qN ?_
      refine qz ?_
      refine rz ?_
      refine ck 2 ?_
      refine ae ?_
      cases H
      exact og (sh_gc [0,1,7,8] (by kernel_rfl))
  · refine ex 0 ?_
    refine qx ?_
    cases H
    exact oe ⟨rfl, sh_gc [] (by kernel_rfl)⟩
theorem FSlices_Index_int_int_ok {n : Nat} {p0_ : (List Int)} {p1_ : Int} {z : Int} (H : FSlices_Index_int_int n p0_ p1_ = some z) : CallOK Try.prog 41 [.d (.sl (List.map eI64 p0_)), .d (.int .i64 p1_)] (.d (.int .i64 z)) := by
  dsimp only [FSlices_Index_int_int] at H
  refine fo (Γ := cxk 19 []) (s := f41_s1 p0_ p1_) follows (cxkOK 19 []) Try.func41 ?_
  refine sr ?_
  refine ck 1 ?_
  refine en ?_
  refine sq ?_
  refine sr ?_
  refine ck 1 ?_
  refine sp (at_len eI64 p0_) ?_
  refine ck 1 ?_
  refine en ?_
  refine bk 0 ?_
  refine bx H fun y2 h24 H => ?_
  rcases y2 with y3 | y4
  · refine lp (fun (x : Int) => f41_s2 p0_ p1_ x) (FSlices_Index_int_int_L1_E p0_ p1_) h24 (sh_gc [0,1,7,8] (by kernel_rfl)) (fun x z => FSlices_Index_int_int_L1_ok x z) ?_
    intro e s hE2
    obtain ⟨rfl, hE2⟩ := hE2
    refine qH ?_
    refine qs (hE2) ?_
    refine sr ?_
    refine ck 1 ?_
    refine en ?_
    refine re ?_
    injection H with H
    subst H
    exact pr (rd)
  · refine lp (fun (x : Int) => f41_s2 p0_ p1_ x) (FSlices_Index_int_int_L1_E p0_ p1_) h24 (sh_gc [0,1,7,8] (by kernel_rfl)) (fun x z => FSlices_Index_int_int_L1_ok x z) ?_
    intro e s hE3
    obtain ⟨rfl, hE3⟩ := hE3
    refine qR ?_
    refine qr ?_
    cases H
    exact pr hE3
end
section
variable (p0_ : (List Int)) (p1_ : Int)
def f33_s1 : St := ⟨(0, .d (.sl (List.map eI64 p0_))) :: (1, .d (.int .i64 p1_)) :: [], []⟩
theorem FSlices_Contains_int_int_ok {n : Nat} {p0_ : (List Int)} {p1_ : Int} {z : Bool} (H : FSlices_Contains_int_int n p0_ p1_ = some z) : CallOK Try.prog 33 [.d (.sl (List.map eI64 p0_)), .d (.int .i64 p1_)] (.d (.bool z)) := by
  dsimp only [FSlices_Contains_int_int] at H
  refine fo (Γ := cxk 9 []) (s := f33_s1 p0_ p1_) follows (cxkOK 9 []) Try.func33 ?_
  refine sr ?_
  refine ck 1 ?_
  refine en ?_
  refine sr ?_
  refine ck 2 ?_
  refine bx H fun r6 h25 H => ?_
  refine ca false (FSlices_Index_int_int_ok h25) ?_
  refine ck 2 ?_
  refine en ?_
  refine re ?_
  injection H with H
  subst H
  exact pr (rd)
end
section
variable (p0_ : GRecord) (p1_ : GSpool)
def f65_s1 : St := ⟨(0, .agg [.d (.int .i64 p0_.Kind), .d (.int .i64 p0_.A), .d (.int .i64 p0_.B)]) :: (1, .ptr 0 0) :: [], [some (.box [.osl 1 1 0 (List.length p1_.Tries), .osl 2 1 0 (List.length p1_.Done), .osl 3 1 0 (List.length p1_.Taken), .d (.int .i64 p1_.Now), .d (.bool p1_.Sealed)]), some (.arr 1 (List.map eI64 p1_.Tries)), some (.arr 1 (List.map eB p1_.Done)), some (.arr 1 (List.map eI64 p1_.Taken))]⟩
theorem FSpool_reused_apply_ok {n : Nat} {p0_ : GRecord} {p1_ : GSpool} {z : (Bool × GSpool)} (H : FSpool_reused_apply n p0_ p1_ = some z) : LentOK Try.prog 65 [.agg [.d (.int .i64 p0_.Kind), .d (.int .i64 p0_.A), .d (.int .i64 p0_.B)], .ptr 0 0] [some (.box [.osl 1 1 0 (List.length p1_.Tries), .osl 2 1 0 (List.length p1_.Done), .osl 3 1 0 (List.length p1_.Taken), .d (.int .i64 p1_.Now), .d (.bool p1_.Sealed)]), some (.arr 1 (List.map eI64 p1_.Tries)), some (.arr 1 (List.map eB p1_.Done)), some (.arr 1 (List.map eI64 p1_.Taken))] 1 (.d (.bool z.1)) [some (.box [.osl 1 1 0 (List.length z.2.Tries), .osl 2 1 0 (List.length z.2.Done), .osl 3 1 0 (List.length z.2.Taken), .d (.int .i64 z.2.Now), .d (.bool z.2.Sealed)]), some (.arr 1 (List.map eI64 z.2.Tries)), some (.arr 1 (List.map eB z.2.Done)), some (.arr 1 (List.map eI64 z.2.Taken))] := by
  dsimp only [FSpool_reused_apply] at H
  refine fl (Γ := cxk 40 [1]) (kl := [1]) (s := f65_s1 p0_ p1_) follows (cxkOK 40 [1]) Try.func65 ?_
  refine sr ?_
  refine ck 2 ?_
  refine en ?_
  refine sq ?_
  refine sr ?_
  refine ck 3 ?_
  refine bx H fun r7 h26 H => ?_
  refine cb (ks := [0,1,2,3]) (obl := [(0 + List.length p1_.Tries, List.length (List.map eI64 p1_.Tries)), (0 + List.length p1_.Done, List.length (List.map eB p1_.Done)), (0 + List.length p1_.Taken, List.length (List.map eI64 p1_.Taken))]) false (leK (by simp) (leK (by simp) (leK (by simp) (leZ)))) (consE (dptrE (l' := [(.sl (List.map eI64 p1_.Tries)), (.sl (List.map eB p1_.Done)), (.sl (List.map eI64 p1_.Taken)), (.int .i64 p1_.Now), (.bool p1_.Sealed)]) (consD takeD (consD takeD (consD takeD (consD rfl (consD rfl rfl)))))) (consE rfl rfl)) (FSpool_idle_ok h26) (Or.inr (by simp only [flatR, flatT, flatA, flatC, List.forall_mem_map] <;> simp [D.flat, true_and])) rfl ?_
  refine ck 3 ?_
  refine gc 2 (!(!r7)) ?_
  refine pO ?_
  refine ck 2 ?_
  refine gc 3 (!((!r7) || (decide (p0_.B < 0)))) ?_
  refine ck 1 ?_
  refine gc 1 (!((!r7) || (decide (p0_.B < 0)))) ?_
  refine bx H fun r8 h27 H => ?_
  refine cG (ks := [3]) (obl := [(0 + List.length p1_.Taken, List.length (List.map eI64 p1_.Taken))]) false (leK (by simp) (leZ)) (consE takeE (consE rfl rfl)) (fun hg => FSlices_Contains_int_int_ok (gimp h27 hg)) (Or.inr (by simp only [flatR, flatT, flatA, flatC, List.forall_mem_map] <;> simp [D.flat, true_and])) (impK (fun hh => hh) (impK (fun hh => hh) (impZ))) rfl ?_
  refine pO ?_
  refine en ?_
  refine cn H (fun H => ?_) (fun H => ?_)
  · refine sr ?_
    refine ck 1 ?_
    refine en ?_
    refine re ?_
    refine qr ?_
    injection H with H
    subst H
    exact pL (rl (Shift.gc [1,4]))
  · refine sk ?_
    refine qz ?_
    refine sr ?_
    refine ck 6 ?_
    refine bx H fun x7 h28 H => ?_
    refine sp (at_idxO 2 1 h28) ?_
    refine bx H fun l12 h29 H => ?_
    refine stA eB 2 0 (ty 4) h28 h29 ?_
    refine en ?_
    refine sq ?_
    refine rg (sh_subc (k := 2) (sz := 1) 0 1 (List.map eB l12) (List.length l12) (by kernel_rfl) (cut_put (put_len h29)) (le_put (enc := eB) (put_len h29)) ((put_len h29))) ?_
    refine ck 8 ?_
    refine bx H fun x8 h30 H => ?_
    refine sp (at_idxO 3 1 h30) ?_
    refine bx H fun l13 h31 H => ?_
    refine stA eI64 3 0 (ty 3) h30 h31 ?_
    refine en ?_
    refine sq ?_
    refine rg (sh_subc (k := 3) (sz := 1) 0 2 (List.map eI64 l13) (List.length l13) (by kernel_rfl) (cut_put (put_len h31)) (le_put (enc := eI64) (put_len h31)) ((put_len h31))) ?_
    refine ck 1 ?_
    refine en ?_
    refine re ?_
    injection H with H
    subst H
    exact pL (rl (Shift.gc [1,4]))
end
section
variable (p0_ : (List Bool)) (p1_ : Bool)
def f32_s1 : St := ⟨(0, .d (.sl (List.map eB p0_))) :: (1, .d (.bool p1_)) :: [], []⟩
variable (x_2 : Int)
def f32_s2 : St := ⟨(0, .d (.sl (List.map eB p0_))) :: (1, .d (.bool p1_)) :: (7, .d (.int .i64 ((List.length p0_ : Nat) : Int))) :: (8, .d (.int .i64 x_2)) :: [], []⟩
def f32_s3  : St := ⟨[], []⟩
def FSlices_Index_bool_bool_L1_E (_ : (List Bool)) (_ : Bool) : (Unit ⊕ Int) → Ex → St → Prop := fun y => Sum.casesOn y (fun (_ : Unit) e s => e = Ex.exit 0 ∧ Shift s (f32_s3)) (fun (y : Int) e s => e = Ex.ret ∧ RA ty (Try.f32).results.toList (.d (.int .i64 y)) s)
theorem FSlices_Index_bool_bool_L1_ok {n : Nat} {p0_ : (List Bool)} {p1_ : Bool} (x : Int) (z : (Int ⊕ (Unit ⊕ Int))) (H : FSlices_Index_bool_bool_L1 n p0_ p1_ x = some z) : WP (cxk 19 []) (bodyOf Try.f32) [1,0,1,0,0] (roundQ (fun (x : Int) => f32_s2 p0_ p1_ x) (FSlices_Index_bool_bool_L1_E p0_ p1_) z) (f32_s2 p0_ p1_ x) := by
  revert H
  generalize x = x_2
  intro H
  dsimp only [FSlices_Index_bool_bool_L1] at H
  refine sr ?_
  refine ck 1 ?_
  refine en ?_
  refine sq ?_
  refine cn H (fun H => ?_) (fun H => ?_)
  · refine sk ?_
    refine qz ?_
    refine sq ?_
    refine bk 1 ?_
    refine sr ?_
    refine ck 2 ?_
    refine en ?_
    refine sr ?_
    refine ck 3 ?_
    refine bx H fun x9 h32 H => ?_
    refine sp (at_idxD eB h32) ?_
    refine ck 2 ?_
    refine en ?_
    refine cn H (fun H => ?_) (fun H => ?_)
    · refine sr ?_
      refine ck 2 ?_
      refine en ?_
      refine re ?_
      refine qR ?_
      refine qr ?_
      cases H
      exact or ⟨rfl, rd⟩
    · refine sk ?_
      refine qN ?_
      refine qz ?_
      refine rz ?_
      refine ck 2 ?_
      refine ae ?_
      cases H
      exact og (sh_gc [0,1,7,8] (by kernel_rfl))
  · refine ex 0 ?_
    refine qx ?_
    cases H
    exact oe ⟨rfl, sh_gc [] (by kernel_rfl)⟩
theorem FSlices_Index_bool_bool_ok {n : Nat} {p0_ : (List Bool)} {p1_ : Bool} {z : Int} (H : FSlices_Index_bool_bool n p0_ p1_ = some z) : CallOK Try.prog 32 [.d (.sl (List.map eB p0_)), .d (.bool p1_)] (.d (.int .i64 z)) := by
  dsimp only [FSlices_Index_bool_bool] at H
  refine fo (Γ := cxk 19 []) (s := f32_s1 p0_ p1_) follows (cxkOK 19 []) Try.func32 ?_
  refine sr ?_
  refine ck 1 ?_
  refine en ?_
  refine sq ?_
  refine sr ?_
  refine ck 1 ?_
  refine sp (at_len eB p0_) ?_
  refine ck 1 ?_
  refine en ?_
  refine bk 0 ?_
  refine bx H fun y5 h33 H => ?_
  rcases y5 with y6 | y7
  · refine lp (fun (x : Int) => f32_s2 p0_ p1_ x) (FSlices_Index_bool_bool_L1_E p0_ p1_) h33 (sh_gc [0,1,7,8] (by kernel_rfl)) (fun x z => FSlices_Index_bool_bool_L1_ok x z) ?_
    intro e s hE4
    obtain ⟨rfl, hE4⟩ := hE4
    refine qH ?_
    refine qs (hE4) ?_
    refine sr ?_
    refine ck 1 ?_
    refine en ?_
    refine re ?_
    injection H with H
    subst H
    exact pr (rd)
  · refine lp (fun (x : Int) => f32_s2 p0_ p1_ x) (FSlices_Index_bool_bool_L1_E p0_ p1_) h33 (sh_gc [0,1,7,8] (by kernel_rfl)) (fun x z => FSlices_Index_bool_bool_L1_ok x z) ?_
    intro e s hE5
    obtain ⟨rfl, hE5⟩ := hE5
    refine qR ?_
    refine qr ?_
    cases H
    exact pr hE5
end
section
variable (p0_ : (List Bool)) (p1_ : Bool)
def f67_s1 : St := ⟨(0, .d (.sl (List.map eB p0_))) :: (1, .d (.bool p1_)) :: [], []⟩
theorem FSlices_Contains_bool_bool_ok {n : Nat} {p0_ : (List Bool)} {p1_ : Bool} {z : Bool} (H : FSlices_Contains_bool_bool n p0_ p1_ = some z) : CallOK Try.prog 67 [.d (.sl (List.map eB p0_)), .d (.bool p1_)] (.d (.bool z)) := by
  dsimp only [FSlices_Contains_bool_bool] at H
  refine fo (Γ := cxk 9 []) (s := f67_s1 p0_ p1_) follows (cxkOK 9 []) Try.func67 ?_
  refine sr ?_
  refine ck 1 ?_
  refine en ?_
  refine sr ?_
  refine ck 2 ?_
  refine bx H fun r9 h34 H => ?_
  refine ca false (FSlices_Index_bool_bool_ok h34) ?_
  refine ck 2 ?_
  refine en ?_
  refine re ?_
  injection H with H
  subst H
  exact pr (rd)
end
section
variable (p0_ : GRecord) (p1_ : GSpool)
def f66_s1 : St := ⟨(0, .agg [.d (.int .i64 p0_.Kind), .d (.int .i64 p0_.A), .d (.int .i64 p0_.B)]) :: (1, .ptr 0 0) :: [], [some (.box [.osl 1 1 0 (List.length p1_.Tries), .osl 2 1 0 (List.length p1_.Done), .osl 3 1 0 (List.length p1_.Taken), .d (.int .i64 p1_.Now), .d (.bool p1_.Sealed)]), some (.arr 1 (List.map eI64 p1_.Tries)), some (.arr 1 (List.map eB p1_.Done)), some (.arr 1 (List.map eI64 p1_.Taken))]⟩
theorem FSpool_sealed_apply_ok {n : Nat} {p0_ : GRecord} {p1_ : GSpool} {z : (Bool × GSpool)} (H : FSpool_sealed_apply n p0_ p1_ = some z) : LentOK Try.prog 66 [.agg [.d (.int .i64 p0_.Kind), .d (.int .i64 p0_.A), .d (.int .i64 p0_.B)], .ptr 0 0] [some (.box [.osl 1 1 0 (List.length p1_.Tries), .osl 2 1 0 (List.length p1_.Done), .osl 3 1 0 (List.length p1_.Taken), .d (.int .i64 p1_.Now), .d (.bool p1_.Sealed)]), some (.arr 1 (List.map eI64 p1_.Tries)), some (.arr 1 (List.map eB p1_.Done)), some (.arr 1 (List.map eI64 p1_.Taken))] 1 (.d (.bool z.1)) [some (.box [.osl 1 1 0 (List.length z.2.Tries), .osl 2 1 0 (List.length z.2.Done), .osl 3 1 0 (List.length z.2.Taken), .d (.int .i64 z.2.Now), .d (.bool z.2.Sealed)]), some (.arr 1 (List.map eI64 z.2.Tries)), some (.arr 1 (List.map eB z.2.Done)), some (.arr 1 (List.map eI64 z.2.Taken))] := by
  dsimp only [FSpool_sealed_apply] at H
  refine fl (Γ := cxk 30 [1]) (kl := [1]) (s := f66_s1 p0_ p1_) follows (cxkOK 30 [1]) Try.func66 ?_
  refine sr ?_
  refine ck 2 ?_
  refine en ?_
  refine sq ?_
  refine sr ?_
  refine ck 7 ?_
  refine gc 3 (!(p1_.Now != (-1))) ?_
  refine bx H fun r10 h35 H => ?_
  refine cG (ks := [2]) (obl := [(0 + List.length p1_.Done, List.length (List.map eB p1_.Done))]) false (leK (by simp) (leZ)) (consE takeE (consE rfl rfl)) (fun hg => FSlices_Contains_bool_bool_ok (gimp h35 hg)) (Or.inr (by simp only [flatR, flatT, flatA, flatC, List.forall_mem_map] <;> simp [D.flat, true_and])) (impK (fun hh => hh) (impZ)) rfl ?_
  refine pO ?_
  refine ck 2 ?_
  refine gc 2 (!((p1_.Now != (-1)) || r10)) ?_
  refine pO ?_
  refine ck 2 ?_
  refine gc 2 (!(((p1_.Now != (-1)) || r10) || (p0_.A != 0))) ?_
  refine pO ?_
  refine en ?_
  refine cn H (fun H => ?_) (fun H => ?_)
  · refine sr ?_
    refine ck 1 ?_
    refine en ?_
    refine re ?_
    refine qr ?_
    injection H with H
    subst H
    exact pL (rl (Shift.gc [1,4]))
  · refine sk ?_
    refine qz ?_
    refine sr ?_
    refine ck 4 ?_
    refine en ?_
    refine sr ?_
    refine ck 1 ?_
    refine en ?_
    refine re ?_
    injection H with H
    subst H
    exact pL (rl (Shift.gc [1,4]))
end
section
variable (p0_ : GSpool) (p1_ : GRecord)
def f30_s1 : St := ⟨(0, .ptr 0 0) :: (1, .agg [.d (.int .i64 p1_.Kind), .d (.int .i64 p1_.A), .d (.int .i64 p1_.B)]) :: [], [some (.box [.osl 1 1 0 (List.length p0_.Tries), .osl 2 1 0 (List.length p0_.Done), .osl 3 1 0 (List.length p0_.Taken), .d (.int .i64 p0_.Now), .d (.bool p0_.Sealed)]), some (.arr 1 (List.map eI64 p0_.Tries)), some (.arr 1 (List.map eB p0_.Done)), some (.arr 1 (List.map eI64 p0_.Taken))]⟩
theorem FSpool_perform_ok {n : Nat} {p0_ : GSpool} {p1_ : GRecord} {z : (Bool × GSpool)} (H : FSpool_perform n p0_ p1_ = some z) : LentOK Try.prog 30 [.ptr 0 0, .agg [.d (.int .i64 p1_.Kind), .d (.int .i64 p1_.A), .d (.int .i64 p1_.B)]] [some (.box [.osl 1 1 0 (List.length p0_.Tries), .osl 2 1 0 (List.length p0_.Done), .osl 3 1 0 (List.length p0_.Taken), .d (.int .i64 p0_.Now), .d (.bool p0_.Sealed)]), some (.arr 1 (List.map eI64 p0_.Tries)), some (.arr 1 (List.map eB p0_.Done)), some (.arr 1 (List.map eI64 p0_.Taken))] 1 (.d (.bool z.1)) [some (.box [.osl 1 1 0 (List.length z.2.Tries), .osl 2 1 0 (List.length z.2.Done), .osl 3 1 0 (List.length z.2.Taken), .d (.int .i64 z.2.Now), .d (.bool z.2.Sealed)]), some (.arr 1 (List.map eI64 z.2.Tries)), some (.arr 1 (List.map eB z.2.Done)), some (.arr 1 (List.map eI64 z.2.Taken))] := by
  dsimp only [FSpool_perform] at H
  refine fl (Γ := cxk 35 [0]) (kl := [0]) (s := f30_s1 p0_ p1_) follows (cxkOK 35 [0]) Try.func30 ?_
  refine sr ?_
  refine ck 2 ?_
  refine en ?_
  refine sq ?_
  refine sr ?_
  refine ck 4 ?_
  refine en ?_
  refine cn H (fun H => ?_) (fun H => ?_)
  · refine sr ?_
    refine ck 1 ?_
    refine en ?_
    refine re ?_
    refine qr ?_
    injection H with H
    subst H
    exact pL (rl (Shift.gc [0,4]))
  · refine sk ?_
    refine qz ?_
    refine sr ?_
    refine ck 1 ?_
    refine en ?_
    refine sq ?_
    refine sr ?_
    refine ck 2 ?_
    refine en ?_
    refine bk 0 ?_
    refine sr ?_
    refine ck 2 ?_
    refine en ?_
    refine cn H (fun H => ?_) (fun H => ?_)
    · refine rz ?_
      refine ck 1 ?_
      refine xm (xok _ _) ?_
      refine ck 1 ?_
      refine ae ?_
      refine qN ?_
      refine qz ?_
      refine sr ?_
      refine ck 2 ?_
      refine bx H fun r11 h36 H => ?_
      refine xc (xok _ _) [0,1,2,3] (FSpool_began_apply_ok h36) ?_
      refine ck 1 ?_
      refine en ?_
      refine re ?_
      injection H with H
      subst H
      exact pL (rl (Shift.gc [0,4]))
    · refine sr ?_
      refine ck 2 ?_
      refine en ?_
      refine cn H (fun H => ?_) (fun H => ?_)
      · refine rz ?_
        refine ck 1 ?_
        refine xm (xok _ _) ?_
        refine ck 1 ?_
        refine ae ?_
        refine qN ?_
        refine qz ?_
        refine sr ?_
        refine ck 2 ?_
        refine bx H fun r12 h37 H => ?_
        refine xc (xok _ _) [0,1,2,3] (FSpool_finished_apply_ok h37) ?_
        refine ck 1 ?_
        refine en ?_
        refine re ?_
        injection H with H
        subst H
        exact pL (rl (Shift.gc [0,4]))
      · refine sr ?_
        refine ck 2 ?_
        refine en ?_
        refine cn H (fun H => ?_) (fun H => ?_)
        · refine rz ?_
          refine ck 1 ?_
          refine xm (xok _ _) ?_
          refine ck 1 ?_
          refine ae ?_
          refine qN ?_
          refine qz ?_
          refine sr ?_
          refine ck 2 ?_
          refine bx H fun r13 h38 H => ?_
          refine xc (xok _ _) [0,1,2,3] (FSpool_spoilt_apply_ok h38) ?_
          refine ck 1 ?_
          refine en ?_
          refine re ?_
          injection H with H
          subst H
          exact pL (rl (Shift.gc [0,4]))
        · refine sr ?_
          refine ck 2 ?_
          refine en ?_
          refine cn H (fun H => ?_) (fun H => ?_)
          · refine rz ?_
            refine ck 1 ?_
            refine xm (xok _ _) ?_
            refine ck 1 ?_
            refine ae ?_
            refine qN ?_
            refine qz ?_
            refine sr ?_
            refine ck 2 ?_
            refine bx H fun r14 h39 H => ?_
            refine xc (xok _ _) [0,1,2,3] (FSpool_reused_apply_ok h39) ?_
            refine ck 1 ?_
            refine en ?_
            refine re ?_
            injection H with H
            subst H
            exact pL (rl (Shift.gc [0,4]))
          · refine sr ?_
            refine ck 2 ?_
            refine en ?_
            refine cn H (fun H => ?_) (fun H => ?_)
            · refine rz ?_
              refine ck 1 ?_
              refine xm (xok _ _) ?_
              refine ck 1 ?_
              refine ae ?_
              refine qN ?_
              refine qz ?_
              refine sr ?_
              refine ck 2 ?_
              refine bx H fun r15 h40 H => ?_
              refine xc (xok _ _) [0,1,2,3] (FSpool_sealed_apply_ok h40) ?_
              refine ck 1 ?_
              refine en ?_
              refine re ?_
              injection H with H
              subst H
              exact pL (rl (Shift.gc [0,4]))
            · refine sr ?_
              refine ck 1 ?_
              refine en ?_
              refine re ?_
              refine qR ?_
              refine qr ?_
              injection H with H
              subst H
              exact pL (rl (Shift.gc [0,4]))
end
section
variable (p0_ : GSpool) (p1_ : GRecord)
def f22_s1 : St := ⟨(0, .agg [.d (.sl (List.map eI64 p0_.Tries)), .d (.sl (List.map eB p0_.Done)), .d (.sl (List.map eI64 p0_.Taken)), .d (.int .i64 p0_.Now), .d (.bool p0_.Sealed)]) :: (1, .agg [.d (.int .i64 p1_.Kind), .d (.int .i64 p1_.A), .d (.int .i64 p1_.B)]) :: [], []⟩
theorem FSpool_Step_ok {n : Nat} {p0_ : GSpool} {p1_ : GRecord} {z : (GSpool × Int)} (H : FSpool_Step n p0_ p1_ = some z) : CallOK Try.prog 22 [.agg [.d (.sl (List.map eI64 p0_.Tries)), .d (.sl (List.map eB p0_.Done)), .d (.sl (List.map eI64 p0_.Taken)), .d (.int .i64 p0_.Now), .d (.bool p0_.Sealed)], .agg [.d (.int .i64 p1_.Kind), .d (.int .i64 p1_.A), .d (.int .i64 p1_.B)]] (.tup [.agg [.own 1 (List.map eI64 z.1.Tries), .own 1 (List.map eB z.1.Done), .own 1 (List.map eI64 z.1.Taken), .d (.int .i64 z.1.Now), .d (.bool z.1.Sealed)], .d (.int .i64 z.2)]) := by
  dsimp only [FSpool_Step] at H
  refine fo (Γ := cxk 14 []) (s := f22_s1 p0_ p1_) follows (cxkOK 14 []) Try.func22 ?_
  refine sr ?_
  refine ck 4 ?_
  refine en ?_
  refine sr ?_
  refine ck 1 ?_
  refine bx H fun r16 h41 H => ?_
  refine cl [List.length r16.Tries, List.length r16.Done, List.length r16.Taken] (FSpool_copied_ok h41) ?_
  refine ck 2 ?_
  refine en ?_
  refine sq ?_
  refine sr ?_
  refine ck 1 ?_
  refine bx H fun r17 h42 H => ?_
  refine lt [6,3,4,5] (FSpool_perform_ok h42) ?_
  refine ck 1 ?_
  refine en ?_
  refine cn H (fun H => ?_) (fun H => ?_)
  · refine sr ?_
    refine ck 3 ?_
    refine en ?_
    refine re ?_
    refine qr ?_
    injection H with H
    subst H
    exact pr (rT (vs := [.agg [.d (.nil), .d (.nil), .d (.nil), .d (.int .i64 0), .d (.bool false)], .d (.int .i64 290)]) [] (t1 (a1 (c1 vz (c1 vz (c1 vz (c1 vd (c1 vd (c0))))))) (t1 (ad vd) (t0))))
  · refine sk ?_
    refine qz ?_
    refine sr ?_
    refine ck 3 ?_
    refine en ?_
    refine re ?_
    injection H with H
    subst H
    exact pr (rT (vs := [.agg [.osl 7 1 0 (List.length r17.2.Tries), .osl 8 1 0 (List.length r17.2.Done), .osl 9 1 0 (List.length r17.2.Taken), .d (.int .i64 r17.2.Now), .d (.bool r17.2.Sealed)], .d (.int .i64 0)]) [7,8,9] (t1 (a1 (c1 vo (c1 vo (c1 vo (c1 vd (c1 vd (c0))))))) (t1 (ad vd) (t0))))
end
section
variable (p0_ : GSpool) (p1_ : GSpool)
def f15_s1 : St := ⟨(0, .agg [.d (.sl (List.map eI64 p0_.Tries)), .d (.sl (List.map eB p0_.Done)), .d (.sl (List.map eI64 p0_.Taken)), .d (.int .i64 p0_.Now), .d (.bool p0_.Sealed)]) :: (1, .agg [.d (.sl (List.map eI64 p1_.Tries)), .d (.sl (List.map eB p1_.Done)), .d (.sl (List.map eI64 p1_.Taken)), .d (.int .i64 p1_.Now), .d (.bool p1_.Sealed)]) :: [], []⟩
variable (i_2 : Int)
def f15_s2 : St := ⟨(2, .ptr 0 0) :: (3, .ptr 1 0) :: (5, .d (.int .i64 i_2)) :: [], [some (.box [.d (.sl (List.map eI64 p0_.Tries)), .d (.sl (List.map eB p0_.Done)), .d (.sl (List.map eI64 p0_.Taken)), .d (.int .i64 p0_.Now), .d (.bool p0_.Sealed)]), some (.box [.d (.sl (List.map eI64 p1_.Tries)), .d (.sl (List.map eB p1_.Done)), .d (.sl (List.map eI64 p1_.Taken)), .d (.int .i64 p1_.Now), .d (.bool p1_.Sealed)])]⟩
def f15_s3 : St := ⟨(2, .ptr 0 0) :: (3, .ptr 1 0) :: [], [some (.box [.d (.sl (List.map eI64 p0_.Tries)), .d (.sl (List.map eB p0_.Done)), .d (.sl (List.map eI64 p0_.Taken)), .d (.int .i64 p0_.Now), .d (.bool p0_.Sealed)]), some (.box [.d (.sl (List.map eI64 p1_.Tries)), .d (.sl (List.map eB p1_.Done)), .d (.sl (List.map eI64 p1_.Taken)), .d (.int .i64 p1_.Now), .d (.bool p1_.Sealed)])]⟩
def FSixdotref29_Same_L1_E (p0_ : GSpool) (p1_ : GSpool) : (Unit ⊕ Bool) → Ex → St → Prop := fun y => Sum.casesOn y (fun (_ : Unit) e s => e = Ex.exit 0 ∧ Shift s (f15_s3 p0_ p1_)) (fun (y : Bool) e s => e = Ex.ret ∧ RA ty (Try.f15).results.toList (.d (.bool y)) s)
theorem FSixdotref29_Same_L1_ok {n : Nat} {p0_ : GSpool} {p1_ : GSpool} (x : Int) (z : (Int ⊕ (Unit ⊕ Bool))) (H : FSixdotref29_Same_L1 n p0_ p1_ x = some z) : WP (cxk 101 []) (bodyOf Try.f15) [1,1,0,1,0,0] (roundQ (fun (x : Int) => f15_s2 p0_ p1_ x) (FSixdotref29_Same_L1_E p0_ p1_) z) (f15_s2 p0_ p1_ x) := by
  revert H
  generalize x = i_2
  intro H
  dsimp only [FSixdotref29_Same_L1] at H
  refine sq ?_
  refine sr ?_
  refine ck 3 ?_
  refine sp (at_len eI64 p0_.Tries) ?_
  refine ck 1 ?_
  refine en ?_
  refine cn H (fun H => ?_) (fun H => ?_)
  · refine sk ?_
    refine qz ?_
    refine sq ?_
    refine bk 1 ?_
    refine sr ?_
    refine ck 3 ?_
    refine bx H fun x10 h43 H => ?_
    refine sp (at_idxD eI64 h43) ?_
    refine ck 4 ?_
    refine bx H fun x11 h44 H => ?_
    refine sp (at_idxD eI64 h44) ?_
    refine ck 2 ?_
    refine en ?_
    refine cn H (fun H => ?_) (fun H => ?_)
    · refine sr ?_
      refine ck 1 ?_
      refine en ?_
      refine re ?_
      refine qR ?_
      refine qr ?_
      cases H
      exact or ⟨rfl, rd⟩
    · refine sk ?_
      refine qN ?_
      refine qz ?_
      refine rz ?_
      refine ck 3 ?_
      refine ae ?_
      cases H
      exact og (sh_gc [2,3,5] (by kernel_rfl))
  · refine ex 0 ?_
    refine qx ?_
    cases H
    exact oe ⟨rfl, sh_gc [2,3] (by kernel_rfl)⟩
variable (i_3 : Int)
def f15_s4 : St := ⟨(2, .ptr 0 0) :: (3, .ptr 1 0) :: (6, .d (.int .i64 i_3)) :: [], [some (.box [.d (.sl (List.map eI64 p0_.Tries)), .d (.sl (List.map eB p0_.Done)), .d (.sl (List.map eI64 p0_.Taken)), .d (.int .i64 p0_.Now), .d (.bool p0_.Sealed)]), some (.box [.d (.sl (List.map eI64 p1_.Tries)), .d (.sl (List.map eB p1_.Done)), .d (.sl (List.map eI64 p1_.Taken)), .d (.int .i64 p1_.Now), .d (.bool p1_.Sealed)])]⟩
def f15_s5 : St := ⟨(2, .ptr 0 0) :: (3, .ptr 1 0) :: [], [some (.box [.d (.sl (List.map eI64 p0_.Tries)), .d (.sl (List.map eB p0_.Done)), .d (.sl (List.map eI64 p0_.Taken)), .d (.int .i64 p0_.Now), .d (.bool p0_.Sealed)]), some (.box [.d (.sl (List.map eI64 p1_.Tries)), .d (.sl (List.map eB p1_.Done)), .d (.sl (List.map eI64 p1_.Taken)), .d (.int .i64 p1_.Now), .d (.bool p1_.Sealed)])]⟩
def FSixdotref29_Same_L2_E (p0_ : GSpool) (p1_ : GSpool) : (Unit ⊕ Bool) → Ex → St → Prop := fun y => Sum.casesOn y (fun (_ : Unit) e s => e = Ex.exit 2 ∧ Shift s (f15_s5 p0_ p1_)) (fun (y : Bool) e s => e = Ex.ret ∧ RA ty (Try.f15).results.toList (.d (.bool y)) s)
theorem FSixdotref29_Same_L2_ok {n : Nat} {p0_ : GSpool} {p1_ : GSpool} (x : Int) (z : (Int ⊕ (Unit ⊕ Bool))) (H : FSixdotref29_Same_L2 n p0_ p1_ x = some z) : WP (cxk 101 []) (bodyOf Try.f15) [1,1,1,0,1,0,0] (roundQ (fun (x : Int) => f15_s4 p0_ p1_ x) (FSixdotref29_Same_L2_E p0_ p1_) z) (f15_s4 p0_ p1_ x) := by
  revert H
  generalize x = i_3
  intro H
  dsimp only [FSixdotref29_Same_L2] at H
  refine sq ?_
  refine sr ?_
  refine ck 3 ?_
  refine sp (at_len eB p0_.Done) ?_
  refine ck 1 ?_
  refine en ?_
  refine cn H (fun H => ?_) (fun H => ?_)
  · refine sk ?_
    refine qz ?_
    refine sq ?_
    refine bk 3 ?_
    refine sr ?_
    refine ck 3 ?_
    refine bx H fun x12 h46 H => ?_
    refine sp (at_idxD eB h46) ?_
    refine ck 4 ?_
    refine bx H fun x13 h47 H => ?_
    refine sp (at_idxD eB h47) ?_
    refine ck 2 ?_
    refine en ?_
    refine cn H (fun H => ?_) (fun H => ?_)
    · refine sr ?_
      refine ck 1 ?_
      refine en ?_
      refine re ?_
      refine qR ?_
      refine qr ?_
      cases H
      exact or ⟨rfl, rd⟩
    · refine sk ?_
      refine qN ?_
      refine qz ?_
      refine rz ?_
      refine ck 3 ?_
      refine ae ?_
      cases H
      exact og (sh_gc [2,3,6] (by kernel_rfl))
  · refine ex 2 ?_
    refine qx ?_
    cases H
    exact oe ⟨rfl, sh_gc [2,3] (by kernel_rfl)⟩
variable (i_4 : Int)
def f15_s6 : St := ⟨(2, .ptr 0 0) :: (3, .ptr 1 0) :: (7, .d (.int .i64 i_4)) :: [], [some (.box [.d (.sl (List.map eI64 p0_.Tries)), .d (.sl (List.map eB p0_.Done)), .d (.sl (List.map eI64 p0_.Taken)), .d (.int .i64 p0_.Now), .d (.bool p0_.Sealed)]), some (.box [.d (.sl (List.map eI64 p1_.Tries)), .d (.sl (List.map eB p1_.Done)), .d (.sl (List.map eI64 p1_.Taken)), .d (.int .i64 p1_.Now), .d (.bool p1_.Sealed)])]⟩
def f15_s7  : St := ⟨[], []⟩
def FSixdotref29_Same_L3_E (_ : GSpool) (_ : GSpool) : (Unit ⊕ Bool) → Ex → St → Prop := fun y => Sum.casesOn y (fun (_ : Unit) e s => e = Ex.exit 4 ∧ Shift s (f15_s7)) (fun (y : Bool) e s => e = Ex.ret ∧ RA ty (Try.f15).results.toList (.d (.bool y)) s)
theorem FSixdotref29_Same_L3_ok {n : Nat} {p0_ : GSpool} {p1_ : GSpool} (x : Int) (z : (Int ⊕ (Unit ⊕ Bool))) (H : FSixdotref29_Same_L3 n p0_ p1_ x = some z) : WP (cxk 101 []) (bodyOf Try.f15) [1,1,1,1,0,1,0,0] (roundQ (fun (x : Int) => f15_s6 p0_ p1_ x) (FSixdotref29_Same_L3_E p0_ p1_) z) (f15_s6 p0_ p1_ x) := by
  revert H
  generalize x = i_4
  intro H
  dsimp only [FSixdotref29_Same_L3] at H
  refine sq ?_
  refine sr ?_
  refine ck 3 ?_
  refine sp (at_len eI64 p0_.Taken) ?_
  refine ck 1 ?_
  refine en ?_
  refine cn H (fun H => ?_) (fun H => ?_)
  · refine sk ?_
    refine qz ?_
    refine sq ?_
    refine bk 5 ?_
    refine sr ?_
    refine ck 3 ?_
    refine bx H fun x14 h49 H => ?_
    refine sp (at_idxD eI64 h49) ?_
    refine ck 4 ?_
    refine bx H fun x15 h50 H => ?_
    refine sp (at_idxD eI64 h50) ?_
    refine ck 2 ?_
    refine en ?_
    refine cn H (fun H => ?_) (fun H => ?_)
    · refine sr ?_
      refine ck 1 ?_
      refine en ?_
      refine re ?_
      refine qR ?_
      refine qr ?_
      cases H
      exact or ⟨rfl, rd⟩
    · refine sk ?_
      refine qN ?_
      refine qz ?_
      refine rz ?_
      refine ck 3 ?_
      refine ae ?_
      cases H
      exact og (sh_gc [2,3,7] (by kernel_rfl))
  · refine ex 4 ?_
    refine qx ?_
    cases H
    exact oe ⟨rfl, sh_gc [] (by kernel_rfl)⟩
theorem FSixdotref29_Same_ok {n : Nat} {p0_ : GSpool} {p1_ : GSpool} {z : Bool} (H : FSixdotref29_Same n p0_ p1_ = some z) : CallOK Try.prog 15 [.agg [.d (.sl (List.map eI64 p0_.Tries)), .d (.sl (List.map eB p0_.Done)), .d (.sl (List.map eI64 p0_.Taken)), .d (.int .i64 p0_.Now), .d (.bool p0_.Sealed)], .agg [.d (.sl (List.map eI64 p1_.Tries)), .d (.sl (List.map eB p1_.Done)), .d (.sl (List.map eI64 p1_.Taken)), .d (.int .i64 p1_.Now), .d (.bool p1_.Sealed)]] (.d (.bool z)) := by
  dsimp only [FSixdotref29_Same] at H
  refine fo (Γ := cxk 101 []) (s := f15_s1 p0_ p1_) follows (cxkOK 101 []) Try.func15 ?_
  refine sr ?_
  refine ck 3 ?_
  refine en ?_
  refine sq ?_
  refine sr ?_
  refine ck 2 ?_
  refine sp (at_len eI64 p0_.Tries) ?_
  refine ck 2 ?_
  refine sp (at_len eI64 p1_.Tries) ?_
  refine ck 3 ?_
  refine gc 1 (!(((List.length p0_.Tries : Nat) : Int) != ((List.length p1_.Tries : Nat) : Int))) ?_
  refine sG (g := (!(((List.length p0_.Tries : Nat) : Int) != ((List.length p1_.Tries : Nat) : Int)))) (fun hg => at_len eB p0_.Done) (impK (fun hh => hh) (impZ)) ?_
  refine ck 1 ?_
  refine gc 1 (!(((List.length p0_.Tries : Nat) : Int) != ((List.length p1_.Tries : Nat) : Int))) ?_
  refine sG (g := (!(((List.length p0_.Tries : Nat) : Int) != ((List.length p1_.Tries : Nat) : Int)))) (fun hg => at_len eB p1_.Done) (impK (fun hh => hh) (impZ)) ?_
  refine gc 1 (!(((List.length p0_.Tries : Nat) : Int) != ((List.length p1_.Tries : Nat) : Int))) ?_
  refine pO ?_
  refine ck 2 ?_
  refine gc 1 (!((((List.length p0_.Tries : Nat) : Int) != ((List.length p1_.Tries : Nat) : Int)) || (((List.length p0_.Done : Nat) : Int) != ((List.length p1_.Done : Nat) : Int)))) ?_
  refine sG (g := (!((((List.length p0_.Tries : Nat) : Int) != ((List.length p1_.Tries : Nat) : Int)) || (((List.length p0_.Done : Nat) : Int) != ((List.length p1_.Done : Nat) : Int))))) (fun hg => at_len eI64 p0_.Taken) (impK (fun hh => hh) (impZ)) ?_
  refine ck 1 ?_
  refine gc 1 (!((((List.length p0_.Tries : Nat) : Int) != ((List.length p1_.Tries : Nat) : Int)) || (((List.length p0_.Done : Nat) : Int) != ((List.length p1_.Done : Nat) : Int)))) ?_
  refine sG (g := (!((((List.length p0_.Tries : Nat) : Int) != ((List.length p1_.Tries : Nat) : Int)) || (((List.length p0_.Done : Nat) : Int) != ((List.length p1_.Done : Nat) : Int))))) (fun hg => at_len eI64 p1_.Taken) (impK (fun hh => hh) (impZ)) ?_
  refine gc 1 (!((((List.length p0_.Tries : Nat) : Int) != ((List.length p1_.Tries : Nat) : Int)) || (((List.length p0_.Done : Nat) : Int) != ((List.length p1_.Done : Nat) : Int)))) ?_
  refine pO ?_
  refine ck 2 ?_
  refine gc 1 (!(((((List.length p0_.Tries : Nat) : Int) != ((List.length p1_.Tries : Nat) : Int)) || (((List.length p0_.Done : Nat) : Int) != ((List.length p1_.Done : Nat) : Int))) || (((List.length p0_.Taken : Nat) : Int) != ((List.length p1_.Taken : Nat) : Int)))) ?_
  refine ck 1 ?_
  refine gc 2 (!(((((List.length p0_.Tries : Nat) : Int) != ((List.length p1_.Tries : Nat) : Int)) || (((List.length p0_.Done : Nat) : Int) != ((List.length p1_.Done : Nat) : Int))) || (((List.length p0_.Taken : Nat) : Int) != ((List.length p1_.Taken : Nat) : Int)))) ?_
  refine pO ?_
  refine ck 2 ?_
  refine gc 1 (!((((((List.length p0_.Tries : Nat) : Int) != ((List.length p1_.Tries : Nat) : Int)) || (((List.length p0_.Done : Nat) : Int) != ((List.length p1_.Done : Nat) : Int))) || (((List.length p0_.Taken : Nat) : Int) != ((List.length p1_.Taken : Nat) : Int))) || (p0_.Now != p1_.Now))) ?_
  refine ck 1 ?_
  refine gc 2 (!((((((List.length p0_.Tries : Nat) : Int) != ((List.length p1_.Tries : Nat) : Int)) || (((List.length p0_.Done : Nat) : Int) != ((List.length p1_.Done : Nat) : Int))) || (((List.length p0_.Taken : Nat) : Int) != ((List.length p1_.Taken : Nat) : Int))) || (p0_.Now != p1_.Now))) ?_
  refine pO ?_
  refine en ?_
  refine cn H (fun H => ?_) (fun H => ?_)
  · refine sr ?_
    refine ck 1 ?_
    refine en ?_
    refine re ?_
    refine qr ?_
    injection H with H
    subst H
    exact pr (rd)
  · refine sk ?_
    refine qz ?_
    refine sq ?_
    refine sr ?_
    refine ck 1 ?_
    refine en ?_
    refine bk 0 ?_
    refine bx H fun y8 h45 H => ?_
    rcases y8 with y9 | y10
    · refine lp (fun (x : Int) => f15_s2 p0_ p1_ x) (FSixdotref29_Same_L1_E p0_ p1_) h45 (sh_gc [2,3,5] (by kernel_rfl)) (fun x z => FSixdotref29_Same_L1_ok x z) ?_
      intro e s hE6
      obtain ⟨rfl, hE6⟩ := hE6
      refine qH ?_
      refine qs (hE6) ?_
      refine sq ?_
      refine sr ?_
      refine ck 1 ?_
      refine en ?_
      refine bk 2 ?_
      refine bx H fun y11 h48 H => ?_
      rcases y11 with y12 | y13
      · refine lp (fun (x : Int) => f15_s4 p0_ p1_ x) (FSixdotref29_Same_L2_E p0_ p1_) h48 (sh_gc [2,3,6] (by kernel_rfl)) (fun x z => FSixdotref29_Same_L2_ok x z) ?_
        intro e s hE7
        obtain ⟨rfl, hE7⟩ := hE7
        refine qH ?_
        refine qs (hE7) ?_
        refine sq ?_
        refine sr ?_
        refine ck 1 ?_
        refine en ?_
        refine bk 4 ?_
        refine bx H fun y14 h51 H => ?_
        rcases y14 with y15 | y16
        · refine lp (fun (x : Int) => f15_s6 p0_ p1_ x) (FSixdotref29_Same_L3_E p0_ p1_) h51 (sh_gc [2,3,7] (by kernel_rfl)) (fun x z => FSixdotref29_Same_L3_ok x z) ?_
          intro e s hE8
          obtain ⟨rfl, hE8⟩ := hE8
          refine qH ?_
          refine qs (hE8) ?_
          refine sr ?_
          refine ck 1 ?_
          refine en ?_
          refine re ?_
          injection H with H
          subst H
          exact pr (rd)
        · refine lp (fun (x : Int) => f15_s6 p0_ p1_ x) (FSixdotref29_Same_L3_E p0_ p1_) h51 (sh_gc [2,3,7] (by kernel_rfl)) (fun x z => FSixdotref29_Same_L3_ok x z) ?_
          intro e s hE9
          obtain ⟨rfl, hE9⟩ := hE9
          refine qR ?_
          refine qr ?_
          cases H
          exact pr hE9
      · refine lp (fun (x : Int) => f15_s4 p0_ p1_ x) (FSixdotref29_Same_L2_E p0_ p1_) h48 (sh_gc [2,3,6] (by kernel_rfl)) (fun x z => FSixdotref29_Same_L2_ok x z) ?_
        intro e s hE10
        obtain ⟨rfl, hE10⟩ := hE10
        refine qR ?_
        refine qr ?_
        cases H
        exact pr hE10
    · refine lp (fun (x : Int) => f15_s2 p0_ p1_ x) (FSixdotref29_Same_L1_E p0_ p1_) h45 (sh_gc [2,3,5] (by kernel_rfl)) (fun x z => FSixdotref29_Same_L1_ok x z) ?_
      intro e s hE11
      obtain ⟨rfl, hE11⟩ := hE11
      refine qR ?_
      refine qr ?_
      cases H
      exact pr hE11
end
section
variable (p0_ : GSpool) (p1_ : Int)
def f34_s1 : St := ⟨(0, .agg [.d (.sl (List.map eI64 p0_.Tries)), .d (.sl (List.map eB p0_.Done)), .d (.sl (List.map eI64 p0_.Taken)), .d (.int .i64 p0_.Now), .d (.bool p0_.Sealed)]) :: (1, .d (.int .i64 p1_)) :: [], []⟩
variable (i_5 : Int)
def f34_s2 : St := ⟨(1, .d (.int .i64 p1_)) :: (2, .ptr 0 0) :: (5, .d (.int .i64 i_5)) :: [], [some (.box [.d (.sl (List.map eI64 p0_.Tries)), .d (.sl (List.map eB p0_.Done)), .d (.sl (List.map eI64 p0_.Taken)), .d (.int .i64 p0_.Now), .d (.bool p0_.Sealed)])]⟩
def f34_s3  : St := ⟨[], []⟩
def FSixdotref29_taken_L1_E (_ : GSpool) (_ : Int) : (Unit ⊕ Bool) → Ex → St → Prop := fun y => Sum.casesOn y (fun (_ : Unit) e s => e = Ex.exit 0 ∧ Shift s (f34_s3)) (fun (y : Bool) e s => e = Ex.ret ∧ RA ty (Try.f34).results.toList (.d (.bool y)) s)
theorem FSixdotref29_taken_L1_ok {n : Nat} {p0_ : GSpool} {p1_ : Int} (x : Int) (z : (Int ⊕ (Unit ⊕ Bool))) (H : FSixdotref29_taken_L1 n p0_ p1_ x = some z) : WP (cxk 20 []) (bodyOf Try.f34) [1,0,1,0,0] (roundQ (fun (x : Int) => f34_s2 p0_ p1_ x) (FSixdotref29_taken_L1_E p0_ p1_) z) (f34_s2 p0_ p1_ x) := by
  revert H
  generalize x = i_5
  intro H
  dsimp only [FSixdotref29_taken_L1] at H
  refine sq ?_
  refine sr ?_
  refine ck 3 ?_
  refine sp (at_len eI64 p0_.Taken) ?_
  refine ck 1 ?_
  refine en ?_
  refine cn H (fun H => ?_) (fun H => ?_)
  · refine sk ?_
    refine qz ?_
    refine sq ?_
    refine bk 1 ?_
    refine sr ?_
    refine ck 3 ?_
    refine bx H fun x16 h52 H => ?_
    refine sp (at_idxD eI64 h52) ?_
    refine ck 3 ?_
    refine en ?_
    refine cn H (fun H => ?_) (fun H => ?_)
    · refine sr ?_
      refine ck 1 ?_
      refine en ?_
      refine re ?_
      refine qR ?_
      refine qr ?_
      cases H
      exact or ⟨rfl, rd⟩
    · refine sk ?_
      refine qN ?_
      refine qz ?_
      refine rz ?_
      refine ck 3 ?_
      refine ae ?_
      cases H
      exact og (sh_gc [1,2,5] (by kernel_rfl))
  · refine ex 0 ?_
    refine qx ?_
    cases H
    exact oe ⟨rfl, sh_gc [] (by kernel_rfl)⟩
theorem FSixdotref29_taken_ok {n : Nat} {p0_ : GSpool} {p1_ : Int} {z : Bool} (H : FSixdotref29_taken n p0_ p1_ = some z) : CallOK Try.prog 34 [.agg [.d (.sl (List.map eI64 p0_.Tries)), .d (.sl (List.map eB p0_.Done)), .d (.sl (List.map eI64 p0_.Taken)), .d (.int .i64 p0_.Now), .d (.bool p0_.Sealed)], .d (.int .i64 p1_)] (.d (.bool z)) := by
  dsimp only [FSixdotref29_taken] at H
  refine fo (Γ := cxk 20 []) (s := f34_s1 p0_ p1_) follows (cxkOK 20 []) Try.func34 ?_
  refine sr ?_
  refine ck 2 ?_
  refine en ?_
  refine sq ?_
  refine sr ?_
  refine ck 1 ?_
  refine en ?_
  refine bk 0 ?_
  refine bx H fun y17 h53 H => ?_
  rcases y17 with y18 | y19
  · refine lp (fun (x : Int) => f34_s2 p0_ p1_ x) (FSixdotref29_taken_L1_E p0_ p1_) h53 (sh_gc [1,2,5] (by kernel_rfl)) (fun x z => FSixdotref29_taken_L1_ok x z) ?_
    intro e s hE12
    obtain ⟨rfl, hE12⟩ := hE12
    refine qH ?_
    refine qs (hE12) ?_
    refine sr ?_
    refine ck 1 ?_
    refine en ?_
    refine re ?_
    injection H with H
    subst H
    exact pr (rd)
  · refine lp (fun (x : Int) => f34_s2 p0_ p1_ x) (FSixdotref29_taken_L1_E p0_ p1_) h53 (sh_gc [1,2,5] (by kernel_rfl)) (fun x z => FSixdotref29_taken_L1_ok x z) ?_
    intro e s hE13
    obtain ⟨rfl, hE13⟩ := hE13
    refine qR ?_
    refine qr ?_
    cases H
    exact pr hE13
end
section
variable (p0_ : GSpool)
def f25_s1 : St := ⟨(0, .agg [.d (.sl (List.map eI64 p0_.Tries)), .d (.sl (List.map eB p0_.Done)), .d (.sl (List.map eI64 p0_.Taken)), .d (.int .i64 p0_.Now), .d (.bool p0_.Sealed)]) :: [], []⟩
variable (i_6 : Int)
def f25_s2 : St := ⟨(1, .ptr 0 0) :: (3, .d (.int .i64 i_6)) :: [], [some (.box [.d (.sl (List.map eI64 p0_.Tries)), .d (.sl (List.map eB p0_.Done)), .d (.sl (List.map eI64 p0_.Taken)), .d (.int .i64 p0_.Now), .d (.bool p0_.Sealed)])]⟩
def f25_s3  : St := ⟨[], []⟩
def FSixdotref29_All_L1_E (_ : GSpool) : (Unit ⊕ Bool) → Ex → St → Prop := fun y => Sum.casesOn y (fun (_ : Unit) e s => e = Ex.exit 0 ∧ Shift s (f25_s3)) (fun (y : Bool) e s => e = Ex.ret ∧ RA ty (Try.f25).results.toList (.d (.bool y)) s)
theorem FSixdotref29_All_L1_ok {n : Nat} {p0_ : GSpool} (x : Int) (z : (Int ⊕ (Unit ⊕ Bool))) (H : FSixdotref29_All_L1 n p0_ x = some z) : WP (cxk 17 []) (bodyOf Try.f25) [1,0,1,0,0] (roundQ (fun (x : Int) => f25_s2 p0_ x) (FSixdotref29_All_L1_E p0_) z) (f25_s2 p0_ x) := by
  revert H
  generalize x = i_6
  intro H
  dsimp only [FSixdotref29_All_L1] at H
  refine sq ?_
  refine sr ?_
  refine ck 3 ?_
  refine sp (at_len eB p0_.Done) ?_
  refine ck 1 ?_
  refine en ?_
  refine cn H (fun H => ?_) (fun H => ?_)
  · refine sk ?_
    refine qz ?_
    refine sq ?_
    refine bk 1 ?_
    refine sr ?_
    refine ck 3 ?_
    refine bx H fun x17 h54 H => ?_
    refine sp (at_idxD eB h54) ?_
    refine ck 2 ?_
    refine en ?_
    refine cn H (fun H => ?_) (fun H => ?_)
    · refine sr ?_
      refine ck 1 ?_
      refine en ?_
      refine re ?_
      refine qR ?_
      refine qr ?_
      cases H
      exact or ⟨rfl, rd⟩
    · refine sk ?_
      refine qN ?_
      refine qz ?_
      refine rz ?_
      refine ck 3 ?_
      refine ae ?_
      cases H
      exact og (sh_gc [1,3] (by kernel_rfl))
  · refine ex 0 ?_
    refine qx ?_
    cases H
    exact oe ⟨rfl, sh_gc [] (by kernel_rfl)⟩
theorem FSixdotref29_All_ok {n : Nat} {p0_ : GSpool} {z : Bool} (H : FSixdotref29_All n p0_ = some z) : CallOK Try.prog 25 [.agg [.d (.sl (List.map eI64 p0_.Tries)), .d (.sl (List.map eB p0_.Done)), .d (.sl (List.map eI64 p0_.Taken)), .d (.int .i64 p0_.Now), .d (.bool p0_.Sealed)]] (.d (.bool z)) := by
  dsimp only [FSixdotref29_All] at H
  refine fo (Γ := cxk 17 []) (s := f25_s1 p0_) follows (cxkOK 17 []) Try.func25 ?_
  refine sr ?_
  refine ck 2 ?_
  refine en ?_
  refine sq ?_
  refine sr ?_
  refine ck 1 ?_
  refine en ?_
  refine bk 0 ?_
  refine bx H fun y20 h55 H => ?_
  rcases y20 with y21 | y22
  · refine lp (fun (x : Int) => f25_s2 p0_ x) (FSixdotref29_All_L1_E p0_) h55 (sh_gc [1,3] (by kernel_rfl)) (fun x z => FSixdotref29_All_L1_ok x z) ?_
    intro e s hE14
    obtain ⟨rfl, hE14⟩ := hE14
    refine qH ?_
    refine qs (hE14) ?_
    refine sr ?_
    refine ck 1 ?_
    refine en ?_
    refine re ?_
    injection H with H
    subst H
    exact pr (rd)
  · refine lp (fun (x : Int) => f25_s2 p0_ x) (FSixdotref29_All_L1_E p0_) h55 (sh_gc [1,3] (by kernel_rfl)) (fun x z => FSixdotref29_All_L1_ok x z) ?_
    intro e s hE15
    obtain ⟨rfl, hE15⟩ := hE15
    refine qR ?_
    refine qr ?_
    cases H
    exact pr hE15
end
section
variable (p0_ : GSpool) (p1_ : GRecord)
def f36_s1 : St := ⟨(0, .agg [.d (.sl (List.map eI64 p0_.Tries)), .d (.sl (List.map eB p0_.Done)), .d (.sl (List.map eI64 p0_.Taken)), .d (.int .i64 p0_.Now), .d (.bool p0_.Sealed)]) :: (1, .agg [.d (.int .i64 p1_.Kind), .d (.int .i64 p1_.A), .d (.int .i64 p1_.B)]) :: [], []⟩
variable (x_3 : Bool)
def f36_s2 : St := ⟨(2, .ptr 0 0) :: (3, .ptr 1 0) :: (5, .d (.bool ((decide (p1_.A ≥ 0)) && (decide (p1_.A < ((List.length p0_.Done : Nat) : Int)))))) :: (20, .d (.int .i64 p1_.Kind)) :: (50, .d (.bool x_3)) :: [], [some (.box [.d (.sl (List.map eI64 p0_.Tries)), .d (.sl (List.map eB p0_.Done)), .d (.sl (List.map eI64 p0_.Taken)), .d (.int .i64 p0_.Now), .d (.bool p0_.Sealed)]), some (.box [.d (.int .i64 p1_.Kind), .d (.int .i64 p1_.A), .d (.int .i64 p1_.B)])]⟩
theorem FSixdotref29_Applies_ok {n : Nat} {p0_ : GSpool} {p1_ : GRecord} {z : Bool} (H : FSixdotref29_Applies n p0_ p1_ = some z) : CallOK Try.prog 36 [.agg [.d (.sl (List.map eI64 p0_.Tries)), .d (.sl (List.map eB p0_.Done)), .d (.sl (List.map eI64 p0_.Taken)), .d (.int .i64 p0_.Now), .d (.bool p0_.Sealed)], .agg [.d (.int .i64 p1_.Kind), .d (.int .i64 p1_.A), .d (.int .i64 p1_.B)]] (.d (.bool z)) := by
  dsimp only [FSixdotref29_Applies] at H
  refine fo (Γ := cxk 120 []) (s := f36_s1 p0_ p1_) follows (cxkOK 120 []) Try.func36 ?_
  refine sr ?_
  refine ck 3 ?_
  refine en ?_
  refine sr ?_
  refine ck 5 ?_
  refine gc 1 (decide (p1_.A ≥ 0)) ?_
  refine ck 1 ?_
  refine gc 1 (decide (p1_.A ≥ 0)) ?_
  refine sG (g := decide (p1_.A ≥ 0)) (fun hg => at_len eB p0_.Done) (impK (fun hh => hh) (impZ)) ?_
  refine gc 1 (decide (p1_.A ≥ 0)) ?_
  refine pA ?_
  refine ck 1 ?_
  refine en ?_
  refine sq ?_
  refine sr ?_
  refine ck 2 ?_
  refine en ?_
  refine cn H (fun H => ?_) (fun H => ?_)
  · refine sr ?_
    refine ck 1 ?_
    refine en ?_
    refine re ?_
    refine qr ?_
    injection H with H
    subst H
    exact pr (rd)
  · refine sk ?_
    refine qz ?_
    refine sq ?_
    refine sr ?_
    refine ck 2 ?_
    refine en ?_
    refine bk 0 ?_
    refine sr ?_
    refine ck 2 ?_
    refine en ?_
    refine cn H (fun H => ?_) (fun H => ?_)
    · refine sr ?_
      refine ck 5 ?_
      refine pA ?_
      refine ck 2 ?_
      refine gc 1 ((p0_.Now == (-1)) && ((decide (p1_.A ≥ 0)) && (decide (p1_.A < ((List.length p0_.Done : Nat) : Int))))) ?_
      refine ck 1 ?_
      refine gc 1 ((p0_.Now == (-1)) && ((decide (p1_.A ≥ 0)) && (decide (p1_.A < ((List.length p0_.Done : Nat) : Int))))) ?_
      refine bx H fun x18 h56 H => ?_
      refine sG (fun hg => at_idxD eB (gimp h56 hg)) (impK (fun hh => hh) (impK (fun hh => hh) (impZ))) ?_
      refine gc 2 ((p0_.Now == (-1)) && ((decide (p1_.A ≥ 0)) && (decide (p1_.A < ((List.length p0_.Done : Nat) : Int))))) ?_
      refine pA ?_
      refine ck 2 ?_
      refine gc 1 (((p0_.Now == (-1)) && ((decide (p1_.A ≥ 0)) && (decide (p1_.A < ((List.length p0_.Done : Nat) : Int))))) && (!x18)) ?_
      refine ck 1 ?_
      refine gc 1 (((p0_.Now == (-1)) && ((decide (p1_.A ≥ 0)) && (decide (p1_.A < ((List.length p0_.Done : Nat) : Int))))) && (!x18)) ?_
      refine ck 1 ?_
      refine gc 1 (((p0_.Now == (-1)) && ((decide (p1_.A ≥ 0)) && (decide (p1_.A < ((List.length p0_.Done : Nat) : Int))))) && (!x18)) ?_
      refine bx H fun x19 h57 H => ?_
      refine sG (fun hg => at_idxD eI64 (gimp h57 hg)) (impK (fun hh => hh) (impK (fun hh => hh) (impZ))) ?_
      refine gc 3 (((p0_.Now == (-1)) && ((decide (p1_.A ≥ 0)) && (decide (p1_.A < ((List.length p0_.Done : Nat) : Int))))) && (!x18)) ?_
      refine pA ?_
      refine ck 1 ?_
      refine en ?_
      refine re ?_
      refine qR ?_
      refine qr ?_
      injection H with H
      subst H
      exact pr (rd)
    · refine sj (fun (x : Bool) => f36_s2 p0_ p1_ x) (fun (x : Bool) => FSixdotref29_Applies_J1 n p0_ p1_ x) z ?_ (fun hFSixdotref29_Applies_J1 => ?_)
      · intro x_3 H
        dsimp only [FSixdotref29_Applies_J1] at H
        refine cn H (fun H => ?_) (fun H => ?_)
        · refine sr ?_
          refine ck 3 ?_
          refine gc 1 ((decide (p1_.A ≥ 0)) && (decide (p1_.A < ((List.length p0_.Done : Nat) : Int)))) ?_
          refine ck 1 ?_
          refine gc 2 ((decide (p1_.A ≥ 0)) && (decide (p1_.A < ((List.length p0_.Done : Nat) : Int)))) ?_
          refine pA ?_
          refine ck 2 ?_
          refine gc 1 (((decide (p1_.A ≥ 0)) && (decide (p1_.A < ((List.length p0_.Done : Nat) : Int)))) && (p0_.Now == p1_.A)) ?_
          refine ck 1 ?_
          refine gc 1 (((decide (p1_.A ≥ 0)) && (decide (p1_.A < ((List.length p0_.Done : Nat) : Int)))) && (p0_.Now == p1_.A)) ?_
          refine ck 1 ?_
          refine gc 1 (((decide (p1_.A ≥ 0)) && (decide (p1_.A < ((List.length p0_.Done : Nat) : Int)))) && (p0_.Now == p1_.A)) ?_
          refine bx H fun x20 h58 H => ?_
          refine sG (fun hg => at_idxD eI64 (gimp h58 hg)) (impK (fun hh => hh) (impK (fun hh => hh) (impZ))) ?_
          refine gc 2 (((decide (p1_.A ≥ 0)) && (decide (p1_.A < ((List.length p0_.Done : Nat) : Int)))) && (p0_.Now == p1_.A)) ?_
          refine pA ?_
          refine ck 1 ?_
          refine en ?_
          refine re ?_
          refine qR ?_
          refine qr ?_
          injection H with H
          subst H
          exact pr (rd)
        · refine sr ?_
          refine ck 2 ?_
          refine en ?_
          refine cn H (fun H => ?_) (fun H => ?_)
          · refine sr ?_
            refine ck 5 ?_
            refine pA ?_
            refine ck 2 ?_
            refine gc 1 ((p0_.Now == (-1)) && ((decide (p1_.A ≥ 0)) && (decide (p1_.A < ((List.length p0_.Done : Nat) : Int))))) ?_
            refine ck 1 ?_
            refine gc 1 ((p0_.Now == (-1)) && ((decide (p1_.A ≥ 0)) && (decide (p1_.A < ((List.length p0_.Done : Nat) : Int))))) ?_
            refine bx H fun x21 h59 H => ?_
            refine sG (fun hg => at_idxD eB (gimp h59 hg)) (impK (fun hh => hh) (impK (fun hh => hh) (impZ))) ?_
            refine gc 2 ((p0_.Now == (-1)) && ((decide (p1_.A ≥ 0)) && (decide (p1_.A < ((List.length p0_.Done : Nat) : Int))))) ?_
            refine pA ?_
            refine ck 2 ?_
            refine gc 2 (((p0_.Now == (-1)) && ((decide (p1_.A ≥ 0)) && (decide (p1_.A < ((List.length p0_.Done : Nat) : Int))))) && (!x21)) ?_
            refine pA ?_
            refine ck 3 ?_
            refine gc 1 ((((p0_.Now == (-1)) && ((decide (p1_.A ≥ 0)) && (decide (p1_.A < ((List.length p0_.Done : Nat) : Int))))) && (!x21)) && (decide (p1_.B ≥ 0))) ?_
            refine bx H fun r18 h60 H => ?_
            refine cG false (leZ) rfl (fun hg => FSixdotref29_taken_ok (gimp h60 hg)) (Or.inl rfl) (impK (fun hh => hh) (impK (fun hh => hh) (impZ))) rfl ?_
            refine gc 1 ((((p0_.Now == (-1)) && ((decide (p1_.A ≥ 0)) && (decide (p1_.A < ((List.length p0_.Done : Nat) : Int))))) && (!x21)) && (decide (p1_.B ≥ 0))) ?_
            refine pA ?_
            refine ck 1 ?_
            refine en ?_
            refine re ?_
            refine qR ?_
            refine qr ?_
            injection H with H
            subst H
            exact pr (rd)
          · refine sr ?_
            refine ck 2 ?_
            refine en ?_
            refine cn H (fun H => ?_) (fun H => ?_)
            · refine sr ?_
              refine ck 5 ?_
              refine bx H fun r19 h61 H => ?_
              refine cG false (leZ) rfl (fun hg => FSixdotref29_All_ok (gimp h61 hg)) (Or.inl rfl) (impK (fun hh => hh) (impZ)) rfl ?_
              refine pA ?_
              refine ck 2 ?_
              refine gc 2 ((p0_.Now == (-1)) && r19) ?_
              refine pA ?_
              refine ck 2 ?_
              refine gc 2 (((p0_.Now == (-1)) && r19) && (p1_.A == 0)) ?_
              refine pA ?_
              refine ck 1 ?_
              refine en ?_
              refine re ?_
              refine qR ?_
              refine qr ?_
              injection H with H
              subst H
              exact pr (rd)
            · refine sk ?_
              refine qN ?_
              refine qz ?_
              refine sr ?_
              refine ck 1 ?_
              refine en ?_
              refine re ?_
              injection H with H
              subst H
              exact pr (rd)
      refine sr ?_
      refine ck 2 ?_
      refine en ?_
      refine cn H (fun H => ?_) (fun H => ?_)
      · refine sk ?_
        exact qs (sh_gc [2,3,5,20,50] (by kernel_rfl)) (hFSixdotref29_Applies_J1 (p1_.Kind == 2) H)
      · refine rz ?_
        refine ck 2 ?_
        refine ae ?_
        exact qs (sh_gc [2,3,5,20,50] (by kernel_rfl)) (hFSixdotref29_Applies_J1 (p1_.Kind == 3) H)
end
section
variable (p0_ : GSpool)
def f28_s1 : St := ⟨(0, .agg [.d (.sl (List.map eI64 p0_.Tries)), .d (.sl (List.map eB p0_.Done)), .d (.sl (List.map eI64 p0_.Taken)), .d (.int .i64 p0_.Now), .d (.bool p0_.Sealed)]) :: [], []⟩
theorem FSixdotref29_Copied_ok {n : Nat} {p0_ : GSpool} {z : GSpool} (H : FSixdotref29_Copied n p0_ = some z) : CallOK Try.prog 28 [.agg [.d (.sl (List.map eI64 p0_.Tries)), .d (.sl (List.map eB p0_.Done)), .d (.sl (List.map eI64 p0_.Taken)), .d (.int .i64 p0_.Now), .d (.bool p0_.Sealed)]] (.agg [.own 1 (List.map eI64 z.Tries), .own 1 (List.map eB z.Done), .own 1 (List.map eI64 z.Taken), .d (.int .i64 z.Now), .d (.bool z.Sealed)]) := by
  dsimp only [FSixdotref29_Copied] at H
  refine fo (Γ := cxk 19 []) (s := f28_s1 p0_) follows (cxkOK 19 []) Try.func28 ?_
  refine sr ?_
  refine ck 2 ?_
  refine en ?_
  refine sr ?_
  refine ck 3 ?_
  refine bx H fun l14 h62 H => ?_
  refine sp (at_app eI64 2 1 h62) ?_
  refine ck 2 ?_
  refine en ?_
  refine sr ?_
  refine ck 3 ?_
  refine bx H fun l15 h63 H => ?_
  refine sp (at_app eB 4 1 h63) ?_
  refine ck 2 ?_
  refine en ?_
  refine sr ?_
  refine ck 3 ?_
  refine bx H fun l16 h64 H => ?_
  refine sp (at_app eI64 6 1 h64) ?_
  refine ck 2 ?_
  refine en ?_
  refine sr ?_
  refine ck 2 ?_
  refine en ?_
  refine re ?_
  injection H with H
  subst H
  exact pr (rO (v := .agg [.osl 3 1 0 (List.length l14), .osl 5 1 0 (List.length l15), .osl 7 1 0 (List.length l16), .d (.int .i64 p0_.Now), .d (.bool p0_.Sealed)]) [3,5,7] (a1 (c1 vo (c1 vo (c1 vo (c1 vd (c1 vd (c0))))))))
end
section
variable (p0_ : GSpool) (p1_ : GRecord)
def f23_s1 : St := ⟨(0, .agg [.d (.sl (List.map eI64 p0_.Tries)), .d (.sl (List.map eB p0_.Done)), .d (.sl (List.map eI64 p0_.Taken)), .d (.int .i64 p0_.Now), .d (.bool p0_.Sealed)]) :: (1, .agg [.d (.int .i64 p1_.Kind), .d (.int .i64 p1_.A), .d (.int .i64 p1_.B)]) :: [], []⟩
variable (s_7 : Int) (s_8 : Bool) (s_9 : (List Int)) (s_10 : (List Bool)) (s_11 : (List Int))
def f23_s2 : St := ⟨(2, .ptr 0 0) :: (4, .ptr 1 0) :: [], [some (.box [.osl 2 1 0 (List.length s_9), .osl 3 1 0 (List.length s_10), .osl 4 1 0 (List.length s_11), .d (.int .i64 s_7), .d (.bool s_8)]), some (.box [.osl 5 1 0 (List.length ([] : List Int)), .osl 6 1 0 (List.length ([] : List Bool)), .osl 7 1 0 (List.length ([] : List Int)), .d (.int .i64 0), .d (.bool false)]), some (.arr 1 (List.map eI64 s_9)), some (.arr 1 (List.map eB s_10)), some (.arr 1 (List.map eI64 s_11)), some (.arr 1 (List.map eI64 ([] : List Int))), some (.arr 1 (List.map eB ([] : List Bool))), some (.arr 1 (List.map eI64 ([] : List Int)))]⟩
theorem FSixdotref29_Step_ok {n : Nat} {p0_ : GSpool} {p1_ : GRecord} {z : (GSpool × Int)} (H : FSixdotref29_Step n p0_ p1_ = some z) : CallOK Try.prog 23 [.agg [.d (.sl (List.map eI64 p0_.Tries)), .d (.sl (List.map eB p0_.Done)), .d (.sl (List.map eI64 p0_.Taken)), .d (.int .i64 p0_.Now), .d (.bool p0_.Sealed)], .agg [.d (.int .i64 p1_.Kind), .d (.int .i64 p1_.A), .d (.int .i64 p1_.B)]] (.tup [.agg [.own 1 (List.map eI64 z.1.Tries), .own 1 (List.map eB z.1.Done), .own 1 (List.map eI64 z.1.Taken), .d (.int .i64 z.1.Now), .d (.bool z.1.Sealed)], .d (.int .i64 z.2)]) := by
  dsimp only [FSixdotref29_Step] at H
  refine fo (Γ := cxk 56 []) (s := f23_s1 p0_ p1_) follows (cxkOK 56 []) Try.func23 ?_
  refine sr ?_
  refine ck 4 ?_
  refine en ?_
  refine sq ?_
  refine sr ?_
  refine ck 2 ?_
  refine bx H fun r20 h65 H => ?_
  refine ca false (FSixdotref29_Applies_ok h65) ?_
  refine ck 1 ?_
  refine en ?_
  refine cn H (fun H => ?_) (fun H => ?_)
  · refine sr ?_
    refine ck 3 ?_
    refine en ?_
    refine re ?_
    refine qr ?_
    injection H with H
    subst H
    exact pr (rT (vs := [.agg [.d (.nil), .d (.nil), .d (.nil), .d (.int .i64 0), .d (.bool false)], .d (.int .i64 290)]) [] (t1 (a1 (c1 vz (c1 vz (c1 vz (c1 vd (c1 vd (c0))))))) (t1 (ad vd) (t0))))
  · refine sk ?_
    refine qz ?_
    refine sr ?_
    refine ck 1 ?_
    refine bx H fun r21 h66 H => ?_
    refine cl [List.length r21.Tries, List.length r21.Done, List.length r21.Taken] (FSixdotref29_Copied_ok h66) ?_
    refine ck 1 ?_
    refine en ?_
    refine sj (fun (x : (Int × Bool × (List Int) × (List Bool) × (List Int))) => f23_s2 x.1 x.2.1 x.2.2.1 x.2.2.2.1 x.2.2.2.2) (fun (x : (Int × Bool × (List Int) × (List Bool) × (List Int))) => FSixdotref29_Step_J1 n x.1 x.2.1 x.2.2.1 x.2.2.2.1 x.2.2.2.2) z ?_ (fun hFSixdotref29_Step_J1 => ?_)
    · rintro ⟨s_7, s_8, s_9, s_10, s_11⟩ H
      dsimp only [FSixdotref29_Step_J1] at H
      refine sr ?_
      refine ck 3 ?_
      refine en ?_
      refine re ?_
      injection H with H
      subst H
      exact pr (rT (vs := [.agg [.osl 2 1 0 (List.length s_9), .osl 3 1 0 (List.length s_10), .osl 4 1 0 (List.length s_11), .d (.int .i64 s_7), .d (.bool s_8)], .d (.int .i64 0)]) [2,3,4] (t1 (a1 (c1 vo (c1 vo (c1 vo (c1 vd (c1 vd (c0))))))) (t1 (ad vd) (t0))))
    refine sr ?_
    refine ck 2 ?_
    refine en ?_
    refine bk 0 ?_
    refine sr ?_
    refine ck 2 ?_
    refine en ?_
    refine cn H (fun H => ?_) (fun H => ?_)
    · refine rz ?_
      refine ck 8 ?_
      refine bx H fun x22 h67 H => ?_
      refine sp (at_idxO 3 1 h67) ?_
      refine bx H fun l17 h68 H => ?_
      refine stA eI64 3 0 (ty 3) h67 h68 ?_
      refine ck 2 ?_
      refine ae ?_
      refine qN ?_
      exact qs (Shift.trans (Shift.trans (Shift.trans (Shift.trans (sh_subc (k := 3) (sz := 1) 0 0 (List.map eI64 l17) (List.length l17) (by kernel_rfl) (cut_put (put_len h68)) (le_put (enc := eI64) (put_len h68)) ((put_len h68))) (sh_nilc 2 0 1 (by kernel_rfl))) (sh_nilc 2 1 1 (by kernel_rfl))) (sh_nilc 2 2 1 (by kernel_rfl))) (sh_gc [2,4] (by kernel_rfl))) (hFSixdotref29_Step_J1 (p1_.A, r21.Sealed, l17, r21.Done, r21.Taken) H)
    · refine sr ?_
      refine ck 2 ?_
      refine en ?_
      refine cn H (fun H => ?_) (fun H => ?_)
      · refine rz ?_
        refine ck 4 ?_
        refine bx H fun x23 h69 H => ?_
        refine sp (at_idxO 4 1 h69) ?_
        refine bx H fun l18 h70 H => ?_
        refine stA eB 4 0 (ty 4) h69 h70 ?_
        refine ck 2 ?_
        refine ae ?_
        refine qN ?_
        exact qs (Shift.trans (Shift.trans (Shift.trans (Shift.trans (sh_subc (k := 4) (sz := 1) 0 1 (List.map eB l18) (List.length l18) (by kernel_rfl) (cut_put (put_len h70)) (le_put (enc := eB) (put_len h70)) ((put_len h70))) (sh_nilc 2 0 1 (by kernel_rfl))) (sh_nilc 2 1 1 (by kernel_rfl))) (sh_nilc 2 2 1 (by kernel_rfl))) (sh_gc [2,4] (by kernel_rfl))) (hFSixdotref29_Step_J1 ((-1), r21.Sealed, r21.Tries, l18, r21.Taken) H)
      · refine sr ?_
        refine ck 2 ?_
        refine en ?_
        refine cn H (fun H => ?_) (fun H => ?_)
        · refine rz ?_
          refine ck 2 ?_
          refine ae ?_
          refine qN ?_
          exact qs (Shift.trans (Shift.trans (Shift.trans (sh_nilc 2 0 1 (by kernel_rfl)) (sh_nilc 2 1 1 (by kernel_rfl))) (sh_nilc 2 2 1 (by kernel_rfl))) (sh_gc [2,4] (by kernel_rfl))) (hFSixdotref29_Step_J1 ((-1), r21.Sealed, r21.Tries, r21.Done, r21.Taken) H)
        · refine sr ?_
          refine ck 2 ?_
          refine en ?_
          refine cn H (fun H => ?_) (fun H => ?_)
          · refine rz ?_
            refine ck 10 ?_
            refine bx H fun x24 h71 H => ?_
            refine sp (at_idxO 4 1 h71) ?_
            refine bx H fun l19 h72 H => ?_
            refine stA eB 4 0 (ty 4) h71 h72 ?_
            refine bx H fun x25 h73 H => ?_
            refine sp (at_idxO 5 1 h73) ?_
            refine bx H fun l20 h74 H => ?_
            refine stA eI64 5 0 (ty 3) h73 h74 ?_
            refine ae ?_
            refine qN ?_
            exact qs (Shift.trans (Shift.trans (Shift.trans (Shift.trans (Shift.trans (sh_subc (k := 4) (sz := 1) 0 1 (List.map eB l19) (List.length l19) (by kernel_rfl) (cut_put (put_len h72)) (le_put (enc := eB) (put_len h72)) ((put_len h72))) (sh_subc (k := 5) (sz := 1) 0 2 (List.map eI64 l20) (List.length l20) (by kernel_rfl) (cut_put (put_len h74)) (le_put (enc := eI64) (put_len h74)) ((put_len h74)))) (sh_nilc 2 0 1 (by kernel_rfl))) (sh_nilc 2 1 1 (by kernel_rfl))) (sh_nilc 2 2 1 (by kernel_rfl))) (sh_gc [2,4] (by kernel_rfl))) (hFSixdotref29_Step_J1 (r21.Now, r21.Sealed, r21.Tries, l19, l20) H)
          · refine sr ?_
            refine ck 2 ?_
            refine en ?_
            refine cn H (fun H => ?_) (fun H => ?_)
            · refine rz ?_
              refine ck 2 ?_
              refine ae ?_
              refine qN ?_
              exact qs (Shift.trans (Shift.trans (Shift.trans (sh_nilc 2 0 1 (by kernel_rfl)) (sh_nilc 2 1 1 (by kernel_rfl))) (sh_nilc 2 2 1 (by kernel_rfl))) (sh_gc [2,4] (by kernel_rfl))) (hFSixdotref29_Step_J1 (r21.Now, true, r21.Tries, r21.Done, r21.Taken) H)
            · refine sk ?_
              refine qN ?_
              exact qs (Shift.trans (Shift.trans (Shift.trans (sh_nilc 2 0 1 (by kernel_rfl)) (sh_nilc 2 1 1 (by kernel_rfl))) (sh_nilc 2 2 1 (by kernel_rfl))) (sh_gc [2,4] (by kernel_rfl))) (hFSixdotref29_Step_J1 (r21.Now, r21.Sealed, r21.Tries, r21.Done, r21.Taken) H)
end
section
variable (p0_ : Int) (p1_ : (List GRecord))
def f14_s1 : St := ⟨(0, .d (.int .i64 p0_)) :: (1, .d (.sl (List.map eGRecord p1_))) :: [], []⟩
variable (s_12 : GSpool) (i_7 : Int)
def f14_s2 : St := ⟨(1, .d (.sl (List.map eGRecord p1_))) :: (4, .ptr 0 0) :: (6, .ptr 1 0) :: (7, .d (.int .i64 i_7)) :: [], [some (.box [.osl 2 1 0 (List.length ([] : List Int)), .osl 3 1 0 (List.length ([] : List Bool)), .osl 4 1 0 (List.length ([] : List Int)), .d (.int .i64 0), .d (.bool false)]), some (.box [.d (.sl (List.map eI64 s_12.Tries)), .d (.sl (List.map eB s_12.Done)), .d (.sl (List.map eI64 s_12.Taken)), .d (.int .i64 s_12.Now), .d (.bool s_12.Sealed)]), some (.arr 1 (List.map eI64 ([] : List Int))), some (.arr 1 (List.map eB ([] : List Bool))), some (.arr 1 (List.map eI64 ([] : List Int)))]⟩
variable (s_13 : GSpool)
def f14_s3 : St := ⟨(1, .d (.sl (List.map eGRecord p1_))) :: (4, .ptr 0 0) :: (6, .ptr 1 0) :: [], [some (.box [.osl 2 1 0 (List.length ([] : List Int)), .osl 3 1 0 (List.length ([] : List Bool)), .osl 4 1 0 (List.length ([] : List Int)), .d (.int .i64 0), .d (.bool false)]), some (.box [.d (.sl (List.map eI64 s_13.Tries)), .d (.sl (List.map eB s_13.Done)), .d (.sl (List.map eI64 s_13.Taken)), .d (.int .i64 s_13.Now), .d (.bool s_13.Sealed)]), some (.arr 1 (List.map eI64 ([] : List Int))), some (.arr 1 (List.map eB ([] : List Bool))), some (.arr 1 (List.map eI64 ([] : List Int)))]⟩
def FSixdotref29_Replay_L1_E (p1_ : (List GRecord)) : (GSpool ⊕ (GSpool × Int)) → Ex → St → Prop := fun y => Sum.casesOn y (fun (y : GSpool) e s => e = Ex.exit 0 ∧ Shift s (f14_s3 p1_ y)) (fun (y : (GSpool × Int)) e s => e = Ex.ret ∧ RA ty (Try.f14).results.toList (.tup [.agg [.d (.sl (List.map eI64 y.1.Tries)), .d (.sl (List.map eB y.1.Done)), .d (.sl (List.map eI64 y.1.Taken)), .d (.int .i64 y.1.Now), .d (.bool y.1.Sealed)], .d (.int .i64 y.2)]) s)
theorem FSixdotref29_Replay_L1_ok {n : Nat} {p1_ : (List GRecord)} (x : (GSpool × Int)) (z : ((GSpool × Int) ⊕ (GSpool ⊕ (GSpool × Int)))) (H : FSixdotref29_Replay_L1 n p1_ x.1 x.2 = some z) : WP (cxk 35 []) (bodyOf Try.f14) [1,1,0,1,0,0] (roundQ (fun (x : (GSpool × Int)) => f14_s2 p1_ x.1 x.2) (FSixdotref29_Replay_L1_E p1_) z) (f14_s2 p1_ x.1 x.2) := by
  obtain ⟨s_12, i_7⟩ := x
  dsimp only [FSixdotref29_Replay_L1] at H
  refine sq ?_
  refine sr ?_
  refine ck 2 ?_
  refine sp (at_len eGRecord p1_) ?_
  refine ck 1 ?_
  refine en ?_
  refine cn H (fun H => ?_) (fun H => ?_)
  · refine sk ?_
    refine qz ?_
    refine sq ?_
    refine bk 1 ?_
    refine sr ?_
    refine ck 3 ?_
    refine bx H fun x26 h76 H => ?_
    refine sp (at_idxD eGRecord h76) ?_
    refine ck 1 ?_
    refine bx H fun r23 h77 H => ?_
    refine ca false (FSixdotref29_Step_ok h77) ?_
    refine ck 6 ?_
    refine en ?_
    refine sq ?_
    refine sr ?_
    refine ck 2 ?_
    refine en ?_
    refine cn H (fun H => ?_) (fun H => ?_)
    · refine sr ?_
      refine ck 4 ?_
      refine en ?_
      refine re ?_
      refine qr ?_
      refine qR ?_
      refine qr ?_
      cases H
      exact or ⟨rfl, rdT⟩
    · refine sk ?_
      refine qz ?_
      refine rz ?_
      refine ck 2 ?_
      refine ae ?_
      refine qN ?_
      refine qz ?_
      refine rz ?_
      refine ck 3 ?_
      refine ae ?_
      cases H
      exact og (sh_gc [1,4,6,7] (by kernel_rfl))
  · refine ex 0 ?_
    refine qx ?_
    cases H
    exact oe ⟨rfl, sh_gc [1,4,6] (by kernel_rfl)⟩
theorem FSixdotref29_Replay_ok {n : Nat} {p0_ : Int} {p1_ : (List GRecord)} {z : (GSpool × Int)} (H : FSixdotref29_Replay n p0_ p1_ = some z) : CallOK Try.prog 14 [.d (.int .i64 p0_), .d (.sl (List.map eGRecord p1_))] (.tup [.agg [.d (.sl (List.map eI64 z.1.Tries)), .d (.sl (List.map eB z.1.Done)), .d (.sl (List.map eI64 z.1.Taken)), .d (.int .i64 z.1.Now), .d (.bool z.1.Sealed)], .d (.int .i64 z.2)]) := by
  dsimp only [FSixdotref29_Replay] at H
  refine fo (Γ := cxk 35 []) (s := f14_s1 p0_ p1_) follows (cxkOK 35 []) Try.func14 ?_
  refine sr ?_
  refine ck 2 ?_
  refine en ?_
  refine sr ?_
  refine ck 1 ?_
  refine bx H fun r22 h75 H => ?_
  refine ca false (FSixdotref29_New_ok h75) ?_
  refine ck 2 ?_
  refine en ?_
  refine sq ?_
  refine sr ?_
  refine ck 1 ?_
  refine en ?_
  refine bk 0 ?_
  refine bx H fun y23 h78 H => ?_
  rcases y23 with y24 | y25
  · refine lp (fun (x : (GSpool × Int)) => f14_s2 p1_ x.1 x.2) (FSixdotref29_Replay_L1_E p1_) h78 (Shift.trans (Shift.trans (Shift.trans (sh_nilc 0 0 1 (by kernel_rfl)) (sh_nilc 0 1 1 (by kernel_rfl))) (sh_nilc 0 2 1 (by kernel_rfl))) (sh_gc [1,4,6,7] (by kernel_rfl))) (fun x z => FSixdotref29_Replay_L1_ok x z) ?_
    intro e s hE16
    obtain ⟨rfl, hE16⟩ := hE16
    refine qH ?_
    refine qs (hE16) ?_
    refine sr ?_
    refine ck 2 ?_
    refine sp (at_len eGRecord p1_) ?_
    refine ck 2 ?_
    refine en ?_
    refine re ?_
    injection H with H
    subst H
    exact pr (rdT)
  · refine lp (fun (x : (GSpool × Int)) => f14_s2 p1_ x.1 x.2) (FSixdotref29_Replay_L1_E p1_) h78 (Shift.trans (Shift.trans (Shift.trans (sh_nilc 0 0 1 (by kernel_rfl)) (sh_nilc 0 1 1 (by kernel_rfl))) (sh_nilc 0 2 1 (by kernel_rfl))) (sh_gc [1,4,6,7] (by kernel_rfl))) (fun x z => FSixdotref29_Replay_L1_ok x z) ?_
    intro e s hE17
    obtain ⟨rfl, hE17⟩ := hE17
    refine qR ?_
    refine qr ?_
    cases H
    exact pr hE17
end
section
variable (p0_ : Int)
def f16_s1 : St := ⟨(0, .d (.int .i64 p0_)) :: [], []⟩
variable (l21 : (List Int)) (l22 : (List Bool)) (l23 : (List Int)) (s_14 : (List Int)) (x_4 : Int)
def f16_s2 : St := ⟨(2, .ptr 0 0) :: (3, .ptr 1 0) :: (16, .d (.int .i64 ((List.length l23 : Nat) : Int))) :: (17, .d (.int .i64 x_4)) :: [], [some (.box [.osl 2 1 0 (List.length ([] : List Int)), .osl 3 1 0 (List.length ([] : List Bool)), .osl 4 1 0 (List.length ([] : List Int)), .d (.int .i64 0), .d (.bool false)]), some (.box [.osl 5 1 0 (List.length l21), .osl 6 1 0 (List.length l22), .osl 7 1 0 (List.length s_14), .d (.int .i64 (-1)), .d (.bool false)]), some (.arr 1 (List.map eI64 ([] : List Int))), some (.arr 1 (List.map eB ([] : List Bool))), some (.arr 1 (List.map eI64 ([] : List Int))), some (.arr 1 (List.map eI64 l21)), some (.arr 1 (List.map eB l22)), some (.arr 1 (List.map eI64 s_14))]⟩
variable (s_15 : (List Int))
def f16_s3 : St := ⟨(2, .ptr 0 0) :: (3, .ptr 1 0) :: [], [some (.box [.osl 2 1 0 (List.length ([] : List Int)), .osl 3 1 0 (List.length ([] : List Bool)), .osl 4 1 0 (List.length ([] : List Int)), .d (.int .i64 0), .d (.bool false)]), some (.box [.osl 5 1 0 (List.length l21), .osl 6 1 0 (List.length l22), .osl 7 1 0 (List.length s_15), .d (.int .i64 (-1)), .d (.bool false)]), some (.arr 1 (List.map eI64 ([] : List Int))), some (.arr 1 (List.map eB ([] : List Bool))), some (.arr 1 (List.map eI64 ([] : List Int))), some (.arr 1 (List.map eI64 l21)), some (.arr 1 (List.map eB l22)), some (.arr 1 (List.map eI64 s_15))]⟩
def FSpool_New_L1_E (l21 : (List Int)) (l22 : (List Bool)) (_ : (List Int)) : (List Int) → Ex → St → Prop := fun (y : (List Int)) e s => e = Ex.exit 0 ∧ Shift s (f16_s3 l21 l22 y)
theorem FSpool_New_L1_ok {n : Nat} {l21 : (List Int)} {l22 : (List Bool)} {l23 : (List Int)} (x : ((List Int) × Int)) (z : (((List Int) × Int) ⊕ (List Int))) (H : FSpool_New_L1 n l21 l22 l23 x.1 x.2 = some z) : WP (cxk 26 []) (bodyOf Try.f16) [1,1,1,0,1,0,0] (roundQ (fun (x : ((List Int) × Int)) => f16_s2 l21 l22 l23 x.1 x.2) (FSpool_New_L1_E l21 l22 l23) z) (f16_s2 l21 l22 l23 x.1 x.2) := by
  obtain ⟨s_14, x_4⟩ := x
  dsimp only [FSpool_New_L1] at H
  refine sr ?_
  refine ck 1 ?_
  refine en ?_
  refine sq ?_
  refine cn H (fun H => ?_) (fun H => ?_)
  · refine sk ?_
    refine qz ?_
    refine sq ?_
    refine bk 1 ?_
    refine sr ?_
    refine ck 2 ?_
    refine en ?_
    refine rz ?_
    refine ck 3 ?_
    refine bx H fun x27 h82 H => ?_
    refine sp (at_idxO 7 1 h82) ?_
    refine bx H fun l24 h83 H => ?_
    refine stA eI64 7 0 (ty 3) h82 h83 ?_
    refine ae ?_
    refine qN ?_
    refine qz ?_
    refine rg (sh_subc (k := 7) (sz := 1) 1 2 (List.map eI64 l24) (List.length l24) (by kernel_rfl) (cut_put (put_len h83)) (le_put (enc := eI64) (put_len h83)) ((put_len h83))) ?_
    refine ck 2 ?_
    refine ae ?_
    cases H
    exact og (sh_gc [2,3,16,17] (by kernel_rfl))
  · refine ex 0 ?_
    refine qx ?_
    cases H
    exact oe ⟨rfl, sh_gc [2,3] (by kernel_rfl)⟩
theorem FSpool_New_ok {n : Nat} {p0_ : Int} {z : GSpool} (H : FSpool_New n p0_ = some z) : CallOK Try.prog 16 [.d (.int .i64 p0_)] (.agg [.own 1 (List.map eI64 z.Tries), .own 1 (List.map eB z.Done), .own 1 (List.map eI64 z.Taken), .d (.int .i64 z.Now), .d (.bool z.Sealed)]) := by
  dsimp only [FSpool_New] at H
  refine fo (Γ := cxk 26 []) (s := f16_s1 p0_) follows (cxkOK 26 []) Try.func16 ?_
  refine sr ?_
  refine ck 1 ?_
  refine en ?_
  refine sr ?_
  refine ck 3 ?_
  refine en ?_
  refine sr ?_
  refine ck 1 ?_
  refine bx H fun l21 h79 H => ?_
  refine sp (at_mk eI64 1 h79) ?_
  refine ck 1 ?_
  refine bx H fun l22 h80 H => ?_
  refine sp (at_mk eB 1 h80) ?_
  refine ck 1 ?_
  refine bx H fun l23 h81 H => ?_
  refine sp (at_mk eI64 1 h81) ?_
  refine ck 3 ?_
  refine en ?_
  refine sq ?_
  refine sr ?_
  refine ck 4 ?_
  refine en ?_
  refine bk 0 ?_
  refine bx H fun y26 h84 H => ?_
  refine lp (fun (x : ((List Int) × Int)) => f16_s2 l21 l22 l23 x.1 x.2) (FSpool_New_L1_E l21 l22 l23) h84 (Shift.trans (Shift.trans (Shift.trans (sh_nilc 0 0 1 (by kernel_rfl)) (sh_nilc 0 1 1 (by kernel_rfl))) (sh_nilc 0 2 1 (by kernel_rfl))) (sh_gc [2,3,16,17] (by kernel_rfl))) (fun x z => FSpool_New_L1_ok x z) ?_
  intro e s hE18
  obtain ⟨rfl, hE18⟩ := hE18
  refine qH ?_
  refine qs (hE18) ?_
  refine sr ?_
  refine ck 2 ?_
  refine en ?_
  refine re ?_
  injection H with H
  subst H
  exact pr (rO (v := .agg [.osl 5 1 0 (List.length l21), .osl 6 1 0 (List.length l22), .osl 7 1 0 (List.length y26), .d (.int .i64 (-1)), .d (.bool false)]) [5,6,7] (a1 (c1 vo (c1 vo (c1 vo (c1 vd (c1 vd (c0))))))))
end
end Go.AI
end
section
namespace Go.AI
open Go.Proofs
set_option maxRecDepth 10000
section
variable (p0_ : Int) (p1_ : (List GRecord))
def f13_s1 : St := ⟨(0, .d (.int .i64 p0_)) :: (1, .d (.sl (List.map eGRecord p1_))) :: [], []⟩
variable (s_16 : Int) (s_17 : Bool) (s_18 : (List Int)) (s_19 : (List Bool)) (s_20 : (List Int)) (x_5 : Int)
def f13_s2 : St := ⟨(1, .d (.sl (List.map eGRecord p1_))) :: (4, .ptr 0 0) :: (6, .ptr 1 0) :: (11, .d (.sl (List.map eGRecord p1_))) :: (12, .d (.int .i64 ((List.length p1_ : Nat) : Int))) :: (13, .d (.int .i64 x_5)) :: [], [some (.box [.osl 2 1 0 (List.length ([] : List Int)), .osl 3 1 0 (List.length ([] : List Bool)), .osl 4 1 0 (List.length ([] : List Int)), .d (.int .i64 0), .d (.bool false)]), some (.box [.osl 5 1 0 (List.length s_18), .osl 6 1 0 (List.length s_19), .osl 7 1 0 (List.length s_20), .d (.int .i64 s_16), .d (.bool s_17)]), some (.arr 1 (List.map eI64 ([] : List Int))), some (.arr 1 (List.map eB ([] : List Bool))), some (.arr 1 (List.map eI64 ([] : List Int))), some (.arr 1 (List.map eI64 s_18)), some (.arr 1 (List.map eB s_19)), some (.arr 1 (List.map eI64 s_20))]⟩
variable (s_21 : Int) (s_22 : Bool) (s_23 : (List Int)) (s_24 : (List Bool)) (s_25 : (List Int))
def f13_s3 : St := ⟨(1, .d (.sl (List.map eGRecord p1_))) :: (4, .ptr 0 0) :: (6, .ptr 1 0) :: [], [some (.box [.osl 2 1 0 (List.length ([] : List Int)), .osl 3 1 0 (List.length ([] : List Bool)), .osl 4 1 0 (List.length ([] : List Int)), .d (.int .i64 0), .d (.bool false)]), some (.box [.osl 5 1 0 (List.length s_23), .osl 6 1 0 (List.length s_24), .osl 7 1 0 (List.length s_25), .d (.int .i64 s_21), .d (.bool s_22)]), some (.arr 1 (List.map eI64 ([] : List Int))), some (.arr 1 (List.map eB ([] : List Bool))), some (.arr 1 (List.map eI64 ([] : List Int))), some (.arr 1 (List.map eI64 s_23)), some (.arr 1 (List.map eB s_24)), some (.arr 1 (List.map eI64 s_25))]⟩
def FSpool_Replay_L1_E (p1_ : (List GRecord)) : ((Int × Bool × (List Int) × (List Bool) × (List Int)) ⊕ (GSpool × Int)) → Ex → St → Prop := fun y => Sum.casesOn y (fun (y : (Int × Bool × (List Int) × (List Bool) × (List Int))) e s => e = Ex.exit 0 ∧ Shift s (f13_s3 p1_ y.1 y.2.1 y.2.2.1 y.2.2.2.1 y.2.2.2.2)) (fun (y : (GSpool × Int)) e s => e = Ex.ret ∧ RA ty (Try.f13).results.toList (.tup [.agg [.own 1 (List.map eI64 y.1.Tries), .own 1 (List.map eB y.1.Done), .own 1 (List.map eI64 y.1.Taken), .d (.int .i64 y.1.Now), .d (.bool y.1.Sealed)], .d (.int .i64 y.2)]) s)
theorem FSpool_Replay_L1_ok {n : Nat} {p1_ : (List GRecord)} (x : (Int × Bool × (List Int) × (List Bool) × (List Int) × Int)) (z : ((Int × Bool × (List Int) × (List Bool) × (List Int) × Int) ⊕ ((Int × Bool × (List Int) × (List Bool) × (List Int)) ⊕ (GSpool × Int)))) (H : FSpool_Replay_L1 n p1_ x.1 x.2.1 x.2.2.1 x.2.2.2.1 x.2.2.2.2.1 x.2.2.2.2.2 = some z) : WP (cxk 27 []) (bodyOf Try.f13) [1,1,0,1,0,0] (roundQ (fun (x : (Int × Bool × (List Int) × (List Bool) × (List Int) × Int)) => f13_s2 p1_ x.1 x.2.1 x.2.2.1 x.2.2.2.1 x.2.2.2.2.1 x.2.2.2.2.2) (FSpool_Replay_L1_E p1_) z) (f13_s2 p1_ x.1 x.2.1 x.2.2.1 x.2.2.2.1 x.2.2.2.2.1 x.2.2.2.2.2) := by
  obtain ⟨s_16, s_17, s_18, s_19, s_20, x_5⟩ := x
  dsimp only [FSpool_Replay_L1] at H
  refine sr ?_
  refine ck 1 ?_
  refine en ?_
  refine sq ?_
  refine cn H (fun H => ?_) (fun H => ?_)
  · refine sk ?_
    refine qz ?_
    refine sq ?_
    refine bk 1 ?_
    refine sr ?_
    refine ck 1 ?_
    refine bx H fun x28 h86 H => ?_
    refine sp (at_idxD eGRecord h86) ?_
    refine ck 4 ?_
    refine en ?_
    refine sr ?_
    refine ck 1 ?_
    refine bx H fun r25 h87 H => ?_
    refine lt [1,5,6,7] (FSpool_perform_ok h87) ?_
    refine ck 1 ?_
    refine en ?_
    refine cn H (fun H => ?_) (fun H => ?_)
    · refine sr ?_
      refine ck 4 ?_
      refine en ?_
      refine re ?_
      refine qR ?_
      refine qr ?_
      cases H
      exact or ⟨rfl, rT (vs := [.agg [.osl 9 1 0 (List.length r25.2.Tries), .osl 10 1 0 (List.length r25.2.Done), .osl 11 1 0 (List.length r25.2.Taken), .d (.int .i64 r25.2.Now), .d (.bool r25.2.Sealed)], .d (.int .i64 x_5)]) [9,10,11] (t1 (a1 (c1 vo (c1 vo (c1 vo (c1 vd (c1 vd (c0))))))) (t1 (ad vd) (t0)))⟩
    · refine sk ?_
      refine qN ?_
      refine qz ?_
      refine rz ?_
      refine ck 2 ?_
      refine ae ?_
      cases H
      exact og (sh_gc [1,4,6,11,12,13] (by kernel_rfl))
  · refine ex 0 ?_
    refine qx ?_
    cases H
    exact oe ⟨rfl, sh_gc [1,4,6] (by kernel_rfl)⟩
theorem FSpool_Replay_ok {n : Nat} {p0_ : Int} {p1_ : (List GRecord)} {z : (GSpool × Int)} (H : FSpool_Replay n p0_ p1_ = some z) : CallOK Try.prog 13 [.d (.int .i64 p0_), .d (.sl (List.map eGRecord p1_))] (.tup [.agg [.own 1 (List.map eI64 z.1.Tries), .own 1 (List.map eB z.1.Done), .own 1 (List.map eI64 z.1.Taken), .d (.int .i64 z.1.Now), .d (.bool z.1.Sealed)], .d (.int .i64 z.2)]) := by
  dsimp only [FSpool_Replay] at H
  refine fo (Γ := cxk 27 []) (s := f13_s1 p0_ p1_) follows (cxkOK 27 []) Try.func13 ?_
  refine sr ?_
  refine ck 2 ?_
  refine en ?_
  refine sr ?_
  refine ck 1 ?_
  refine bx H fun r24 h85 H => ?_
  refine cl [List.length r24.Tries, List.length r24.Done, List.length r24.Taken] (FSpool_New_ok h85) ?_
  refine ck 2 ?_
  refine en ?_
  refine sq ?_
  refine sr ?_
  refine ck 1 ?_
  refine sp (at_len eGRecord p1_) ?_
  refine ck 1 ?_
  refine en ?_
  refine bk 0 ?_
  refine bx H fun y27 h88 H => ?_
  rcases y27 with y28 | y29
  · refine lp (fun (x : (Int × Bool × (List Int) × (List Bool) × (List Int) × Int)) => f13_s2 p1_ x.1 x.2.1 x.2.2.1 x.2.2.2.1 x.2.2.2.2.1 x.2.2.2.2.2) (FSpool_Replay_L1_E p1_) h88 (Shift.trans (Shift.trans (Shift.trans (sh_nilc 0 0 1 (by kernel_rfl)) (sh_nilc 0 1 1 (by kernel_rfl))) (sh_nilc 0 2 1 (by kernel_rfl))) (sh_gc [1,4,6,11,12,13] (by kernel_rfl))) (fun x z => FSpool_Replay_L1_ok x z) ?_
    intro e s hE19
    obtain ⟨rfl, hE19⟩ := hE19
    refine qH ?_
    refine qs (hE19) ?_
    refine sr ?_
    refine ck 2 ?_
    refine sp (at_len eGRecord p1_) ?_
    refine ck 2 ?_
    refine en ?_
    refine re ?_
    injection H with H
    subst H
    exact pr (rT (vs := [.agg [.osl 5 1 0 (List.length y28.2.2.1), .osl 6 1 0 (List.length y28.2.2.2.1), .osl 7 1 0 (List.length y28.2.2.2.2), .d (.int .i64 y28.1), .d (.bool y28.2.1)], .d (.int .i64 ((List.length p1_ : Nat) : Int))]) [5,6,7] (t1 (a1 (c1 vo (c1 vo (c1 vo (c1 vd (c1 vd (c0))))))) (t1 (ad vd) (t0))))
  · refine lp (fun (x : (Int × Bool × (List Int) × (List Bool) × (List Int) × Int)) => f13_s2 p1_ x.1 x.2.1 x.2.2.1 x.2.2.2.1 x.2.2.2.2.1 x.2.2.2.2.2) (FSpool_Replay_L1_E p1_) h88 (Shift.trans (Shift.trans (Shift.trans (sh_nilc 0 0 1 (by kernel_rfl)) (sh_nilc 0 1 1 (by kernel_rfl))) (sh_nilc 0 2 1 (by kernel_rfl))) (sh_gc [1,4,6,11,12,13] (by kernel_rfl))) (fun x z => FSpool_Replay_L1_ok x z) ?_
    intro e s hE20
    obtain ⟨rfl, hE20⟩ := hE20
    refine qR ?_
    refine qr ?_
    cases H
    exact pr hE20
end
section
variable (p0_ : GSpool) (p1_ : GMatching)
def f18_s1 : St := ⟨(0, .agg [.d (.sl (List.map eI64 p0_.Tries)), .d (.sl (List.map eB p0_.Done)), .d (.sl (List.map eI64 p0_.Taken)), .d (.int .i64 p0_.Now), .d (.bool p0_.Sealed)]) :: (1, .agg [.d (.sl (List.map eI64 p1_.From)), .d (.int .i64 p1_.Missing)]) :: [], []⟩
variable (r_1 : GRecord)
def f18_s2 : St := ⟨(4, .ptr 0 0) :: (5, .ptr 1 0) :: [], [some (.box [.d (.int .i64 0), .d (.int .i64 0), .d (.int .i64 0)]), some (.box [.d (.int .i64 r_1.Kind), .d (.int .i64 r_1.A), .d (.int .i64 r_1.B)])]⟩
variable (r_2 : GRecord)
def f18_s3 : St := ⟨(4, .ptr 0 0) :: (7, .ptr 1 0) :: [], [some (.box [.d (.int .i64 0), .d (.int .i64 0), .d (.int .i64 0)]), some (.box [.d (.int .i64 r_2.Kind), .d (.int .i64 r_2.A), .d (.int .i64 r_2.B)])]⟩
theorem FSpool_Next_ok {n : Nat} {p0_ : GSpool} {p1_ : GMatching} {z : GRecord} (H : FSpool_Next n p0_ p1_ = some z) : CallOK Try.prog 18 [.agg [.d (.sl (List.map eI64 p0_.Tries)), .d (.sl (List.map eB p0_.Done)), .d (.sl (List.map eI64 p0_.Taken)), .d (.int .i64 p0_.Now), .d (.bool p0_.Sealed)], .agg [.d (.sl (List.map eI64 p1_.From)), .d (.int .i64 p1_.Missing)]] (.agg [.d (.int .i64 z.Kind), .d (.int .i64 z.A), .d (.int .i64 z.B)]) := by
  dsimp only [FSpool_Next] at H
  refine fo (Γ := cxk 77 []) (s := f18_s1 p0_ p1_) follows (cxkOK 77 []) Try.func18 ?_
  refine sr ?_
  refine ck 3 ?_
  refine en ?_
  refine sq ?_
  refine sr ?_
  refine ck 2 ?_
  refine en ?_
  refine cn H (fun H => ?_) (fun H => ?_)
  · refine sr ?_
    refine ck 2 ?_
    refine en ?_
    refine re ?_
    refine qr ?_
    injection H with H
    subst H
    exact pr (rd)
  · refine sk ?_
    refine qz ?_
    refine sq ?_
    refine sr ?_
    refine ck 3 ?_
    refine en ?_
    refine cn H (fun H => ?_) (fun H => ?_)
    · refine sr ?_
      refine ck 5 ?_
      refine en ?_
      refine sj (fun (x : GRecord) => f18_s2 x) (fun (x : GRecord) => FSpool_Next_J1 n x) z ?_ (fun hFSpool_Next_J1 => ?_)
      · intro r_1 H
        dsimp only [FSpool_Next_J1] at H
        refine sr ?_
        refine ck 2 ?_
        refine en ?_
        refine re ?_
        refine qr ?_
        injection H with H
        subst H
        exact pr (rd)
      refine sr ?_
      refine ck 2 ?_
      refine bx H fun r26 h89 H => ?_
      refine cb (ks := [0]) (obl := []) false (leZ) rfl (FSpool_known_ok h89) (Or.inr (by simp only [flatR, flatT, flatA, flatC, List.forall_mem_map] <;> simp [D.flat, true_and])) rfl ?_
      refine en ?_
      refine cn H (fun H => ?_) (fun H => ?_)
      · refine rz ?_
        refine ck 4 ?_
        refine bx H fun x29 h90 H => ?_
        refine sp (at_idxD eI64 h90) ?_
        refine ck 3 ?_
        refine ae ?_
        exact qs (sh_gc [4,5] (by kernel_rfl)) (hFSpool_Next_J1 ({ Kind := 3, A := p0_.Now, B := x29 } : GRecord) H)
      · refine sk ?_
        exact qs (sh_gc [4,5] (by kernel_rfl)) (hFSpool_Next_J1 ({ Kind := 3, A := p0_.Now, B := 0 } : GRecord) H)
    · refine sk ?_
      refine qz ?_
      refine sr ?_
      refine ck 2 ?_
      refine bx H fun r27 h91 H => ?_
      refine ca false (FSlices_Index_bool_bool_ok h91) ?_
      refine ck 1 ?_
      refine en ?_
      refine sq ?_
      refine sr ?_
      refine ck 2 ?_
      refine en ?_
      refine cn H (fun H => ?_) (fun H => ?_)
      · refine sr ?_
        refine ck 2 ?_
        refine en ?_
        refine re ?_
        refine qr ?_
        injection H with H
        subst H
        exact pr (rd)
      · refine sk ?_
        refine qz ?_
        refine sq ?_
        refine sr ?_
        refine ck 3 ?_
        refine sp (at_len eI64 p1_.From) ?_
        refine ck 3 ?_
        refine gc 1 (decide (r27 < ((List.length p1_.From : Nat) : Int))) ?_
        refine ck 1 ?_
        refine bx H fun x30 h92 H => ?_
        refine sG (fun hg => at_idxD eI64 (gimp h92 hg)) (impK (fun hh => hh) (impK (fun hh => hh) (impZ))) ?_
        refine gc 2 (decide (r27 < ((List.length p1_.From : Nat) : Int))) ?_
        refine pA ?_
        refine ck 2 ?_
        refine gc 1 ((decide (r27 < ((List.length p1_.From : Nat) : Int))) && (decide (x30 ≥ 0))) ?_
        refine ck 1 ?_
        refine gc 1 ((decide (r27 < ((List.length p1_.From : Nat) : Int))) && (decide (x30 ≥ 0))) ?_
        refine ck 1 ?_
        refine bx H fun x31 h93 H => ?_
        refine sG (fun hg => at_idxD eI64 (gimp h93 hg)) (impK (fun hh => hh) (impK (fun hh => hh) (impZ))) ?_
        refine gc 1 ((decide (r27 < ((List.length p1_.From : Nat) : Int))) && (decide (x30 ≥ 0))) ?_
        refine bx H fun r28 h94 H => ?_
        refine cG false (leZ) rfl (fun hg => FSlices_Contains_int_int_ok (gimp h94 hg)) (Or.inl rfl) (impK (fun hh => hh) (impK (fun hh => hh) (impZ))) rfl ?_
        refine gc 1 ((decide (r27 < ((List.length p1_.From : Nat) : Int))) && (decide (x30 ≥ 0))) ?_
        refine pA ?_
        refine en ?_
        refine cn H (fun H => ?_) (fun H => ?_)
        · refine sr ?_
          refine ck 4 ?_
          refine bx H fun x32 h95 H => ?_
          refine sp (at_idxD eI64 h95) ?_
          refine ck 3 ?_
          refine en ?_
          refine re ?_
          refine qr ?_
          injection H with H
          subst H
          exact pr (rd)
        · refine sk ?_
          refine qz ?_
          refine sr ?_
          refine ck 4 ?_
          refine en ?_
          refine sj (fun (x : GRecord) => f18_s3 x) (fun (x : GRecord) => FSpool_Next_J2 n x) z ?_ (fun hFSpool_Next_J2 => ?_)
          · intro r_2 H
            dsimp only [FSpool_Next_J2] at H
            refine sr ?_
            refine ck 2 ?_
            refine en ?_
            refine re ?_
            injection H with H
            subst H
            exact pr (rd)
          refine sr ?_
          refine ck 1 ?_
          refine bx H fun r29 h96 H => ?_
          refine cb (ks := [0]) (obl := []) false (leZ) rfl (FSpool_known_ok h96) (Or.inr (by simp only [flatR, flatT, flatA, flatC, List.forall_mem_map] <;> simp [D.flat, true_and])) rfl ?_
          refine en ?_
          refine cn H (fun H => ?_) (fun H => ?_)
          · refine rz ?_
            refine ck 3 ?_
            refine bx H fun x33 h97 H => ?_
            refine sp (at_idxD eI64 h97) ?_
            refine ck 4 ?_
            refine ae ?_
            exact qs (sh_gc [4,7] (by kernel_rfl)) (hFSpool_Next_J2 ({ Kind := 1, A := r27, B := iadd .i64 x33 1 } : GRecord) H)
          · refine sk ?_
            exact qs (sh_gc [4,7] (by kernel_rfl)) (hFSpool_Next_J2 ({ Kind := 1, A := r27, B := 1 } : GRecord) H)
end
section
variable (p0_ : GSpool)
def f20_s1 : St := ⟨(0, .agg [.d (.sl (List.map eI64 p0_.Tries)), .d (.sl (List.map eB p0_.Done)), .d (.sl (List.map eI64 p0_.Taken)), .d (.int .i64 p0_.Now), .d (.bool p0_.Sealed)]) :: [], []⟩
theorem FSpool_Rest_ok {n : Nat} {p0_ : GSpool} {z : Bool} (H : FSpool_Rest n p0_ = some z) : CallOK Try.prog 20 [.agg [.d (.sl (List.map eI64 p0_.Tries)), .d (.sl (List.map eB p0_.Done)), .d (.sl (List.map eI64 p0_.Taken)), .d (.int .i64 p0_.Now), .d (.bool p0_.Sealed)]] (.d (.bool z)) := by
  dsimp only [FSpool_Rest] at H
  refine fo (Γ := cxk 5 []) (s := f20_s1 p0_) follows (cxkOK 5 []) Try.func20 ?_
  refine sr ?_
  refine ck 2 ?_
  refine en ?_
  refine sr ?_
  refine ck 3 ?_
  refine en ?_
  refine re ?_
  injection H with H
  subst H
  exact pr (rd)
end
def f9_s0 : St := ⟨[], []⟩
section
variable (r30 : GSpool) (r32 : (GSpool × Int)) (r35 : (GSpool × Int)) (r38 : (GSpool × Int)) (r39 : GRecord) (r40 : GRecord) (r41 : GRecord) (r42 : GRecord) (i_8 : Int)
def f9_s2 : St := ⟨(1, .ptr 0 0) :: (2, .ptr 1 0) :: (3, .d (.int .i64 r32.2)) :: (4, .ptr 2 0) :: (5, .d (.int .i64 r35.2)) :: (6, .ptr 3 0) :: (7, .d (.int .i64 r38.2)) :: (8, .osl 4 3 0 (List.length [r39, r40, r41, r42, ({ Kind := 0, A := 0, B := 0 } : GRecord)])) :: (9, .d (.int .i64 i_8)) :: [], [some (.box [.d (.sl (List.map eI64 r30.Tries)), .d (.sl (List.map eB r30.Done)), .d (.sl (List.map eI64 r30.Taken)), .d (.int .i64 r30.Now), .d (.bool r30.Sealed)]), some (.box [.d (.sl (List.map eI64 r32.1.Tries)), .d (.sl (List.map eB r32.1.Done)), .d (.sl (List.map eI64 r32.1.Taken)), .d (.int .i64 r32.1.Now), .d (.bool r32.1.Sealed)]), some (.box [.d (.sl (List.map eI64 r35.1.Tries)), .d (.sl (List.map eB r35.1.Done)), .d (.sl (List.map eI64 r35.1.Taken)), .d (.int .i64 r35.1.Now), .d (.bool r35.1.Sealed)]), some (.box [.d (.sl (List.map eI64 r38.1.Tries)), .d (.sl (List.map eB r38.1.Done)), .d (.sl (List.map eI64 r38.1.Taken)), .d (.int .i64 r38.1.Now), .d (.bool r38.1.Sealed)]), some (.arr 3 (List.map eGRecord [r39, r40, r41, r42, ({ Kind := 0, A := 0, B := 0 } : GRecord)]))]⟩
def f9_s3 : St := ⟨(2, .ptr 0 0) :: (3, .d (.int .i64 r32.2)) :: (4, .ptr 1 0) :: (5, .d (.int .i64 r35.2)) :: (6, .ptr 2 0) :: (7, .d (.int .i64 r38.2)) :: [], [some (.box [.d (.sl (List.map eI64 r32.1.Tries)), .d (.sl (List.map eB r32.1.Done)), .d (.sl (List.map eI64 r32.1.Taken)), .d (.int .i64 r32.1.Now), .d (.bool r32.1.Sealed)]), some (.box [.d (.sl (List.map eI64 r35.1.Tries)), .d (.sl (List.map eB r35.1.Done)), .d (.sl (List.map eI64 r35.1.Taken)), .d (.int .i64 r35.1.Now), .d (.bool r35.1.Sealed)]), some (.box [.d (.sl (List.map eI64 r38.1.Tries)), .d (.sl (List.map eB r38.1.Done)), .d (.sl (List.map eI64 r38.1.Taken)), .d (.int .i64 r38.1.Now), .d (.bool r38.1.Sealed)])]⟩
def FSixdotlaw29_sanity_L1_E (_ : GSpool) (r32 : (GSpool × Int)) (r35 : (GSpool × Int)) (r38 : (GSpool × Int)) (_ : GRecord) (_ : GRecord) (_ : GRecord) (_ : GRecord) : (Unit ⊕ Bool) → Ex → St → Prop := fun y => Sum.casesOn y (fun (_ : Unit) e s => e = Ex.exit 0 ∧ Shift s (f9_s3 r32 r35 r38)) (fun (y : Bool) e s => e = Ex.ret ∧ RA ty (Try.f9).results.toList (.d (.bool y)) s)
theorem FSixdotlaw29_sanity_L1_ok {n : Nat} {r30 : GSpool} {r32 : (GSpool × Int)} {r35 : (GSpool × Int)} {r38 : (GSpool × Int)} {r39 : GRecord} {r40 : GRecord} {r41 : GRecord} {r42 : GRecord} (x : Int) (z : (Int ⊕ (Unit ⊕ Bool))) (H : FSixdotlaw29_sanity_L1 n r30 r32 r35 r38 r39 r40 r41 r42 x = some z) : WP (cxk 146 []) (bodyOf Try.f9) [1,1,1,1,1,1,1,1,0,1,0,0] (roundQ (fun (x : Int) => f9_s2 r30 r32 r35 r38 r39 r40 r41 r42 x) (FSixdotlaw29_sanity_L1_E r30 r32 r35 r38 r39 r40 r41 r42) z) (f9_s2 r30 r32 r35 r38 r39 r40 r41 r42 x) := by
  revert H
  generalize x = i_8
  intro H
  dsimp only [FSixdotlaw29_sanity_L1] at H
  refine sq ?_
  refine sr ?_
  refine ck 4 ?_
  refine en ?_
  refine cn H (fun H => ?_) (fun H => ?_)
  · refine sk ?_
    refine qz ?_
    refine sq ?_
    refine bk 1 ?_
    refine sr ?_
    refine ck 3 ?_
    refine bx H fun x34 h111 H => ?_
    refine sp (at_idxO 4 3 h111) ?_
    refine sp (at_ldA eGRecord 4 0 (ty 41) h111) ?_
    refine bx H fun r43 h112 H => ?_
    refine ca false (FSpool_Step_ok h112) ?_
    refine ck 6 ?_
    refine en ?_
    refine sr ?_
    refine ck 2 ?_
    refine en ?_
    refine cn H (fun H => ?_) (fun H => ?_)
    · refine sr ?_
      refine ck 1 ?_
      refine en ?_
      refine re ?_
      refine qR ?_
      refine qr ?_
      cases H
      exact or ⟨rfl, rd⟩
    · refine sk ?_
      refine qN ?_
      refine qz ?_
      refine rz ?_
      refine ck 3 ?_
      refine ae ?_
      cases H
      exact og (sh_gc [1,2,3,4,5,6,7,8,9] (by kernel_rfl))
  · refine ex 0 ?_
    refine qx ?_
    cases H
    exact oe ⟨rfl, sh_gc [2,3,4,5,6,7] (by kernel_rfl)⟩
theorem FSixdotlaw29_sanity_ok {n : Nat}  {z : Bool} (H : FSixdotlaw29_sanity n = some z) : CallOK Try.prog 9 [] (.d (.bool z)) := by
  dsimp only [FSixdotlaw29_sanity] at H
  refine fo (Γ := cxk 146 []) (s := f9_s0) follows (cxkOK 146 []) Try.func9 ?_
  refine sr ?_
  refine ck 1 ?_
  refine en ?_
  refine sr ?_
  refine bx H fun r30 h98 H => ?_
  refine ca false (FSixdotref29_New_ok h98) ?_
  refine ck 2 ?_
  refine en ?_
  refine sr ?_
  refine ck 1 ?_
  refine bx H fun r31 h99 H => ?_
  refine ca false (FSixdotlaw29_record_ok h99) ?_
  refine bx H fun r32 h100 H => ?_
  refine ca false (FSpool_Step_ok h100) ?_
  refine ck 6 ?_
  refine en ?_
  refine sq ?_
  refine sr ?_
  refine ck 5 ?_
  refine bx H fun r33 h101 H => ?_
  refine cb (ks := [2,3,4]) (obl := [(0 + List.length [1], List.length (List.map eI64 [1])), (0 + List.length [false], List.length (List.map eB [false])), (0 + List.length [(-1)], List.length (List.map eI64 [(-1)]))]) false (leK (by simp) (leK (by simp) (leK (by simp) (leZ)))) (consE rfl (consE (aggE (consE takeE (consE takeE (consE takeE (consE rfl (consE rfl rfl)))))) rfl)) (FSixdotref29_Same_ok h101) (Or.inr (by simp only [flatR, flatT, flatA, flatC, List.forall_mem_map] <;> simp [D.flat, true_and])) rfl ?_
  refine ck 1 ?_
  refine en ?_
  refine cn H (fun H => ?_) (fun H => ?_)
  · refine sr ?_
    refine ck 1 ?_
    refine en ?_
    refine re ?_
    refine qr ?_
    injection H with H
    subst H
    exact pr (rd)
  · refine sk ?_
    refine qz ?_
    refine sr ?_
    refine ck 1 ?_
    refine bx H fun r34 h102 H => ?_
    refine ca false (FSixdotlaw29_record_ok h102) ?_
    refine bx H fun r35 h103 H => ?_
    refine ca false (FSpool_Step_ok h103) ?_
    refine ck 6 ?_
    refine en ?_
    refine sq ?_
    refine sr ?_
    refine ck 5 ?_
    refine bx H fun r36 h104 H => ?_
    refine cb (ks := [6,7,8]) (obl := [(0 + List.length [1], List.length (List.map eI64 [1])), (0 + List.length [true], List.length (List.map eB [true])), (0 + List.length [(-1)], List.length (List.map eI64 [(-1)]))]) false (leK (by simp) (leK (by simp) (leK (by simp) (leZ)))) (consE rfl (consE (aggE (consE takeE (consE takeE (consE takeE (consE rfl (consE rfl rfl)))))) rfl)) (FSixdotref29_Same_ok h104) (Or.inr (by simp only [flatR, flatT, flatA, flatC, List.forall_mem_map] <;> simp [D.flat, true_and])) rfl ?_
    refine ck 1 ?_
    refine en ?_
    refine cn H (fun H => ?_) (fun H => ?_)
    · refine sr ?_
      refine ck 1 ?_
      refine en ?_
      refine re ?_
      refine qr ?_
      injection H with H
      subst H
      exact pr (rd)
    · refine sk ?_
      refine qz ?_
      refine sr ?_
      refine ck 1 ?_
      refine bx H fun r37 h105 H => ?_
      refine ca false (FSixdotlaw29_record_ok h105) ?_
      refine bx H fun r38 h106 H => ?_
      refine ca false (FSpool_Step_ok h106) ?_
      refine ck 6 ?_
      refine en ?_
      refine sr ?_
      refine bx H fun r39 h107 H => ?_
      refine ca false (FSixdotlaw29_record_ok h107) ?_
      refine bx H fun r40 h108 H => ?_
      refine ca false (FSixdotlaw29_record_ok h108) ?_
      refine bx H fun r41 h109 H => ?_
      refine ca false (FSixdotlaw29_record_ok h109) ?_
      refine bx H fun r42 h110 H => ?_
      refine ca false (FSixdotlaw29_record_ok h110) ?_
      refine ck 3 ?_
      refine en ?_
      refine sq ?_
      refine sr ?_
      refine ck 1 ?_
      refine en ?_
      refine bk 0 ?_
      refine bx H fun y30 h113 H => ?_
      rcases y30 with y31 | y32
      · refine lp (fun (x : Int) => f9_s2 r30 r32 r35 r38 r39 r40 r41 r42 x) (FSixdotlaw29_sanity_L1_E r30 r32 r35 r38 r39 r40 r41 r42) h113 (sh_gc [1,2,3,4,5,6,7,8,9] (by kernel_rfl)) (fun x z => FSixdotlaw29_sanity_L1_ok x z) ?_
        intro e s hE21
        obtain ⟨rfl, hE21⟩ := hE21
        refine qH ?_
        refine qs (hE21) ?_
        refine sr ?_
        refine ck 4 ?_
        refine en ?_
        refine sr ?_
        refine bx H fun r44 h114 H => ?_
        refine ca false (FSixdotlaw29_record_ok h114) ?_
        refine bx H fun r45 h115 H => ?_
        refine ca false (FSixdotlaw29_record_ok h115) ?_
        refine sF ?_
        refine bx H fun r46 h116 H => ?_
        refine ca false (FSixdotref29_Replay_ok h116) ?_
        refine ck 6 ?_
        refine en ?_
        refine sr ?_
        refine bx H fun r47 h117 H => ?_
        refine ca false (FSixdotlaw29_record_ok h117) ?_
        refine bx H fun r48 h118 H => ?_
        refine ca false (FSixdotlaw29_record_ok h118) ?_
        refine ck 1 ?_
        refine bx H fun r49 h119 H => ?_
        refine cb (ks := [6]) (obl := [(0 + List.length [r47, r48], List.length (List.map eGRecord [r47, r48]))]) false (leK (by simp) (leZ)) (consE rfl (consE takeE rfl)) (FSpool_Replay_ok h119) (Or.inr (by simp only [flatR, flatT, flatA, flatC, List.forall_mem_map] <;> simp [D.flat, eB, eI64])) rfl ?_
        refine ck 6 ?_
        refine en ?_
        refine sr ?_
        refine bx H fun r50 h120 H => ?_
        refine ca false (FSixdotref29_New_ok h120) ?_
        refine ck 1 ?_
        refine bx H fun r51 h121 H => ?_
        refine cb (ks := [3]) (obl := [(0 + List.length [4, (-1)], List.length (List.map eI64 [4, (-1)]))]) false (leK (by simp) (leZ)) (consE rfl (consE (aggE (consE takeE (consE rfl rfl))) rfl)) (FSpool_Next_ok h121) (Or.inr (by simp only [flatR, flatT, flatA, flatC, List.forall_mem_map] <;> simp [D.flat, true_and])) rfl ?_
        refine bx H fun r52 h122 H => ?_
        refine ca false (FSixdotlaw29_record_ok h122) ?_
        refine ck 4 ?_
        refine bx H fun r53 h123 H => ?_
        refine cG (ks := [3]) (obl := [(0 + List.length [4, (-1)], List.length (List.map eI64 [4, (-1)]))]) false (leK (by simp) (leZ)) (consE rfl (consE (aggE (consE takeE (consE rfl rfl))) rfl)) (fun hg => FSpool_Next_ok (gimp h123 hg)) (Or.inr (by simp only [flatR, flatT, flatA, flatC, List.forall_mem_map] <;> simp [D.flat, true_and])) (impK (fun hh => hh) (impK (fun hh => hh) (impZ))) rfl ?_
        refine bx H fun r54 h124 H => ?_
        refine cG false (leZ) rfl (fun hg => FSixdotlaw29_record_ok (gimp h124 hg)) (Or.inl rfl) (impZ) rfl ?_
        refine gc 1 ((r51.Kind == r52.Kind) && ((r51.A == r52.A) && ((r51.B == r52.B) && true))) ?_
        refine pA ?_
        refine ck 2 ?_
        refine gc 1 (((r51.Kind == r52.Kind) && ((r51.A == r52.A) && ((r51.B == r52.B) && true))) && ((r53.Kind == r54.Kind) && ((r53.A == r54.A) && ((r53.B == r54.B) && true)))) ?_
        refine pA ?_
        refine ck 1 ?_
        refine en ?_
        refine sr ?_
        refine ck 4 ?_
        refine gc 1 (r32.2 == 0) ?_
        refine pA ?_
        refine ck 2 ?_
        refine gc 1 ((r32.2 == 0) && (r35.2 == 0)) ?_
        refine pA ?_
        refine ck 2 ?_
        refine gc 1 (((r32.2 == 0) && (r35.2 == 0)) && (r38.2 == 0)) ?_
        refine pA ?_
        refine ck 2 ?_
        refine bx H fun r55 h125 H => ?_
        refine cG false (leZ) rfl (fun hg => FSpool_Rest_ok (gimp h125 hg)) (Or.inl rfl) (impK (fun hh => hh) (impZ)) rfl ?_
        refine pA ?_
        refine ck 2 ?_
        refine bx H fun r56 h126 H => ?_
        refine cG false (leZ) rfl (fun hg => FSpool_Rest_ok (gimp h126 hg)) (Or.inl rfl) (impK (fun hh => hh) (impZ)) rfl ?_
        refine gc 1 (((((r32.2 == 0) && (r35.2 == 0)) && (r38.2 == 0)) && r38.1.Sealed) && r55) ?_
        refine pA ?_
        refine ck 2 ?_
        refine pA ?_
        refine ck 2 ?_
        refine gc 1 (((((((r32.2 == 0) && (r35.2 == 0)) && (r38.2 == 0)) && r38.1.Sealed) && r55) && (!r56)) && ((((r51.Kind == r52.Kind) && ((r51.A == r52.A) && ((r51.B == r52.B) && true))) && ((r53.Kind == r54.Kind) && ((r53.A == r54.A) && ((r53.B == r54.B) && true)))) && (r46.2 == 2))) ?_
        refine pA ?_
        refine ck 3 ?_
        refine bx H fun r57 h127 H => ?_
        refine cG false (leZ) rfl (fun hg => FSixdotref29_Same_ok (gimp h127 hg)) (Or.inl rfl) (impK (fun hh => hh) (impK (fun hh => hh) (impZ))) rfl ?_
        refine pA ?_
        refine ck 1 ?_
        refine bx H fun r58 h128 H => ?_
        refine cG false (leZ) rfl (fun hg => FSpool_New_ok (gimp h128 hg)) (Or.inl rfl) (impZ) rfl ?_
        refine ck 1 ?_
        refine bx H fun r59 h129 H => ?_
        refine cG false (leZ) rfl (fun hg => FSixdotref29_Same_ok (gimp h129 hg)) (Or.inl rfl) (impK (fun hh => hh) (impK (fun hh => hh) (impZ))) rfl ?_
        refine pA ?_
        refine ck 1 ?_
        refine en ?_
        refine re ?_
        injection H with H
        subst H
        exact pr (rd)
      · refine lp (fun (x : Int) => f9_s2 r30 r32 r35 r38 r39 r40 r41 r42 x) (FSixdotlaw29_sanity_L1_E r30 r32 r35 r38 r39 r40 r41 r42) h113 (sh_gc [1,2,3,4,5,6,7,8,9] (by kernel_rfl)) (fun x z => FSixdotlaw29_sanity_L1_ok x z) ?_
        intro e s hE22
        obtain ⟨rfl, hE22⟩ := hE22
        refine qR ?_
        refine qr ?_
        cases H
        exact pr hE22
end
section
variable (p0_ : GRaw)
def f10_s1 : St := ⟨(0, .agg [.d (.int .u8 p0_.N), .d (.sl (List.map eU8 p0_.From)), .d (.sl (List.map eU8 p0_.L))]) :: [], []⟩
theorem FSixdotref29_Jobs_ok {n : Nat} {p0_ : GRaw} {z : Int} (H : FSixdotref29_Jobs n p0_ = some z) : CallOK Try.prog 10 [.agg [.d (.int .u8 p0_.N), .d (.sl (List.map eU8 p0_.From)), .d (.sl (List.map eU8 p0_.L))]] (.d (.int .i64 z)) := by
  dsimp only [FSixdotref29_Jobs] at H
  refine fo (Γ := cxk 7 []) (s := f10_s1 p0_) follows (cxkOK 7 []) Try.func10 ?_
  refine sr ?_
  refine ck 2 ?_
  refine en ?_
  refine sr ?_
  refine ck 5 ?_
  refine en ?_
  refine re ?_
  injection H with H
  subst H
  exact pr (rd)
end
section
variable (p0_ : GRaw)
def f12_s1 : St := ⟨(0, .agg [.d (.int .u8 p0_.N), .d (.sl (List.map eU8 p0_.From)), .d (.sl (List.map eU8 p0_.L))]) :: [], []⟩
variable (out_1 : (List Int)) (i_9 : Int)
def f12_s2 : St := ⟨(1, .ptr 0 0) :: (2, .ptr 1 0) :: (3, .ptr 2 0) :: (4, .d (.int .i64 i_9)) :: [], [some (.box [.d (.int .u8 p0_.N), .d (.sl (List.map eU8 p0_.From)), .d (.sl (List.map eU8 p0_.L))]), some (.box [.osl 3 1 0 (List.length ([] : List Int)), .d (.int .i64 0)]), some (.box [.osl 4 1 0 (List.length out_1), .d (.int .i64 0)]), some (.arr 1 (List.map eI64 ([] : List Int))), some (.arr 1 (List.map eI64 out_1))]⟩
variable (out_2 : (List Int))
def f12_s3 : St := ⟨(2, .ptr 0 0) :: (3, .ptr 1 0) :: [], [some (.box [.osl 2 1 0 (List.length ([] : List Int)), .d (.int .i64 0)]), some (.box [.osl 3 1 0 (List.length out_2), .d (.int .i64 0)]), some (.arr 1 (List.map eI64 ([] : List Int))), some (.arr 1 (List.map eI64 out_2))]⟩
def FSixdotref29_Matching_L1_E (_ : GRaw) : (List Int) → Ex → St → Prop := fun (y : (List Int)) e s => e = Ex.exit 0 ∧ Shift s (f12_s3 y)
theorem FSixdotref29_Matching_L1_ok {n : Nat} {p0_ : GRaw} (x : ((List Int) × Int)) (z : (((List Int) × Int) ⊕ (List Int))) (H : FSixdotref29_Matching_L1 n p0_ x.1 x.2 = some z) : WP (cxk 31 []) (bodyOf Try.f12) [1,1,0,1,0,0] (roundQ (fun (x : ((List Int) × Int)) => f12_s2 p0_ x.1 x.2) (FSixdotref29_Matching_L1_E p0_) z) (f12_s2 p0_ x.1 x.2) := by
  obtain ⟨out_1, i_9⟩ := x
  dsimp only [FSixdotref29_Matching_L1] at H
  refine sq ?_
  refine sr ?_
  refine ck 3 ?_
  refine sp (at_len eU8 p0_.From) ?_
  refine ck 3 ?_
  refine gc 1 (decide (i_9 < ((List.length p0_.From : Nat) : Int))) ?_
  refine pA ?_
  refine en ?_
  refine cn H (fun H => ?_) (fun H => ?_)
  · refine sk ?_
    refine qz ?_
    refine sq ?_
    refine bk 1 ?_
    refine rz ?_
    refine ck 5 ?_
    refine bx H fun x35 h130 H => ?_
    refine sp (at_idxD eU8 h130) ?_
    refine ck 5 ?_
    refine bx H fun l25 h131 H => ?_
    refine sp (at_appO eI64 4 1 h131) ?_
    refine ck 2 ?_
    refine ae ?_
    refine qN ?_
    refine qz ?_
    refine rz ?_
    refine ck 3 ?_
    refine ae ?_
    cases H
    exact og (sh_gc [1,2,3,4] (by kernel_rfl))
  · refine ex 0 ?_
    refine qx ?_
    cases H
    exact oe ⟨rfl, sh_gc [2,3] (by kernel_rfl)⟩
theorem FSixdotref29_Matching_ok {n : Nat} {p0_ : GRaw} {z : GMatching} (H : FSixdotref29_Matching n p0_ = some z) : CallOK Try.prog 12 [.agg [.d (.int .u8 p0_.N), .d (.sl (List.map eU8 p0_.From)), .d (.sl (List.map eU8 p0_.L))]] (.agg [.own 1 (List.map eI64 z.From), .d (.int .i64 z.Missing)]) := by
  dsimp only [FSixdotref29_Matching] at H
  refine fo (Γ := cxk 31 []) (s := f12_s1 p0_) follows (cxkOK 31 []) Try.func12 ?_
  refine sr ?_
  refine ck 2 ?_
  refine en ?_
  refine sr ?_
  refine ck 3 ?_
  refine en ?_
  refine sq ?_
  refine sr ?_
  refine ck 1 ?_
  refine en ?_
  refine bk 0 ?_
  refine bx H fun y33 h132 H => ?_
  refine lp (fun (x : ((List Int) × Int)) => f12_s2 p0_ x.1 x.2) (FSixdotref29_Matching_L1_E p0_) h132 (Shift.trans (Shift.trans (sh_nilc 1 0 1 (by kernel_rfl)) (sh_nilc 2 0 1 (by kernel_rfl))) (sh_gc [1,2,3,4] (by kernel_rfl))) (fun x z => FSixdotref29_Matching_L1_ok x z) ?_
  intro e s hE23
  obtain ⟨rfl, hE23⟩ := hE23
  refine qH ?_
  refine qs (hE23) ?_
  refine sr ?_
  refine ck 2 ?_
  refine en ?_
  refine re ?_
  injection H with H
  subst H
  exact pr (rO (v := .agg [.osl 3 1 0 (List.length y33), .d (.int .i64 0)]) [3] (a1 (c1 vo (c1 vd (c0)))))
end
section
variable (p0_ : GSpool) (p1_ : GMatching)
def f19_s1 : St := ⟨(0, .agg [.d (.sl (List.map eI64 p0_.Tries)), .d (.sl (List.map eB p0_.Done)), .d (.sl (List.map eI64 p0_.Taken)), .d (.int .i64 p0_.Now), .d (.bool p0_.Sealed)]) :: (1, .agg [.d (.sl (List.map eI64 p1_.From)), .d (.int .i64 p1_.Missing)]) :: [], []⟩
variable (j_1 : Int)
def f19_s2 : St := ⟨(2, .ptr 0 0) :: (3, .ptr 1 0) :: (4, .ptr 2 0) :: (5, .d (.int .i64 j_1)) :: [], [some (.box [.d (.sl (List.map eI64 p0_.Tries)), .d (.sl (List.map eB p0_.Done)), .d (.sl (List.map eI64 p0_.Taken)), .d (.int .i64 p0_.Now), .d (.bool p0_.Sealed)]), some (.box [.d (.sl (List.map eI64 p1_.From)), .d (.int .i64 p1_.Missing)]), some (.box [.d (.int .i64 0), .d (.int .i64 0), .d (.int .i64 0)])]⟩
def f19_s3  : St := ⟨(4, .ptr 0 0) :: [], [some (.box [.d (.int .i64 0), .d (.int .i64 0), .d (.int .i64 0)])]⟩
def FSixdotref29_Next_L1_E (_ : GSpool) (_ : GMatching) : (Unit ⊕ GRecord) → Ex → St → Prop := fun y => Sum.casesOn y (fun (_ : Unit) e s => e = Ex.exit 0 ∧ Shift s (f19_s3)) (fun (y : GRecord) e s => e = Ex.ret ∧ RA ty (Try.f19).results.toList (.agg [.d (.int .i64 y.Kind), .d (.int .i64 y.A), .d (.int .i64 y.B)]) s)
theorem FSixdotref29_Next_L1_ok {n : Nat} {p0_ : GSpool} {p1_ : GMatching} (x : Int) (z : (Int ⊕ (Unit ⊕ GRecord))) (H : FSixdotref29_Next_L1 n p0_ p1_ x = some z) : WP (cxk 72 []) (bodyOf Try.f19) [1,1,1,0,1,0,0] (roundQ (fun (x : Int) => f19_s2 p0_ p1_ x) (FSixdotref29_Next_L1_E p0_ p1_) z) (f19_s2 p0_ p1_ x) := by
  revert H
  generalize x = j_1
  intro H
  dsimp only [FSixdotref29_Next_L1] at H
  refine sq ?_
  refine sr ?_
  refine ck 3 ?_
  refine sp (at_len eB p0_.Done) ?_
  refine ck 1 ?_
  refine en ?_
  refine cn H (fun H => ?_) (fun H => ?_)
  · refine sk ?_
    refine qz ?_
    refine sq ?_
    refine bk 1 ?_
    refine sq ?_
    refine sr ?_
    refine ck 3 ?_
    refine bx H fun x37 h134 H => ?_
    refine sp (at_idxD eB h134) ?_
    refine ck 1 ?_
    refine en ?_
    refine cn H (fun H => ?_) (fun H => ?_)
    · refine ex 1 ?_
      refine qx ?_
      refine qH ?_
      refine qz ?_
      refine rz ?_
      refine ck 3 ?_
      refine ae ?_
      cases H
      exact og (sh_gc [2,3,4,5] (by kernel_rfl))
    · refine sk ?_
      refine qz ?_
      refine sq ?_
      refine sr ?_
      refine ck 3 ?_
      refine sp (at_len eI64 p1_.From) ?_
      refine ck 3 ?_
      refine gc 1 (decide (j_1 < ((List.length p1_.From : Nat) : Int))) ?_
      refine ck 1 ?_
      refine bx H fun x38 h135 H => ?_
      refine sG (fun hg => at_idxD eI64 (gimp h135 hg)) (impK (fun hh => hh) (impK (fun hh => hh) (impZ))) ?_
      refine gc 2 (decide (j_1 < ((List.length p1_.From : Nat) : Int))) ?_
      refine pA ?_
      refine ck 3 ?_
      refine gc 1 ((decide (j_1 < ((List.length p1_.From : Nat) : Int))) && (decide (x38 ≥ 0))) ?_
      refine ck 1 ?_
      refine bx H fun x39 h136 H => ?_
      refine sG (fun hg => at_idxD eI64 (gimp h136 hg)) (impK (fun hh => hh) (impK (fun hh => hh) (impZ))) ?_
      refine gc 1 ((decide (j_1 < ((List.length p1_.From : Nat) : Int))) && (decide (x38 ≥ 0))) ?_
      refine bx H fun r60 h137 H => ?_
      refine cG false (leZ) rfl (fun hg => FSixdotref29_taken_ok (gimp h137 hg)) (Or.inl rfl) (impK (fun hh => hh) (impK (fun hh => hh) (impZ))) rfl ?_
      refine gc 1 ((decide (j_1 < ((List.length p1_.From : Nat) : Int))) && (decide (x38 ≥ 0))) ?_
      refine pA ?_
      refine en ?_
      refine cn H (fun H => ?_) (fun H => ?_)
      · refine sr ?_
        refine ck 4 ?_
        refine bx H fun x40 h138 H => ?_
        refine sp (at_idxD eI64 h138) ?_
        refine ck 3 ?_
        refine en ?_
        refine re ?_
        refine qr ?_
        refine qR ?_
        refine qr ?_
        cases H
        exact or ⟨rfl, rd⟩
      · refine sk ?_
        refine qz ?_
        refine sr ?_
        refine ck 4 ?_
        refine bx H fun x41 h139 H => ?_
        refine sp (at_idxD eI64 h139) ?_
        refine ck 4 ?_
        refine en ?_
        refine re ?_
        refine qR ?_
        refine qr ?_
        cases H
        exact or ⟨rfl, rd⟩
  · refine ex 0 ?_
    refine qx ?_
    cases H
    exact oe ⟨rfl, sh_gc [4] (by kernel_rfl)⟩
theorem FSixdotref29_Next_ok {n : Nat} {p0_ : GSpool} {p1_ : GMatching} {z : GRecord} (H : FSixdotref29_Next n p0_ p1_ = some z) : CallOK Try.prog 19 [.agg [.d (.sl (List.map eI64 p0_.Tries)), .d (.sl (List.map eB p0_.Done)), .d (.sl (List.map eI64 p0_.Taken)), .d (.int .i64 p0_.Now), .d (.bool p0_.Sealed)], .agg [.d (.sl (List.map eI64 p1_.From)), .d (.int .i64 p1_.Missing)]] (.agg [.d (.int .i64 z.Kind), .d (.int .i64 z.A), .d (.int .i64 z.B)]) := by
  dsimp only [FSixdotref29_Next] at H
  refine fo (Γ := cxk 72 []) (s := f19_s1 p0_ p1_) follows (cxkOK 72 []) Try.func19 ?_
  refine sr ?_
  refine ck 3 ?_
  refine en ?_
  refine sq ?_
  refine sr ?_
  refine ck 2 ?_
  refine en ?_
  refine cn H (fun H => ?_) (fun H => ?_)
  · refine sr ?_
    refine ck 2 ?_
    refine en ?_
    refine re ?_
    refine qr ?_
    injection H with H
    subst H
    exact pr (rd)
  · refine sk ?_
    refine qz ?_
    refine sq ?_
    refine sr ?_
    refine ck 3 ?_
    refine en ?_
    refine cn H (fun H => ?_) (fun H => ?_)
    · refine sr ?_
      refine ck 6 ?_
      refine bx H fun x36 h133 H => ?_
      refine sp (at_idxD eI64 h133) ?_
      refine ck 3 ?_
      refine en ?_
      refine re ?_
      refine qr ?_
      injection H with H
      subst H
      exact pr (rd)
    · refine sk ?_
      refine qz ?_
      refine sq ?_
      refine sr ?_
      refine ck 1 ?_
      refine en ?_
      refine bk 0 ?_
      refine bx H fun y34 h140 H => ?_
      rcases y34 with y35 | y36
      · refine lp (fun (x : Int) => f19_s2 p0_ p1_ x) (FSixdotref29_Next_L1_E p0_ p1_) h140 (sh_gc [2,3,4,5] (by kernel_rfl)) (fun x z => FSixdotref29_Next_L1_ok x z) ?_
        intro e s hE24
        obtain ⟨rfl, hE24⟩ := hE24
        refine qH ?_
        refine qs (hE24) ?_
        refine sr ?_
        refine ck 2 ?_
        refine en ?_
        refine re ?_
        injection H with H
        subst H
        exact pr (rd)
      · refine lp (fun (x : Int) => f19_s2 p0_ p1_ x) (FSixdotref29_Next_L1_E p0_ p1_) h140 (sh_gc [2,3,4,5] (by kernel_rfl)) (fun x z => FSixdotref29_Next_L1_ok x z) ?_
        intro e s hE25
        obtain ⟨rfl, hE25⟩ := hE25
        refine qR ?_
        refine qr ?_
        cases H
        exact pr hE25
end
section
variable (p0_ : Int)
def f21_s1 : St := ⟨(0, .d (.int .u8 p0_)) :: [], []⟩
theorem FSixdotref29_Arbitrary_ok {n : Nat} {p0_ : Int} {z : GRecord} (H : FSixdotref29_Arbitrary n p0_ = some z) : CallOK Try.prog 21 [.d (.int .u8 p0_)] (.agg [.d (.int .i64 z.Kind), .d (.int .i64 z.A), .d (.int .i64 z.B)]) := by
  dsimp only [FSixdotref29_Arbitrary] at H
  refine fo (Γ := cxk 16 []) (s := f21_s1 p0_) follows (cxkOK 16 []) Try.func21 ?_
  refine sr ?_
  refine ck 1 ?_
  refine en ?_
  refine sr ?_
  refine ck 3 ?_
  refine en ?_
  refine sr ?_
  refine ck 11 ?_
  refine en ?_
  refine re ?_
  injection H with H
  subst H
  exact pr (rd)
end
section
variable (p0_ : GRaw)
def f11_s1 : St := ⟨(0, .agg [.d (.int .u8 p0_.N), .d (.sl (List.map eU8 p0_.From)), .d (.sl (List.map eU8 p0_.L))]) :: [], []⟩
variable (out_3 : (List GRecord)) (s_26 : GSpool) (i_10 : Int)
def f11_s2 : St := ⟨(1, .ptr 0 0) :: (3, .osl 1 3 0 (List.length out_3)) :: (4, .ptr 2 0) :: (5, .d (.int .i64 i_10)) :: [], [some (.box [.d (.int .u8 p0_.N), .d (.sl (List.map eU8 p0_.From)), .d (.sl (List.map eU8 p0_.L))]), some (.arr 3 (List.map eGRecord out_3)), some (.box [.d (.sl (List.map eI64 s_26.Tries)), .d (.sl (List.map eB s_26.Done)), .d (.sl (List.map eI64 s_26.Taken)), .d (.int .i64 s_26.Now), .d (.bool s_26.Sealed)])]⟩
variable (out_4 : (List GRecord))
def f11_s3 : St := ⟨(3, .osl 0 3 0 (List.length out_4)) :: [], [some (.arr 3 (List.map eGRecord out_4))]⟩
variable (r_3 : GRecord)
def f11_s4 : St := ⟨(1, .ptr 0 0) :: (3, .osl 1 3 0 (List.length out_3)) :: (4, .ptr 2 0) :: (5, .d (.int .i64 i_10)) :: (6, .ptr 3 0) :: [], [some (.box [.d (.int .u8 p0_.N), .d (.sl (List.map eU8 p0_.From)), .d (.sl (List.map eU8 p0_.L))]), some (.arr 3 (List.map eGRecord out_3)), some (.box [.d (.sl (List.map eI64 s_26.Tries)), .d (.sl (List.map eB s_26.Done)), .d (.sl (List.map eI64 s_26.Taken)), .d (.int .i64 s_26.Now), .d (.bool s_26.Sealed)]), some (.box [.d (.int .i64 r_3.Kind), .d (.int .i64 r_3.A), .d (.int .i64 r_3.B)])]⟩
variable (r_4 : GRecord)
def f11_s5 : St := ⟨(1, .ptr 0 0) :: (3, .osl 1 3 0 (List.length out_3)) :: (4, .ptr 2 0) :: (5, .d (.int .i64 i_10)) :: (6, .ptr 3 0) :: [], [some (.box [.d (.int .u8 p0_.N), .d (.sl (List.map eU8 p0_.From)), .d (.sl (List.map eU8 p0_.L))]), some (.arr 3 (List.map eGRecord out_3)), some (.box [.d (.sl (List.map eI64 s_26.Tries)), .d (.sl (List.map eB s_26.Done)), .d (.sl (List.map eI64 s_26.Taken)), .d (.int .i64 s_26.Now), .d (.bool s_26.Sealed)]), some (.box [.d (.int .i64 r_4.Kind), .d (.int .i64 r_4.A), .d (.int .i64 r_4.B)])]⟩
def FSixdotref29_Records_L1_E (_ : GRaw) : ((List GRecord) ⊕ (List GRecord)) → Ex → St → Prop := fun y => Sum.casesOn y (fun (y : (List GRecord)) e s => e = Ex.exit 0 ∧ Shift s (f11_s3 y)) (fun (y : (List GRecord)) e s => e = Ex.ret ∧ RA ty (Try.f11).results.toList (.own 3 (List.map eGRecord y)) s)
theorem FSixdotref29_Records_L1_ok {n : Nat} {p0_ : GRaw} (x : ((List GRecord) × GSpool × Int)) (z : (((List GRecord) × GSpool × Int) ⊕ ((List GRecord) ⊕ (List GRecord)))) (H : FSixdotref29_Records_L1 n p0_ x.1 x.2.1 x.2.2 = some z) : WP (cxk 69 []) (bodyOf Try.f11) [1,1,0,1,0,0] (roundQ (fun (x : ((List GRecord) × GSpool × Int)) => f11_s2 p0_ x.1 x.2.1 x.2.2) (FSixdotref29_Records_L1_E p0_) z) (f11_s2 p0_ x.1 x.2.1 x.2.2) := by
  obtain ⟨out_3, s_26, i_10⟩ := x
  dsimp only [FSixdotref29_Records_L1] at H
  refine sq ?_
  refine sr ?_
  refine ck 3 ?_
  refine sp (at_len eU8 p0_.L) ?_
  refine ck 3 ?_
  refine gc 1 (decide (i_10 < ((List.length p0_.L : Nat) : Int))) ?_
  refine pA ?_
  refine en ?_
  refine cn H (fun H => ?_) (fun H => ?_)
  · refine sk ?_
    refine qz ?_
    refine sq ?_
    refine bk 1 ?_
    refine sr ?_
    refine ck 2 ?_
    refine bx H fun r63 h143 H => ?_
    refine ca false (FSixdotref29_Matching_ok h143) ?_
    refine bx H fun r64 h144 H => ?_
    refine ca false (FSixdotref29_Next_ok h144) ?_
    refine ck 2 ?_
    refine en ?_
    refine sj (fun (x : GRecord) => f11_s4 p0_ out_3 s_26 i_10 x) (fun (x : GRecord) => FSixdotref29_Records_J1 n p0_ out_3 s_26 i_10 x) z ?_ (fun hFSixdotref29_Records_J1 => ?_)
    · intro r_3 H
      dsimp only [FSixdotref29_Records_J1] at H
      refine sj (fun (x : GRecord) => f11_s5 p0_ out_3 s_26 i_10 x) (fun (x : GRecord) => FSixdotref29_Records_J2 n out_3 s_26 i_10 x) z ?_ (fun hFSixdotref29_Records_J2 => ?_)
      · intro r_4 H
        dsimp only [FSixdotref29_Records_J2] at H
        refine sr ?_
        refine ck 2 ?_
        refine bx H fun r65 h145 H => ?_
        refine ca false (FSixdotref29_Step_ok h145) ?_
        refine ck 6 ?_
        refine en ?_
        refine sr ?_
        refine ck 3 ?_
        refine bx H fun l26 h146 H => ?_
        refine sp (at_appO eGRecord 1 3 h146) ?_
        refine ck 1 ?_
        refine en ?_
        refine sq ?_
        refine sr ?_
        refine ck 2 ?_
        refine en ?_
        refine cn H (fun H => ?_) (fun H => ?_)
        · refine sr ?_
          refine ck 2 ?_
          refine en ?_
          refine re ?_
          refine qr ?_
          refine qR ?_
          refine qr ?_
          cases H
          exact or ⟨rfl, rO (v := .osl 6 3 0 (List.length l26)) [6] (ao vo)⟩
        · refine sk ?_
          refine qz ?_
          refine rz ?_
          refine ck 2 ?_
          refine ae ?_
          refine qN ?_
          refine qz ?_
          refine rz ?_
          refine ck 3 ?_
          refine ae ?_
          cases H
          exact og (sh_gc [1,3,4,5] (by kernel_rfl))
      refine sr ?_
      refine ck 3 ?_
      refine bx H fun x42 h147 H => ?_
      refine sp (at_idxD eU8 h147) ?_
      refine ck 2 ?_
      refine en ?_
      refine cn H (fun H => ?_) (fun H => ?_)
      · refine rz ?_
        refine ck 3 ?_
        refine bx H fun x43 h148 H => ?_
        refine sp (at_idxD eU8 h148) ?_
        refine ck 2 ?_
        refine bx H fun r66 h149 H => ?_
        refine ca false (FSixdotref29_Arbitrary_ok h149) ?_
        refine ck 1 ?_
        refine ae ?_
        exact qs (sh_gc [1,3,4,5,6] (by kernel_rfl)) (hFSixdotref29_Records_J2 r66 H)
      · refine sk ?_
        exact qs (sh_gc [1,3,4,5,6] (by kernel_rfl)) (hFSixdotref29_Records_J2 r_3 H)
    refine sr ?_
    refine ck 5 ?_
    refine gc 1 (decide (s_26.Now ≥ 0)) ?_
    refine ck 1 ?_
    refine bx H fun x44 h150 H => ?_
    refine sG (fun hg => at_idxD eU8 (gimp h150 hg)) (impK (fun hh => hh) (impK (fun hh => hh) (impZ))) ?_
    refine gc 3 (decide (s_26.Now ≥ 0)) ?_
    refine pA ?_
    refine en ?_
    refine cn H (fun H => ?_) (fun H => ?_)
    · refine rz ?_
      refine ck 2 ?_
      refine ae ?_
      exact qs (sh_gc [1,3,4,5,6] (by kernel_rfl)) (hFSixdotref29_Records_J1 ({ Kind := 2, A := r64.A, B := r64.B } : GRecord) H)
    · refine sk ?_
      exact qs (sh_gc [1,3,4,5,6] (by kernel_rfl)) (hFSixdotref29_Records_J1 r64 H)
  · refine ex 0 ?_
    refine qx ?_
    cases H
    exact oe ⟨rfl, sh_gc [3] (by kernel_rfl)⟩
theorem FSixdotref29_Records_ok {n : Nat} {p0_ : GRaw} {z : (List GRecord)} (H : FSixdotref29_Records n p0_ = some z) : CallOK Try.prog 11 [.agg [.d (.int .u8 p0_.N), .d (.sl (List.map eU8 p0_.From)), .d (.sl (List.map eU8 p0_.L))]] (.own 3 (List.map eGRecord z)) := by
  dsimp only [FSixdotref29_Records] at H
  refine fo (Γ := cxk 69 []) (s := f11_s1 p0_) follows (cxkOK 69 []) Try.func11 ?_
  refine sr ?_
  refine ck 2 ?_
  refine en ?_
  refine sr ?_
  refine ck 2 ?_
  refine bx H fun r61 h141 H => ?_
  refine ca false (FSixdotref29_Jobs_ok h141) ?_
  refine bx H fun r62 h142 H => ?_
  refine ca false (FSixdotref29_New_ok h142) ?_
  refine ck 3 ?_
  refine en ?_
  refine sq ?_
  refine sr ?_
  refine ck 1 ?_
  refine en ?_
  refine bk 0 ?_
  refine bx H fun y37 h151 H => ?_
  rcases y37 with y38 | y39
  · refine lp (fun (x : ((List GRecord) × GSpool × Int)) => f11_s2 p0_ x.1 x.2.1 x.2.2) (FSixdotref29_Records_L1_E p0_) h151 (sh_gc [1,3,4,5] (by kernel_rfl)) (fun x z => FSixdotref29_Records_L1_ok x z) ?_
    intro e s hE26
    obtain ⟨rfl, hE26⟩ := hE26
    refine qH ?_
    refine qs (hE26) ?_
    refine sr ?_
    refine ck 2 ?_
    refine en ?_
    refine re ?_
    injection H with H
    subst H
    exact pr (rO (v := .osl 0 3 0 (List.length y38)) [0] (ao vo))
  · refine lp (fun (x : ((List GRecord) × GSpool × Int)) => f11_s2 p0_ x.1 x.2.1 x.2.2) (FSixdotref29_Records_L1_E p0_) h151 (sh_gc [1,3,4,5] (by kernel_rfl)) (fun x z => FSixdotref29_Records_L1_ok x z) ?_
    intro e s hE27
    obtain ⟨rfl, hE27⟩ := hE27
    refine qR ?_
    refine qr ?_
    cases H
    exact pr hE27
end
section
variable (p0_ : GSpool) (p1_ : GMatching)
def f24_s1 : St := ⟨(0, .agg [.d (.sl (List.map eI64 p0_.Tries)), .d (.sl (List.map eB p0_.Done)), .d (.sl (List.map eI64 p0_.Taken)), .d (.int .i64 p0_.Now), .d (.bool p0_.Sealed)]) :: (1, .agg [.d (.sl (List.map eI64 p1_.From)), .d (.int .i64 p1_.Missing)]) :: [], []⟩
variable (s_27 : GSpool) (out_5 : (List GRecord)) (i_12 : Int)
def f24_s2 : St := ⟨(2, .ptr 0 0) :: (3, .ptr 1 0) :: (5, .ptr 2 0) :: (7, .osl 3 3 0 (List.length out_5)) :: (8, .d (.int .i64 ((List.length p0_.Done : Nat) : Int))) :: (9, .d (.int .i64 i_12)) :: [], [some (.box [.d (.sl (List.map eI64 s_27.Tries)), .d (.sl (List.map eB s_27.Done)), .d (.sl (List.map eI64 s_27.Taken)), .d (.int .i64 s_27.Now), .d (.bool s_27.Sealed)]), some (.box [.d (.sl (List.map eI64 p1_.From)), .d (.int .i64 p1_.Missing)]), some (.box [.osl 4 1 0 (List.length ([] : List Int)), .osl 5 1 0 (List.length ([] : List Bool)), .osl 6 1 0 (List.length ([] : List Int)), .d (.int .i64 0), .d (.bool false)]), some (.arr 3 (List.map eGRecord out_5)), some (.arr 1 (List.map eI64 ([] : List Int))), some (.arr 1 (List.map eB ([] : List Bool))), some (.arr 1 (List.map eI64 ([] : List Int)))]⟩
variable (s_28 : GSpool) (out_6 : (List GRecord))
def f24_s3 : St := ⟨(2, .ptr 0 0) :: (5, .ptr 1 0) :: (7, .osl 2 3 0 (List.length out_6)) :: [], [some (.box [.d (.sl (List.map eI64 s_28.Tries)), .d (.sl (List.map eB s_28.Done)), .d (.sl (List.map eI64 s_28.Taken)), .d (.int .i64 s_28.Now), .d (.bool s_28.Sealed)]), some (.box [.osl 3 1 0 (List.length ([] : List Int)), .osl 4 1 0 (List.length ([] : List Bool)), .osl 5 1 0 (List.length ([] : List Int)), .d (.int .i64 0), .d (.bool false)]), some (.arr 3 (List.map eGRecord out_6)), some (.arr 1 (List.map eI64 ([] : List Int))), some (.arr 1 (List.map eB ([] : List Bool))), some (.arr 1 (List.map eI64 ([] : List Int)))]⟩
variable (s_29 : GSpool) (out_7 : (List GRecord))
def f24_s4 : St := ⟨(2, .ptr 0 0) :: (3, .ptr 1 0) :: (5, .ptr 2 0) :: (7, .osl 3 3 0 (List.length out_7)) :: (8, .d (.int .i64 ((List.length p0_.Done : Nat) : Int))) :: (9, .d (.int .i64 i_12)) :: [], [some (.box [.d (.sl (List.map eI64 s_29.Tries)), .d (.sl (List.map eB s_29.Done)), .d (.sl (List.map eI64 s_29.Taken)), .d (.int .i64 s_29.Now), .d (.bool s_29.Sealed)]), some (.box [.d (.sl (List.map eI64 p1_.From)), .d (.int .i64 p1_.Missing)]), some (.box [.osl 4 1 0 (List.length ([] : List Int)), .osl 5 1 0 (List.length ([] : List Bool)), .osl 6 1 0 (List.length ([] : List Int)), .d (.int .i64 0), .d (.bool false)]), some (.arr 3 (List.map eGRecord out_7)), some (.arr 1 (List.map eI64 ([] : List Int))), some (.arr 1 (List.map eB ([] : List Bool))), some (.arr 1 (List.map eI64 ([] : List Int)))]⟩
def FSixdotlaw29_rest_L1_E (_ : GSpool) (_ : GMatching) : ((GSpool × (List GRecord)) ⊕ ((List GRecord) × GSpool × Bool)) → Ex → St → Prop := fun y => Sum.casesOn y (fun (y : (GSpool × (List GRecord))) e s => e = Ex.exit 0 ∧ Shift s (f24_s3 y.1 y.2)) (fun (y : ((List GRecord) × GSpool × Bool)) e s => e = Ex.ret ∧ RA ty (Try.f24).results.toList (.tup [.own 3 (List.map eGRecord y.1), .agg [.d (.sl (List.map eI64 y.2.1.Tries)), .d (.sl (List.map eB y.2.1.Done)), .d (.sl (List.map eI64 y.2.1.Taken)), .d (.int .i64 y.2.1.Now), .d (.bool y.2.1.Sealed)], .d (.bool y.2.2)]) s)
theorem FSixdotlaw29_rest_L1_ok {n : Nat} {p0_ : GSpool} {p1_ : GMatching} (x : (GSpool × (List GRecord) × Int)) (z : ((GSpool × (List GRecord) × Int) ⊕ ((GSpool × (List GRecord)) ⊕ ((List GRecord) × GSpool × Bool)))) (H : FSixdotlaw29_rest_L1 n p0_ p1_ x.1 x.2.1 x.2.2 = some z) : WP (cxk 72 []) (bodyOf Try.f24) [1,1,0,1,0,0] (roundQ (fun (x : (GSpool × (List GRecord) × Int)) => f24_s2 p0_ p1_ x.1 x.2.1 x.2.2) (FSixdotlaw29_rest_L1_E p0_ p1_) z) (f24_s2 p0_ p1_ x.1 x.2.1 x.2.2) := by
  obtain ⟨s_27, out_5, i_12⟩ := x
  dsimp only [FSixdotlaw29_rest_L1] at H
  refine sq ?_
  refine sr ?_
  refine ck 5 ?_
  refine en ?_
  refine cn H (fun H => ?_) (fun H => ?_)
  · refine sk ?_
    refine qz ?_
    refine sj (fun (x : (GSpool × (List GRecord))) => f24_s4 p0_ p1_ i_12 x.1 x.2) (fun (x : (GSpool × (List GRecord))) => FSixdotlaw29_rest_J1 n i_12 x.1 x.2) z ?_ (fun hFSixdotlaw29_rest_J1 => ?_)
    · rintro ⟨s_29, out_7⟩ H
      dsimp only [FSixdotlaw29_rest_J1] at H
      refine rz ?_
      refine ck 3 ?_
      refine ae ?_
      cases H
      exact og (sh_gc [2,3,5,7,8,9] (by kernel_rfl))
    refine bk 1 ?_
    refine sr ?_
    refine ck 2 ?_
    refine bx H fun r88 h177 H => ?_
    refine ca false (FSpool_Next_ok h177) ?_
    refine ck 2 ?_
    refine en ?_
    refine sq ?_
    refine sr ?_
    refine ck 3 ?_
    refine en ?_
    refine cn H (fun H => ?_) (fun H => ?_)
    · refine sr ?_
      refine ck 3 ?_
      refine bx H fun r89 h178 H => ?_
      refine ca true (FSpool_Rest_ok h178) ?_
      refine ck 3 ?_
      refine en ?_
      refine re ?_
      refine qr ?_
      refine qR ?_
      refine qr ?_
      cases H
      exact or ⟨rfl, rT (vs := [.osl 3 3 0 (List.length out_5), .agg [.d (.sl (List.map eI64 s_27.Tries)), .d (.sl (List.map eB s_27.Done)), .d (.sl (List.map eI64 s_27.Taken)), .d (.int .i64 s_27.Now), .d (.bool s_27.Sealed)], .d (.bool r89)]) [3] (t1 (ao vo) (t1 (a1 (c1 vd (c1 vd (c1 vd (c1 vd (c1 vd (c0))))))) (t1 (ad vd) (t0))))⟩
    · refine sk ?_
      refine qz ?_
      refine sr ?_
      refine ck 2 ?_
      refine bx H fun r90 h179 H => ?_
      refine ca false (FSixdotref29_Step_ok h179) ?_
      refine ck 6 ?_
      refine en ?_
      refine sq ?_
      refine sr ?_
      refine ck 2 ?_
      refine en ?_
      refine cn H (fun H => ?_) (fun H => ?_)
      · refine sr ?_
        refine ck 5 ?_
        refine en ?_
        refine re ?_
        refine qr ?_
        refine qR ?_
        refine qr ?_
        cases H
        exact or ⟨rfl, rT (vs := [.osl 3 3 0 (List.length out_5), .agg [.d (.sl (List.map eI64 s_27.Tries)), .d (.sl (List.map eB s_27.Done)), .d (.sl (List.map eI64 s_27.Taken)), .d (.int .i64 s_27.Now), .d (.bool s_27.Sealed)], .d (.bool false)]) [3] (t1 (ao vo) (t1 (a1 (c1 vd (c1 vd (c1 vd (c1 vd (c1 vd (c0))))))) (t1 (ad vd) (t0))))⟩
      · refine sk ?_
        refine qz ?_
        refine sr ?_
        refine ck 3 ?_
        refine bx H fun l27 h180 H => ?_
        refine sp (at_appO eGRecord 3 3 h180) ?_
        refine ck 3 ?_
        refine en ?_
        refine sr ?_
        refine ck 3 ?_
        refine en ?_
        refine cn H (fun H => ?_) (fun H => ?_)
        · refine sr ?_
          refine ck 7 ?_
          refine en ?_
          refine sr ?_
          refine ck 2 ?_
          refine bx H fun r91 h181 H => ?_
          refine ca false (FSixdotref29_Step_ok h181) ?_
          refine ck 4 ?_
          refine en ?_
          refine rz ?_
          refine ck 3 ?_
          refine bx H fun l28 h182 H => ?_
          refine sp (at_appO eGRecord 10 3 h182) ?_
          refine ck 1 ?_
          refine ae ?_
          refine qN ?_
          exact qs (sh_gc [2,3,5,7,8,9] (by kernel_rfl)) (hFSixdotlaw29_rest_J1 (r91.1, l28) H)
        · refine sk ?_
          refine qN ?_
          exact qs (sh_gc [2,3,5,7,8,9] (by kernel_rfl)) (hFSixdotlaw29_rest_J1 (r90.1, l27) H)
  · refine ex 0 ?_
    refine qx ?_
    cases H
    exact oe ⟨rfl, sh_gc [2,5,7] (by kernel_rfl)⟩
theorem FSixdotlaw29_rest_ok {n : Nat} {p0_ : GSpool} {p1_ : GMatching} {z : ((List GRecord) × GSpool × Bool)} (H : FSixdotlaw29_rest n p0_ p1_ = some z) : CallOK Try.prog 24 [.agg [.d (.sl (List.map eI64 p0_.Tries)), .d (.sl (List.map eB p0_.Done)), .d (.sl (List.map eI64 p0_.Taken)), .d (.int .i64 p0_.Now), .d (.bool p0_.Sealed)], .agg [.d (.sl (List.map eI64 p1_.From)), .d (.int .i64 p1_.Missing)]] (.tup [.own 3 (List.map eGRecord z.1), .agg [.d (.sl (List.map eI64 z.2.1.Tries)), .d (.sl (List.map eB z.2.1.Done)), .d (.sl (List.map eI64 z.2.1.Taken)), .d (.int .i64 z.2.1.Now), .d (.bool z.2.1.Sealed)], .d (.bool z.2.2)]) := by
  dsimp only [FSixdotlaw29_rest] at H
  refine fo (Γ := cxk 72 []) (s := f24_s1 p0_ p1_) follows (cxkOK 72 []) Try.func24 ?_
  refine sr ?_
  refine ck 5 ?_
  refine en ?_
  refine sr ?_
  refine ck 3 ?_
  refine sp (at_len eB p0_.Done) ?_
  refine ck 2 ?_
  refine en ?_
  refine sq ?_
  refine sr ?_
  refine ck 1 ?_
  refine en ?_
  refine bk 0 ?_
  refine bx H fun y46 h183 H => ?_
  rcases y46 with y47 | y48
  · refine lp (fun (x : (GSpool × (List GRecord) × Int)) => f24_s2 p0_ p1_ x.1 x.2.1 x.2.2) (FSixdotlaw29_rest_L1_E p0_ p1_) h183 (Shift.trans (Shift.trans (Shift.trans (sh_nilc 2 0 1 (by kernel_rfl)) (sh_nilc 2 1 1 (by kernel_rfl))) (sh_nilc 2 2 1 (by kernel_rfl))) (sh_gc [2,3,5,7,8,9] (by kernel_rfl))) (fun x z => FSixdotlaw29_rest_L1_ok x z) ?_
    intro e s hE32
    obtain ⟨rfl, hE32⟩ := hE32
    refine qH ?_
    refine qs (hE32) ?_
    refine sr ?_
    refine ck 7 ?_
    refine en ?_
    refine re ?_
    injection H with H
    subst H
    exact pr (rT (vs := [.osl 2 3 0 (List.length y47.2), .agg [.d (.sl (List.map eI64 y47.1.Tries)), .d (.sl (List.map eB y47.1.Done)), .d (.sl (List.map eI64 y47.1.Taken)), .d (.int .i64 y47.1.Now), .d (.bool y47.1.Sealed)], .d (.bool y47.1.Sealed)]) [2] (t1 (ao vo) (t1 (a1 (c1 vd (c1 vd (c1 vd (c1 vd (c1 vd (c0))))))) (t1 (ad vd) (t0)))))
  · refine lp (fun (x : (GSpool × (List GRecord) × Int)) => f24_s2 p0_ p1_ x.1 x.2.1 x.2.2) (FSixdotlaw29_rest_L1_E p0_ p1_) h183 (Shift.trans (Shift.trans (Shift.trans (sh_nilc 2 0 1 (by kernel_rfl)) (sh_nilc 2 1 1 (by kernel_rfl))) (sh_nilc 2 2 1 (by kernel_rfl))) (sh_gc [2,3,5,7,8,9] (by kernel_rfl))) (fun x z => FSixdotlaw29_rest_L1_ok x z) ?_
    intro e s hE33
    obtain ⟨rfl, hE33⟩ := hE33
    refine qR ?_
    refine qr ?_
    cases H
    exact pr hE33
end
section
variable (p0_ : GRaw) (p1_ : Int)
def f8_s1 : St := ⟨(0, .agg [.d (.int .u8 p0_.N), .d (.sl (List.map eU8 p0_.From)), .d (.sl (List.map eU8 p0_.L))]) :: (1, .d (.int .u8 p1_)) :: [], []⟩
theorem FSixdotlaw29_SpoolEnds_ok {n : Nat} {p0_ : GRaw} {p1_ : Int} {z : Bool} (H : FSixdotlaw29_SpoolEnds n p0_ p1_ = some z) : CallOK Try.prog 8 [.agg [.d (.int .u8 p0_.N), .d (.sl (List.map eU8 p0_.From)), .d (.sl (List.map eU8 p0_.L))], .d (.int .u8 p1_)] (.d (.bool z)) := by
  dsimp only [FSixdotlaw29_SpoolEnds] at H
  refine fo (Γ := cxk 77 []) (s := f8_s1 p0_ p1_) follows (cxkOK 77 []) Try.func8 ?_
  refine sr ?_
  refine ck 2 ?_
  refine en ?_
  refine sr ?_
  refine bx H fun r131 h267 H => ?_
  refine ca false (FSixdotlaw29_sanity_ok h267) ?_
  refine ck 1 ?_
  refine en ?_
  refine sr ?_
  refine ck 1 ?_
  refine bx H fun r132 h268 H => ?_
  refine ca false (FSixdotref29_Jobs_ok h268) ?_
  refine ck 1 ?_
  refine bx H fun r133 h269 H => ?_
  refine ca false (FSixdotref29_Records_ok h269) ?_
  refine bx H fun r134 h270 H => ?_
  refine ca false (FSixdotref29_Replay_ok h270) ?_
  refine ck 6 ?_
  refine en ?_
  refine sr ?_
  refine ck 2 ?_
  refine bx H fun r135 h271 H => ?_
  refine ca false (FSpool_Step_ok h271) ?_
  refine ck 6 ?_
  refine en ?_
  refine sq ?_
  refine sr ?_
  refine ck 7 ?_
  refine bx H fun r136 h272 H => ?_
  refine cG false (leZ) rfl (fun hg => FSixdotref29_All_ok (gimp h272 hg)) (Or.inl rfl) (impK (fun hh => hh) (impZ)) rfl ?_
  refine pA ?_
  refine ck 2 ?_
  refine gc 2 ((r134.1.Now == (-1)) && r136) ?_
  refine pA ?_
  refine ck 1 ?_
  refine en ?_
  refine cn H (fun H => ?_) (fun H => ?_)
  · refine sr ?_
    refine ck 1 ?_
    refine en ?_
    refine re ?_
    refine qr ?_
    injection H with H
    subst H
    exact pr (rd)
  · refine sk ?_
    refine qz ?_
    refine sr ?_
    refine ck 2 ?_
    refine bx H fun r137 h273 H => ?_
    refine ca false (FSixdotref29_Matching_ok h273) ?_
    refine bx H fun r138 h274 H => ?_
    refine ca false (FSixdotlaw29_rest_ok h274) ?_
    refine ck 8 ?_
    refine en ?_
    refine sr ?_
    refine ck 2 ?_
    refine bx H fun r139 h275 H => ?_
    refine ca false (FSixdotref29_Arbitrary_ok h275) ?_
    refine bx H fun r140 h276 H => ?_
    refine ca false (FSpool_Step_ok h276) ?_
    refine ck 6 ?_
    refine en ?_
    refine sr ?_
    refine ck 4 ?_
    refine gc 1 r138.2.1.Sealed ?_
    refine pA ?_
    refine ck 3 ?_
    refine bx H fun r141 h277 H => ?_
    refine cG false (leZ) rfl (fun hg => FSixdotref29_Matching_ok (gimp h277 hg)) (Or.inl rfl) (impK (fun hh => hh) (impZ)) rfl ?_
    refine bx H fun r142 h278 H => ?_
    refine cG false (leZ) rfl (fun hg => FSpool_Next_ok (gimp h278 hg)) (Or.inl rfl) (impK (fun hh => hh) (impK (fun hh => hh) (impZ))) rfl ?_
    refine ck 1 ?_
    refine gc 1 (r138.2.1.Sealed && (r140.2 == 290)) ?_
    refine pA ?_
    refine ck 2 ?_
    refine pA ?_
    refine ck 1 ?_
    refine en ?_
    refine re ?_
    injection H with H
    subst H
    exact pr (rd)
end
end Go.AI
end
section
namespace Go.AI
def CRd (F : Nat → Option Obj) (l : List D) (cs : List Value) : Prop := l.length = cs.length ∧ ∀ (i : Nat) (y : D) (v : Value), l[i]? = some y → cs[i]? = some v → DRep F y v
def Reads {α : Type} (P : Program) (t : TypeId) (enc : α → List D) (ok : α → Prop) : Prop :=
  ∀ (H : Type) (e : TypeId × Value → H) (w : World) (base : Nat) (spare : Nat → Bool) (held : Bool) (fuel : Nat) (cs : List Value) (x : DataW H × List MemPlace), DataW.trod e P w base spare held fuel t cs = some x → ∃ a : α, ok a ∧ CRd (fun b => w.heap[b]?) (enc a) cs
theorem crd_one {F : Nat → Option Obj} {y : D} {v : Value} (h : DRep F y v) : CRd F [y] [v] := by
  refine ⟨rfl, fun i a b ha hb => ?_⟩
  cases i with
  | zero => simp at ha hb; subst ha; subst hb; exact h
  | succ i => simp at ha
theorem reads_int {P : Program} {t : TypeId} {k : IntKind} (ht : P.underlying t = some (.int k)) : Reads P t (fun n => [.int k n]) (fun n => (Lit.int k n).wf = true) := by
  intro H e w base spare held fuel cs x h
  obtain ⟨n, rfl, _, hw⟩ := DataW.trod_int ht h
  exact ⟨n, hw, crd_one (.int k n)⟩
theorem list_choose {α : Type} {Q : Nat → α → Prop} : ∀ n, (∀ i, i < n → ∃ a, Q i a) → ∃ l : List α, l.length = n ∧ ∀ i a, l[i]? = some a → Q i a := by
  intro n
  induction n with
  | zero => intro _; exact ⟨[], rfl, fun i a h => by simp at h⟩
  | succ n ih =>
    intro h
    obtain ⟨l, hl, hq⟩ := ih fun i hi => h i (by omega)
    obtain ⟨a, ha⟩ := h n (by omega)
    refine ⟨l ++ [a], by simp [hl], fun i b hb => ?_⟩
    rcases Nat.lt_or_ge i l.length with hlt | hge
    · rw [List.getElem?_append_left hlt] at hb; exact hq i b hb
    · rw [List.getElem?_append_right hge] at hb
      have : i - l.length = 0 := by have := getElem?_lt hb; simp at this; omega
      rw [this] at hb
      simp at hb
      subst hb
      have : i = n := by omega
      subst this
      exact ha
theorem mapM_get {α β : Type} {f : α → Option β} : ∀ {l : List α} {r : List β}, l.mapM f = some r → r.length = l.length ∧ ∀ (i : Nat) (a : α), l[i]? = some a → r[i]? = f a := by
  intro l
  induction l with
  | nil => intro r h; simp at h; subst h; exact ⟨rfl, fun i a h => by simp at h⟩
  | cons a l ih =>
    intro r h
    rw [List.mapM_cons] at h
    simp only [Option.bind_eq_bind, Option.bind_eq_some_iff, Option.pure_def, Option.some.injEq] at h
    obtain ⟨b, hb, r', hr', rfl⟩ := h
    obtain ⟨h1, h2⟩ := ih hr'
    refine ⟨by simp [h1], fun i x hx => ?_⟩
    cases i with
    | zero => simp at hx; subst hx; simp [hb]
    | succ i => simpa using h2 i x (by simpa using hx)
theorem reads_slice {α : Type} {P : Program} {t e : TypeId} {enc : α → List D} {ok : α → Prop} {sz : Nat} (ht : P.underlying t = some (.slice e)) (hsz : P.cellsOf e = sz) (h1 : Nat.ble 1 sz = true) (hl : ∀ a, (enc a).length = sz) (he : Reads P e enc ok) : Reads P t (eL enc) (fun l => ∀ a ∈ l, ok a) := by
  intro H en w base spare held fuel cs x h
  have h1 := Nat.le_of_ble_eq_true h1
  rcases DataW.trod_slice ht h with ⟨rfl, _⟩ | ⟨a, len, cap, elems, rest, n, _, rfl, _, _, hcap, _, hel, hget, _, _⟩
  · exact ⟨[], fun a h => by simp at h, crd_one (.sl0 _ _)⟩
  · rw [hsz] at hget
    have hex : ∀ i, i < len → ∃ y : α, ok y ∧ ∃ ci, w.cells? base (a.add (i * sz)) sz = some ci ∧ CRd (fun b => w.heap[b]?) (enc y) ci := fun i hi => by
      have hg := hget i hi
      rw [List.getElem?_eq_getElem (show i < elems.length by omega)] at hg
      simp only [Option.bind_eq_some_iff] at hg
      obtain ⟨ci, hc, htr⟩ := hg
      obtain ⟨y, hy, hcr⟩ := he H en w base spare held n ci _ htr
      exact ⟨y, hy, ci, hc, hcr⟩
    obtain ⟨l, hll, hq⟩ := list_choose len hex
    refine ⟨l, fun y hy => ?_, crd_one ?_⟩
    · obtain ⟨i, hi⟩ := List.mem_iff_getElem?.1 hy
      exact (hq i y hi).1
    · rcases Nat.eq_zero_or_pos len with h0 | hpos
      · have : l = [] := List.length_eq_zero_iff.1 (by omega)
        subst this; subst h0
        exact .sl0 _ _
      · -- the block
        have hcell : ∀ i y, l[i]? = some y → ∀ j, j < sz → ∃ v, w.cell? ((a.add (i * sz)).add j) = some v ∧ ∀ d, (enc y)[j]? = some d → DRep (fun b => w.heap[b]?) d v := fun i y hy j hj => by
          obtain ⟨_, ci, hc, hcr⟩ := hq i y hy
          unfold World.cells? at hc
          split at hc
          · obtain ⟨g1, g2⟩ := mapM_get hc
            have := g2 j j (by simp [hj])
            have hjc : j < ci.length := by rw [g1]; simpa using hj
            rw [List.getElem?_eq_getElem hjc] at this
            exact ⟨ci[j], this.symm, fun d hd => hcr.2 j d _ hd (List.getElem?_eq_getElem hjc)⟩
          · cases hc
        have h0 : l[0]? = some l[0] := List.getElem?_eq_getElem (by omega)
        obtain ⟨v0, hv0, _⟩ := hcell 0 _ h0 0 (by omega)
        have ha0 : (a.add (0 * sz)).add 0 = a := by simp [Addr.add]
        rw [ha0] at hv0
        obtain ⟨b, off, spot⟩ := a
        unfold World.cell? at hv0
        simp only at hv0
        split at hv0
        · rename_i c ty fr hblk
          cases spot with
          | some s => simp at hv0
          | none =>
            have hcell' : ∀ i y, l[i]? = some y → ∀ j d, (enc y)[j]? = some d → ∃ v, c[off + i * sz + j]? = some v ∧ DRep (fun b => w.heap[b]?) d v := fun i y hy j d hd => by
              have hj : j < sz := by rw [← hl y]; exact getElem?_lt hd
              obtain ⟨v, hv, hr⟩ := hcell i y hy j hj
              rw [add_none, add_none, cell_blk hblk] at hv
              exact ⟨v, hv, hr d hd⟩
            have hlen : (l.map enc).length = len := by simp [hll]
            have := DRep.sl (F := fun b => w.heap[b]?) (l.map enc) b off cap sz c ty fr (fun i j => (c[off + i * sz + j]?).getD undef) hblk (fun e he => by
                simp only [List.mem_map] at he
                obtain ⟨y, _, rfl⟩ := he
                exact hl y) (by omega) (fun i e hi j d hd => by
                simp only [List.getElem?_map, Option.map_eq_some_iff] at hi
                obtain ⟨y, hy, rfl⟩ := hi
                obtain ⟨v, hv, _⟩ := hcell' i y hy j d hd
                simp only [hv, Option.getD_some]) (fun i e hi j d hd => by
                simp only [List.getElem?_map, Option.map_eq_some_iff] at hi
                obtain ⟨y, hy, rfl⟩ := hi
                obtain ⟨v, hv, hr⟩ := hcell' i y hy j d hd
                simp only [hv, Option.getD_some]
                exact hr)
            rw [hlen] at this
            exact this
        · cases hv0
theorem crd_part {F : Nat → Option Obj} {l m : List D} {cs : List Value} {o n : Nat} (h : CRd F l ((cs.drop o).take n)) (hn : Nat.beq l.length n = true) (h' : CRd F m (cs.drop (o + n))) : CRd F (l ++ m) (cs.drop o) := by
  have hn := Nat.eq_of_beq_eq_true hn
  have e : cs.drop o = (cs.drop o).take n ++ cs.drop (o + n) := by rw [← List.drop_drop, List.take_append_drop]
  rw [e]
  refine ⟨by simp only [List.length_append, h.1, h'.1], fun i y v hy hv => ?_⟩
  rcases Nat.lt_or_ge i l.length with hlt | hge
  · rw [List.getElem?_append_left hlt] at hy
    rw [List.getElem?_append_left (by rw [← h.1]; exact hlt)] at hv
    exact h.2 i y v hy hv
  · rw [List.getElem?_append_right hge] at hy
    rw [List.getElem?_append_right (by rw [← h.1]; exact hge), ← h.1] at hv
    exact h'.2 _ y v hy hv
theorem crd_end {F : Nat → Option Obj} {cs : List Value} {o : Nat} (h : cs.length ≤ o) : CRd F [] (cs.drop o) := by
  rw [List.drop_eq_nil_of_le h]; exact ⟨rfl, fun i y v hy => by simp at hy⟩
end Go.AI
end
section
namespace Go.AI
open Go.ChangeShapes Go.WideShapes Go.ChangeAt Go.RowKit
variable {P : Program} {H : Type} {en : TypeId × Value → H} {W W' : World} {base : Nat} {spare : Nat → Bool} {held : Bool} {t e : TypeId} {v : Value} {d : DataW H} {ps : List MemPlace} {α : Type} {enc : α → List D} {ok : α → Prop}
theorem arg_agg {cs : Array Value} (hv : v = .agg cs) (hd : DataW.Trod en P W base spare held t v d ps) (hr : Reads P t enc ok) : ∃ a, ok a ∧ ARep (fun b => W.heap[b]?) noR (.agg ((enc a).map .d)) v := by
  subst hv
  obtain ⟨fuel, hf⟩ := hd
  obtain ⟨a, h1, h2, h3⟩ := hr H en W base spare held fuel _ _ hf
  refine ⟨a, h1, .agg _ _ (by simpa [Value.cells] using h2) fun i x u hx hu => ?_⟩
  simp only [List.getElem?_map, Option.map_eq_some_iff] at hx
  obtain ⟨y, hy, rfl⟩ := hx
  exact .d _ _ (h3 i y u hy (by simpa [Value.cells] using hu))
theorem arg_one {y : α → D} (hc : v.cells = #[v]) (hd : DataW.Trod en P W base spare held t v d ps) (hr : Reads P t enc ok) (he : ∀ a, enc a = [y a]) : ∃ a, ok a ∧ ARep (fun b => W.heap[b]?) noR (.d (y a)) v := by
  obtain ⟨fuel, hf⟩ := hd
  obtain ⟨a, h1, h2, h3⟩ := hr H en W base spare held fuel _ _ hf
  refine ⟨a, h1, .d _ _ (h3 0 (y a) v (by rw [he]; rfl) (by rw [hc]; rfl))⟩
theorem cr_nil {F : Nat → Option Obj} {ρ : Nat → Option Loc} : CR F ρ [] [] := ⟨rfl, fun i a v h => by simp at h⟩
theorem cr_cons {F : Nat → Option Obj} {ρ : Nat → Option Loc} {a : AV} {v : Value} {l : List AV} {vs : List Value} (h : ARep F ρ a v) (h' : CR F ρ l vs) : CR F ρ (a :: l) (v :: vs) := by
  refine ⟨by simp [h'.1], fun i x u hx hu => ?_⟩
  cases i with
  | zero => simp at hx hu; subst hx; subst hu; exact h
  | succ i => exact h'.2 i x u (by simpa using hx) (by simpa using hu)
theorem fld {w : World} {fuel : Nat} {cs : List Value} {fs : Array Field} {xs : List (DataW H × List MemPlace)} (hg : ∀ (i : Nat) (f : Field), fs[i]? = some f → DataW.trod en P w base spare held fuel f.type ((cs.drop f.offset).take (P.cellsOf f.type)) = xs[i]?) (hxl : xs.length = fs.size) (i : Nat) {f : Field} (hf : fs[i]? = some f) (u o n : Nat) (hu : f.type = u) (ho : f.offset = o) (hn : P.cellsOf u = n) (hr : Reads P u enc ok) :
    ∃ a, ok a ∧ CRd (fun b => w.heap[b]?) (enc a) ((cs.drop o).take n) := by
  have := hg i f hf
  have hi : i < xs.length := by rw [hxl]; exact getElem?_ltA hf
  rw [List.getElem?_eq_getElem hi, hu, ho, hn] at this
  exact hr H en w base spare held fuel _ _ this
theorem law_walk {f : FuncId} {args : List AV} {vs : Array Value} (hc : CallOK P f args (.d (.bool true))) (hcr : CR (fun b => W.heap[b]?) noR args vs.toList) : Calls P f vs W fun e W' => e = .returned (.bool true) ∧ Grown W W' ∧ ∀ b, b < W.heap.size → W'.heap[b]? = W.heap[b]? := by
  refine (hc.2 (fun b => W.heap[b]?) W vs hcr fun b o h => h).mono fun e W' h => ?_
  obtain ⟨v, F', ρ, rfl, hS, hr, hmu⟩ := h
  have hv : v = .bool true := by
    have : (impR true 0 (.d (.bool true))).1 = .d (.bool true) := rfl
    rw [this] at hr
    exact hr.bool
  subst hv
  have hold : ∀ b, b < W.heap.size → W'.heap[b]? = W.heap[b]? := fun b hb => hS.old b (by omega)
  refine ⟨rfl, ⟨⟨hmu.1, hmu.2.1, fun i hi => ?_⟩, fun a => ?_, hmu.2.2.2⟩, hold⟩
  · rw [hold i hi]
    cases hh : W.heap[i]? with
    | none => rfl
    | some o => cases o <;> first | exact ⟨rfl, rfl, rfl, fun _ _ => rfl⟩ | exact .inr ⟨rfl, rfl⟩ | rfl
  · by_cases hlt : a.block < W.heap.size
    · simp only [World.frozen?, hold _ hlt]
    · have h1 : W.frozen? a = false := by
        have : W.heap[a.block]? = none := by rw [Array.getElem?_eq_none_iff]; omega
        simp only [World.frozen?, this]
      rw [h1]
      cases hz : W'.frozen? a with
      | false => rfl
      | true => rw [hmu.2.2.1 a hz] at h1; cases h1
theorem stays (hl : laidOutB P = true) (hr : P.readableRec t = true) (hrow : t < P.types.size) (h : DataW.Trod en P W 0 (fun _ => true) true t v d ps) (hb : ∀ p ∈ ps, p.block < W.heap.size) {sp : Nat → Bool} (hs : ∀ p ∈ ps, sp p.block = true) (hold : ∀ b, b < W.heap.size → W'.heap[b]? = W.heap[b]?) : DataW.Trod en P W' 0 sp true t v d ps := by
  refine WideElems.Trod_stays hl hr hrow h (fun p hp => ?_) hs
  have := hb p hp
  cases p with
  | cell b o => exact World.cell?_of_block (w := W) (hold b this)
  | map b => exact hold b this
end Go.AI
end
section
namespace Go.AI
open Go.Proofs Go.ChangeShapes Go.WideShapes Go.ChangeAt Go.RowKit
def okI (k : IntKind) (n : Int) : Prop := (Lit.int k n).wf = true
theorem rd5 : Reads Try.prog 5 eU8 (okI .u8) := reads_int Try.underlying5
theorem rd22 : Reads Try.prog 22 (eL eU8) (fun l => ∀ a ∈ l, okI .u8 a) := reads_slice (sz := 1) Try.underlying22 (by kernel_rfl) rfl (fun _ => rfl) rd5
def okGRaw (x : GRaw) : Prop := okI .u8 x.N ∧ (∀ a ∈ x.From, okI .u8 a) ∧ (∀ a ∈ x.L, okI .u8 a)
theorem rd24 : Reads Try.prog 24 eGRaw okGRaw := by
  intro H e w base spare held fuel cs x h
  obtain ⟨xs, n, _, _, hcl, hxl, hg⟩ := DataW.trod_struct Try.underlying24 h
  have hcl : cs.length = 3 := hcl.trans (by kernel_rfl)
  obtain ⟨a0, k0, c0⟩ := fld hg hxl 0 rfl 5 0 1 rfl rfl (by kernel_rfl) rd5
  obtain ⟨a1, k1, c1⟩ := fld hg hxl 1 rfl 22 1 1 rfl rfl (by kernel_rfl) rd22
  obtain ⟨a2, k2, c2⟩ := fld hg hxl 2 rfl 22 2 1 rfl rfl (by kernel_rfl) rd22
  refine ⟨⟨a0, a1, a2⟩, ⟨k0, k1, k2⟩, ?_⟩
  have := crd_part c0 rfl (crd_part c1 rfl (crd_part c2 rfl (crd_end (Nat.le_of_eq hcl))))
  exact this
end Go.AI
end
section
namespace Go.AI
def Le {α : Type} (a b : Option α) : Prop := ∀ z, a = some z → b = some z
theorem Le.refl {α : Type} (a : Option α) : Le a a := fun _ h => h
theorem Le.bind {α β : Type} {a a' : Option α} {f f' : α → Option β} (h : Le a a') (hf : ∀ x, Le (f x) (f' x)) : Le (a.bind f) (a'.bind f') := by
  intro z hz
  obtain ⟨x, h1, h2⟩ := bind_some hz
  rw [h x h1]
  exact hf x z h2
theorem Le.ite {α : Type} {c : Prop} [Decidable c] {a a' b b' : Option α} (h : Le a a') (h' : Le b b') : Le (if c then a else b) (if c then a' else b') := by
  split
  · exact h
  · exact h'
theorem Le.whl {σ ρ : Type} {body body' : σ → Option (σ ⊕ ρ)} (hb : ∀ x, Le (body x) (body' x)) : ∀ {n m : Nat}, n ≤ m → ∀ x, Le (whl body n x) (whl body' m x) := by
  intro n
  induction n with
  | zero => intro m _ x z hz; cases hz
  | succ n ih =>
    intro m hm x z hz
    cases m with
    | zero => omega
    | succ m =>
      simp only [Go.AI.whl] at hz ⊢
      cases hx : body x with
      | none => rw [hx] at hz; cases hz
      | some y =>
        rw [hb x y hx]
        rw [hx] at hz
        cases y with
        | inl y => exact ih (by omega) y z hz
        | inr r => exact hz
def Ev {α : Type} (f : Nat → Option α) (z : α) : Prop := ∃ n, ∀ m, n ≤ m → f m = some z
theorem Ev.const {α : Type} {z : α} : Ev (fun _ => some z) z := ⟨0, fun _ _ => rfl⟩
theorem Ev.of {α : Type} {f : Nat → Option α} {z : α} (hm : ∀ n m, n ≤ m → Le (f n) (f m)) {n : Nat} (h : f n = some z) : Ev f z := ⟨n, fun m hnm => hm n m hnm z h⟩
theorem Ev.all {α : Type} {f : Nat → Option α} {z : α} (h : ∀ n, f n = some z) : Ev f z := ⟨0, fun m _ => h m⟩
theorem Ev.bind {α β : Type} {f : Nat → Option α} {g : Nat → α → Option β} {x : α} {z : β} (h : Ev f x) (hg : Ev (fun n => g n x) z) : Ev (fun n => (f n).bind (g n)) z := by
  obtain ⟨n, hn⟩ := h
  obtain ⟨m, hm⟩ := hg
  refine ⟨max n m, fun k hk => ?_⟩
  show (f k).bind (g k) = _
  rw [hn k (by omega)]
  exact hm k (by omega)
theorem Ev.out {α : Type} {f : Nat → Option α} {z : α} (h : Ev f z) : ∃ n, f n = some z := by
  obtain ⟨n, hn⟩ := h
  exact ⟨n, hn n (Nat.le_refl n)⟩
theorem Ev.congr {α : Type} {f g : Nat → Option α} {z : α} (h : Ev f z) (e : ∀ n, g n = f n) : Ev g z := by
  obtain ⟨n, hn⟩ := h
  exact ⟨n, fun m hm => by rw [e m]; exact hn m hm⟩
theorem Ev.whl {σ ρ : Type} {body : Nat → σ → Option (σ ⊕ ρ)} {r : ρ} (I : Nat → σ → Prop) (h : ∀ k x, I k x → (∃ y j, j < k ∧ I j y ∧ Ev (fun n => body n x) (.inl y)) ∨ Ev (fun n => body n x) (.inr r)) : ∀ (k : Nat) (x : σ), I k x → Ev (fun n => Go.AI.whl (body n) n x) r := by
  have key : ∀ (k : Nat) (x : σ), I k x → ∃ N c, ∀ n fuel, N ≤ n → c ≤ fuel → Go.AI.whl (body n) fuel x = some r := by
    intro k
    induction k using Nat.strongRecOn with
    | _ k ih =>
      intro x hx
      rcases h k x hx with ⟨y, j, hj, hy, N1, h1⟩ | ⟨N1, h1⟩
      · obtain ⟨N2, c, h2⟩ := ih j hj y hy
        refine ⟨max N1 N2, c + 1, fun n fuel hn hf => ?_⟩
        cases fuel with
        | zero => omega
        | succ fuel =>
          have e := h1 n (by omega)
          simp only at e
          simp only [Go.AI.whl, e]
          exact h2 n fuel (by omega) (by omega)
      · refine ⟨N1, 1, fun n fuel hn hf => ?_⟩
        cases fuel with
        | zero => omega
        | succ fuel =>
          have e := h1 n hn
          simp only at e
          simp only [Go.AI.whl, e]
  intro k x hx
  obtain ⟨N, c, hh⟩ := key k x hx
  exact ⟨max N c, fun m hm => hh m m (by omega) (by omega)⟩
end Go.AI
end
section
namespace Go.AI
def Tot {α : Type} (f : Nat → Option α) (P : α → Prop) : Prop := ∃ z, P z ∧ Ev f z
def Rd2 {σ ρ : Type} (I : σ → Prop) (P : ρ → Prop) : σ ⊕ ρ → Prop
  | .inl y => I y
  | .inr r => P r
variable {α β σ ρ : Type} {P R : α → Prop}
theorem Tot.ev {f : Nat → Option α} {z : α} (h : Tot f (fun x => x = z)) : Ev f z := by obtain ⟨_, rfl, h⟩ := h; exact h
theorem Ev.tot {f : Nat → Option α} {z : α} (h : Ev f z) (hp : P z) : Tot f P := ⟨z, hp, h⟩
theorem Tot.pure {z : α} (h : P z) : Tot (fun _ => some z) P := ⟨z, h, Ev.const⟩
theorem Tot.all {f : Nat → Option α} {z : α} (h : ∀ n, f n = some z) (hp : P z) : Tot f P := ⟨z, hp, Ev.all h⟩
theorem Tot.mono {f : Nat → Option α} (h : Tot f R) (hp : ∀ x, R x → P x) : Tot f P := by obtain ⟨z, hz, h⟩ := h; exact ⟨z, hp z hz, h⟩
theorem Tot.bind {f : Nat → Option β} {g : Nat → β → Option α} {R : β → Prop} (h : Tot f R) (k : ∀ x, R x → Tot (fun n => g n x) P) : Tot (fun n => (f n).bind (g n)) P := by
  obtain ⟨x, hx, h⟩ := h
  obtain ⟨z, hz, h'⟩ := k x hx
  exact ⟨z, hz, Ev.bind h h'⟩
theorem Tot.bindE {f : Nat → Option β} {g : Nat → β → Option α} {x : β} (h : Ev f x) (k : Tot (fun n => g n x) P) : Tot (fun n => (f n).bind (g n)) P := by
  obtain ⟨z, hz, h'⟩ := k
  exact ⟨z, hz, Ev.bind h h'⟩
theorem Tot.bindC {x : Option β} {y : β} {g : Nat → β → Option α} (h : x = some y) (k : Tot (fun n => g n y) P) : Tot (fun n => x.bind (g n)) P := by subst h; exact k
theorem Tot.bindA {f : Nat → Option β} {y : β} {g : Nat → β → Option α} (h : ∀ n, f n = some y) (k : Tot (fun n => g n y) P) : Tot (fun n => (f n).bind (g n)) P := Tot.bindE (Ev.all h) k
theorem Tot.ite {c : Bool} {a b : Nat → Option α} (h1 : c = true → Tot a P) (h2 : c = false → Tot b P) : Tot (fun n => if c = true then a n else b n) P := by
  cases c with
  | true => exact h1 rfl
  | false => exact h2 rfl
theorem Tot.iteT {c : Bool} {a b : Nat → Option α} (h : c = true) (k : Tot a P) : Tot (fun n => if c = true then a n else b n) P := by subst h; exact k
theorem Tot.iteF {c : Bool} {a b : Nat → Option α} (h : c = false) (k : Tot b P) : Tot (fun n => if c = true then a n else b n) P := by subst h; exact k
theorem Tot.guard {c : Bool} {f : Nat → Option β} {d : β} {g : Nat → β → Option α} {R : β → Prop} (h : c = true → Tot f R) (k : ∀ x, (c = true → R x) → Tot (fun n => g n x) P) : Tot (fun n => (if c = true then f n else some d).bind (g n)) P := by
  cases c with
  | true => exact Tot.bind (h rfl) fun x hx => k x fun _ => hx
  | false => exact k d fun h => by cases h
theorem Tot.congr {f g : Nat → Option α} (h : Tot f P) (e : ∀ n, g n = f n) : Tot g P := by obtain ⟨z, hz, h⟩ := h; exact ⟨z, hz, h.congr e⟩
theorem Tot.whl {body : Nat → σ → Option (σ ⊕ ρ)} {P : ρ → Prop} (I : Nat → σ → Prop) (h : ∀ k x, I k x → Tot (fun n => body n x) (Rd2 (fun y => ∃ j, j < k ∧ I j y) P)) : ∀ (k : Nat) (x : σ), I k x → Tot (fun n => Go.AI.whl (body n) n x) P := by
  have key : ∀ (k : Nat) (x : σ), I k x → ∃ r, P r ∧ ∃ N c, ∀ n fuel, N ≤ n → c ≤ fuel → Go.AI.whl (body n) fuel x = some r := by
    intro k
    induction k using Nat.strongRecOn with
    | _ k ih =>
      intro x hx
      obtain ⟨z, hz, N1, h1⟩ := h k x hx
      cases z with
      | inl y =>
        obtain ⟨j, hj, hy⟩ := hz
        obtain ⟨r, hr, N2, c, h2⟩ := ih j hj y hy
        refine ⟨r, hr, max N1 N2, c + 1, fun n fuel hn hf => ?_⟩
        cases fuel with
        | zero => omega
        | succ fuel =>
          have e := h1 n (by omega)
          simp only at e
          simp only [Go.AI.whl, e]
          exact h2 n fuel (by omega) (by omega)
      | inr r =>
        refine ⟨r, hz, N1, 1, fun n fuel hn hf => ?_⟩
        cases fuel with
        | zero => omega
        | succ fuel =>
          have e := h1 n hn
          simp only at e
          simp only [Go.AI.whl, e]
  intro k x hx
  obtain ⟨r, hr, N, c, hh⟩ := key k x hx
  exact ⟨r, hr, max N c, fun m hm => hh m m (by omega) (by omega)⟩
theorem Tot.upto {body : Nat → σ → Option (σ ⊕ ρ)} {P : ρ → Prop} (N : Nat) (I : Nat → σ → Prop)
    (step : ∀ i x, i < N → I i x → Tot (fun n => body n x) (Rd2 (I (i + 1)) P))
    (last : ∀ x, I N x → Tot (fun n => body n x) (Rd2 (fun _ => False) P)) (x : σ) (h0 : I 0 x) : Tot (fun n => Go.AI.whl (body n) n x) P := by
  refine Tot.whl (body := body) (fun k x => ∃ i, i ≤ N ∧ k = N - i ∧ I i x) ?_ N x ⟨0, by omega, by omega, h0⟩
  rintro k x ⟨i, hi, rfl, hx⟩
  rcases Nat.lt_or_ge i N with hlt | hge
  · refine (step i x hlt hx).mono fun z hz => ?_
    cases z with
    | inl y => exact ⟨N - (i + 1), by omega, i + 1, by omega, rfl, hz⟩
    | inr r => exact hz
  · have : i = N := by omega
    subst this
    refine (last x hx).mono fun z hz => ?_
    cases z with
    | inl y => exact hz.elim
    | inr r => exact hz
theorem idx_at {l : List α} {i : Nat} {x : α} (h : l[i]? = some x) : idx l (i : Int) = some x := by
  unfold idx
  rw [if_pos (by omega)]
  simpa using h
theorem idx_lt {l : List α} {i : Nat} (h : i < l.length) : idx l (i : Int) = some l[i] := idx_at (List.getElem?_eq_getElem h)
theorem app_le {eb : Nat} {xs ys : List α} (h : (xs.length + ys.length) * eb ≤ 70368744177664) : app eb xs ys = some (xs ++ ys) := by
  unfold app; rw [if_pos h]
end Go.AI
end
section
namespace Go.AI
theorem w64_def (a : Int) : IntKind.i64.wrap a = if decide (a % 18446744073709551616 ≥ 9223372036854775808) = true then a % 18446744073709551616 - 18446744073709551616 else a % 18446744073709551616 := rfl
theorem w64 {a : Int} (h : -9223372036854775808 ≤ a) (h' : a < 9223372036854775808) : IntKind.i64.wrap a = a := by
  rw [w64_def]
  simp only [decide_eq_true_eq]
  split <;> omega
theorem add64 {a b : Int} (h : -9223372036854775808 ≤ a + b) (h' : a + b < 9223372036854775808) : iadd .i64 a b = a + b := w64 h h'
theorem sub64 {a b : Int} (h : -9223372036854775808 ≤ a - b) (h' : a - b < 9223372036854775808) : isub .i64 a b = a - b := w64 h h'
theorem mul64 {a b : Int} (h : -9223372036854775808 ≤ a * b) (h' : a * b < 9223372036854775808) : imul .i64 a b = a * b := w64 h h'
theorem succ64 {i : Nat} (h : i < 9223372036854775807) : iadd .i64 (i : Int) 1 = ((i + 1 : Nat) : Int) := by rw [add64] <;> omega
theorem w8_def (a : Int) : IntKind.u8.wrap a = a % 256 := rfl
theorem w8 {a : Int} (h : 0 ≤ a) (h' : a < 256) : IntKind.u8.wrap a = a := by rw [w8_def]; omega
theorem rem_range {a m : Int} (h : 0 ≤ a) (hm : 0 < m) : irem a m = a % m ∧ 0 ≤ irem a m ∧ irem a m < m := by
  have e : irem a m = a % m := by unfold irem; rw [Int.tmod_eq_emod_of_nonneg h]
  rw [e]; exact ⟨rfl, Int.emod_nonneg _ (by omega), Int.emod_lt_of_pos _ hm⟩
variable {α β σ ρ : Type}
theorem idx_d [Inhabited α] {l : List α} {i : Int} (h : 0 ≤ i) (h' : i < l.length) : idx l i = some (l.getD i.toNat default) := by
  unfold idx
  rw [if_pos h, List.getD_eq_getElem?_getD, List.getElem?_eq_getElem (by omega)]; rfl
theorem idx_nd [Inhabited α] {l : List α} {i : Nat} (h : i < l.length) : idx l (i : Int) = some (l.getD i default) := by
  rw [idx_d (by omega) (by omega), Int.toNat_natCast]
theorem put_d {l : List α} {i : Int} {y : α} (h : 0 ≤ i) (h' : i < l.length) : put l i y = some (l.set i.toNat y) := by
  unfold put; rw [if_pos ⟨h, h'⟩]
theorem cpy_d {xs ys : List α} (h : ys.length ≤ xs.length) : cpy xs ys = some (ys ++ xs.drop ys.length) := by unfold cpy; rw [if_pos h]
theorem cpy_same {xs ys : List α} (h : ys.length = xs.length) : cpy xs ys = some ys := by
  rw [cpy_d (by omega), List.drop_of_length_le (by omega), List.append_nil]
theorem mkl_d {eb : Nat} {k : Int} {z : α} (h : 0 ≤ k) (h' : k.toNat * eb ≤ 70368744177664) : mkl eb k z = some (List.replicate k.toNat z) := by
  unfold mkl; rw [if_pos ⟨h, h'⟩]
theorem whl_to {body : σ → Option (σ ⊕ ρ)} {r : ρ} (st : Nat → σ) (k : Nat) (step : ∀ i, i < k → body (st i) = some (.inl (st (i + 1)))) (last : body (st k) = some (.inr r)) : ∀ n, k < n → whl body n (st 0) = some r := by
  have key : ∀ (j n i : Nat), i + j = k → j < n → whl body n (st i) = some r := by
    intro j
    induction j with
    | zero =>
      intro n i hi hn
      cases n with
      | zero => omega
      | succ n => have : i = k := by omega
                  subst this; simp only [whl, last]
    | succ j ih =>
      intro n i hi hn
      cases n with
      | zero => omega
      | succ n => simp only [whl, step i (by omega)]; exact ih n (i + 1) (by omega) (by omega)
  intro n hn
  exact key k n 0 (by omega) hn
theorem Ev.to {body : Nat → σ → Option (σ ⊕ ρ)} {r : ρ} (st : Nat → σ) (k : Nat) (h : ∃ N, ∀ n, N ≤ n → (∀ i, i < k → body n (st i) = some (.inl (st (i + 1)))) ∧ body n (st k) = some (.inr r)) : Ev (fun n => Go.AI.whl (body n) n (st 0)) r := by
  obtain ⟨N, h⟩ := h
  exact ⟨max N (k + 1), fun n hn => whl_to st k (h n (by omega)).1 (h n (by omega)).2 n (by omega)⟩
def firstOf (N : Nat) (stop : Nat → Option ρ) (d : ρ) : ρ := ((List.range N).findSome? stop).getD d
theorem firstOf_d {N : Nat} {stop : Nat → Option ρ} {d : ρ} (h : ∀ i, i < N → stop i = none) : firstOf N stop d = d := by
  unfold firstOf
  rw [List.findSome?_eq_none_iff.2 fun i hi => h i (List.mem_range.1 hi)]; rfl
theorem firstOf_s {N : Nat} {stop : Nat → Option ρ} {d r : ρ} (k : Nat) (hk : k < N) (hr : stop k = some r) (h : ∀ i, i < k → stop i = none) : firstOf N stop d = r := by
  unfold firstOf
  have : (List.range N).findSome? stop = some r := by
    have e : List.range N = List.range k ++ (List.range (N - k)).map (k + ·) := by rw [← List.range_add]; congr 1; omega
    rw [e, List.findSome?_append, List.findSome?_eq_none_iff.2 fun i hi => h i (List.mem_range.1 hi)]
    have : N - k = (N - k - 1) + 1 := by omega
    rw [this, List.range_succ_eq_map]
    simp [hr]
  rw [this]; rfl
theorem firstOf_cases (N : Nat) (stop : Nat → Option ρ) (d : ρ) : ((∀ i, i < N → stop i = none) ∧ firstOf N stop d = d) ∨ ∃ k r, k < N ∧ stop k = some r ∧ (∀ i, i < k → stop i = none) ∧ firstOf N stop d = r := by
  by_cases h : ∀ i, i < N → stop i = none
  · exact .inl ⟨h, firstOf_d h⟩
  · right
    have hex : ∃ k, k < N ∧ stop k ≠ none := by
      apply Classical.byContradiction
      intro hh
      exact h fun i hi => Classical.byContradiction fun hn => hh ⟨i, hi, hn⟩
    have key : ∀ m, (∃ k, k < m ∧ k < N ∧ stop k ≠ none) → ∃ k, k < N ∧ stop k ≠ none ∧ ∀ i, i < k → stop i = none := by
      intro m
      induction m with
      | zero => rintro ⟨k, hk, _⟩; omega
      | succ m ih =>
        rintro ⟨k, hk, h1, h2⟩
        by_cases hm : ∃ k, k < m ∧ k < N ∧ stop k ≠ none
        · exact ih hm
        · refine ⟨k, h1, h2, fun i hi => Classical.byContradiction fun hn => hm ⟨i, by omega, by omega, hn⟩⟩
    obtain ⟨k0, h1, h2⟩ := hex
    obtain ⟨k, h3, h4, h5⟩ := key (k0 + 1) ⟨k0, by omega, h1, h2⟩
    obtain ⟨r, hr⟩ := Option.ne_none_iff_exists'.1 h4
    exact ⟨k, r, h3, hr, h5, firstOf_s k h3 hr h5⟩
theorem whl_first {body : Int → Option (Int ⊕ ρ)} {N : Nat} (stop : Nat → Option ρ) {d : ρ} (h1 : ∀ i, i < N → body (i : Int) = some (match stop i with | some r => .inr r | none => .inl ((i + 1 : Nat) : Int))) (h2 : body (N : Int) = some (.inr d)) : ∀ n, N < n → whl body n 0 = some (firstOf N stop d) := by
  intro n hn
  rcases firstOf_cases N stop d with ⟨h, e⟩ | ⟨k, r, hk, hr, h, e⟩
  · rw [e]
    exact whl_to (fun i => (i : Int)) N (fun i hi => by rw [h1 i hi, h i hi]) h2 n hn
  · rw [e]
    exact whl_to (fun i => (i : Int)) k (fun i hi => by rw [h1 i (by omega), h i hi]) (by rw [h1 k hk, hr]) n (by omega)
theorem Ev.first {body : Nat → Int → Option (Int ⊕ ρ)} {N : Nat} (stop : Nat → Option ρ) {d : ρ} (h : ∃ M, ∀ n, M ≤ n → (∀ i, i < N → body n (i : Int) = some (match stop i with | some r => .inr r | none => .inl ((i + 1 : Nat) : Int))) ∧ body n (N : Int) = some (.inr d)) : Ev (fun n => Go.AI.whl (body n) n 0) (firstOf N stop d) := by
  obtain ⟨M, h⟩ := h
  exact ⟨max M (N + 1), fun n hn => whl_first stop (h n (by omega)).1 (h n (by omega)).2 n (by omega)⟩
theorem Tot.gE {P : α → Prop} {c : Bool} {f : Nat → Option β} {d x : β} {g : Nat → β → Option α} (hc : c = true) (h : Ev f x) (k : Tot (fun n => g n x) P) : Tot (fun n => (if c = true then f n else some d).bind (g n)) P := by
  subst hc; exact Tot.bindE h k
theorem Tot.gF {P : α → Prop} {c : Bool} {f : Nat → Option β} {d : β} {g : Nat → β → Option α} (hc : c = false) (k : Tot (fun n => g n d) P) : Tot (fun n => (if c = true then f n else some d).bind (g n)) P := by
  subst hc; exact k
theorem Ev.many {f : Nat → Nat → Option α} {z : Nat → α} (N : Nat) (h : ∀ i, i < N → Ev (fun n => f n i) (z i)) : ∃ M, ∀ n, M ≤ n → ∀ i, i < N → f n i = some (z i) := by
  induction N with
  | zero => exact ⟨0, fun n _ i hi => by omega⟩
  | succ N ih =>
    obtain ⟨M1, h1⟩ := ih fun i hi => h i (by omega)
    obtain ⟨M2, h2⟩ := h N (by omega)
    exact ⟨max M1 M2, fun n hn i hi => by
      by_cases e : i = N
      · subst e; exact h2 n (by omega)
      · exact h1 n (by omega) i (by omega)⟩
end Go.AI
end
section
namespace Go.AI
theorem FSixdotref29_New_L1_le {n m : Nat} (_ : n ≤ m) (p0_ : _) (s_1 : _) (s_2 : _) (s_3 : _) (i_1 : _) : Le (FSixdotref29_New_L1 n p0_ s_1 s_2 s_3 i_1) (FSixdotref29_New_L1 m p0_ s_1 s_2 s_3 i_1) := by
  unfold FSixdotref29_New_L1
  refine Le.ite ?_ ?_
  · refine Le.bind (Le.refl _) fun _ => ?_
    refine Le.bind (Le.refl _) fun _ => ?_
    refine Le.bind (Le.refl _) fun _ => ?_
    exact Le.refl _
  · exact Le.refl _
theorem FSixdotref29_New_le {n m : Nat} (h : n ≤ m) (p0_ : _) : Le (FSixdotref29_New n p0_) (FSixdotref29_New m p0_) := by
  unfold FSixdotref29_New
  refine Le.bind (Le.whl (fun _ => FSixdotref29_New_L1_le h _ _ _ _ _) h _) fun _ => ?_
  exact Le.refl _
theorem FSixdotlaw29_record_le {n m : Nat} (_ : n ≤ m) (p0_ : _) (p1_ : _) (p2_ : _) : Le (FSixdotlaw29_record n p0_ p1_ p2_) (FSixdotlaw29_record m p0_ p1_ p2_) := by
  unfold FSixdotlaw29_record
  exact Le.refl _
theorem FSpool_copied_le {n m : Nat} (_ : n ≤ m) (p0_ : _) : Le (FSpool_copied n p0_) (FSpool_copied m p0_) := by
  unfold FSpool_copied
  refine Le.bind (Le.refl _) fun _ => ?_
  refine Le.bind (Le.refl _) fun _ => ?_
  refine Le.bind (Le.refl _) fun _ => ?_
  refine Le.bind (Le.refl _) fun _ => ?_
  refine Le.bind (Le.refl _) fun _ => ?_
  refine Le.bind (Le.refl _) fun _ => ?_
  exact Le.refl _
theorem FSpool_known_le {n m : Nat} (_ : n ≤ m) (p0_ : _) (p1_ : _) : Le (FSpool_known n p0_ p1_) (FSpool_known m p0_ p1_) := by
  unfold FSpool_known
  exact Le.refl _
theorem FSpool_idle_le {n m : Nat} (h : n ≤ m) (p0_ : _) (p1_ : _) : Le (FSpool_idle n p0_ p1_) (FSpool_idle m p0_ p1_) := by
  unfold FSpool_idle
  refine Le.bind (Le.ite (FSpool_known_le h _ _) (Le.refl _)) fun _ => ?_
  refine Le.bind (Le.ite (Le.refl _) (Le.refl _)) fun _ => ?_
  exact Le.refl _
theorem FSpool_began_apply_le {n m : Nat} (h : n ≤ m) (p0_ : _) (p1_ : _) : Le (FSpool_began_apply n p0_ p1_) (FSpool_began_apply m p0_ p1_) := by
  unfold FSpool_began_apply
  refine Le.bind (FSpool_idle_le h _ _) fun _ => ?_
  refine Le.bind (Le.ite (Le.refl _) (Le.refl _)) fun _ => ?_
  refine Le.ite ?_ ?_
  · exact Le.refl _
  · refine Le.bind (Le.refl _) fun _ => ?_
    refine Le.bind (Le.refl _) fun _ => ?_
    exact Le.refl _
theorem FSpool_busy_le {n m : Nat} (h : n ≤ m) (p0_ : _) (p1_ : _) (p2_ : _) : Le (FSpool_busy n p0_ p1_ p2_) (FSpool_busy m p0_ p1_ p2_) := by
  unfold FSpool_busy
  refine Le.bind (Le.ite (FSpool_known_le h _ _) (Le.refl _)) fun _ => ?_
  refine Le.bind (Le.ite (Le.refl _) (Le.refl _)) fun _ => ?_
  exact Le.refl _
theorem FSpool_finished_apply_le {n m : Nat} (h : n ≤ m) (p0_ : _) (p1_ : _) : Le (FSpool_finished_apply n p0_ p1_) (FSpool_finished_apply m p0_ p1_) := by
  unfold FSpool_finished_apply
  refine Le.bind (FSpool_busy_le h _ _ _) fun _ => ?_
  refine Le.ite ?_ ?_
  · exact Le.refl _
  · refine Le.bind (Le.refl _) fun _ => ?_
    refine Le.bind (Le.refl _) fun _ => ?_
    exact Le.refl _
theorem FSpool_spoilt_apply_le {n m : Nat} (h : n ≤ m) (p0_ : _) (p1_ : _) : Le (FSpool_spoilt_apply n p0_ p1_) (FSpool_spoilt_apply m p0_ p1_) := by
  unfold FSpool_spoilt_apply
  refine Le.bind (FSpool_busy_le h _ _ _) fun _ => ?_
  refine Le.ite ?_ ?_
  · exact Le.refl _
  · exact Le.refl _
theorem FSlices_Index_int_int_L1_le {n m : Nat} (_ : n ≤ m) (p0_ : _) (p1_ : _) (x_1 : _) : Le (FSlices_Index_int_int_L1 n p0_ p1_ x_1) (FSlices_Index_int_int_L1 m p0_ p1_ x_1) := by
  unfold FSlices_Index_int_int_L1
  refine Le.ite ?_ ?_
  · refine Le.bind (Le.refl _) fun _ => ?_
    refine Le.ite ?_ ?_
    · exact Le.refl _
    · exact Le.refl _
  · exact Le.refl _
theorem FSlices_Index_int_int_le {n m : Nat} (h : n ≤ m) (p0_ : _) (p1_ : _) : Le (FSlices_Index_int_int n p0_ p1_) (FSlices_Index_int_int m p0_ p1_) := by
  unfold FSlices_Index_int_int
  refine Le.bind (Le.whl (fun _ => FSlices_Index_int_int_L1_le h _ _ _) h _) fun y2 => ?_
  rcases y2 with _ | _
  · exact Le.refl _
  · exact Le.refl _
theorem FSlices_Contains_int_int_le {n m : Nat} (h : n ≤ m) (p0_ : _) (p1_ : _) : Le (FSlices_Contains_int_int n p0_ p1_) (FSlices_Contains_int_int m p0_ p1_) := by
  unfold FSlices_Contains_int_int
  refine Le.bind (FSlices_Index_int_int_le h _ _) fun _ => ?_
  exact Le.refl _
theorem FSpool_reused_apply_le {n m : Nat} (h : n ≤ m) (p0_ : _) (p1_ : _) : Le (FSpool_reused_apply n p0_ p1_) (FSpool_reused_apply m p0_ p1_) := by
  unfold FSpool_reused_apply
  refine Le.bind (FSpool_idle_le h _ _) fun _ => ?_
  refine Le.bind (Le.ite (FSlices_Contains_int_int_le h _ _) (Le.refl _)) fun _ => ?_
  refine Le.ite ?_ ?_
  · exact Le.refl _
  · refine Le.bind (Le.refl _) fun _ => ?_
    refine Le.bind (Le.refl _) fun _ => ?_
    refine Le.bind (Le.refl _) fun _ => ?_
    refine Le.bind (Le.refl _) fun _ => ?_
    exact Le.refl _
theorem FSlices_Index_bool_bool_L1_le {n m : Nat} (_ : n ≤ m) (p0_ : _) (p1_ : _) (x_2 : _) : Le (FSlices_Index_bool_bool_L1 n p0_ p1_ x_2) (FSlices_Index_bool_bool_L1 m p0_ p1_ x_2) := by
  unfold FSlices_Index_bool_bool_L1
  refine Le.ite ?_ ?_
  · refine Le.bind (Le.refl _) fun _ => ?_
    refine Le.ite ?_ ?_
    · exact Le.refl _
    · exact Le.refl _
  · exact Le.refl _
theorem FSlices_Index_bool_bool_le {n m : Nat} (h : n ≤ m) (p0_ : _) (p1_ : _) : Le (FSlices_Index_bool_bool n p0_ p1_) (FSlices_Index_bool_bool m p0_ p1_) := by
  unfold FSlices_Index_bool_bool
  refine Le.bind (Le.whl (fun _ => FSlices_Index_bool_bool_L1_le h _ _ _) h _) fun y5 => ?_
  rcases y5 with _ | _
  · exact Le.refl _
  · exact Le.refl _
theorem FSlices_Contains_bool_bool_le {n m : Nat} (h : n ≤ m) (p0_ : _) (p1_ : _) : Le (FSlices_Contains_bool_bool n p0_ p1_) (FSlices_Contains_bool_bool m p0_ p1_) := by
  unfold FSlices_Contains_bool_bool
  refine Le.bind (FSlices_Index_bool_bool_le h _ _) fun _ => ?_
  exact Le.refl _
theorem FSpool_sealed_apply_le {n m : Nat} (h : n ≤ m) (p0_ : _) (p1_ : _) : Le (FSpool_sealed_apply n p0_ p1_) (FSpool_sealed_apply m p0_ p1_) := by
  unfold FSpool_sealed_apply
  refine Le.bind (Le.ite (FSlices_Contains_bool_bool_le h _ _) (Le.refl _)) fun _ => ?_
  refine Le.ite ?_ ?_
  · exact Le.refl _
  · exact Le.refl _
theorem FSpool_perform_le {n m : Nat} (h : n ≤ m) (p0_ : _) (p1_ : _) : Le (FSpool_perform n p0_ p1_) (FSpool_perform m p0_ p1_) := by
  unfold FSpool_perform
  refine Le.ite ?_ ?_
  · exact Le.refl _
  · refine Le.ite ?_ ?_
    · refine Le.bind (FSpool_began_apply_le h _ _) fun _ => ?_
      exact Le.refl _
    · refine Le.ite ?_ ?_
      · refine Le.bind (FSpool_finished_apply_le h _ _) fun _ => ?_
        exact Le.refl _
      · refine Le.ite ?_ ?_
        · refine Le.bind (FSpool_spoilt_apply_le h _ _) fun _ => ?_
          exact Le.refl _
        · refine Le.ite ?_ ?_
          · refine Le.bind (FSpool_reused_apply_le h _ _) fun _ => ?_
            exact Le.refl _
          · refine Le.ite ?_ ?_
            · refine Le.bind (FSpool_sealed_apply_le h _ _) fun _ => ?_
              exact Le.refl _
            · exact Le.refl _
theorem FSpool_Step_le {n m : Nat} (h : n ≤ m) (p0_ : _) (p1_ : _) : Le (FSpool_Step n p0_ p1_) (FSpool_Step m p0_ p1_) := by
  unfold FSpool_Step
  refine Le.bind (FSpool_copied_le h _) fun _ => ?_
  refine Le.bind (FSpool_perform_le h _ _) fun _ => ?_
  refine Le.ite ?_ ?_
  · exact Le.refl _
  · exact Le.refl _
theorem FSixdotref29_Same_L1_le {n m : Nat} (_ : n ≤ m) (p0_ : _) (p1_ : _) (i_2 : _) : Le (FSixdotref29_Same_L1 n p0_ p1_ i_2) (FSixdotref29_Same_L1 m p0_ p1_ i_2) := by
  unfold FSixdotref29_Same_L1
  refine Le.ite ?_ ?_
  · refine Le.bind (Le.refl _) fun _ => ?_
    refine Le.bind (Le.refl _) fun _ => ?_
    refine Le.ite ?_ ?_
    · exact Le.refl _
    · exact Le.refl _
  · exact Le.refl _
theorem FSixdotref29_Same_L2_le {n m : Nat} (_ : n ≤ m) (p0_ : _) (p1_ : _) (i_3 : _) : Le (FSixdotref29_Same_L2 n p0_ p1_ i_3) (FSixdotref29_Same_L2 m p0_ p1_ i_3) := by
  unfold FSixdotref29_Same_L2
  refine Le.ite ?_ ?_
  · refine Le.bind (Le.refl _) fun _ => ?_
    refine Le.bind (Le.refl _) fun _ => ?_
    refine Le.ite ?_ ?_
    · exact Le.refl _
    · exact Le.refl _
  · exact Le.refl _
theorem FSixdotref29_Same_L3_le {n m : Nat} (_ : n ≤ m) (p0_ : _) (p1_ : _) (i_4 : _) : Le (FSixdotref29_Same_L3 n p0_ p1_ i_4) (FSixdotref29_Same_L3 m p0_ p1_ i_4) := by
  unfold FSixdotref29_Same_L3
  refine Le.ite ?_ ?_
  · refine Le.bind (Le.refl _) fun _ => ?_
    refine Le.bind (Le.refl _) fun _ => ?_
    refine Le.ite ?_ ?_
    · exact Le.refl _
    · exact Le.refl _
  · exact Le.refl _
theorem FSixdotref29_Same_le {n m : Nat} (h : n ≤ m) (p0_ : _) (p1_ : _) : Le (FSixdotref29_Same n p0_ p1_) (FSixdotref29_Same m p0_ p1_) := by
  unfold FSixdotref29_Same
  refine Le.ite ?_ ?_
  · exact Le.refl _
  · refine Le.bind (Le.whl (fun _ => FSixdotref29_Same_L1_le h _ _ _) h _) fun y8 => ?_
    rcases y8 with _ | _
    · refine Le.bind (Le.whl (fun _ => FSixdotref29_Same_L2_le h _ _ _) h _) fun y11 => ?_
      rcases y11 with _ | _
      · refine Le.bind (Le.whl (fun _ => FSixdotref29_Same_L3_le h _ _ _) h _) fun y14 => ?_
        rcases y14 with _ | _
        · exact Le.refl _
        · exact Le.refl _
      · exact Le.refl _
    · exact Le.refl _
theorem FSixdotref29_taken_L1_le {n m : Nat} (_ : n ≤ m) (p0_ : _) (p1_ : _) (i_5 : _) : Le (FSixdotref29_taken_L1 n p0_ p1_ i_5) (FSixdotref29_taken_L1 m p0_ p1_ i_5) := by
  unfold FSixdotref29_taken_L1
  refine Le.ite ?_ ?_
  · refine Le.bind (Le.refl _) fun _ => ?_
    refine Le.ite ?_ ?_
    · exact Le.refl _
    · exact Le.refl _
  · exact Le.refl _
theorem FSixdotref29_taken_le {n m : Nat} (h : n ≤ m) (p0_ : _) (p1_ : _) : Le (FSixdotref29_taken n p0_ p1_) (FSixdotref29_taken m p0_ p1_) := by
  unfold FSixdotref29_taken
  refine Le.bind (Le.whl (fun _ => FSixdotref29_taken_L1_le h _ _ _) h _) fun y17 => ?_
  rcases y17 with _ | _
  · exact Le.refl _
  · exact Le.refl _
theorem FSixdotref29_All_L1_le {n m : Nat} (_ : n ≤ m) (p0_ : _) (i_6 : _) : Le (FSixdotref29_All_L1 n p0_ i_6) (FSixdotref29_All_L1 m p0_ i_6) := by
  unfold FSixdotref29_All_L1
  refine Le.ite ?_ ?_
  · refine Le.bind (Le.refl _) fun _ => ?_
    refine Le.ite ?_ ?_
    · exact Le.refl _
    · exact Le.refl _
  · exact Le.refl _
theorem FSixdotref29_All_le {n m : Nat} (h : n ≤ m) (p0_ : _) : Le (FSixdotref29_All n p0_) (FSixdotref29_All m p0_) := by
  unfold FSixdotref29_All
  refine Le.bind (Le.whl (fun _ => FSixdotref29_All_L1_le h _ _) h _) fun y20 => ?_
  rcases y20 with _ | _
  · exact Le.refl _
  · exact Le.refl _
theorem FSixdotref29_Applies_J1_le {n m : Nat} (h : n ≤ m) (p0_ : _) (p1_ : _) (x_3 : _) : Le (FSixdotref29_Applies_J1 n p0_ p1_ x_3) (FSixdotref29_Applies_J1 m p0_ p1_ x_3) := by
  unfold FSixdotref29_Applies_J1
  refine Le.ite ?_ ?_
  · refine Le.bind (Le.ite (Le.refl _) (Le.refl _)) fun _ => ?_
    exact Le.refl _
  · refine Le.ite ?_ ?_
    · refine Le.bind (Le.ite (Le.refl _) (Le.refl _)) fun _ => ?_
      refine Le.bind (Le.ite (FSixdotref29_taken_le h _ _) (Le.refl _)) fun _ => ?_
      exact Le.refl _
    · refine Le.ite ?_ ?_
      · refine Le.bind (Le.ite (FSixdotref29_All_le h _) (Le.refl _)) fun _ => ?_
        exact Le.refl _
      · exact Le.refl _
theorem FSixdotref29_Applies_le {n m : Nat} (h : n ≤ m) (p0_ : _) (p1_ : _) : Le (FSixdotref29_Applies n p0_ p1_) (FSixdotref29_Applies m p0_ p1_) := by
  unfold FSixdotref29_Applies
  refine Le.ite ?_ ?_
  · exact Le.refl _
  · refine Le.ite ?_ ?_
    · refine Le.bind (Le.ite (Le.refl _) (Le.refl _)) fun _ => ?_
      refine Le.bind (Le.ite (Le.refl _) (Le.refl _)) fun _ => ?_
      exact Le.refl _
    · refine Le.ite ?_ ?_
      · exact FSixdotref29_Applies_J1_le h _ _ _
      · exact FSixdotref29_Applies_J1_le h _ _ _
theorem FSixdotref29_Copied_le {n m : Nat} (_ : n ≤ m) (p0_ : _) : Le (FSixdotref29_Copied n p0_) (FSixdotref29_Copied m p0_) := by
  unfold FSixdotref29_Copied
  refine Le.bind (Le.refl _) fun _ => ?_
  refine Le.bind (Le.refl _) fun _ => ?_
  refine Le.bind (Le.refl _) fun _ => ?_
  exact Le.refl _
theorem FSixdotref29_Step_J1_le {n m : Nat} (_ : n ≤ m) (s_7 : _) (s_8 : _) (s_9 : _) (s_10 : _) (s_11 : _) : Le (FSixdotref29_Step_J1 n s_7 s_8 s_9 s_10 s_11) (FSixdotref29_Step_J1 m s_7 s_8 s_9 s_10 s_11) := by
  unfold FSixdotref29_Step_J1
  exact Le.refl _
theorem FSixdotref29_Step_le {n m : Nat} (h : n ≤ m) (p0_ : _) (p1_ : _) : Le (FSixdotref29_Step n p0_ p1_) (FSixdotref29_Step m p0_ p1_) := by
  unfold FSixdotref29_Step
  refine Le.bind (FSixdotref29_Applies_le h _ _) fun _ => ?_
  refine Le.ite ?_ ?_
  · exact Le.refl _
  · refine Le.bind (FSixdotref29_Copied_le h _) fun _ => ?_
    refine Le.ite ?_ ?_
    · refine Le.bind (Le.refl _) fun _ => ?_
      refine Le.bind (Le.refl _) fun _ => ?_
      exact FSixdotref29_Step_J1_le h _ _ _ _ _
    · refine Le.ite ?_ ?_
      · refine Le.bind (Le.refl _) fun _ => ?_
        refine Le.bind (Le.refl _) fun _ => ?_
        exact FSixdotref29_Step_J1_le h _ _ _ _ _
      · refine Le.ite ?_ ?_
        · exact FSixdotref29_Step_J1_le h _ _ _ _ _
        · refine Le.ite ?_ ?_
          · refine Le.bind (Le.refl _) fun _ => ?_
            refine Le.bind (Le.refl _) fun _ => ?_
            refine Le.bind (Le.refl _) fun _ => ?_
            refine Le.bind (Le.refl _) fun _ => ?_
            exact FSixdotref29_Step_J1_le h _ _ _ _ _
          · refine Le.ite ?_ ?_
            · exact FSixdotref29_Step_J1_le h _ _ _ _ _
            · exact FSixdotref29_Step_J1_le h _ _ _ _ _
theorem FSixdotref29_Replay_L1_le {n m : Nat} (h : n ≤ m) (p1_ : _) (s_12 : _) (i_7 : _) : Le (FSixdotref29_Replay_L1 n p1_ s_12 i_7) (FSixdotref29_Replay_L1 m p1_ s_12 i_7) := by
  unfold FSixdotref29_Replay_L1
  refine Le.ite ?_ ?_
  · refine Le.bind (Le.refl _) fun _ => ?_
    refine Le.bind (FSixdotref29_Step_le h _ _) fun _ => ?_
    refine Le.ite ?_ ?_
    · exact Le.refl _
    · exact Le.refl _
  · exact Le.refl _
theorem FSixdotref29_Replay_le {n m : Nat} (h : n ≤ m) (p0_ : _) (p1_ : _) : Le (FSixdotref29_Replay n p0_ p1_) (FSixdotref29_Replay m p0_ p1_) := by
  unfold FSixdotref29_Replay
  refine Le.bind (FSixdotref29_New_le h _) fun _ => ?_
  refine Le.bind (Le.whl (fun _ => FSixdotref29_Replay_L1_le h _ _ _) h _) fun y23 => ?_
  rcases y23 with _ | _
  · exact Le.refl _
  · exact Le.refl _
theorem FSpool_New_L1_le {n m : Nat} (_ : n ≤ m) (l21 : _) (l22 : _) (l23 : _) (s_14 : _) (x_4 : _) : Le (FSpool_New_L1 n l21 l22 l23 s_14 x_4) (FSpool_New_L1 m l21 l22 l23 s_14 x_4) := by
  unfold FSpool_New_L1
  refine Le.ite ?_ ?_
  · refine Le.bind (Le.refl _) fun _ => ?_
    refine Le.bind (Le.refl _) fun _ => ?_
    exact Le.refl _
  · exact Le.refl _
theorem FSpool_New_le {n m : Nat} (h : n ≤ m) (p0_ : _) : Le (FSpool_New n p0_) (FSpool_New m p0_) := by
  unfold FSpool_New
  refine Le.bind (Le.refl _) fun _ => ?_
  refine Le.bind (Le.refl _) fun _ => ?_
  refine Le.bind (Le.refl _) fun _ => ?_
  refine Le.bind (Le.whl (fun _ => FSpool_New_L1_le h _ _ _ _ _) h _) fun _ => ?_
  exact Le.refl _
theorem FSpool_Replay_L1_le {n m : Nat} (h : n ≤ m) (p1_ : _) (s_16 : _) (s_17 : _) (s_18 : _) (s_19 : _) (s_20 : _) (x_5 : _) : Le (FSpool_Replay_L1 n p1_ s_16 s_17 s_18 s_19 s_20 x_5) (FSpool_Replay_L1 m p1_ s_16 s_17 s_18 s_19 s_20 x_5) := by
  unfold FSpool_Replay_L1
  refine Le.ite ?_ ?_
  · refine Le.bind (Le.refl _) fun _ => ?_
    refine Le.bind (FSpool_perform_le h _ _) fun _ => ?_
    refine Le.ite ?_ ?_
    · exact Le.refl _
    · exact Le.refl _
  · exact Le.refl _
theorem FSpool_Replay_le {n m : Nat} (h : n ≤ m) (p0_ : _) (p1_ : _) : Le (FSpool_Replay n p0_ p1_) (FSpool_Replay m p0_ p1_) := by
  unfold FSpool_Replay
  refine Le.bind (FSpool_New_le h _) fun _ => ?_
  refine Le.bind (Le.whl (fun _ => FSpool_Replay_L1_le h _ _ _ _ _ _ _) h _) fun y27 => ?_
  rcases y27 with _ | _
  · exact Le.refl _
  · exact Le.refl _
theorem FSpool_Next_J1_le {n m : Nat} (_ : n ≤ m) (r_1 : _) : Le (FSpool_Next_J1 n r_1) (FSpool_Next_J1 m r_1) := by
  unfold FSpool_Next_J1
  exact Le.refl _
theorem FSpool_Next_J2_le {n m : Nat} (_ : n ≤ m) (r_2 : _) : Le (FSpool_Next_J2 n r_2) (FSpool_Next_J2 m r_2) := by
  unfold FSpool_Next_J2
  exact Le.refl _
theorem FSpool_Next_le {n m : Nat} (h : n ≤ m) (p0_ : _) (p1_ : _) : Le (FSpool_Next n p0_ p1_) (FSpool_Next m p0_ p1_) := by
  unfold FSpool_Next
  refine Le.ite ?_ ?_
  · exact Le.refl _
  · refine Le.ite ?_ ?_
    · refine Le.bind (FSpool_known_le h _ _) fun _ => ?_
      refine Le.ite ?_ ?_
      · refine Le.bind (Le.refl _) fun _ => ?_
        exact FSpool_Next_J1_le h _
      · exact FSpool_Next_J1_le h _
    · refine Le.bind (FSlices_Index_bool_bool_le h _ _) fun _ => ?_
      refine Le.ite ?_ ?_
      · exact Le.refl _
      · refine Le.bind (Le.ite (Le.refl _) (Le.refl _)) fun _ => ?_
        refine Le.bind (Le.ite (Le.refl _) (Le.refl _)) fun _ => ?_
        refine Le.bind (Le.ite (FSlices_Contains_int_int_le h _ _) (Le.refl _)) fun _ => ?_
        refine Le.ite ?_ ?_
        · refine Le.bind (Le.refl _) fun _ => ?_
          exact Le.refl _
        · refine Le.bind (FSpool_known_le h _ _) fun _ => ?_
          refine Le.ite ?_ ?_
          · refine Le.bind (Le.refl _) fun _ => ?_
            exact FSpool_Next_J2_le h _
          · exact FSpool_Next_J2_le h _
theorem FSpool_Rest_le {n m : Nat} (_ : n ≤ m) (p0_ : _) : Le (FSpool_Rest n p0_) (FSpool_Rest m p0_) := by
  unfold FSpool_Rest
  exact Le.refl _
theorem FSixdotlaw29_sanity_L1_le {n m : Nat} (h : n ≤ m) (r30 : _) (r32 : _) (r35 : _) (r38 : _) (r39 : _) (r40 : _) (r41 : _) (r42 : _) (i_8 : _) : Le (FSixdotlaw29_sanity_L1 n r30 r32 r35 r38 r39 r40 r41 r42 i_8) (FSixdotlaw29_sanity_L1 m r30 r32 r35 r38 r39 r40 r41 r42 i_8) := by
  unfold FSixdotlaw29_sanity_L1
  refine Le.ite ?_ ?_
  · refine Le.bind (Le.refl _) fun _ => ?_
    refine Le.bind (FSpool_Step_le h _ _) fun _ => ?_
    refine Le.ite ?_ ?_
    · exact Le.refl _
    · exact Le.refl _
  · exact Le.refl _
theorem FSixdotlaw29_sanity_le {n m : Nat} (h : n ≤ m) : Le (FSixdotlaw29_sanity n) (FSixdotlaw29_sanity m) := by
  unfold FSixdotlaw29_sanity
  refine Le.bind (FSixdotref29_New_le h _) fun _ => ?_
  refine Le.bind (FSixdotlaw29_record_le h _ _ _) fun _ => ?_
  refine Le.bind (FSpool_Step_le h _ _) fun _ => ?_
  refine Le.bind (FSixdotref29_Same_le h _ _) fun _ => ?_
  refine Le.ite ?_ ?_
  · exact Le.refl _
  · refine Le.bind (FSixdotlaw29_record_le h _ _ _) fun _ => ?_
    refine Le.bind (FSpool_Step_le h _ _) fun _ => ?_
    refine Le.bind (FSixdotref29_Same_le h _ _) fun _ => ?_
    refine Le.ite ?_ ?_
    · exact Le.refl _
    · refine Le.bind (FSixdotlaw29_record_le h _ _ _) fun _ => ?_
      refine Le.bind (FSpool_Step_le h _ _) fun _ => ?_
      refine Le.bind (FSixdotlaw29_record_le h _ _ _) fun _ => ?_
      refine Le.bind (FSixdotlaw29_record_le h _ _ _) fun _ => ?_
      refine Le.bind (FSixdotlaw29_record_le h _ _ _) fun _ => ?_
      refine Le.bind (FSixdotlaw29_record_le h _ _ _) fun _ => ?_
      refine Le.bind (Le.whl (fun _ => FSixdotlaw29_sanity_L1_le h _ _ _ _ _ _ _ _ _) h _) fun y30 => ?_
      rcases y30 with _ | _
      · refine Le.bind (FSixdotlaw29_record_le h _ _ _) fun _ => ?_
        refine Le.bind (FSixdotlaw29_record_le h _ _ _) fun _ => ?_
        refine Le.bind (FSixdotref29_Replay_le h _ _) fun _ => ?_
        refine Le.bind (FSixdotlaw29_record_le h _ _ _) fun _ => ?_
        refine Le.bind (FSixdotlaw29_record_le h _ _ _) fun _ => ?_
        refine Le.bind (FSpool_Replay_le h _ _) fun _ => ?_
        refine Le.bind (FSixdotref29_New_le h _) fun _ => ?_
        refine Le.bind (FSpool_Next_le h _ _) fun _ => ?_
        refine Le.bind (FSixdotlaw29_record_le h _ _ _) fun _ => ?_
        refine Le.bind (Le.ite (FSpool_Next_le h _ _) (Le.refl _)) fun _ => ?_
        refine Le.bind (Le.ite (FSixdotlaw29_record_le h _ _ _) (Le.refl _)) fun _ => ?_
        refine Le.bind (Le.ite (FSpool_Rest_le h _) (Le.refl _)) fun _ => ?_
        refine Le.bind (Le.ite (FSpool_Rest_le h _) (Le.refl _)) fun _ => ?_
        refine Le.bind (Le.ite (FSixdotref29_Same_le h _ _) (Le.refl _)) fun _ => ?_
        refine Le.bind (Le.ite (FSpool_New_le h _) (Le.refl _)) fun _ => ?_
        refine Le.bind (Le.ite (FSixdotref29_Same_le h _ _) (Le.refl _)) fun _ => ?_
        exact Le.refl _
      · exact Le.refl _
end Go.AI
end
section
namespace Go.AI
def idxS {α : Type} [BEq α] [Inhabited α] (l : List α) (v : α) : Int := firstOf l.length (fun i => if v == l.getD i default then some (i : Int) else none) (-1)
theorem idxS_cases {α : Type} [BEq α] [LawfulBEq α] [Inhabited α] (l : List α) (v : α) : (idxS l v = -1 ∧ ∀ i, i < l.length → l.getD i default ≠ v) ∨ ∃ k : Nat, k < l.length ∧ idxS l v = (k : Int) ∧ l.getD k default = v ∧ ∀ i, i < k → l.getD i default ≠ v := by
  rcases firstOf_cases l.length (fun i => if v == l.getD i default then some (i : Int) else none) (-1) with ⟨h, e⟩ | ⟨k, r, hk, hr, h, e⟩
  · exact .inl ⟨e, fun i hi he => by have := h i hi; rw [he] at this; simp at this⟩
  · split at hr
    · rename_i hv
      cases hr
      exact .inr ⟨k, hk, e, (eq_of_beq hv).symm, fun i hi he => by have := h i hi; rw [he] at this; simp at this⟩
    · cases hr
theorem indexI_ev (l : List Int) (v : Int) (hl : l.length < 9223372036854775807) : Ev (fun n => FSlices_Index_int_int n l v) (idxS l v) := by
  have h := Ev.first (body := fun n x => FSlices_Index_int_int_L1 n l v x) (N := l.length) (fun i => if v == l.getD i default then some (Sum.inr (i : Int)) else none) (d := Sum.inl ()) ⟨0, fun n _ => ⟨fun i hi => by
    unfold FSlices_Index_int_int_L1
    rw [if_pos (by simpa using hi), idx_nd hi, Option.bind_some, succ64 (by omega)]
    by_cases hv : (v == l.getD i default) = true
    · rw [if_pos hv, if_pos hv]
    · rw [if_neg hv, if_neg hv], by
    unfold FSlices_Index_int_int_L1
    rw [if_neg (by simp)]⟩⟩
  refine Ev.congr (Ev.bind (g := fun n y => match y with | Sum.inl y3 => some (-1) | Sum.inr y4 => some y4) h ?_) fun n => rfl
  refine Ev.all fun n => ?_
  unfold idxS
  rcases firstOf_cases l.length (fun i => if v == l.getD i default then some (Sum.inr (i : Int)) else none) (Sum.inl () : Unit ⊕ Int) with ⟨h, e⟩ | ⟨k, r, hk, hr, h, e⟩
  · rw [e, firstOf_d]
    intro i hi
    have := h i hi
    split at this
    · cases this
    · rename_i hn; rw [if_neg hn]
  · rw [e]
    split at hr
    · rename_i hv
      cases hr
      rw [firstOf_s k hk (if_pos hv)]
      intro i hi
      have := h i hi
      split at this
      · cases this
      · rename_i hn; rw [if_neg hn]
    · cases hr
theorem indexB_ev (l : List Bool) (v : Bool) (hl : l.length < 9223372036854775807) : Ev (fun n => FSlices_Index_bool_bool n l v) (idxS l v) := by
  have h := Ev.first (body := fun n x => FSlices_Index_bool_bool_L1 n l v x) (N := l.length) (fun i => if v == l.getD i default then some (Sum.inr (i : Int)) else none) (d := Sum.inl ()) ⟨0, fun n _ => ⟨fun i hi => by
    unfold FSlices_Index_bool_bool_L1
    rw [if_pos (by simpa using hi), idx_nd hi, Option.bind_some, succ64 (by omega)]
    by_cases hv : (v == l.getD i default) = true
    · rw [if_pos hv, if_pos hv]
    · rw [if_neg hv, if_neg hv], by
    unfold FSlices_Index_bool_bool_L1
    rw [if_neg (by simp)]⟩⟩
  refine Ev.congr (Ev.bind (g := fun n y => match y with | Sum.inl y3 => some (-1) | Sum.inr y4 => some y4) h ?_) fun n => rfl
  refine Ev.all fun n => ?_
  unfold idxS
  rcases firstOf_cases l.length (fun i => if v == l.getD i default then some (Sum.inr (i : Int)) else none) (Sum.inl () : Unit ⊕ Int) with ⟨h, e⟩ | ⟨k, r, hk, hr, h, e⟩
  · rw [e, firstOf_d]
    intro i hi
    have := h i hi
    split at this
    · cases this
    · rename_i hn; rw [if_neg hn]
  · rw [e]
    split at hr
    · rename_i hv
      cases hr
      rw [firstOf_s k hk (if_pos hv)]
      intro i hi
      have := h i hi
      split at this
      · cases this
      · rename_i hn; rw [if_neg hn]
    · cases hr
theorem mem_getD {α : Type} [Inhabited α] {l : List α} {v : α} : v ∈ l ↔ ∃ i, i < l.length ∧ l.getD i default = v := by
  rw [List.mem_iff_getElem?]
  constructor
  · rintro ⟨i, hi⟩
    exact ⟨i, (List.getElem?_eq_some_iff.1 hi).1, by rw [List.getD_eq_getElem?_getD, hi]; rfl⟩
  · rintro ⟨i, hi, h⟩
    refine ⟨i, ?_⟩
    rw [List.getD_eq_getElem?_getD, List.getElem?_eq_getElem hi] at h
    rw [List.getElem?_eq_getElem hi, ← h]; rfl
theorem idxS_ge {α : Type} [BEq α] [LawfulBEq α] [Inhabited α] (l : List α) (v : α) : decide (idxS l v ≥ 0) = l.contains v := by
  rw [Bool.eq_iff_iff, decide_eq_true_eq, List.contains_iff_mem, mem_getD]
  rcases idxS_cases l v with ⟨e, h⟩ | ⟨k, hk, e, hv, _⟩
  · rw [e]
    constructor
    · omega
    · rintro ⟨i, hi, hv⟩; exact absurd hv (h i hi)
  · rw [e]
    exact ⟨fun _ => ⟨k, hk, hv⟩, fun _ => by omega⟩
theorem containsI_ev (l : List Int) (v : Int) (hl : l.length < 9223372036854775807) : Ev (fun n => FSlices_Contains_int_int n l v) (l.contains v) := by
  unfold FSlices_Contains_int_int
  refine Ev.bind (indexI_ev l v hl) (Ev.all fun n => ?_)
  simp only [idxS_ge]
theorem containsB_ev (l : List Bool) (v : Bool) (hl : l.length < 9223372036854775807) : Ev (fun n => FSlices_Contains_bool_bool n l v) (l.contains v) := by
  unfold FSlices_Contains_bool_bool
  refine Ev.bind (indexB_ev l v hl) (Ev.all fun n => ?_)
  simp only [idxS_ge]
structure WF (m : Nat) (s : GSpool) : Prop where
  tries : s.Tries.length = m
  done : s.Done.length = m
  taken : s.Taken.length = m
  lo : -1 ≤ s.Now
  hi : s.Now < m
  sm : m ≤ 100
def jobB (s : GSpool) (a : Int) : Bool := decide (0 ≤ a) && decide (a < s.Done.length)
def dn (s : GSpool) (a : Int) : Bool := s.Done.getD a.toNat default
def tr (s : GSpool) (a : Int) : Int := s.Tries.getD a.toNat default
def appl (s : GSpool) (r : GRecord) : Bool :=
  !s.Sealed && (if r.Kind = 1 then s.Now == -1 && jobB s r.A && !dn s r.A && r.B == iadd .i64 (tr s r.A) 1
    else if r.Kind = 2 ∨ r.Kind = 3 then jobB s r.A && s.Now == r.A && r.B == tr s r.A
    else if r.Kind = 4 then s.Now == -1 && jobB s r.A && !dn s r.A && decide (0 ≤ r.B) && !s.Taken.contains r.B
    else if r.Kind = 5 then s.Now == -1 && !s.Done.contains false && r.A == 0 && r.B == 0 else false)
def stp (s : GSpool) (r : GRecord) : GSpool :=
  if r.Kind = 1 then { s with Tries := s.Tries.set r.A.toNat r.B, Now := r.A }
  else if r.Kind = 2 then { s with Done := s.Done.set r.A.toNat true, Now := -1 }
  else if r.Kind = 3 then { s with Now := -1 }
  else if r.Kind = 4 then { s with Done := s.Done.set r.A.toNat true, Taken := s.Taken.set r.A.toNat r.B }
  else { s with Sealed := true }
theorem known_eq {m : Nat} {s : GSpool} (h : WF m s) (n : Nat) (a : Int) : FSpool_known n s a = some (jobB s a) := by
  unfold FSpool_known jobB
  rw [h.tries, h.done, h.taken]
  congr 1
  rw [Bool.eq_iff_iff]
  simp only [Bool.and_eq_true, decide_eq_true_eq]
  omega
theorem jobB_ok {m : Nat} {s : GSpool} (h : WF m s) {a : Int} (hj : jobB s a = true) : 0 ≤ a ∧ a < m := by
  unfold jobB at hj
  rw [h.done] at hj
  simpa using hj
theorem idle_eq {m : Nat} {s : GSpool} (h : WF m s) (n : Nat) (a : Int) : FSpool_idle n s a = some (s.Now == -1 && jobB s a && !dn s a) := by
  unfold FSpool_idle
  by_cases h1 : (s.Now == -1) = true
  · rw [if_pos h1, known_eq h, Option.bind_some, h1, Bool.true_and]
    by_cases h2 : jobB s a = true
    · obtain ⟨h3, h4⟩ := jobB_ok h h2
      rw [if_pos h2, idx_d h3 (by rw [h.done]; exact h4), Option.bind_some]; rfl
    · rw [if_neg h2, Option.bind_some]; simp [h2]
  · rw [if_neg h1, Option.bind_some, if_neg (by simp [h1]), Option.bind_some]; simp [h1]
theorem busy_eq {m : Nat} {s : GSpool} (h : WF m s) (n : Nat) (a b : Int) : FSpool_busy n s a b = some (jobB s a && s.Now == a && b == tr s a) := by
  unfold FSpool_busy
  by_cases h1 : (s.Now == a) = true
  · rw [if_pos h1, known_eq h, Option.bind_some, h1, Bool.true_and, Bool.and_true]
    by_cases h2 : jobB s a = true
    · obtain ⟨h3, h4⟩ := jobB_ok h h2
      rw [if_pos h2, idx_d h3 (by rw [h.tries]; exact h4), Option.bind_some, h2]
      simp only [Bool.true_and]
      unfold tr
      rw [Bool.beq_comm]
    · rw [if_neg h2, Option.bind_some]; simp [h2]
  · rw [if_neg h1, Option.bind_some, if_neg (by simp [h1]), Option.bind_some]; simp [h1]
end Go.AI
end
section
namespace Go.AI
theorem perform_ev {m : Nat} {s : GSpool} (h : WF m s) (r : GRecord) : Ev (fun n => FSpool_perform n s r) (appl s r, if appl s r then stp s r else s) := by
  have hdl : s.Done.length < 9223372036854775807 := by have := h.done; have := h.sm; omega
  have htl : s.Taken.length < 9223372036854775807 := by have := h.taken; have := h.sm; omega
  unfold FSpool_perform
  by_cases hs : s.Sealed = true
  · refine Ev.all fun n => ?_
    rw [if_pos hs]
    simp [appl, hs]
  have hs' : s.Sealed = false := by simpa using hs
  by_cases k1 : r.Kind = 1
  · refine Ev.all fun n => ?_
    have e : appl s r = (s.Now == -1 && jobB s r.A && !dn s r.A && r.B == iadd .i64 (tr s r.A) 1) := by simp only [appl, hs', k1, if_true, Bool.not_false, Bool.true_and]
    rw [if_neg hs, if_pos (by simp [k1]), e]
    unfold FSpool_began_apply
    rw [idle_eq h, Option.bind_some]
    by_cases h1 : (s.Now == -1 && jobB s r.A && !dn s r.A) = true
    · have hj : jobB s r.A = true := by simp only [Bool.and_eq_true] at h1; exact h1.1.2
      obtain ⟨g1, g2⟩ := jobB_ok h hj
      have gi : idx s.Tries r.A = some (tr s r.A) := idx_d g1 (by rw [h.tries]; exact g2)
      rw [h1, if_pos (by simp), gi, Option.bind_some]
      by_cases h2 : (r.B == iadd .i64 (tr s r.A) 1) = true
      · rw [if_neg (by simpa using h2), Option.bind_some, put_d g1 (by rw [h.tries]; exact g2), Option.bind_some, Option.bind_some, h2]
        simp [stp, k1, hs']
      · rw [if_pos (by simpa using h2), Option.bind_some]
        simp [h2]
    · have h1' : (s.Now == -1 && jobB s r.A && !dn s r.A) = false := by simpa using h1
      rw [h1', if_neg (by simp), Option.bind_some, if_pos (by simp), Option.bind_some]
      simp
  by_cases k2 : r.Kind = 2
  · refine Ev.all fun n => ?_
    have e : appl s r = (jobB s r.A && s.Now == r.A && r.B == tr s r.A) := by simp [appl, hs', k2]
    rw [if_neg hs, if_neg (by simp [k2]), if_pos (by simp [k2]), e]
    unfold FSpool_finished_apply
    rw [busy_eq h, Option.bind_some]
    by_cases h1 : (jobB s r.A && s.Now == r.A && r.B == tr s r.A) = true
    · have hj : jobB s r.A = true := by simp only [Bool.and_eq_true] at h1; exact h1.1.1
      obtain ⟨g1, g2⟩ := jobB_ok h hj
      rw [h1, if_neg (by simp), idx_d g1 (by rw [h.done]; exact g2), Option.bind_some, put_d g1 (by rw [h.done]; exact g2), Option.bind_some, Option.bind_some]
      simp [stp, k2, hs']
    · have h1' : (jobB s r.A && s.Now == r.A && r.B == tr s r.A) = false := by simpa using h1
      rw [h1', if_pos (by simp), Option.bind_some]
      simp
  by_cases k3 : r.Kind = 3
  · refine Ev.all fun n => ?_
    have e : appl s r = (jobB s r.A && s.Now == r.A && r.B == tr s r.A) := by simp [appl, hs', k3]
    rw [if_neg hs, if_neg (by simp [k3]), if_neg (by simp [k3]), if_pos (by simp [k3]), e]
    unfold FSpool_spoilt_apply
    rw [busy_eq h, Option.bind_some]
    by_cases h1 : (jobB s r.A && s.Now == r.A && r.B == tr s r.A) = true
    · rw [h1, if_neg (by simp), Option.bind_some]
      simp [stp, k3, hs']
    · have h1' : (jobB s r.A && s.Now == r.A && r.B == tr s r.A) = false := by simpa using h1
      rw [h1', if_pos (by simp), Option.bind_some]
      simp
  by_cases k4 : r.Kind = 4
  · have e : appl s r = (s.Now == -1 && jobB s r.A && !dn s r.A && decide (0 ≤ r.B) && !s.Taken.contains r.B) := by simp [appl, hs', k4]
    obtain ⟨N, hN⟩ := containsI_ev s.Taken r.B htl
    refine ⟨N, fun n hn => ?_⟩
    have hc := hN n hn
    simp only at hc ⊢
    rw [if_neg hs, if_neg (by simp [k4]), if_neg (by simp [k4]), if_neg (by simp [k4]), if_pos (by simp [k4]), e]
    unfold FSpool_reused_apply
    rw [idle_eq h, Option.bind_some]
    by_cases h1 : (s.Now == -1 && jobB s r.A && !dn s r.A) = true
    · have hj : jobB s r.A = true := by simp only [Bool.and_eq_true] at h1; exact h1.1.2
      obtain ⟨g1, g2⟩ := jobB_ok h hj
      rw [h1]
      by_cases h2 : 0 ≤ r.B
      · rw [if_pos (by simpa using h2), hc, Option.bind_some]
        cases hcc : s.Taken.contains r.B with
        | true => rw [if_pos (by simp), Option.bind_some]; simp
        | false =>
          rw [if_neg (by simp; omega), idx_d g1 (by rw [h.done]; exact g2), Option.bind_some, put_d g1 (by rw [h.done]; exact g2), Option.bind_some, idx_d g1 (by rw [h.taken]; exact g2), Option.bind_some, put_d g1 (by rw [h.taken]; exact g2), Option.bind_some, Option.bind_some]
          simp [stp, k4, hs', h2]
      · rw [if_neg (by simp; omega), Option.bind_some, if_pos (by simp; omega), Option.bind_some]
        simp [h2]
    · have h1' : (s.Now == -1 && jobB s r.A && !dn s r.A) = false := by simpa using h1
      rw [h1', if_neg (by simp), Option.bind_some, if_pos (by simp), Option.bind_some]
      simp
  by_cases k5 : r.Kind = 5
  · have e : appl s r = (s.Now == -1 && !s.Done.contains false && r.A == 0 && r.B == 0) := by simp [appl, hs', k5]
    obtain ⟨N, hN⟩ := containsB_ev s.Done false hdl
    refine ⟨N, fun n hn => ?_⟩
    have hc := hN n hn
    simp only at hc ⊢
    rw [if_neg hs, if_neg (by simp [k5]), if_neg (by simp [k5]), if_neg (by simp [k5]), if_neg (by simp [k5]), if_pos (by simp [k5]), e]
    unfold FSpool_sealed_apply
    by_cases h1 : (s.Now == -1) = true
    · have h1n : (s.Now != -1) = false := by simpa using h1
      rw [h1n, if_pos (by simp), hc, Option.bind_some, h1]
      cases hcc : s.Done.contains false with
      | true => rw [if_pos (by simp), Option.bind_some]; simp
      | false =>
        by_cases h2 : (r.A == 0 && r.B == 0) = true
        · rw [if_neg (by simp at h2 ⊢; exact h2), Option.bind_some]
          simp only [Bool.and_eq_true] at h2
          simp [h2, stp, k5]
        · rw [if_pos (by simp at h2 ⊢; omega), Option.bind_some]
          have : (r.A == 0 && r.B == 0) = false := by simpa using h2
          simp [Bool.and_assoc, this]
    · have h1n : (s.Now != -1) = true := by simpa using h1
      rw [h1n, if_neg (by simp), Option.bind_some, if_pos (by simp), Option.bind_some]
      simp [h1]
  · refine Ev.all fun n => ?_
    rw [if_neg hs, if_neg (by simp [k1]), if_neg (by simp [k2]), if_neg (by simp [k3]), if_neg (by simp [k4]), if_neg (by simp [k5])]
    simp [appl, k1, k2, k3, k4, k5]
theorem copied_eq {m : Nat} {s : GSpool} (h : WF m s) (n : Nat) : FSpool_copied n s = some s := by
  unfold FSpool_copied
  have := h.sm
  have e1 := h.tries
  have e2 := h.done
  have e3 := h.taken
  rw [mkl_d (by omega) (by simp; omega), Option.bind_some, mkl_d (by omega) (by simp; omega), Option.bind_some, mkl_d (by omega) (by simp; omega), Option.bind_some, cpy_same (by simp), Option.bind_some, cpy_same (by simp), Option.bind_some, cpy_same (by simp), Option.bind_some]
def zeroS : GSpool := ⟨[], [], [], 0, false⟩
def stepS (s : GSpool) (r : GRecord) : GSpool × Int := if appl s r then (stp s r, 0) else (zeroS, 290)
theorem step_ev {m : Nat} {s : GSpool} (h : WF m s) (r : GRecord) : Ev (fun n => FSpool_Step n s r) (stepS s r) := by
  unfold FSpool_Step
  refine Ev.bind (Ev.all (copied_eq h)) (Ev.bind (perform_ev h r) (Ev.all fun n => ?_))
  unfold stepS
  cases appl s r <;> rfl
theorem taken_ev {m : Nat} {s : GSpool} (h : WF m s) (v : Int) : Ev (fun n => FSixdotref29_taken n s v) (s.Taken.contains v) := by
  have hl : s.Taken.length ≤ 100 := by have := h.taken; have := h.sm; omega
  have hE := Ev.first (body := fun n x => FSixdotref29_taken_L1 n s v x) (N := s.Taken.length) (fun i => if s.Taken.getD i default == v then some (Sum.inr true) else none) (d := Sum.inl ()) ⟨0, fun n _ => ⟨fun i hi => by
    unfold FSixdotref29_taken_L1
    rw [if_pos (by simpa using hi), idx_nd hi, Option.bind_some, succ64 (by omega)]
    by_cases hv : (s.Taken.getD i default == v) = true
    · rw [if_pos hv, if_pos hv]
    · rw [if_neg hv, if_neg hv], by
    unfold FSixdotref29_taken_L1
    rw [if_neg (by simp)]⟩⟩
  refine Ev.congr (Ev.bind (g := fun n y => match y with | Sum.inl _ => some false | Sum.inr y => some y) hE ?_) fun n => rfl
  refine Ev.all fun n => ?_
  rcases firstOf_cases s.Taken.length (fun i => if s.Taken.getD i default == v then some (Sum.inr true) else none) (Sum.inl () : Unit ⊕ Bool) with ⟨h, e⟩ | ⟨k, r, hk, hr, h, e⟩
  · rw [e]
    simp only [Option.some.injEq]
    symm
    rw [← Bool.not_eq_true, List.contains_iff_mem, mem_getD]
    rintro ⟨i, hi, hv⟩
    have := h i hi
    rw [hv] at this; simp at this
  · rw [e]
    split at hr
    · rename_i hv
      cases hr
      simp only [Option.some.injEq]
      symm
      rw [List.contains_iff_mem, mem_getD]
      exact ⟨k, hk, eq_of_beq hv⟩
    · cases hr
theorem all_ev {m : Nat} {s : GSpool} (h : WF m s) : Ev (fun n => FSixdotref29_All n s) (!s.Done.contains false) := by
  have hl : s.Done.length ≤ 100 := by have := h.done; have := h.sm; omega
  have hE := Ev.first (body := fun n x => FSixdotref29_All_L1 n s x) (N := s.Done.length) (fun i => if !s.Done.getD i default then some (Sum.inr false) else none) (d := Sum.inl ()) ⟨0, fun n _ => ⟨fun i hi => by
    unfold FSixdotref29_All_L1
    rw [if_pos (by simpa using hi), idx_nd hi, Option.bind_some, succ64 (by omega)]
    by_cases hv : (!s.Done.getD i default) = true
    · rw [if_pos hv, if_pos hv]
    · rw [if_neg hv, if_neg hv], by
    unfold FSixdotref29_All_L1
    rw [if_neg (by simp)]⟩⟩
  refine Ev.congr (Ev.bind (g := fun n y => match y with | Sum.inl _ => some true | Sum.inr y => some y) hE ?_) fun n => rfl
  refine Ev.all fun n => ?_
  rcases firstOf_cases s.Done.length (fun i => if !s.Done.getD i default then some (Sum.inr false) else none) (Sum.inl () : Unit ⊕ Bool) with ⟨h, e⟩ | ⟨k, r, hk, hr, h, e⟩
  · rw [e]
    simp only [Option.some.injEq]
    symm
    rw [Bool.not_eq_true', ← Bool.not_eq_true, List.contains_iff_mem, mem_getD]
    rintro ⟨i, hi, hv⟩
    have := h i hi
    rw [hv] at this; simp at this
  · rw [e]
    split at hr
    · rename_i hv
      cases hr
      simp only [Option.some.injEq]
      symm
      rw [Bool.not_eq_false', List.contains_iff_mem, mem_getD]
      exact ⟨k, hk, by simpa using hv⟩
    · cases hr
theorem rcopied_eq {m : Nat} {s : GSpool} (h : WF m s) (n : Nat) : FSixdotref29_Copied n s = some s := by
  unfold FSixdotref29_Copied
  have := h.sm
  have e1 := h.tries
  have e2 := h.done
  have e3 := h.taken
  rw [app_le (by simp; omega), Option.bind_some, app_le (by simp; omega), Option.bind_some, app_le (by simp; omega), Option.bind_some]
  rfl
theorem applies_ev {m : Nat} {s : GSpool} (h : WF m s) (r : GRecord) : Ev (fun n => FSixdotref29_Applies n s r) (appl s r) := by
  obtain ⟨N1, hA⟩ := all_ev h
  obtain ⟨N2, hT⟩ := taken_ev h r.B
  refine ⟨max N1 N2, fun n hn => ?_⟩
  have hA := hA n (by omega)
  have hT := hT n (by omega)
  simp only at hA hT ⊢
  unfold FSixdotref29_Applies
  by_cases hs : s.Sealed = true
  · rw [if_pos hs]; simp [appl, hs]
  have hs' : s.Sealed = false := by simpa using hs
  have ej : ((decide (r.A ≥ 0)) && (decide (r.A < ((List.length s.Done : Nat) : Int)))) = jobB s r.A := rfl
  rw [if_neg hs, ej]
  by_cases k1 : r.Kind = 1
  · rw [if_pos (by simp [k1])]
    have e : appl s r = (s.Now == -1 && jobB s r.A && !dn s r.A && r.B == iadd .i64 (tr s r.A) 1) := by simp only [appl, hs', k1, if_true, Bool.not_false, Bool.true_and]
    rw [e]
    by_cases h1 : (s.Now == -1 && jobB s r.A) = true
    · have hj : jobB s r.A = true := by simp only [Bool.and_eq_true] at h1; exact h1.2
      obtain ⟨g1, g2⟩ := jobB_ok h hj
      have gi : idx s.Tries r.A = some (tr s r.A) := idx_d g1 (by rw [h.tries]; exact g2)
      have gd : idx s.Done r.A = some (dn s r.A) := idx_d g1 (by rw [h.done]; exact g2)
      rw [h1, if_pos rfl, gd, Option.bind_some]
      cases hd : dn s r.A with
      | true => rw [if_neg (by simp), Option.bind_some]; simp
      | false => rw [if_pos (by simp), gi, Option.bind_some]; 
    · have h1' : (s.Now == -1 && jobB s r.A) = false := by simpa using h1
      rw [h1', if_neg (by simp), Option.bind_some, if_neg (by simp), Option.bind_some]
      simp
  have hJ : ∀ b : Bool, (b = true ↔ r.Kind = 2 ∨ r.Kind = 3) → FSixdotref29_Applies_J1 n s r b = some (appl s r) := by
    intro b hb
    unfold FSixdotref29_Applies_J1
    rw [ej]
    by_cases hb1 : b = true
    · have hk := hb.1 hb1
      have e : appl s r = (jobB s r.A && s.Now == r.A && r.B == tr s r.A) := by
        rcases hk with k | k <;> simp [appl, hs', k]
      rw [if_pos hb1, e]
      by_cases h1 : (jobB s r.A && s.Now == r.A) = true
      · have hj : jobB s r.A = true := by simp only [Bool.and_eq_true] at h1; exact h1.1
        obtain ⟨g1, g2⟩ := jobB_ok h hj
        have gi : idx s.Tries r.A = some (tr s r.A) := idx_d g1 (by rw [h.tries]; exact g2)
        rw [h1, if_pos rfl, gi, Option.bind_some]
      · have h1' : (jobB s r.A && s.Now == r.A) = false := by simpa using h1
        rw [h1', if_neg (by simp), Option.bind_some]; simp
    · have hk : ¬(r.Kind = 2 ∨ r.Kind = 3) := fun hh => hb1 (hb.2 hh)
      rw [if_neg hb1]
      by_cases k4 : r.Kind = 4
      · have e : appl s r = (s.Now == -1 && jobB s r.A && !dn s r.A && decide (0 ≤ r.B) && !s.Taken.contains r.B) := by simp [appl, hs', k4]
        rw [if_pos (by simp [k4]), e]
        by_cases h1 : (s.Now == -1 && jobB s r.A) = true
        · have hj : jobB s r.A = true := by simp only [Bool.and_eq_true] at h1; exact h1.2
          obtain ⟨g1, g2⟩ := jobB_ok h hj
          have gd : idx s.Done r.A = some (dn s r.A) := idx_d g1 (by rw [h.done]; exact g2)
          rw [h1, if_pos rfl, gd, Option.bind_some]
          by_cases h2 : (!dn s r.A && decide (r.B ≥ 0)) = true
          · rw [if_pos (by rw [Bool.true_and]; exact h2), hT, Option.bind_some]
          · have h2' : (!dn s r.A && decide (r.B ≥ 0)) = false := by simpa using h2
            rw [if_neg (by rw [Bool.true_and, h2']; simp), Option.bind_some]
            have h2'' : (!dn s r.A && decide (0 ≤ r.B)) = false := h2'
            rw [Bool.true_and, h2']; rfl
        · have h1' : (s.Now == -1 && jobB s r.A) = false := by simpa using h1
          rw [h1', if_neg (by simp), Option.bind_some, if_neg (by simp), Option.bind_some]; simp
      · rw [if_neg (by simp [k4])]
        by_cases k5 : r.Kind = 5
        · have e : appl s r = (s.Now == -1 && !s.Done.contains false && r.A == 0 && r.B == 0) := by simp [appl, hs', k5]
          rw [if_pos (by simp [k5]), e]
          by_cases h1 : (s.Now == -1) = true
          · rw [if_pos h1, hA, Option.bind_some, h1]
          · have h1' : (s.Now == -1) = false := by simpa using h1
            rw [h1', if_neg (by simp), Option.bind_some]; simp
        · rw [if_neg (by simp [k5])]
          simp [appl, k1, hk, k4, k5]
  rw [if_neg (by simp [k1])]
  by_cases k2 : r.Kind = 2
  · rw [if_pos (by simp [k2])]; exact hJ _ (by simp [k2])
  · rw [if_neg (by simp [k2])]; exact hJ _ (by simp [k2])
theorem rstep_ev {m : Nat} {s : GSpool} (h : WF m s) (r : GRecord) : Ev (fun n => FSixdotref29_Step n s r) (stepS s r) := by
  unfold FSixdotref29_Step
  refine Ev.bind (applies_ev h r) ?_
  refine Ev.all fun n => ?_
  unfold stepS
  by_cases ha : appl s r = true
  · rw [ha, if_neg (by simp), rcopied_eq h, Option.bind_some, if_pos rfl]
    have hs' : s.Sealed = false := by
      cases hss : s.Sealed with
      | false => rfl
      | true => simp [appl, hss] at ha
    have ha' := ha
    unfold appl at ha'
    rw [hs'] at ha'
    have job : r.Kind = 1 ∨ r.Kind = 2 ∨ r.Kind = 3 ∨ r.Kind = 4 → jobB s r.A = true := by
      rintro (k | k | k | k) <;> simp [k] at ha' <;> simp [ha']
    unfold FSixdotref29_Step_J1
    by_cases k1 : r.Kind = 1
    · obtain ⟨g1, g2⟩ := jobB_ok h (job (.inl k1))
      rw [if_pos (by simp [k1]), idx_d g1 (by rw [h.tries]; exact g2), Option.bind_some, put_d g1 (by rw [h.tries]; exact g2), Option.bind_some]
      simp [stp, k1]
    rw [if_neg (by simp [k1])]
    by_cases k2 : r.Kind = 2
    · obtain ⟨g1, g2⟩ := jobB_ok h (job (.inr (.inl k2)))
      rw [if_pos (by simp [k2]), idx_d g1 (by rw [h.done]; exact g2), Option.bind_some, put_d g1 (by rw [h.done]; exact g2), Option.bind_some]
      simp [stp, k2]
    rw [if_neg (by simp [k2])]
    by_cases k3 : r.Kind = 3
    · rw [if_pos (by simp [k3])]
      simp [stp, k3]
    rw [if_neg (by simp [k3])]
    by_cases k4 : r.Kind = 4
    · obtain ⟨g1, g2⟩ := jobB_ok h (job (.inr (.inr (.inr k4))))
      rw [if_pos (by simp [k4]), idx_d g1 (by rw [h.done]; exact g2), Option.bind_some, put_d g1 (by rw [h.done]; exact g2), Option.bind_some, idx_d g1 (by rw [h.taken]; exact g2), Option.bind_some, put_d g1 (by rw [h.taken]; exact g2), Option.bind_some]
      simp [stp, k4]
    rw [if_neg (by simp [k4])]
    by_cases k5 : r.Kind = 5
    · rw [if_pos (by simp [k5])]
      simp [stp, k5]
    · simp [k1, k2, k3, k4, k5] at ha'
  · have ha' : appl s r = false := by simpa using ha
    rw [ha', if_pos (by simp)]; rfl
end Go.AI
end
section
namespace Go.AI
theorem appl_kind {s : GSpool} {r : GRecord} (h : appl s r = true) : s.Sealed = false ∧ ((r.Kind = 1 ∧ s.Now = -1 ∧ jobB s r.A = true ∧ dn s r.A = false ∧ r.B = iadd .i64 (tr s r.A) 1) ∨ ((r.Kind = 2 ∨ r.Kind = 3) ∧ jobB s r.A = true ∧ s.Now = r.A ∧ r.B = tr s r.A) ∨
    (r.Kind = 4 ∧ s.Now = -1 ∧ jobB s r.A = true ∧ dn s r.A = false ∧ 0 ≤ r.B ∧ s.Taken.contains r.B = false) ∨ (r.Kind = 5 ∧ s.Now = -1 ∧ s.Done.contains false = false ∧ r.A = 0 ∧ r.B = 0)) := by
  unfold appl at h
  simp only [Bool.and_eq_true, Bool.not_eq_true'] at h
  obtain ⟨h1, h⟩ := h
  refine ⟨h1, ?_⟩
  split at h
  · rename_i k
    simp only [Bool.and_eq_true, Bool.not_eq_true', beq_iff_eq] at h
    exact .inl ⟨k, h.1.1.1, h.1.1.2, h.1.2, h.2⟩
  split at h
  · rename_i k
    simp only [Bool.and_eq_true, beq_iff_eq] at h
    exact .inr (.inl ⟨k, h.1.1, h.1.2, h.2⟩)
  split at h
  · rename_i k
    simp only [Bool.and_eq_true, Bool.not_eq_true', beq_iff_eq, decide_eq_true_eq] at h
    exact .inr (.inr (.inl ⟨k, h.1.1.1.1, h.1.1.1.2, h.1.1.2, h.1.2, h.2⟩))
  split at h
  · rename_i k
    simp only [Bool.and_eq_true, Bool.not_eq_true', beq_iff_eq] at h
    exact .inr (.inr (.inr ⟨k, h.1.1.1, h.1.1.2, h.1.2, h.2⟩))
  · cases h
theorem WF.step {m : Nat} {s : GSpool} (h : WF m s) {r : GRecord} (ha : appl s r = true) : WF m (stp s r) := by
  have hm := h.lo
  have hj : ∀ {a}, jobB s a = true → 0 ≤ a ∧ a < m := fun hh => jobB_ok h hh
  obtain ⟨hs, ⟨k, h1, h2, _⟩ | ⟨k, h2, h3, _⟩ | ⟨k, h1, h2, _⟩ | ⟨k, h1, _⟩⟩ := appl_kind ha
  · have := hj h2
    simp only [stp, k, if_true]
    exact ⟨by simp [h.tries], h.done, h.taken, by simp only; omega, this.2, h.sm⟩
  · have := hj h2
    rcases k with k | k
    · simp only [stp, k]
      exact ⟨h.tries, by simp [h.done], h.taken, by simp, by simp; omega, h.sm⟩
    · simp only [stp, k]
      exact ⟨h.tries, h.done, h.taken, by simp, by simp; omega, h.sm⟩
  · have := hj h2
    simp only [stp, k]
    exact ⟨h.tries, by simp [h.done], by simp [h.taken], h.lo, h.hi, h.sm⟩
  · simp only [stp, k]
    exact ⟨h.tries, h.done, h.taken, h.lo, h.hi, h.sm⟩
def cnt (s : GSpool) : List GRecord → Nat
  | [] => 0
  | r :: l => if appl s r then cnt (stp s r) l + 1 else 0
def run (s : GSpool) (l : List GRecord) : GSpool := l.foldl stp s
def Appls (s : GSpool) (l : List GRecord) : Prop := cnt s l = l.length
theorem cnt_le (s : GSpool) (l : List GRecord) : cnt s l ≤ l.length := by
  induction l generalizing s with
  | nil => simp [cnt]
  | cons r l ih =>
    unfold cnt
    split
    · have := ih (stp s r); simp; omega
    · simp
theorem cnt_appl {s : GSpool} {l : List GRecord} {i : Nat} {r : GRecord} (h : i < cnt s l) (hr : l[i]? = some r) : appl (run s (l.take i)) r = true := by
  induction l generalizing s i with
  | nil => simp at hr
  | cons q l ih =>
    unfold cnt at h
    split at h
    · rename_i hq
      cases i with
      | zero => simp at hr; subst hr; exact hq
      | succ i => simp at hr; exact ih (s := stp s q) (by omega) hr
    · omega
theorem cnt_stop {s : GSpool} {l : List GRecord} {r : GRecord} (hr : l[cnt s l]? = some r) : appl (run s (l.take (cnt s l))) r = false := by
  induction l generalizing s with
  | nil => simp at hr
  | cons q l ih =>
    unfold cnt at hr ⊢
    split at hr
    · rename_i hq
      rw [if_pos hq]
      simp at hr
      exact ih (s := stp s q) hr
    · rename_i hq
      rw [if_neg hq]
      simp at hr; subst hr
      simpa [run] using hq
theorem run_wf {m : Nat} {s : GSpool} (h : WF m s) {l : List GRecord} : ∀ i, i ≤ cnt s l → WF m (run s (l.take i)) := by
  induction l generalizing s with
  | nil => intro i hi; simpa [run] using h
  | cons q l ih =>
    intro i hi
    cases i with
    | zero => simpa [run] using h
    | succ i =>
      unfold cnt at hi
      split at hi
      · rename_i hq
        exact ih (h.step hq) i (by omega)
      · omega
theorem run_succ {s : GSpool} {l : List GRecord} {i : Nat} {r : GRecord} (hr : l[i]? = some r) : run s (l.take (i + 1)) = stp (run s (l.take i)) r := by
  rw [List.take_add_one, hr]; simp [run]
theorem cnt_append {s : GSpool} {l l' : List GRecord} (h : Appls s l) : cnt s (l ++ l') = l.length + cnt (run s l) l' := by
  unfold Appls at h
  induction l generalizing s with
  | nil => simp [run]
  | cons q l ih =>
    unfold cnt at h
    split at h
    · rename_i hq
      have := ih (s := stp s q) (by simpa using h)
      simp only [List.cons_append, cnt, hq, if_true, this, List.length_cons, run, List.foldl_cons]
      omega
    · simp at h
def newS (m : Nat) : GSpool := ⟨List.replicate m 0, List.replicate m false, List.replicate m (-1), -1, false⟩
theorem new_wf {m : Nat} (h : m ≤ 100) : WF m (newS m) := ⟨by simp [newS], by simp [newS], by simp [newS], by simp [newS], by simp [newS]; omega, h⟩
theorem rnew_ev {k : Int} (h : k ≤ 100) : Ev (fun n => FSixdotref29_New n k) (newS k.toNat) := by
  unfold FSixdotref29_New
  have hE := Ev.to (body := fun n (x : ((List Int) × (List Bool) × (List Int) × Int)) => FSixdotref29_New_L1 n k x.1 x.2.1 x.2.2.1 x.2.2.2) (r := (List.replicate k.toNat 0, List.replicate k.toNat false, List.replicate k.toNat (-1))) (fun i => (List.replicate i 0, List.replicate i false, List.replicate i (-1), (i : Int))) k.toNat ⟨0, fun n _ => ⟨fun i hi => by
    simp only
    unfold FSixdotref29_New_L1
    rw [if_pos (by simp; omega), app_le (by simp; omega), Option.bind_some, app_le (by simp; omega), Option.bind_some, app_le (by simp; omega), Option.bind_some, succ64 (by omega)]
    simp only [List.replicate_succ', Option.some.injEq], by
    simp only
    unfold FSixdotref29_New_L1
    rw [if_neg (by simp; omega)]⟩⟩
  exact Ev.bind hE (Ev.all fun n => rfl)
theorem replay_ev {m : Nat} {s : GSpool} (h : WF m s) {l : List GRecord} (hl : l.length ≤ 1000000) : Ev (fun n => (whl (fun (x : (GSpool × Int)) => FSixdotref29_Replay_L1 n l x.1 x.2) n (s, 0)).bind fun y => match y with | Sum.inl y24 => some (y24, ((List.length l : Nat) : Int)) | Sum.inr y25 => some y25) (run s (l.take (cnt s l)), (cnt s l : Int)) := by
  have hc := cnt_le s l
  obtain ⟨N, hN⟩ : ∃ N, ∀ n, N ≤ n → ∀ i, i ≤ cnt s l → ∀ r, l[i]? = some r → FSixdotref29_Step n (run s (l.take i)) r = some (stepS (run s (l.take i)) r) := by
    have key : ∀ j, ∃ N, ∀ n, N ≤ n → ∀ i, i < j → i ≤ cnt s l → ∀ r, l[i]? = some r → FSixdotref29_Step n (run s (l.take i)) r = some (stepS (run s (l.take i)) r) := by
      intro j
      induction j with
      | zero => exact ⟨0, fun n _ i hi => by omega⟩
      | succ j ih =>
        obtain ⟨N, hN⟩ := ih
        by_cases hj : j ≤ cnt s l
        · cases hr : l[j]? with
          | none => exact ⟨N, fun n hn i hi hic r hr' => by
              by_cases e : i = j
              · subst e; rw [hr] at hr'; cases hr'
              · exact hN n hn i (by omega) hic r hr'⟩
          | some r =>
            obtain ⟨M, hM⟩ := rstep_ev (run_wf h j hj) r
            exact ⟨max N M, fun n hn i hi hic r' hr' => by
              by_cases e : i = j
              · subst e; rw [hr] at hr'; cases hr'; exact hM n (by omega)
              · exact hN n (by omega) i (by omega) hic r' hr'⟩
        · exact ⟨N, fun n hn i hi hic => hN n hn i (by omega) hic⟩
    obtain ⟨N, hN⟩ := key (cnt s l + 1)
    exact ⟨N, fun n hn i hi => hN n hn i (by omega) hi⟩
  have hround : ∀ n, N ≤ n → ∀ i, i < cnt s l → FSixdotref29_Replay_L1 n l (run s (l.take i)) (i : Int) = some (.inl (run s (l.take (i + 1)), ((i + 1 : Nat) : Int))) := by
    intro n hn i hi
    have hr : l[i]? = some l[i] := List.getElem?_eq_getElem (by omega)
    unfold FSixdotref29_Replay_L1
    rw [if_pos (by simp; omega), idx_at hr, Option.bind_some, hN n hn i (by omega) _ hr, Option.bind_some]
    unfold stepS
    rw [if_pos (cnt_appl hi hr), if_neg (by simp), succ64 (by omega), run_succ hr]
  have hE := Ev.to (body := fun n (x : (GSpool × Int)) => FSixdotref29_Replay_L1 n l x.1 x.2) (r := if cnt s l = l.length then .inl (run s (l.take (cnt s l))) else .inr (run s (l.take (cnt s l)), (cnt s l : Int))) (fun i => (run s (l.take i), (i : Int))) (cnt s l) ⟨N, fun n hn => ⟨fun i hi => hround n hn i hi, by
    simp only
    by_cases e : cnt s l = l.length
    · unfold FSixdotref29_Replay_L1
      rw [if_neg (by simp; omega), if_pos e]
    · have hr : l[cnt s l]? = some (l[cnt s l]'(by omega)) := List.getElem?_eq_getElem (by omega)
      unfold FSixdotref29_Replay_L1
      rw [if_pos (by simp; omega), idx_at hr, Option.bind_some, hN n hn _ (Nat.le_refl _) _ hr, Option.bind_some]
      unfold stepS
      simp only [cnt_stop hr, Bool.false_eq_true, if_false]
      rw [if_pos (by decide), if_neg e]⟩⟩
  refine Ev.bind hE (Ev.all fun n => ?_)
  split
  · rename_i y hy
    split at hy
    · rename_i e; cases hy; rw [e]
    · cases hy
  · rename_i y hy
    split at hy
    · cases hy
    · cases hy; rfl
theorem rreplay_ev {k : Int} (hk : k ≤ 100) {l : List GRecord} (hl : l.length ≤ 1000000) : Ev (fun n => FSixdotref29_Replay n k l) (run (newS k.toNat) (l.take (cnt (newS k.toNat) l)), (cnt (newS k.toNat) l : Int)) := by
  unfold FSixdotref29_Replay
  exact Ev.bind (rnew_ev hk) (replay_ev (new_wf (by omega)) hl)
end Go.AI
end
section
namespace Go.AI
def fromAt (m : GMatching) (j : Int) : Int := m.From.getD j.toNat default
def nxtR (s : GSpool) (m : GMatching) : GRecord :=
  if s.Sealed then ⟨0, 0, 0⟩
  else if s.Now ≠ -1 then ⟨3, s.Now, tr s s.Now⟩
  else if idxS s.Done false < 0 then ⟨5, 0, 0⟩
  else if idxS s.Done false < m.From.length ∧ 0 ≤ fromAt m (idxS s.Done false) ∧ s.Taken.contains (fromAt m (idxS s.Done false)) = false then ⟨4, idxS s.Done false, fromAt m (idxS s.Done false)⟩
  else ⟨1, idxS s.Done false, iadd .i64 (tr s (idxS s.Done false)) 1⟩
theorem next_ev {m : Nat} {s : GSpool} (h : WF m s) (mt : GMatching) : Ev (fun n => FSpool_Next n s mt) (nxtR s mt) := by
  have hdl : s.Done.length < 9223372036854775807 := by have := h.done; have := h.sm; omega
  have htl : s.Taken.length < 9223372036854775807 := by have := h.taken; have := h.sm; omega
  obtain ⟨N1, hi⟩ := indexB_ev s.Done false hdl
  obtain ⟨N2, hc⟩ := containsI_ev s.Taken (fromAt mt (idxS s.Done false)) htl
  refine ⟨max N1 N2, fun n hn => ?_⟩
  have hi := hi n (by omega)
  have hc := hc n (by omega)
  simp only at hi hc ⊢
  unfold FSpool_Next
  by_cases hs : s.Sealed = true
  · rw [if_pos hs]; simp [nxtR, hs]
  rw [if_neg hs]
  by_cases h1 : s.Now = -1
  · rw [if_neg (by simp [h1]), hi, Option.bind_some]
    have hx : nxtR s mt = if idxS s.Done false < 0 then ⟨5, 0, 0⟩ else if idxS s.Done false < mt.From.length ∧ 0 ≤ fromAt mt (idxS s.Done false) ∧ s.Taken.contains (fromAt mt (idxS s.Done false)) = false then ⟨4, idxS s.Done false, fromAt mt (idxS s.Done false)⟩ else ⟨1, idxS s.Done false, iadd .i64 (tr s (idxS s.Done false)) 1⟩ := by
      simp [nxtR, hs, h1]
    rw [hx]
    rcases idxS_cases s.Done false with ⟨e, hall⟩ | ⟨k, hk, e, hv, _⟩
    · rw [e, if_pos (by decide), if_pos (by decide)]
    · rw [e] at hc ⊢
      rw [if_neg (by simp), if_neg (by omega : ¬((k : Int) < 0))]
      have hkm : k < m := by rw [← h.done]; exact hk
      have gk : jobB s (k : Int) = true := by unfold jobB; simp; exact hk
      have gt : idx s.Tries (k : Int) = some (tr s k) := idx_d (by omega) (by rw [h.tries]; omega)
      have tail : ((FSpool_known n s (k : Int)).bind fun (r29 : Bool) => if r29 = true then (idx s.Tries (k : Int)).bind fun (x33 : Int) => FSpool_Next_J2 n ({ Kind := 1, A := (k : Int), B := iadd .i64 x33 1 } : GRecord) else FSpool_Next_J2 n ({ Kind := 1, A := (k : Int), B := 1 } : GRecord)) = some ⟨1, (k : Int), iadd .i64 (tr s k) 1⟩ := by
        rw [known_eq h, Option.bind_some, if_pos gk, gt, Option.bind_some]; rfl
      by_cases h2 : (k : Int) < mt.From.length
      · have gf : idx mt.From (k : Int) = some (fromAt mt k) := idx_d (by omega) h2
        have d2 : decide ((k : Int) < mt.From.length) = true := decide_eq_true h2
        simp only [d2, if_true, Bool.true_and, gf, Option.bind_some]
        by_cases h3 : 0 ≤ fromAt mt k
        · have d3 : decide (fromAt mt (k : Int) ≥ 0) = true := decide_eq_true h3
          simp only [d3, if_true, Bool.true_and, hc, Option.bind_some]
          cases hcc : s.Taken.contains (fromAt mt k) with
          | true =>
            rw [if_neg (by simp), if_neg (by simp)]
            exact tail
          | false => simp only [Bool.not_false, if_true]; rw [if_pos ⟨h2, h3, trivial⟩]
        · have d3 : decide (fromAt mt (k : Int) ≥ 0) = false := decide_eq_false h3
          simp only [d3, Bool.false_eq_true, if_false, Option.bind_some, Bool.false_and]
          rw [if_neg (fun hh => h3 hh.2.1)]
          exact tail
      · have d2 : decide ((k : Int) < mt.From.length) = false := decide_eq_false h2
        simp only [d2, Bool.false_eq_true, if_false, Option.bind_some, Bool.false_and]
        rw [if_neg (fun hh => h2 hh.1)]
        exact tail
  · have hlo := h.lo
    have hhi := h.hi
    have gk : jobB s s.Now = true := by unfold jobB; rw [h.done]; simp; omega
    rw [if_pos (by simpa using h1), known_eq h, Option.bind_some, if_pos gk, idx_d (by omega) (by rw [h.tries]; exact hhi), Option.bind_some]
    simp only [nxtR, hs, h1, ne_eq, not_false_eq_true, if_true, if_false]; rfl
theorem rnext_ev {m : Nat} {s : GSpool} (h : WF m s) (mt : GMatching) : Ev (fun n => FSixdotref29_Next n s mt) (nxtR s mt) := by
  have hl : s.Done.length ≤ 100 := by have := h.done; have := h.sm; omega
  unfold FSixdotref29_Next
  by_cases hs : s.Sealed = true
  · refine Ev.all fun n => ?_
    rw [if_pos hs]
    simp [nxtR, hs]
  have hlo := h.lo
  have hhi := h.hi
  by_cases h1 : s.Now = -1
  · refine Ev.congr (f := fun n => (whl (fun (x : Int) => FSixdotref29_Next_L1 n s mt x) n 0).bind fun (y34 : (Unit ⊕ GRecord)) => match y34 with | Sum.inl y35 => some ({ Kind := 5, A := 0, B := 0 } : GRecord) | Sum.inr y36 => some y36) ?_ (fun n => by rw [if_neg hs, if_neg (by simp; omega)]; rfl)
    obtain ⟨N, hT⟩ : ∃ N, ∀ n, N ≤ n → ∀ j, j < s.Done.length → FSixdotref29_taken n s (fromAt mt j) = some (s.Taken.contains (fromAt mt j)) := by
      have key : ∀ k : Nat, ∃ N, ∀ n, N ≤ n → ∀ j : Nat, j < k → FSixdotref29_taken n s (fromAt mt j) = some (s.Taken.contains (fromAt mt j)) := by
        intro k
        induction k with
        | zero => exact ⟨0, fun n _ j hj => by omega⟩
        | succ k ih =>
          obtain ⟨N, hN⟩ := ih
          obtain ⟨M, hM⟩ := taken_ev h (fromAt mt k)
          exact ⟨max N M, fun n hn j hj => by
            by_cases e : j = k
            · subst e; exact hM n (by omega)
            · exact hN n (by omega) j (by omega)⟩
      exact key _
    let rec_ : Nat → GRecord := fun k => if (k : Int) < mt.From.length ∧ 0 ≤ fromAt mt k ∧ s.Taken.contains (fromAt mt k) = false then ⟨4, (k : Int), fromAt mt k⟩ else ⟨1, (k : Int), iadd .i64 (tr s k) 1⟩
    have hE := Ev.first (body := fun n x => FSixdotref29_Next_L1 n s mt x) (N := s.Done.length) (fun i => if s.Done.getD i default then none else some (Sum.inr (rec_ i))) (d := Sum.inl ()) ⟨N, fun n hn => ⟨fun k hk => by
      have hkm : k < m := by rw [← h.done]; exact hk
      have hc := hT n hn k hk
      have gt : idx s.Tries (k : Int) = some (tr s k) := idx_d (by omega) (by rw [h.tries]; omega)
      unfold FSixdotref29_Next_L1
      rw [if_pos (by simpa using hk), idx_nd hk, Option.bind_some, succ64 (by omega)]
      cases hd : s.Done.getD k default with
      | true => simp
      | false =>
        simp only [Bool.false_eq_true, if_false]
        by_cases h2 : (k : Int) < mt.From.length
        · have gf : idx mt.From (k : Int) = some (fromAt mt k) := idx_d (by omega) h2
          have d2 : decide ((k : Int) < mt.From.length) = true := decide_eq_true h2
          simp only [d2, if_true, Bool.true_and, gf, Option.bind_some]
          by_cases h3 : 0 ≤ fromAt mt k
          · have d3 : decide (fromAt mt (k : Int) ≥ 0) = true := decide_eq_true h3
            simp only [d3, if_true, Bool.true_and, hc, Option.bind_some]
            cases hcc : s.Taken.contains (fromAt mt k) with
            | true => simp only [Bool.not_true, Bool.false_eq_true, if_false, gt, Option.bind_some, rec_]; rw [if_neg (by rw [hcc]; simp)]
            | false => simp only [Bool.not_false, if_true, rec_]; rw [if_pos ⟨h2, h3, hcc⟩]
          · have d3 : decide (fromAt mt (k : Int) ≥ 0) = false := decide_eq_false h3
            simp only [d3, Bool.false_eq_true, if_false, Option.bind_some, Bool.false_and, gt, rec_]
            rw [if_neg (fun hh => h3 hh.2.1)]
        · have d2 : decide ((k : Int) < mt.From.length) = false := decide_eq_false h2
          simp only [d2, Bool.false_eq_true, if_false, Option.bind_some, Bool.false_and, gt, rec_]
          rw [if_neg (fun hh => h2 hh.1)], by
      unfold FSixdotref29_Next_L1
      rw [if_neg (by simp)]⟩⟩
    refine Ev.bind (g := fun n (y34 : (Unit ⊕ GRecord)) => match y34 with | Sum.inl y35 => some ({ Kind := 5, A := 0, B := 0 } : GRecord) | Sum.inr y36 => some y36) hE (Ev.all fun n => ?_)
    unfold nxtR
    rw [if_neg hs, if_neg (by simp [h1])]
    rcases idxS_cases s.Done false with ⟨e, hall⟩ | ⟨k, hk, e, hv, hb⟩
    · rw [firstOf_d (fun i hi => by
        have := hall i hi
        rw [if_pos (by simpa using this)]), e, if_pos (by decide)]
    · rw [firstOf_s k hk (by rw [hv]; rfl) (fun i hi => by
        have := hb i hi
        rw [if_pos (by simpa using this)]), e, if_neg (by omega)]
  · refine Ev.all fun n => ?_
    rw [if_neg hs, if_pos (by simp; omega), idx_d (by omega) (by rw [h.tries]; exact hhi), Option.bind_some]
    unfold nxtR
    rw [if_neg hs, if_pos h1]; rfl
end Go.AI
end
section
namespace Go.AI
def U8 (n : Int) : Prop := 0 ≤ n ∧ n < 256
def RawOK (x : GRaw) : Prop := U8 x.N ∧ (∀ a ∈ x.From, U8 a) ∧ ∀ a ∈ x.L, U8 a
theorem sanity_ev : Ev (fun n => FSixdotlaw29_sanity n) true := Ev.of (fun n m h => FSixdotlaw29_sanity_le h) (n := 40) (by kernel_rfl)
theorem jobs_eq {x : GRaw} (hx : RawOK x) : ∃ m : Nat, m ≤ 5 ∧ ∀ n, FSixdotref29_Jobs n x = some (m : Int) := by
  obtain ⟨h1, h2⟩ := hx.1
  obtain ⟨e, g1, g2⟩ := rem_range (m := 6) h1 (by decide)
  refine ⟨(irem x.N 6).toNat, by omega, fun n => ?_⟩
  unfold FSixdotref29_Jobs
  rw [w64 (by omega) (by omega)]
  congr 1; omega
theorem matching_tot {x : GRaw} (hx : RawOK x) : Tot (fun n => FSixdotref29_Matching n x) (fun m => ∀ v ∈ m.From, v < 1000) := by
  unfold FSixdotref29_Matching
  refine Tot.bind (R := fun l => ∀ v ∈ l, v < 1000) ?_ fun y hy => Tot.pure hy
  refine Tot.upto (body := fun n (y : ((List Int) × Int)) => FSixdotref29_Matching_L1 n x y.1 y.2) (min x.From.length 6) (fun i y => y.2 = (i : Int) ∧ y.1.length = i ∧ ∀ v ∈ y.1, v < 1000) ?_ ?_ ([], 0) ⟨rfl, rfl, by simp⟩
  · rintro i ⟨out, j⟩ hi ⟨e1, e2, e3⟩
    simp only at e1 e2 e3
    subst e1
    have hlt : i < x.From.length := by omega
    have hu := hx.2.1 _ (List.getElem_mem hlt)
    obtain ⟨e, g1, g2⟩ := rem_range (m := 6) hu.1 (by decide)
    refine Tot.all (z := .inl (out ++ [isub .i64 (IntKind.i64.wrap (irem x.From[i] 6)) 1], ((i + 1 : Nat) : Int))) (fun n => ?_) ⟨rfl, by simp [e2], fun v hv => ?_⟩
    · unfold FSixdotref29_Matching_L1
      rw [if_pos (by simp; omega), idx_lt hlt, Option.bind_some, app_le (by simp; omega), Option.bind_some, succ64 (by omega)]
    · rcases List.mem_append.1 hv with h | h
      · exact e3 v h
      · simp only [List.mem_singleton] at h
        rw [h, w64 (by omega) (by omega), sub64 (by omega) (by omega)]; omega
  · rintro ⟨out, j⟩ ⟨e1, e2, e3⟩
    simp only at e1 e2 e3
    subst e1
    refine Tot.all (z := .inr out) (fun n => ?_) e3
    unfold FSixdotref29_Matching_L1
    rw [if_neg (by simp; omega)]
theorem arbitrary_eq {k : Int} (hk : U8 k) : ∃ r : GRecord, r.B < 1000 ∧ ∀ n, FSixdotref29_Arbitrary n k = some r := by
  refine ⟨_, ?_, fun n => rfl⟩
  have e1 : IntKind.i64.wrap k = k := w64 (by have := hk.1; omega) (by have := hk.2; omega)
  simp only [e1]
  have : (0 : Int) ≤ iquo .i64 k 3 := by
    unfold iquo
    have hk1 := hk.1
    have hk2 := hk.2
    rw [Int.tdiv_eq_ediv_of_nonneg hk1, w64 (by omega) (by omega)]; omega
  have := (rem_range (m := 5) this (by decide)).2.2
  omega
theorem nxtR_B {s : GSpool} {mt : GMatching} (h : ∀ v ∈ mt.From, v < 1000) (hk : (nxtR s mt).Kind = 4) : (nxtR s mt).B < 1000 := by
  unfold nxtR at hk ⊢
  split
  · decide
  split
  · rename_i h1 h2; simp [h1, h2] at hk
  split
  · decide
  split
  · rename_i h1 h2 h3 h4
    simp only [fromAt]
    obtain ⟨g1, g2, _⟩ := h4
    have hlt : (idxS s.Done false).toNat < mt.From.length := by omega
    rw [List.getD_eq_getElem?_getD, List.getElem?_eq_getElem hlt]
    exact h _ (List.getElem_mem hlt)
  · rename_i h1 h2 h3 h4
    rw [if_neg h1, if_neg h2, if_neg h3, if_neg h4] at hk
    simp at hk
def Recs (l : List GRecord) : Prop := l.length ≤ 24 ∧ ∀ r ∈ l, r.Kind = 4 → r.B < 1000
theorem records_tot {x : GRaw} (hx : RawOK x) : Tot (fun n => FSixdotref29_Records n x) Recs := by
  unfold FSixdotref29_Records
  obtain ⟨m, hm, hj⟩ := jobs_eq hx
  refine Tot.bindA hj ?_
  refine Tot.bindE (rnew_ev (k := (m : Int)) (by omega)) ?_
  rw [Int.toNat_natCast]
  refine Tot.bind (R := fun y => match y with | .inl l => Recs l | .inr l => Recs l) ?_ fun y hy => (by
    cases y with
    | inl l => exact Tot.pure hy
    | inr l => exact Tot.pure hy)
  refine Tot.upto (body := fun n (y : ((List GRecord) × GSpool × Int)) => FSixdotref29_Records_L1 n x y.1 y.2.1 y.2.2) (min x.L.length 24) (fun i y => y.2.2 = (i : Int) ∧ y.1.length = i ∧ WF m y.2.1 ∧ ∀ r ∈ y.1, r.Kind = 4 → r.B < 1000) ?_ ?_ ([], newS m, 0) ⟨rfl, rfl, new_wf (by omega), by simp⟩
  · rintro i ⟨out, s, j⟩ hi ⟨e1, e2, hw, e3⟩
    simp only at e1 e2 e3 hw
    subst e1
    have hlt : i < x.L.length := by omega
    have hu := hx.2.2 _ (List.getElem_mem hlt)
    have hJ2 : ∀ r : GRecord, (r.Kind = 4 → r.B < 1000) → Tot (fun n => FSixdotref29_Records_J2 n out s (i : Int) r) (Rd2 (fun y => y.2.2 = ((i + 1 : Nat) : Int) ∧ y.1.length = i + 1 ∧ WF m y.2.1 ∧ ∀ r ∈ y.1, r.Kind = 4 → r.B < 1000) (fun y => match y with | .inl l => Recs l | .inr l => Recs l)) := by
      intro r hr
      have hall : ∀ q ∈ out ++ [r], q.Kind = 4 → q.B < 1000 := fun q hq => by
        rcases List.mem_append.1 hq with h | h
        · exact e3 q h
        · simp only [List.mem_singleton] at h; subst h; exact hr
      unfold FSixdotref29_Records_J2
      refine Tot.bindE (rstep_ev hw r) ?_
      refine Tot.bindC (app_le (by simp; omega)) ?_
      unfold stepS
      by_cases ha : appl s r = true
      · rw [if_pos ha]
        refine Tot.iteF (by simp) (Tot.pure ?_)
        rw [succ64 (by omega)]
        exact ⟨rfl, by simp [e2], hw.step ha, hall⟩
      · rw [if_neg ha]
        refine Tot.iteT (by decide) (Tot.pure ?_)
        exact ⟨by simp; omega, hall⟩
    have hJ1 : ∀ r : GRecord, (r.Kind = 4 → r.B < 1000) → Tot (fun n => FSixdotref29_Records_J1 n x out s (i : Int) r) (Rd2 (fun y => y.2.2 = ((i + 1 : Nat) : Int) ∧ y.1.length = i + 1 ∧ WF m y.2.1 ∧ ∀ r ∈ y.1, r.Kind = 4 → r.B < 1000) (fun y => match y with | .inl l => Recs l | .inr l => Recs l)) := by
      intro r hr
      unfold FSixdotref29_Records_J1
      refine Tot.bindC (idx_lt hlt) ?_
      refine Tot.ite (fun hc => ?_) fun _ => hJ2 r hr
      refine Tot.bindC (idx_lt hlt) ?_
      have hc : x.L[i] > 200 := by simpa using hc
      have hu1 := hu.1
      have hu2 := hu.2
      have e8 : isub .u8 x.L[i] 200 = x.L[i] - 200 := w8 (by omega) (by omega)
      obtain ⟨q, hq, hq'⟩ := arbitrary_eq (k := isub .u8 x.L[i] 200) ⟨by omega, by omega⟩
      exact Tot.bindA hq' (hJ2 q fun _ => hq)
    unfold FSixdotref29_Records_L1
    refine Tot.iteT (by simp; omega) ?_
    refine Tot.bind (matching_tot hx) fun mt hmt => ?_
    refine Tot.bindE (rnext_ev hw mt) ?_
    refine Tot.guard (R := fun _ => True) (fun _ => Tot.all (fun n => idx_lt hlt) trivial) fun v _ => ?_
    refine Tot.ite (fun _ => hJ1 _ (fun h => by simp at h)) fun _ => hJ1 _ fun h => nxtR_B hmt h
  · rintro ⟨out, s, j⟩ ⟨e1, e2, hw, e3⟩
    simp only at e1 e2 e3 hw
    subst e1
    refine Tot.all (z := .inr (.inl out)) (fun n => ?_) ⟨by omega, e3⟩
    unfold FSixdotref29_Records_L1
    rw [if_neg (by simp; omega)]
theorem WF.len {m : Nat} {s : GSpool} (h : WF m s) : s.Tries.length ≤ 1000000 ∧ s.Done.length ≤ 1000000 ∧ s.Taken.length ≤ 1000000 := by
  have := h.tries
  have := h.done
  have := h.taken
  have := h.sm
  omega
end Go.AI
end
section
namespace Go.AI
theorem getD_set {α : Type} {l : List α} {i j : Nat} {v d : α} (h : i < l.length) : (l.set i v).getD j d = if i = j then v else l.getD j d := by
  rw [List.getD_eq_getElem?_getD, List.getElem?_set]
  split
  · rfl
  · rw [List.getD_eq_getElem?_getD]
def Bz (s : GSpool) : Prop := 0 ≤ s.Now → dn s s.Now = false
theorem Bz.new (m : Nat) : Bz (newS m) := fun h => by simp [newS] at h
theorem Bz.step {m : Nat} {s : GSpool} (hw : WF m s) (h : Bz s) {r : GRecord} (ha : appl s r = true) : Bz (stp s r) := by
  obtain ⟨hs, ⟨k, h1, h2, h3, _⟩ | ⟨k, h2, h3, _⟩ | ⟨k, h1, h2, h3, _⟩ | ⟨k, h1, _⟩⟩ := appl_kind ha
  · intro _
    simp only [stp, k, if_true]
    exact h3
  · rcases k with k | k
    · intro hh; simp [stp, k] at hh
    · intro hh; simp [stp, k] at hh
  · intro hh
    simp only [stp, k] at hh
    simp [h1] at hh
  · intro hh
    simp only [stp, k] at hh
    simp [h1] at hh
theorem run_bz {m : Nat} {s : GSpool} (h : WF m s) (hb : Bz s) {l : List GRecord} : ∀ i, i ≤ cnt s l → Bz (run s (l.take i)) := by
  intro i
  induction i with
  | zero => intro _; simpa [run] using hb
  | succ i ih =>
    intro hi
    have hc := cnt_le s l
    have hr : l[i]? = some l[i] := List.getElem?_eq_getElem (by omega)
    rw [run_succ hr]
    exact (ih (by omega)).step (run_wf h i (by omega)) (cnt_appl hi hr)
def Mk (q : GRecord) (s : GSpool) : Prop := (q.Kind = 5 → s.Sealed = true) ∧ (q.Kind = 2 ∨ q.Kind = 4 → jobB s q.A = true ∧ dn s q.A = true) ∧ (q.Kind = 4 → s.Taken.getD q.A.toNat default = q.B)
theorem jobB_step {m : Nat} {s : GSpool} (hw : WF m s) {r : GRecord} (ha : appl s r = true) (a : Int) : jobB (stp s r) a = jobB s a := by
  unfold jobB
  rw [hw.done, (hw.step ha).done]
theorem dn_step {m : Nat} {s : GSpool} (hw : WF m s) {r : GRecord} (ha : appl s r = true) {a : Int} (h : dn s a = true) : dn (stp s r) a = true := by
  obtain ⟨hs, ⟨k, h1, h2, h3, _⟩ | ⟨k, h2, h3, _⟩ | ⟨k, h1, h2, h3, _⟩ | ⟨k, h1, _⟩⟩ := appl_kind ha
  · simp only [stp, k, if_true]; exact h
  · obtain ⟨g1, g2⟩ := jobB_ok hw h2
    rcases k with k | k
    · simp only [stp, k, dn]
      rw [if_neg (by decide), if_pos trivial]
      simp only
      rw [getD_set (by rw [hw.done]; omega)]
      split
      · rfl
      · exact h
    · simp only [stp, k, dn]; exact h
  · obtain ⟨g1, g2⟩ := jobB_ok hw h2
    simp only [stp, k, dn]
    rw [if_neg (by decide), if_neg (by decide), if_neg (by decide), if_pos trivial]
    simp only
    rw [getD_set (by rw [hw.done]; omega)]
    split
    · rfl
    · exact h
  · simp only [stp, k, dn]; exact h
theorem Mk.step {m : Nat} {s : GSpool} (hw : WF m s) {q r : GRecord} (ha : appl s r = true) (h : Mk q s) : Mk q (stp s r) := by
  have hs := (appl_kind ha).1
  refine ⟨fun k => ?_, fun k => ⟨by rw [jobB_step hw ha]; exact (h.2.1 k).1, dn_step hw ha (h.2.1 k).2⟩, fun k => ?_⟩
  · rw [h.1 k] at hs; cases hs
  · have hq := h.2.1 (.inr k)
    obtain ⟨_, ⟨k', h1, h2, h3, _⟩ | ⟨k', h2, h3, _⟩ | ⟨k', h1, h2, h3, _⟩ | ⟨k', h1, _⟩⟩ := appl_kind ha
    · simp only [stp, k', if_true]; exact h.2.2 k
    · rcases k' with k' | k'
      · simp only [stp, k']; exact h.2.2 k
      · simp only [stp, k']; exact h.2.2 k
    · obtain ⟨g1, g2⟩ := jobB_ok hw h2
      obtain ⟨f1, f2⟩ := jobB_ok hw hq.1
      simp only [stp, k']
      rw [if_neg (by decide), if_neg (by decide), if_neg (by decide), if_pos trivial]
      simp only
      rw [getD_set (by rw [hw.taken]; omega), if_neg, h.2.2 k]
      intro e
      have : q.A = r.A := by omega
      rw [this] at hq
      rw [hq.2] at h3; cases h3
    · simp only [stp, k']; exact h.2.2 k
end Go.AI
end
section
namespace Go.AI
theorem count_set : ∀ (l : List Bool) (j : Nat), j < l.length → l.getD j default = false → (l.set j true).count false + 1 = l.count false := by
  intro l
  induction l with
  | nil => intro j h; simp at h
  | cons b l ih =>
    intro j hj hb
    cases j with
    | zero =>
      simp at hb
      subst hb
      simp
    | succ j =>
      simp only [List.length_cons] at hj
      have := ih j (by omega) (by simpa using hb)
      simp only [List.set_cons_succ, List.count_cons]
      omega
def un (s : GSpool) : Nat := s.Done.count false
def bz (s : GSpool) : Nat := if s.Now = -1 then 0 else 1
def left (s : GSpool) : Nat := if s.Sealed then 1 else 2 + un s + bz s
def cj (l : List GRecord) (j : Nat) : Nat := l.countP fun r => (r.A == (j : Int)) && (r.Kind == 2 || r.Kind == 4)
def Sd (s : GSpool) : Prop := s.Sealed = true → s.Done.contains false = false
theorem Sd.new (m : Nat) : Sd (newS m) := fun h => by simp [newS] at h
theorem Sd.step {s : GSpool} {r : GRecord} (ha : appl s r = true) : Sd (stp s r) := by
  obtain ⟨hs, ⟨k, h1, h2, h3, _⟩ | ⟨k, h2, h3, _⟩ | ⟨k, h1, h2, h3, _⟩ | ⟨k, h1, h2, _⟩⟩ := appl_kind ha
  · intro h; simp [stp, k, hs] at h
  · intro h; rcases k with k | k <;> simp [stp, k, hs] at h
  · intro h; simp [stp, k, hs] at h
  · intro _; simp only [stp, k]; exact h2
theorem run_sd {s : GSpool} (hb : Sd s) {l : List GRecord} : ∀ i, i ≤ cnt s l → Sd (run s (l.take i)) := by
  intro i hi
  cases i with
  | zero => simpa [run] using hb
  | succ i =>
    have hc := cnt_le s l
    have hr : l[i]? = some l[i] := List.getElem?_eq_getElem (by omega)
    rw [run_succ hr]
    exact Sd.step (cnt_appl hi hr)
structure Rst (m : Nat) (s0 s : GSpool) (out : List GRecord) : Prop where
  ap : Appls s0 out
  rn : run s0 out = s
  wf : WF m s
  sd : Sd s
  cn : ∀ j : Nat, j < m → cj out j = if dn s0 j then 0 else if dn s j then 1 else 0
  up : ∀ j : Nat, j < m → dn s0 j = true → dn s j = true
  bg : ∀ r ∈ out, r.Kind = 1 → 0 ≤ r.A ∧ r.A < m ∧ dn s0 r.A = false
  ln : out.length + 2 * un s + bz s + (if s.Sealed then 0 else 1) ≤ 2 * un s0 + bz s0 + 1
theorem appl_appls {s0 s : GSpool} {out : List GRecord} {r : GRecord} (h : Appls s0 out) (hr : run s0 out = s) (ha : appl s r = true) : Appls s0 (out ++ [r]) ∧ run s0 (out ++ [r]) = stp s r := by
  refine ⟨?_, ?_⟩
  · unfold Appls
    rw [cnt_append h, hr]
    simp [cnt, ha]
  · unfold run at hr ⊢
    rw [List.foldl_append, hr]; rfl
theorem cj_snoc (out : List GRecord) (r : GRecord) (j : Nat) : cj (out ++ [r]) j = cj out j + (if (r.A == (j : Int)) && (r.Kind == 2 || r.Kind == 4) then 1 else 0) := by
  unfold cj
  rw [List.countP_append, List.countP_cons, List.countP_nil]; simp
theorem Rst.same {m : Nat} {s0 s : GSpool} {out : List GRecord} (h : Rst m s0 s out) {r : GRecord} (ha : appl s r = true) (hk : r.Kind = 3 ∨ r.Kind = 5) : Rst m s0 (stp s r) (out ++ [r]) := by
  obtain ⟨h1, h2⟩ := appl_appls h.ap h.rn ha
  have hd : (stp s r).Done = s.Done := by rcases hk with k | k <;> simp [stp, k]
  have hdn : ∀ j, dn (stp s r) j = dn s j := fun j => by unfold dn; rw [hd]
  refine ⟨h1, h2, h.wf.step ha, Sd.step ha, fun j hj => ?_, fun j hj h0 => by rw [hdn]; exact h.up j hj h0, fun q hq => ?_, ?_⟩
  · rw [cj_snoc, h.cn j hj, hdn]
    have : ((r.A == (j : Int)) && (r.Kind == 2 || r.Kind == 4)) = false := by rcases hk with k | k <;> simp [k]
    rw [this]; simp
  · rcases List.mem_append.1 hq with hq | hq
    · exact h.bg q hq
    · simp only [List.mem_singleton] at hq
      subst hq
      intro k; omega
  · have hl := h.ln
    have hs := (appl_kind ha).1
    have hu : un (stp s r) = un s := by unfold un; rw [hd]
    rw [hu, List.length_append]
    simp only [List.length_singleton]
    rw [hs] at hl
    simp only [Bool.false_eq_true, if_false] at hl
    rcases hk with k | k
    · have hn : s.Now ≠ -1 := by
        obtain ⟨_, ⟨k', _⟩ | ⟨k', h2, h3, _⟩ | ⟨k', _⟩ | ⟨k', _⟩⟩ := appl_kind ha
        · omega
        · have := (jobB_ok h.wf h2).1; omega
        · omega
        · omega
      have e1 : bz s = 1 := by simp [bz, hn]
      have e2 : bz (stp s r) = 0 := by simp [bz, stp, k]
      have e3 : (stp s r).Sealed = false := by simp [stp, k, hs]
      rw [e3]; simp only [Bool.false_eq_true, if_false]; omega
    · have e2 : bz (stp s r) = bz s := by simp [bz, stp, k]
      have e3 : (stp s r).Sealed = true := by simp [stp, k]
      rw [e3]; simp only [if_true]; omega
theorem Rst.job {m : Nat} {s0 s s2 : GSpool} {out rs : List GRecord} (h : Rst m s0 s out) {j0 : Nat} (hj0 : j0 < m) (hd0 : dn s j0 = false) (hap : Appls s rs) (hrn : run s rs = s2) (hw : WF m s2) (hdone : s2.Done = s.Done.set j0 true) (hnow : s.Now = -1) (hnow2 : s2.Now = -1) (hsl : s.Sealed = false) (hsl2 : s2.Sealed = false)
    (hcj : ∀ j : Nat, cj rs j = if j = j0 then 1 else 0) (hbg : ∀ r ∈ rs, r.Kind = 1 → r.A = (j0 : Int)) (hlen : rs.length ≤ 2) : Rst m s0 s2 (out ++ rs) := by
  have hdn : ∀ j : Nat, dn s2 j = if j = j0 then true else dn s j := fun j => by
    unfold dn
    rw [hdone, getD_set (by rw [h.wf.done]; exact hj0)]
    simp only [Int.toNat_natCast]
    by_cases e : j0 = j
    · rw [if_pos e, if_pos e.symm]
    · rw [if_neg e, if_neg (fun hh => e hh.symm)]
  have h00 : dn s0 j0 = false := by
    cases hh : dn s0 j0 with
    | false => rfl
    | true => have := h.up j0 hj0 hh; rw [hd0] at this; cases this
  refine ⟨?_, ?_, hw, (fun hh => by rw [hsl2] at hh; cases hh), fun j hj => ?_, fun j hj h0 => ?_, fun q hq => ?_, ?_⟩
  · unfold Appls at hap ⊢
    rw [cnt_append h.ap, h.rn, hap, List.length_append]
  · unfold run at hrn ⊢
    rw [List.foldl_append]
    have := h.rn
    unfold run at this
    rw [this, hrn]
  · have : cj (out ++ rs) j = cj out j + cj rs j := by unfold cj; rw [List.countP_append]
    rw [this, h.cn j hj, hcj, hdn]
    by_cases e : j = j0
    · subst e; simp [h00, hd0]
    · simp [e]
  · rw [hdn]
    split
    · rfl
    · exact h.up j hj h0
  · rcases List.mem_append.1 hq with hq | hq
    · exact h.bg q hq
    · intro k
      rw [hbg q hq k]
      exact ⟨by omega, by omega, h00⟩
  · have hl := h.ln
    have hc := count_set s.Done j0 (by rw [h.wf.done]; exact hj0) (by simpa [dn] using hd0)
    have hu : un s2 + 1 = un s := by unfold un; rw [hdone]; exact hc
    have b1 : bz s = 0 := by simp [bz, hnow]
    have b2 : bz s2 = 0 := by simp [bz, hnow2]
    rw [hsl2, b2, List.length_append]
    rw [hsl, b1] at hl
    simp only [Bool.false_eq_true, if_false] at hl ⊢
    omega
def Rest (m : Nat) (s0 : GSpool) (y : List GRecord × GSpool × Bool) : Prop := y.2.2 = true ∧ y.2.1.Sealed = true ∧ Rst m s0 y.2.1 y.1
theorem rest_tot {m : Nat} {s0 : GSpool} (hw0 : WF m s0) (hsd0 : Sd s0) (mt : GMatching) : Tot (fun n => FSixdotlaw29_rest n s0 mt) (Rest m s0) := by
  unfold FSixdotlaw29_rest
  have hm := hw0.sm
  have hlim : iadd .i64 (imul .i64 3 ((List.length s0.Done : Nat) : Int)) 2 = ((3 * m + 2 : Nat) : Int) := by
    rw [hw0.done, mul64 (by omega) (by omega), add64 (by omega) (by omega)]; omega
  refine Tot.bind (R := fun y => ∃ z, y = .inr z ∧ Rest m s0 z) ?_ fun y hy => by
    obtain ⟨z, rfl, hz⟩ := hy
    exact Tot.pure hz
  refine Tot.whl (body := fun n (x : (GSpool × (List GRecord) × Int)) => FSixdotlaw29_rest_L1 n s0 mt x.1 x.2.1 x.2.2) (fun k x => ∃ i : Nat, x.2.2 = (i : Int) ∧ Rst m s0 x.1 x.2.1 ∧ i + left x.1 ≤ 3 * m + 2 ∧ k = left x.1) ?_ (left s0) (s0, [], 0) ?_
  · rintro k ⟨s, out, i'⟩ ⟨i, e1, hR, hi, rfl⟩
    simp only at e1 hR hi
    subst e1
    have hw := hR.wf
    have hpos : 1 ≤ left s := by unfold left; split <;> omega
    have hun : un s0 ≤ m := by unfold un; rw [← hw0.done]; exact List.count_le_length
    have hb0 : bz s0 ≤ 1 := by unfold bz; split <;> omega
    have hol : out.length ≤ 2 * m + 2 := by have := hR.ln; omega
    have hgo : ∀ (s2 : GSpool) (out2 : List GRecord), Rst m s0 s2 out2 → left s2 < left s → Tot (fun n => FSixdotlaw29_rest_J1 n (i : Int) s2 out2) (Rd2 (fun y => ∃ j, j < left s ∧ ∃ i : Nat, y.2.2 = (i : Int) ∧ Rst m s0 y.1 y.2.1 ∧ i + left y.1 ≤ 3 * m + 2 ∧ j = left y.1) (fun y => ∃ z, y = .inr z ∧ Rest m s0 z)) := by
      intro s2 out2 h2 hl
      unfold FSixdotlaw29_rest_J1
      refine Tot.pure ⟨left s2, hl, i + 1, ?_, h2, by simp only; omega, rfl⟩
      simp only
      rw [succ64 (by omega)]
    unfold FSixdotlaw29_rest_L1
    rw [hlim]
    refine Tot.iteT (by simp; omega) ?_
    refine Tot.bindE (next_ev hw mt) ?_
    by_cases hs : s.Sealed = true
    · have hx : nxtR s mt = ⟨0, 0, 0⟩ := by simp [nxtR, hs]
      rw [hx]
      refine Tot.iteT (by decide) ?_
      refine Tot.bindA (y := s.Sealed) (fun n => rfl) (Tot.pure ?_)
      exact ⟨_, rfl, hs, hs, hR⟩
    have hs' : s.Sealed = false := by simpa using hs
    by_cases hn : s.Now = -1
    · rcases idxS_cases s.Done false with ⟨e, hall⟩ | ⟨j, hj, e, hv, _⟩
      · have hx : nxtR s mt = ⟨5, 0, 0⟩ := by simp [nxtR, hs', hn, e]
        have hnc : s.Done.contains false = false := by
          rw [← Bool.not_eq_true, List.contains_iff_mem, mem_getD]
          rintro ⟨i, hi, h⟩; exact hall i hi h
        have ha : appl s ⟨5, 0, 0⟩ = true := by simp [appl, hs', hn, hnc]; simpa using hnc
        rw [hx]
        refine Tot.iteF (by decide) ?_
        refine Tot.bindE (rstep_ev hw _) ?_
        unfold stepS
        rw [if_pos ha]
        refine Tot.iteF (by simp) ?_
        refine Tot.bindC (app_le (by simp; omega)) ?_
        refine Tot.iteF (by decide) ?_
        refine hgo _ _ (hR.same ha (.inr rfl)) ?_
        have : (stp s ⟨5, 0, 0⟩).Sealed = true := by simp [stp]
        unfold left; rw [this, hs']; simp; omega
      · have hjm : j < m := by rw [← hw.done]; exact hj
        have hd : dn s j = false := by unfold dn; rw [Int.toNat_natCast]; exact hv
        have hjb : jobB s (j : Int) = true := by unfold jobB; simp; exact hj
        have hleft : ∀ s2 : GSpool, s2.Sealed = false → s2.Now = -1 → s2.Done = s.Done.set j true → left s2 < left s := fun s2 f1 f2 f3 => by
          have hc := count_set s.Done j hj hv
          unfold left un bz
          rw [f1, f2, f3, hs', hn]; simp; omega
        by_cases hc : (j : Int) < mt.From.length ∧ 0 ≤ fromAt mt j ∧ s.Taken.contains (fromAt mt j) = false
        · have hx : nxtR s mt = ⟨4, (j : Int), fromAt mt j⟩ := by
            unfold nxtR; rw [e, if_neg hs, if_neg (by simp [hn]), if_neg (by omega), if_pos hc]
          have ha : appl s ⟨4, (j : Int), fromAt mt j⟩ = true := by
            have h3 := hc.2.2
            simp only [appl, hs', hn, hjb, hd, hc.2.1, h3]; simp
          rw [hx]
          refine Tot.iteF (by simp) ?_
          refine Tot.bindE (rstep_ev hw _) ?_
          unfold stepS
          rw [if_pos ha]
          refine Tot.iteF (by simp) ?_
          refine Tot.bindC (app_le (by simp; omega)) ?_
          refine Tot.iteF (by simp) ?_
          have g1 : (stp s ⟨4, (j : Int), fromAt mt j⟩).Done = s.Done.set j true := by simp [stp]
          have g2 : (stp s ⟨4, (j : Int), fromAt mt j⟩).Now = -1 := by simp [stp, hn]
          have g3 : (stp s ⟨4, (j : Int), fromAt mt j⟩).Sealed = false := by simp [stp, hs']
          refine hgo _ _ (hR.job hjm hd (rs := [⟨4, (j : Int), fromAt mt j⟩]) (by simp [Appls, cnt, ha]) (by simp [run]) (hw.step ha) g1 hn g2 hs' g3 (fun j' => ?_) (by simp) (by simp)) (hleft _ g3 g2 g1)
          unfold cj
          by_cases e' : j' = j
          · simp [e']
          · have : ¬(j : Int) = (j' : Int) := by omega
            simp [e', this]
        · have hx : nxtR s mt = ⟨1, (j : Int), iadd .i64 (tr s j) 1⟩ := by
            unfold nxtR; rw [e, if_neg hs, if_neg (by simp [hn]), if_neg (by omega), if_neg hc]
          have ha : appl s ⟨1, (j : Int), iadd .i64 (tr s j) 1⟩ = true := by
            simp [appl, hs', hn, hjb, hd]
          have hw1 := hw.step ha
          generalize hb : iadd .i64 (tr s (j : Int)) 1 = b at *
          have g0 : stp s ⟨1, (j : Int), b⟩ = { s with Tries := s.Tries.set j b, Now := (j : Int) } := by simp [stp]
          have ha2 : appl (stp s ⟨1, (j : Int), b⟩) ⟨2, (j : Int), b⟩ = true := by
            rw [g0]
            have : (s.Tries.set j b).getD j default = b := by rw [getD_set (by rw [hw.tries]; exact hjm), if_pos rfl]
            have hjb' : jobB { Tries := s.Tries.set j b, Done := s.Done, Taken := s.Taken, Now := (j : Int), Sealed := false } (j : Int) = true := hjb
            simp only [appl, hs', hjb', tr, Int.toNat_natCast, this]; simp
          rw [hx]
          refine Tot.iteF (by simp) ?_
          refine Tot.bindE (rstep_ev hw _) ?_
          unfold stepS
          rw [if_pos ha]
          refine Tot.iteF (by simp) ?_
          refine Tot.bindC (app_le (by simp; omega)) ?_
          refine Tot.iteT (by simp) ?_
          refine Tot.bindE (rstep_ev hw1 _) ?_
          unfold stepS
          rw [if_pos ha2]
          refine Tot.bindC (app_le (by simp; omega)) ?_
          generalize hs2 : stp (stp s ⟨1, (j : Int), b⟩) ⟨2, (j : Int), b⟩ = s2
          have g1 : s2.Done = s.Done.set j true := by rw [← hs2, g0]; simp [stp]
          have g2 : s2.Now = -1 := by rw [← hs2, g0]; simp [stp]
          have g3 : s2.Sealed = false := by rw [← hs2, g0]; simp [stp, hs']
          rw [List.append_assoc]
          refine hgo _ _ (hR.job hjm hd (rs := [⟨1, (j : Int), b⟩] ++ [⟨2, (j : Int), b⟩]) (by simp [Appls, cnt, ha, ha2]) (by simp [run, hs2]) (by rw [← hs2]; exact hw1.step ha2) g1 hn g2 hs' g3 (fun j' => ?_) (by simp) (by simp)) (hleft _ g3 g2 g1)
          unfold cj
          by_cases e' : j' = j
          · simp [e', List.countP_cons]
          · have : ¬(j : Int) = (j' : Int) := by omega
            simp [e', this, List.countP_cons]
    · have hlo := hw.lo
      have hhi := hw.hi
      have hx : nxtR s mt = ⟨3, s.Now, tr s s.Now⟩ := by unfold nxtR; rw [if_neg hs, if_pos hn]
      have hjb : jobB s s.Now = true := by unfold jobB; rw [hw.done]; simp; omega
      have ha : appl s ⟨3, s.Now, tr s s.Now⟩ = true := by simp [appl, hs', hjb]
      rw [hx]
      refine Tot.iteF (by simp) ?_
      refine Tot.bindE (rstep_ev hw _) ?_
      unfold stepS
      rw [if_pos ha]
      refine Tot.iteF (by simp) ?_
      refine Tot.bindC (app_le (by simp; omega)) ?_
      refine Tot.iteF (by simp) ?_
      refine hgo _ _ (hR.same ha (.inl rfl)) ?_
      unfold left un bz
      simp [stp, hs', hn]
  · refine ⟨0, rfl, ⟨rfl, rfl, hw0, hsd0, fun j hj => ?_, fun j hj h => h, by simp, ?_⟩, ?_, rfl⟩
    · simp only [cj, List.countP_nil]
      split
      · rfl
      · rfl
    · simp only [List.length_nil]; split <;> omega
    · have hun : un s0 ≤ m := by unfold un; rw [← hw0.done]; exact List.count_le_length
      have hhi := hw0.hi
      have hlo := hw0.lo
      simp only
      unfold left bz
      split
      · omega
      · split <;> omega
end Go.AI
end
section
namespace Go.AI
theorem reached {m : Nat} (hm : m ≤ 5) (l : List GRecord) : WF m (run (newS m) (l.take (cnt (newS m) l))) ∧ Sd (run (newS m) (l.take (cnt (newS m) l))) ∧ Bz (run (newS m) (l.take (cnt (newS m) l))) :=
  ⟨run_wf (new_wf (by omega)) _ (Nat.le_refl _), run_sd (Sd.new m) _ (Nat.le_refl _), run_bz (new_wf (by omega)) (Bz.new m) _ (Nat.le_refl _)⟩
theorem un_le {m : Nat} {s : GSpool} (h : WF m s) : un s ≤ m := by unfold un; rw [← h.done]; exact List.count_le_length
theorem Rst.len {m : Nat} {s0 s : GSpool} {out : List GRecord} (h : Rst m s0 s out) (hw0 : WF m s0) : out.length ≤ 3 * m + 2 := by
  have h1 := h.ln
  have h2 := un_le hw0
  have hhi := hw0.hi
  have hlo := hw0.lo
  unfold bz at h1
  by_cases e : s0.Now = -1
  · rw [if_pos e] at h1; omega
  · rw [if_neg e] at h1; omega
theorem law6 {x : GRaw} (hx : RawOK x) {k : Int} (hk : U8 k) : Ev (fun n => FSixdotlaw29_SpoolEnds n x k) true := by
  refine Tot.ev ?_
  unfold FSixdotlaw29_SpoolEnds
  refine Tot.bindE sanity_ev ?_
  obtain ⟨m, hm, hj⟩ := jobs_eq hx
  refine Tot.bindA hj ?_
  refine Tot.bind (records_tot hx) fun l hl => ?_
  have hl24 := hl.1
  refine Tot.bindE (rreplay_ev (k := (m : Int)) (by omega) (by omega)) ?_
  rw [Int.toNat_natCast]
  obtain ⟨hw, hsd, hb⟩ := reached hm l
  generalize hs : run (newS m) (l.take (cnt (newS m) l)) = s at hw hsd hb
  generalize (cnt (newS m) l : Int) = c
  simp only
  refine Tot.bindE (step_ev hw _) ?_
  refine Tot.bind (R := fun b => (s.Now == -1) = true → b = !s.Done.contains false) ?_ fun b hb' => ?_
  · by_cases hn : (s.Now == -1) = true
    · simp only [hn, if_true]
      obtain ⟨z, hz, hE⟩ := (all_ev hw).tot (P := fun z => z = !s.Done.contains false) rfl
      exact ⟨z, fun _ => hz, hE⟩
    · simp only [hn, if_false, Bool.false_eq_true]
      exact Tot.pure fun h => by cases h
  have hap : (((stepS s ⟨5, 0, 0⟩).2 == 0) == (((s.Now == (-1)) && b) && (!s.Sealed))) = true := by
    have : appl s ⟨5, 0, 0⟩ = (((s.Now == (-1)) && b) && (!s.Sealed)) := by
      cases hn : s.Now == -1 with
      | false => simp [appl, hn]
      | true => rw [hb' hn]; simp [appl, hn, Bool.and_comm]
    unfold stepS
    rw [this]
    cases (((s.Now == (-1)) && b) && (!s.Sealed)) <;> rfl
  refine Tot.iteF (by rw [hap]; rfl) ?_
  refine Tot.bind (matching_tot hx) fun mt hmt => ?_
  refine Tot.bind (rest_tot hw hsd mt) fun y hy => ?_
  obtain ⟨out, s2, ok⟩ := y
  obtain ⟨h1, h2, hR⟩ := hy
  simp only at h1 h2 hR
  subst h1
  obtain ⟨r, _, hr⟩ := arbitrary_eq hk
  refine Tot.bindA hr ?_
  simp only
  refine Tot.bindE (step_ev hR.wf r) ?_
  have hst : stepS s2 r = (zeroS, 290) := by unfold stepS; rw [if_neg (by simp [appl, h2])]
  rw [hst]
  simp only [h2]
  refine Tot.bind (R := fun _ => True) ((matching_tot hx).mono fun _ _ => trivial) fun mt2 _ => ?_
  refine Tot.gE (x := ⟨0, 0, 0⟩) (by rfl) ?_ (Tot.pure rfl)
  have := next_ev hR.wf mt2
  have e : nxtR s2 mt2 = ⟨0, 0, 0⟩ := by simp [nxtR, h2]
  rw [e] at this; exact this
end Go.AI
end
section
namespace Go.AI
def Tb (i : Nat) (s : GSpool) : Prop := ∀ j : Nat, 0 ≤ s.Tries.getD j default ∧ s.Tries.getD j default ≤ (i : Int)
theorem Tb.new (m : Nat) : Tb 0 (newS m) := by
  intro j
  simp only [newS]
  rw [List.getD_eq_getElem?_getD, List.getElem?_replicate]
  split <;> simp <;> decide
theorem Tb.step {m i : Nat} {s : GSpool} (hw : WF m s) (h : Tb i s) (hi : i < 1000) {r : GRecord} (ha : appl s r = true) : Tb (i + 1) (stp s r) ∧ (r.Kind ≠ 4 → 0 ≤ r.B ∧ r.B ≤ (i : Int) + 1) := by
  have hle : Tb (i + 1) s := fun j => ⟨(h j).1, by have := (h j).2; omega⟩
  obtain ⟨hs, ⟨k, h1, h2, h3, h4⟩ | ⟨k, h2, h3, h4⟩ | ⟨k, h1, h2, h3, _⟩ | ⟨k, h1, h2, h3, h4⟩⟩ := appl_kind ha
  · obtain ⟨g1, g2⟩ := jobB_ok hw h2
    have ht := h r.A.toNat
    have hb : r.B = tr s r.A + 1 := by rw [h4]; exact add64 (by unfold tr; omega) (by unfold tr; omega)
    unfold tr at hb
    refine ⟨fun j => ?_, fun _ => by omega⟩
    simp only [stp, k, if_true]
    rw [getD_set (by rw [hw.tries]; omega)]
    split
    · omega
    · exact hle j
  · have ht := h r.A.toNat
    unfold tr at h4
    refine ⟨fun j => ?_, fun _ => by omega⟩
    rcases k with k | k <;> simp only [stp, k] <;> exact hle j
  · refine ⟨fun j => ?_, fun h => absurd k h⟩
    simp only [stp, k]; exact hle j
  · refine ⟨fun j => ?_, fun _ => by omega⟩
    simp only [stp, k]; exact hle j
end Go.AI
end
section
namespace Go.AI
theorem okI_u8 {n : Int} (h : okI .u8 n) : U8 n := by
  unfold okI Lit.wf at h
  have : IntKind.u8.min = 0 ∧ IntKind.u8.max = 255 := by decide
  unfold U8
  simp only [Bool.and_eq_true, decide_eq_true_eq] at h
  omega
theorem okGRaw_ok {x : GRaw} (h : okGRaw x) : RawOK x := ⟨okI_u8 h.1, fun a ha => okI_u8 (h.2.1 a ha), fun a ha => okI_u8 (h.2.2 a ha)⟩
theorem law6d : ∀ x k, okGRaw x → okI .u8 k → ∃ n, FSixdotlaw29_SpoolEnds n x k = some true := fun _ _ h hk => (law6 (okGRaw_ok h) (okI_u8 hk)).out
end Go.AI
end
section
namespace Go.Proofs.Ytbgkkpfchbakhaa
open Go.AI Go.ChangeShapes Go.WideShapes Go.ChangeAt Go.RowKit
theorem own : ownKnob Try.prog.godebug = none := by kernel_rfl
set_option maxRecDepth 100000 in
theorem lifted (os : Os) (started : os.Started) (H : Type) (enc : TypeId × Value → H) :
    ReturnsInHanded {} Try.checked os 8 .any (Rows.spoolEndsSpec.pre6 enc Try.prog Try.f8 Rows.spoolEndsRow.domain false) (Rows.spoolEndsSpec.post enc Try.prog Try.f8 false true false false) := by
  refine returnsInHanded_of_change (C := Try.checked) own started (by kernel_rfl) Try.func8
    (ChangeSpec.witness6 (enc := enc) (C := Try.checked) false ⟨#[], #[.agg #[.int .u8 0, .slice none 0 0, .slice none 0 0], .int .u8 0], []⟩ 8 (by kernel_rfl) (by kernel_rfl) (by kernel_rfl) (by kernel_rfl)) ?_
  intro W base args ds gs before hval0 hW hcnd _
  have hval : ∀ (j : Nat) t v, Try.f8.params[j]? = some t → args[j]? = some v → Value.okWide Try.prog W .any base t v := hval0
  have hW' := hW
  obtain ⟨p, q, hA0, hV, rfl, hfz, hnd⟩ := hW
  have hA : DataW.TrodAll enc Try.prog W 0 (fun _ => true) true Try.f8.params.toList args.toList ds p := hA0
  have hlt := hA.lt
  rw [Try.params8] at hA hval
  obtain ⟨v0, vs0, d0, ds0, p0, q0, hargs, rfl, rfl, h0, r0⟩ := trodAll_cons hA
  obtain ⟨v1, vs1, d1, ds1, p1, q1, rfl, rfl, rfl, h1, r1⟩ := trodAll_cons r0
  obtain ⟨rfl, rfl, rfl⟩ := trodAll_nil r1
  obtain rfl : args = #[v0, v1] := by cases args; simp_all
  obtain ⟨rfl, rfl⟩ := trodVars_none hV
  obtain ⟨cs0, hc0, _⟩ := okWide_struct Try.underlying24 (hval 0 24 v0 rfl rfl)
  obtain ⟨a0, k0, rep0⟩ := arg_agg hc0 h0 rd24
  obtain ⟨x1, hc1⟩ := okWide_int Try.underlying5 (hval 1 5 v1 rfl rfl)
  obtain ⟨a1, k1, rep1⟩ := arg_one (y := fun a => .int .u8 a) (by rw [hc1]; rfl) h1 rd5 (fun _ => rfl)
  clear hA0 hval0
  simp only [List.append_nil] at hW' hlt
  obtain ⟨n, hn⟩ := law6d a0 a1 k0 k1
  refine (law_walk (FSixdotlaw29_SpoolEnds_ok hn) (cr_cons rep0 (cr_cons rep1 cr_nil))).mono fun e W' ⟨he, hg, hold⟩ => ?_
  subst he
  exact ⟨_, rfl, post_of_same (pv := []) hW' (fun _ _ _ => (trodAll_cons_mk (shut_bool Try.underlying4 _) trodAll_mk0)) (fun sp hsp => trodAll_cons_mk (stays (by kernel_rfl) (by kernel_rfl) (of_decide_eq_true (by kernel_rfl)) h0 (fun p hp => hlt p (by simp [hp])) (fun p hp => hsp p (by simp [hp])) hold) (trodAll_cons_mk (stays (by kernel_rfl) (by kernel_rfl) (of_decide_eq_true (by kernel_rfl)) h1 (fun p hp => hlt p (by simp [hp])) (fun p hp => hsp p (by simp [hp])) hold) trodAll_mk0)) (fun _ _ => rfl) (by simp) (hg.frame _) hg.2.1 (ok_one (by kernel_rfl) rfl (okWide_bool_mk Try.underlying4 _))⟩
theorem over : Rows.spoolEndsRow.holds Try.pinned (OpenSpec.ofChange Rows.spoolEndsSpec) :=
  OpenClaim.holds_of_wide 8 Try.f8 rfl rfl rfl rfl rfl rfl rfl ⟨rfl, rfl, rfl, rfl, rfl⟩ rfl rfl rfl rfl rfl (by kernel_rfl) Try.func8 (by kernel_rfl)
    (of_decide_eq_true (by kernel_rfl)) (by unfold Func.isWrapper; first | (rw [if_pos (by decide +kernel)]; kernel_rfl) | (rw [if_neg (by decide +kernel)]; exact ⟨rfl, rfl⟩))
    (fun os started H enc _ => lifted os started H enc)
theorem spoolEnds_holds : Rows.SpoolEndsSaid := over
end Go.Proofs.Ytbgkkpfchbakhaa
end
