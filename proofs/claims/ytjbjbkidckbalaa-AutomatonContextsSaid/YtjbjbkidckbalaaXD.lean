/- Part 4 of 5 of the proof: lemmas about the model and the program's functions, with no condition beyond those that each states. -/
import Derived.Test.YtjbjbkidckbalaaXC
import Derived.ChangeArms
import Derived.WalkKit
import Derived.ProofKit
import Derived.OpenShut
import Derived.Carry
import Derived.WideKeyArgs
import Derived.KernelRfl
section
namespace Go.AI
open Go.Proofs
set_option maxRecDepth 10000
def eGRule (x : GRule) : List D := [.str x.Print, .sl (List.map eU8 x.Cells), .int .u8 x.Left, .int .u8 x.Right, .int .i64 x.From, .int .i64 x.To]
def eGState (x : GState) : List D := [.int .i64 x.Mode, .int .i64 x.Last, .int .u8 x.Need]
@[reducible] def eArr2 {α : Type} (e : α → List D) (x : Arr2 α) : List D := e x.a0 ++ e x.a1
def eGRawRule (x : GRawRule) : List D := [.sl (List.map eU8 x.P), .sl (List.map eU8 x.C), .int .u8 x.L, .int .u8 x.R, .int .u8 x.W.a0, .int .u8 x.W.a1]
def eGRaw (x : GRaw) : List D := [.int .u8 x.Base, .int .u8 x.Drop, .sl (List.map eGRawRule x.More)]
theorem eqk26 : ∀ a b : GState, eqCells [.int .i64, .int .i64, .int .u8] ((eGState a).map .d) ((eGState b).map .d) = some (decide (a = b)) := by
  intro a b
  cases a; cases b
  simp [eqCells, eGState, Bool.decide_and]
  try rfl
section
variable (p0_ : (List UInt8)) (p1_ : Int) (p2_ : (Arr3 Int))
def f48_s1 : St := ⟨(0, .d (.str p0_)) :: (1, .d (.int .u8 p1_)) :: (2, .agg [.d (.int .i64 p2_.a0), .d (.int .i64 p2_.a1), .d (.int .i64 p2_.a2)]) :: [], []⟩
theorem FSixdotlaw03_rule_ok {n : Nat} {p0_ : (List UInt8)} {p1_ : Int} {p2_ : (Arr3 Int)} {z : GRule} (H : FSixdotlaw03_rule n p0_ p1_ p2_ = some z) : CallOK Try.prog 48 [.d (.str p0_), .d (.int .u8 p1_), .agg [.d (.int .i64 p2_.a0), .d (.int .i64 p2_.a1), .d (.int .i64 p2_.a2)]] (.agg [.d (.str z.Print), .own 1 (List.map eU8 z.Cells), .d (.int .u8 z.Left), .d (.int .u8 z.Right), .d (.int .i64 z.From), .d (.int .i64 z.To)]) := by
  dsimp only [FSixdotlaw03_rule] at H
  refine fo (Γ := cx 18) (s := f48_s1 p0_ p1_ p2_) follows (cxOK 18) Try.func48 ?_
  refine sr ?_
  refine ck 2 ?_
  refine en ?_
  refine sr ?_
  refine ck 12 ?_
  refine en ?_
  refine re ?_
  injection H with H
  subst H
  exact pr (rO (v := .agg [.d (.str p0_), .osl 2 1 0 (List.length [p1_]), .d (.int .u8 63), .d (.int .u8 (IntKind.u8.wrap p2_.a0)), .d (.int .i64 p2_.a1), .d (.int .i64 p2_.a2)]) [2] (a1 (c1 vd (c1 vo (c1 vd (c1 vd (c1 vd (c1 vd (c0)))))))))
end
def f31_s0 : St := ⟨[], []⟩
theorem FAutomaton_Start_ok {n : Nat}  {z : GState} (H : FAutomaton_Start n = some z) : CallOK Try.prog 31 [] (.agg [.d (.int .i64 z.Mode), .d (.int .i64 z.Last), .d (.int .u8 z.Need)]) := by
  dsimp only [FAutomaton_Start] at H
  refine fo (Γ := cx 2) (s := f31_s0) follows (cxOK 2) Try.func31 ?_
  refine sr ?_
  refine ck 1 ?_
  refine en ?_
  refine sr ?_
  refine ck 2 ?_
  refine en ?_
  refine re ?_
  injection H with H
  subst H
  exact pr (rd)
section
variable (p0_ : Int) (p1_ : Int)
def f51_s1 : St := ⟨(0, .d (.int .u8 p0_)) :: (1, .d (.int .i64 p1_)) :: [], []⟩
theorem FAutomaton_has_ok {n : Nat} {p0_ : Int} {p1_ : Int} {z : Bool} (H : FAutomaton_has n p0_ p1_ = some z) : CallOK Try.prog 51 [.d (.int .u8 p0_), .d (.int .i64 p1_)] (.d (.bool z)) := by
  dsimp only [FAutomaton_has] at H
  refine fo (Γ := cx 18) (s := f51_s1 p0_ p1_) follows (cxOK 18) Try.func51 ?_
  refine sr ?_
  refine ck 1 ?_
  refine en ?_
  refine sr ?_
  refine ck 4 ?_
  refine gc 1 (decide (0 ≤ p1_)) ?_
  refine pA ?_
  refine ck 3 ?_
  refine bx H fun u1 h1 H => ?_
  refine soG (fun hg => guard_ge (gimp h1 hg)) (impK (fun hh => hh) (impK (fun hh => hh) (impZ))) ?_
  refine gc 2 ((decide (0 ≤ p1_)) && (decide (p1_ < 8))) ?_
  refine pA ?_
  refine ck 1 ?_
  refine en ?_
  refine re ?_
  injection H with H
  subst H
  exact pr (rd)
end
section
variable (p0_ : Int)
def f52_s1 : St := ⟨(0, .d (.int .u8 p0_)) :: [], []⟩
theorem FTable_Class_ok {n : Nat} {p0_ : Int} {z : Int} (H : FTable_Class n p0_ = some z) : CallOK Try.prog 52 [.d (.int .u8 p0_)] (.d (.int .i64 z)) := by
  dsimp only [FTable_Class] at H
  refine fo (Γ := cx 30) (s := f52_s1 p0_) follows (cxOK 30) Try.func52 ?_
  refine sr ?_
  refine ck 1 ?_
  refine en ?_
  refine sr ?_
  refine ck 3 ?_
  refine en ?_
  refine sq ?_
  refine bk 0 ?_
  refine sr ?_
  refine ck 4 ?_
  refine gc 1 (decide (97 ≤ iand .u8 p0_ 127)) ?_
  refine pA ?_
  refine ck 1 ?_
  refine en ?_
  refine cn H (fun H => ?_) (fun H => ?_)
  · refine sr ?_
    refine ck 1 ?_
    refine en ?_
    refine re ?_
    refine qR ?_
    refine qr ?_
    injection H with H
    subst H
    exact pr (rd)
  · refine sr ?_
    refine ck 4 ?_
    refine gc 1 (decide (65 ≤ iand .u8 p0_ 127)) ?_
    refine pA ?_
    refine ck 1 ?_
    refine en ?_
    refine cn H (fun H => ?_) (fun H => ?_)
    · refine sr ?_
      refine ck 1 ?_
      refine en ?_
      refine re ?_
      refine qR ?_
      refine qr ?_
      injection H with H
      subst H
      exact pr (rd)
    · refine sr ?_
      refine ck 4 ?_
      refine gc 1 (decide (48 ≤ iand .u8 p0_ 127)) ?_
      refine pA ?_
      refine ck 1 ?_
      refine en ?_
      refine cn H (fun H => ?_) (fun H => ?_)
      · refine sr ?_
        refine ck 1 ?_
        refine en ?_
        refine re ?_
        refine qR ?_
        refine qr ?_
        injection H with H
        subst H
        exact pr (rd)
      · refine sr ?_
        refine ck 3 ?_
        refine en ?_
        refine cn H (fun H => ?_) (fun H => ?_)
        · refine sr ?_
          refine ck 1 ?_
          refine en ?_
          refine re ?_
          refine qR ?_
          refine qr ?_
          injection H with H
          subst H
          exact pr (rd)
        · refine sk ?_
          refine qN ?_
          refine qz ?_
          refine sr ?_
          refine ck 1 ?_
          refine en ?_
          refine re ?_
          injection H with H
          subst H
          exact pr (rd)
end
section
variable (p0_ : GTable) (p1_ : GState) (p2_ : Int)
def f17_s1 : St := ⟨(0, .agg [.d (.int .i64 p0_.Modes), .d (.int .u8 p0_.Accept), .d (.sl (List.map eGRule p0_.Rules))]) :: (1, .agg [.d (.int .i64 p1_.Mode), .d (.int .i64 p1_.Last), .d (.int .u8 p1_.Need)]) :: (2, .d (.int .i64 p2_)) :: [], []⟩
theorem FAutomaton_Step_ok {n : Nat} {p0_ : GTable} {p1_ : GState} {p2_ : Int} {z : (GState × Bool)} (H : FAutomaton_Step n p0_ p1_ p2_ = some z) : CallOK Try.prog 17 [.agg [.d (.int .i64 p0_.Modes), .d (.int .u8 p0_.Accept), .d (.sl (List.map eGRule p0_.Rules))], .agg [.d (.int .i64 p1_.Mode), .d (.int .i64 p1_.Last), .d (.int .u8 p1_.Need)], .d (.int .i64 p2_)] (.tup [.agg [.d (.int .i64 z.1.Mode), .d (.int .i64 z.1.Last), .d (.int .u8 z.1.Need)], .d (.bool z.2)]) := by
  dsimp only [FAutomaton_Step] at H
  refine fo (Γ := cx 78) (s := f17_s1 p0_ p1_ p2_) follows (cxOK 78) Try.func17 ?_
  refine sr ?_
  refine ck 4 ?_
  refine en ?_
  refine sq ?_
  refine sr ?_
  refine ck 5 ?_
  refine gc 1 (!(decide (p2_ < 0))) ?_
  refine sG (g := (!(decide (p2_ < 0)))) (fun hg => at_len eGRule p0_.Rules) (impK (fun hh => hh) (impZ)) ?_
  refine gc 1 (!(decide (p2_ < 0))) ?_
  refine pO ?_
  refine en ?_
  refine cn H (fun H => ?_) (fun H => ?_)
  · refine sr ?_
    refine ck 3 ?_
    refine en ?_
    refine re ?_
    refine qr ?_
    injection H with H
    subst H
    exact pr (rdT)
  · refine sk ?_
    refine qz ?_
    refine sr ?_
    refine ck 3 ?_
    refine bx H fun x1 h2 H => ?_
    refine sp (at_idxD eGRule h2) ?_
    refine ck 3 ?_
    refine en ?_
    refine sq ?_
    refine sr ?_
    refine ck 7 ?_
    refine gc 1 (!(x1.From != p1_.Mode)) ?_
    refine ck 1 ?_
    refine gc 1 (!(x1.From != p1_.Mode)) ?_
    refine bx H fun r1 h3 H => ?_
    refine cG false (leZ) rfl (fun hg => FAutomaton_has_ok (gimp h3 hg)) (Or.inl rfl) (impK (fun hh => hh) (impK (fun hh => hh) (impZ))) rfl ?_
    refine gc 1 (!(x1.From != p1_.Mode)) ?_
    refine pO ?_
    refine en ?_
    refine cn H (fun H => ?_) (fun H => ?_)
    · refine sr ?_
      refine ck 3 ?_
      refine en ?_
      refine re ?_
      refine qr ?_
      injection H with H
      subst H
      exact pr (rdT)
    · refine sk ?_
      refine qz ?_
      refine sq ?_
      refine sr ?_
      refine ck 3 ?_
      refine en ?_
      refine cn H (fun H => ?_) (fun H => ?_)
      · refine sr ?_
        refine ck 6 ?_
        refine en ?_
        refine sq ?_
        refine sr ?_
        refine ck 2 ?_
        refine en ?_
        refine cn H (fun H => ?_) (fun H => ?_)
        · refine sr ?_
          refine ck 3 ?_
          refine en ?_
          refine re ?_
          refine qr ?_
          refine qr ?_
          injection H with H
          subst H
          exact pr (rdT)
        · refine sk ?_
          refine qz ?_
          refine sr ?_
          refine ck 8 ?_
          refine en ?_
          refine re ?_
          refine qr ?_
          injection H with H
          subst H
          exact pr (rdT)
      · refine sk ?_
        refine qz ?_
        refine sq ?_
        refine sr ?_
        refine ck 4 ?_
        refine bx H fun b1 h4 H => ?_
        refine sp (at_sidx h4) ?_
        refine bx H fun r2 h5 H => ?_
        refine ca false (FTable_Class_ok h5) ?_
        refine bx H fun r3 h6 H => ?_
        refine ca false (FAutomaton_has_ok h6) ?_
        refine ck 1 ?_
        refine en ?_
        refine cn H (fun H => ?_) (fun H => ?_)
        · refine sr ?_
          refine ck 3 ?_
          refine en ?_
          refine re ?_
          refine qr ?_
          injection H with H
          subst H
          exact pr (rdT)
        · refine sk ?_
          refine qz ?_
          refine sr ?_
          refine ck 8 ?_
          refine bx H fun b2 h7 H => ?_
          refine sp (at_sidx h7) ?_
          refine bx H fun r4 h8 H => ?_
          refine ca false (FTable_Class_ok h8) ?_
          refine ck 5 ?_
          refine en ?_
          refine re ?_
          injection H with H
          subst H
          exact pr (rdT)
end
section
variable (p0_ : GTable) (p1_ : GState)
def f19_s1 : St := ⟨(0, .agg [.d (.int .i64 p0_.Modes), .d (.int .u8 p0_.Accept), .d (.sl (List.map eGRule p0_.Rules))]) :: (1, .agg [.d (.int .i64 p1_.Mode), .d (.int .i64 p1_.Last), .d (.int .u8 p1_.Need)]) :: [], []⟩
theorem FAutomaton_Accepts_ok {n : Nat} {p0_ : GTable} {p1_ : GState} {z : Bool} (H : FAutomaton_Accepts n p0_ p1_ = some z) : CallOK Try.prog 19 [.agg [.d (.int .i64 p0_.Modes), .d (.int .u8 p0_.Accept), .d (.sl (List.map eGRule p0_.Rules))], .agg [.d (.int .i64 p1_.Mode), .d (.int .i64 p1_.Last), .d (.int .u8 p1_.Need)]] (.d (.bool z)) := by
  dsimp only [FAutomaton_Accepts] at H
  refine fo (Γ := cx 22) (s := f19_s1 p0_ p1_) follows (cxOK 22) Try.func19 ?_
  refine sr ?_
  refine ck 3 ?_
  refine en ?_
  refine sr ?_
  refine ck 7 ?_
  refine gc 1 (decide (p1_.Mode < p0_.Modes)) ?_
  refine ck 1 ?_
  refine gc 1 (decide (p1_.Mode < p0_.Modes)) ?_
  refine bx H fun r5 h9 H => ?_
  refine cG false (leZ) rfl (fun hg => FAutomaton_has_ok (gimp h9 hg)) (Or.inl rfl) (impK (fun hh => hh) (impK (fun hh => hh) (impZ))) rfl ?_
  refine pA ?_
  refine ck 2 ?_
  refine gc 1 ((decide (p1_.Mode < p0_.Modes)) && r5) ?_
  refine bx H fun r6 h10 H => ?_
  refine cG false (leZ) rfl (fun hg => FAutomaton_has_ok (gimp h10 hg)) (Or.inl rfl) (impK (fun hh => hh) (impZ)) rfl ?_
  refine pA ?_
  refine ck 1 ?_
  refine en ?_
  refine re ?_
  injection H with H
  subst H
  exact pr (rd)
end
section
variable (p0_ : GTable) (p1_ : (List Int))
def f22_s1 : St := ⟨(0, .agg [.d (.int .i64 p0_.Modes), .d (.int .u8 p0_.Accept), .d (.sl (List.map eGRule p0_.Rules))]) :: (1, .d (.sl (List.map eI64 p1_))) :: [], []⟩
variable (text_1 : (List Int)) (cells_1 : (List Int)) (s_1 : GState) (at_1 : Int) (x_1 : Int)
def f22_s2 : St := ⟨(1, .d (.sl (List.map eI64 p1_))) :: (2, .ptr 0 0) :: (4, .ptr 1 0) :: (5, .osl 2 1 0 (List.length text_1)) :: (6, .osl 3 1 0 (List.length cells_1)) :: (7, .ptr 4 0) :: (8, .d (.int .i64 at_1)) :: (14, .d (.sl (List.map eI64 p1_))) :: (15, .d (.int .i64 ((List.length p1_ : Nat) : Int))) :: (16, .d (.int .i64 x_1)) :: [], [some (.box [.d (.int .i64 p0_.Modes), .d (.int .u8 p0_.Accept), .d (.sl (List.map eGRule p0_.Rules))]), some (.box [.d (.str []), .osl 5 1 0 (List.length ([] : List Int)), .d (.int .i64 0), .d (.int .i64 0), .d (.int .i64 0), .d (.int .u8 0), .d (.bool false)]), some (.arr 1 (List.map eU8 text_1)), some (.arr 1 (List.map eU8 cells_1)), some (.box [.d (.int .i64 s_1.Mode), .d (.int .i64 s_1.Last), .d (.int .u8 s_1.Need)]), some (.arr 1 (List.map eU8 ([] : List Int)))]⟩
variable (text_2 : (List Int)) (cells_2 : (List Int)) (s_2 : GState) (at_2 : Int)
def f22_s3 : St := ⟨(1, .d (.sl (List.map eI64 p1_))) :: (2, .ptr 0 0) :: (4, .ptr 1 0) :: (5, .osl 2 1 0 (List.length text_2)) :: (6, .osl 3 1 0 (List.length cells_2)) :: (7, .ptr 4 0) :: (8, .d (.int .i64 at_2)) :: [], [some (.box [.d (.int .i64 p0_.Modes), .d (.int .u8 p0_.Accept), .d (.sl (List.map eGRule p0_.Rules))]), some (.box [.d (.str []), .osl 5 1 0 (List.length ([] : List Int)), .d (.int .i64 0), .d (.int .i64 0), .d (.int .i64 0), .d (.int .u8 0), .d (.bool false)]), some (.arr 1 (List.map eU8 text_2)), some (.arr 1 (List.map eU8 cells_2)), some (.box [.d (.int .i64 s_2.Mode), .d (.int .i64 s_2.Last), .d (.int .u8 s_2.Need)]), some (.arr 1 (List.map eU8 ([] : List Int)))]⟩
def FAutomaton_Run_L1_E (p0_ : GTable) (p1_ : (List Int)) : ((List Int) × (List Int) × GState × Int) → Ex → St → Prop := fun (y : ((List Int) × (List Int) × GState × Int)) e s => e = Ex.exit 0 ∧ Shift s (f22_s3 p0_ p1_ y.1 y.2.1 y.2.2.1 y.2.2.2)
theorem FAutomaton_Run_L1_ok {n : Nat} {p0_ : GTable} {p1_ : (List Int)} (x : ((List Int) × (List Int) × GState × Int × Int)) (z : (((List Int) × (List Int) × GState × Int × Int) ⊕ ((List Int) × (List Int) × GState × Int))) (H : FAutomaton_Run_L1 n p0_ p1_ x.1 x.2.1 x.2.2.1 x.2.2.2.1 x.2.2.2.2 = some z) : WP (cx 64) (bodyOf Try.f22) [1,1,1,1,0,1,0,0] (roundQ (fun (x : ((List Int) × (List Int) × GState × Int × Int)) => f22_s2 p0_ p1_ x.1 x.2.1 x.2.2.1 x.2.2.2.1 x.2.2.2.2) (FAutomaton_Run_L1_E p0_ p1_) z) (f22_s2 p0_ p1_ x.1 x.2.1 x.2.2.1 x.2.2.2.1 x.2.2.2.2) := by
  obtain ⟨text_1, cells_1, s_1, at_1, x_1⟩ := x
  dsimp only [FAutomaton_Run_L1] at H
  refine sr ?_
  refine ck 1 ?_
  refine en ?_
  refine sq ?_
  refine cn H (fun H => ?_) (fun H => ?_)
  · refine sk ?_
    refine qz ?_
    refine sq ?_
    refine bk 1 ?_
    refine sr ?_
    refine bx H fun x2 h12 H => ?_
    refine sp (at_idxD eI64 h12) ?_
    refine ck 2 ?_
    refine en ?_
    refine sr ?_
    refine ck 3 ?_
    refine bx H fun r8 h13 H => ?_
    refine ca false (FAutomaton_Step_ok h13) ?_
    refine ck 6 ?_
    refine en ?_
    refine sq ?_
    refine sr ?_
    refine ck 2 ?_
    refine en ?_
    refine cn H (fun H => ?_) (fun H => ?_)
    · refine ex 0 ?_
      refine qx ?_
      refine qX rfl ?_
      refine qx ?_
      cases H
      exact oe ⟨rfl, sh_gc [1,2,4,5,6,7,8] (by kernel_rfl)⟩
    · refine sk ?_
      refine qz ?_
      refine sr ?_
      refine ck 4 ?_
      refine bx H fun x3 h14 H => ?_
      refine sp (at_idxD eGRule h14) ?_
      refine ck 2 ?_
      refine bx H fun l1 h15 H => ?_
      refine sp (at_appS 2 h15) ?_
      refine ck 1 ?_
      refine en ?_
      refine sr ?_
      refine ck 4 ?_
      refine bx H fun x4 h16 H => ?_
      refine sp (at_idxD eGRule h16) ?_
      refine ck 2 ?_
      refine bx H fun l2 h17 H => ?_
      refine sp (at_app eU8 3 1 h17) ?_
      refine ck 1 ?_
      refine en ?_
      refine sr ?_
      refine ck 2 ?_
      refine en ?_
      refine rz ?_
      refine ck 3 ?_
      refine ae ?_
      refine qN ?_
      refine qz ?_
      refine rz ?_
      refine ck 2 ?_
      refine ae ?_
      cases H
      exact og (sh_gc [1,2,4,5,6,7,8,14,15,16] (by kernel_rfl))
  · refine ex 0 ?_
    refine qx ?_
    cases H
    exact oe ⟨rfl, sh_gc [1,2,4,5,6,7,8] (by kernel_rfl)⟩
theorem FAutomaton_Run_ok {n : Nat} {p0_ : GTable} {p1_ : (List Int)} {z : GTrace} (H : FAutomaton_Run n p0_ p1_ = some z) : CallOK Try.prog 22 [.agg [.d (.int .i64 p0_.Modes), .d (.int .u8 p0_.Accept), .d (.sl (List.map eGRule p0_.Rules))], .d (.sl (List.map eI64 p1_))] (.agg [.d (.str z.Text), .own 1 (List.map eU8 z.Cells), .d (.int .i64 z.At), .d (.int .i64 z.End.Mode), .d (.int .i64 z.End.Last), .d (.int .u8 z.End.Need), .d (.bool z.Ok)]) := by
  dsimp only [FAutomaton_Run] at H
  refine fo (Γ := cx 64) (s := f22_s1 p0_ p1_) follows (cxOK 64) Try.func22 ?_
  refine sr ?_
  refine ck 2 ?_
  refine en ?_
  refine sr ?_
  refine ck 1 ?_
  refine en ?_
  refine sr ?_
  refine ck 1 ?_
  refine en ?_
  refine sr ?_
  refine bx H fun r7 h11 H => ?_
  refine ca false (FAutomaton_Start_ok h11) ?_
  refine ck 3 ?_
  refine en ?_
  refine sq ?_
  refine sr ?_
  refine ck 1 ?_
  refine sp (at_len eI64 p1_) ?_
  refine ck 1 ?_
  refine en ?_
  refine bk 0 ?_
  refine bx H fun y1 h18 H => ?_
  refine lp (fun (x : ((List Int) × (List Int) × GState × Int × Int)) => f22_s2 p0_ p1_ x.1 x.2.1 x.2.2.1 x.2.2.2.1 x.2.2.2.2) (FAutomaton_Run_L1_E p0_ p1_) h18 (Shift.trans (Shift.trans (Shift.trans (Shift.nilo 5 1 (by kernel_rfl)) (Shift.nilo 6 1 (by kernel_rfl))) (sh_nilc 1 1 1 (by kernel_rfl))) (sh_gc [1,2,4,5,6,7,8,14,15,16] (by kernel_rfl))) (fun x z => FAutomaton_Run_L1_ok x z) ?_
  intro e s hE1
  obtain ⟨rfl, hE1⟩ := hE1
  refine qH ?_
  refine qs (hE1) ?_
  refine sq ?_
  refine rg (sh_frz (k := 2) (sz := 1) 5 (List.map eU8 y1.1) (by kernel_rfl) take_all (by simp)) ?_
  refine ck 1 ?_
  refine bx H fun s1 h19 H => ?_
  refine sp (at_bstr h19) ?_
  refine ck 5 ?_
  refine sp (at_len eI64 p1_) ?_
  refine ck 4 ?_
  refine bx H fun r9 h20 H => ?_
  refine cG false (leZ) rfl (fun hg => FAutomaton_Accepts_ok (gimp h20 hg)) (Or.inl rfl) (impK (fun hh => hh) (impK (fun hh => hh) (impZ))) rfl ?_
  refine pA ?_
  refine ck 2 ?_
  refine en ?_
  refine re ?_
  injection H with H
  subst H
  exact pr (rO (v := .agg [.d (.str s1), .osl 3 1 0 (List.length y1.2.1), .d (.int .i64 y1.2.2.2), .d (.int .i64 y1.2.2.1.Mode), .d (.int .i64 y1.2.2.1.Last), .d (.int .u8 y1.2.2.1.Need), .d (.bool ((y1.2.2.2 == ((List.length p1_ : Nat) : Int)) && r9))]) [3] (a1 (c1 vd (c1 vo (c1 vd (c1 vd (c1 vd (c1 vd (c1 vd (c0))))))))))
end
section
variable (p0_ : GTable)
def f54_s1 : St := ⟨(0, .agg [.d (.int .i64 p0_.Modes), .d (.int .u8 p0_.Accept), .d (.sl (List.map eGRule p0_.Rules))]) :: [], []⟩
variable (states_1 : (List GState)) (from_1 : (List (List Int))) (number_1 : (List (GState × Int))) (k_1 : Int)
def f54_s2 : St := ⟨(1, .ptr 0 0) :: (5, .osl 1 3 0 (List.length states_1)) :: (6, .osl 2 1 0 (List.length from_1)) :: (7, .mp 3) :: (8, .d (.int .i64 k_1)) :: [], [some (.box [.d (.int .i64 p0_.Modes), .d (.int .u8 p0_.Accept), .d (.sl (List.map eGRule p0_.Rules))]), some (.arr 3 (List.map eGState states_1)), some (.narr 1 (List.map (nL 1 eI64) from_1)), some (.map true false (encM eGState eI64 number_1))]⟩
variable (states_2 : (List GState)) (from_2 : (List (List Int)))
def f54_s3 : St := ⟨(5, .osl 0 3 0 (List.length states_2)) :: (6, .osl 1 1 0 (List.length from_2)) :: [], [some (.arr 3 (List.map eGState states_2)), some (.narr 1 (List.map (nL 1 eI64) from_2))]⟩
variable (states_3 : (List GState)) (from_3 : (List (List Int))) (number_2 : (List (GState × Int))) (x_2 : Int)
def f54_s4 : St := ⟨(1, .ptr 0 0) :: (5, .osl 1 3 0 (List.length states_3)) :: (6, .osl 2 1 0 (List.length from_3)) :: (7, .mp 3) :: (8, .d (.int .i64 k_1)) :: (29, .d (.int .i64 ((List.length p0_.Rules : Nat) : Int))) :: (30, .d (.int .i64 x_2)) :: [], [some (.box [.d (.int .i64 p0_.Modes), .d (.int .u8 p0_.Accept), .d (.sl (List.map eGRule p0_.Rules))]), some (.arr 3 (List.map eGState states_3)), some (.narr 1 (List.map (nL 1 eI64) from_3)), some (.map true false (encM eGState eI64 number_2))]⟩
variable (states_4 : (List GState)) (from_4 : (List (List Int))) (number_3 : (List (GState × Int)))
def f54_s5 : St := ⟨(1, .ptr 0 0) :: (5, .osl 1 3 0 (List.length states_4)) :: (6, .osl 2 1 0 (List.length from_4)) :: (7, .mp 3) :: (8, .d (.int .i64 k_1)) :: [], [some (.box [.d (.int .i64 p0_.Modes), .d (.int .u8 p0_.Accept), .d (.sl (List.map eGRule p0_.Rules))]), some (.arr 3 (List.map eGState states_4)), some (.narr 1 (List.map (nL 1 eI64) from_4)), some (.map true false (encM eGState eI64 number_3))]⟩
variable (states_5 : (List GState)) (from_5 : (List (List Int))) (number_4 : (List (GState × Int)))
def f54_s6 : St := ⟨(1, .ptr 0 0) :: (5, .osl 1 3 0 (List.length states_5)) :: (6, .osl 2 1 0 (List.length from_5)) :: (7, .mp 3) :: (8, .d (.int .i64 k_1)) :: (29, .d (.int .i64 ((List.length p0_.Rules : Nat) : Int))) :: (30, .d (.int .i64 x_2)) :: [], [some (.box [.d (.int .i64 p0_.Modes), .d (.int .u8 p0_.Accept), .d (.sl (List.map eGRule p0_.Rules))]), some (.arr 3 (List.map eGState states_5)), some (.narr 1 (List.map (nL 1 eI64) from_5)), some (.map true false (encM eGState eI64 number_4))]⟩
variable (states_6 : (List GState)) (from_6 : (List (List Int))) (number_5 : (List (GState × Int))) (n_1 : Int)
def f54_s7 : St := ⟨(1, .ptr 0 0) :: (5, .osl 1 3 0 (List.length states_6)) :: (6, .osl 2 1 0 (List.length from_6)) :: (7, .mp 3) :: (8, .d (.int .i64 k_1)) :: (12, .d (.int .i64 n_1)) :: (29, .d (.int .i64 ((List.length p0_.Rules : Nat) : Int))) :: (30, .d (.int .i64 x_2)) :: [], [some (.box [.d (.int .i64 p0_.Modes), .d (.int .u8 p0_.Accept), .d (.sl (List.map eGRule p0_.Rules))]), some (.arr 3 (List.map eGState states_6)), some (.narr 1 (List.map (nL 1 eI64) from_6)), some (.map true false (encM eGState eI64 number_5))]⟩
def FAutomaton_explore_L2_E (p0_ : GTable) (k_1 : Int) : ((List GState) × (List (List Int)) × (List (GState × Int))) → Ex → St → Prop := fun (y : ((List GState) × (List (List Int)) × (List (GState × Int)))) e s => e = Ex.exit 2 ∧ Shift s (f54_s5 p0_ k_1 y.1 y.2.1 y.2.2)
theorem FAutomaton_explore_L2_ok {n : Nat} {p0_ : GTable} {k_1 : Int} (x : ((List GState) × (List (List Int)) × (List (GState × Int)) × Int)) (z : (((List GState) × (List (List Int)) × (List (GState × Int)) × Int) ⊕ ((List GState) × (List (List Int)) × (List (GState × Int))))) (H : FAutomaton_explore_L2 n p0_ k_1 x.1 x.2.1 x.2.2.1 x.2.2.2 = some z) : WP (cx 78) (bodyOf Try.f54) [1,1,1,1,0,1,0,0,1,0,0,1,0,0] (roundQ (fun (x : ((List GState) × (List (List Int)) × (List (GState × Int)) × Int)) => f54_s4 p0_ k_1 x.1 x.2.1 x.2.2.1 x.2.2.2) (FAutomaton_explore_L2_E p0_ k_1) z) (f54_s4 p0_ k_1 x.1 x.2.1 x.2.2.1 x.2.2.2) := by
  obtain ⟨states_3, from_3, number_2, x_2⟩ := x
  dsimp only [FAutomaton_explore_L2] at H
  refine sr ?_
  refine ck 1 ?_
  refine en ?_
  refine sq ?_
  refine cn H (fun H => ?_) (fun H => ?_)
  · refine sk ?_
    refine qz ?_
    refine sj (fun (x : ((List GState) × (List (List Int)) × (List (GState × Int)))) => f54_s6 p0_ k_1 x_2 x.1 x.2.1 x.2.2) (fun (x : ((List GState) × (List (List Int)) × (List (GState × Int)))) => FAutomaton_explore_J1 n x_2 x.1 x.2.1 x.2.2) z ?_ (fun hFAutomaton_explore_J1 => ?_)
    · rintro ⟨states_5, from_5, number_4⟩ H
      dsimp only [FAutomaton_explore_J1] at H
      refine rz ?_
      refine ck 2 ?_
      refine ae ?_
      cases H
      exact og (sh_gcN (encN := (nL 1 eI64)) (xss := from_5) (sz := 1) [1,5,6,7,8,29,30] 2 (by kernel_rfl) (by kernel_rfl) (fun _ => rfl))
    refine bk 3 ?_
    refine sr ?_
    refine ck 2 ?_
    refine en ?_
    refine sr ?_
    refine ck 3 ?_
    refine bx H fun x5 h22 H => ?_
    refine sp (at_idxO 1 3 h22) ?_
    refine sp (at_ldA eGState 1 0 (ty 26) h22) ?_
    refine ck 1 ?_
    refine bx H fun r11 h23 H => ?_
    refine ca false (FAutomaton_Step_ok h23) ?_
    refine ck 6 ?_
    refine en ?_
    refine sq ?_
    refine sr ?_
    refine ck 2 ?_
    refine en ?_
    refine cn H (fun H => ?_) (fun H => ?_)
    · refine ex 3 ?_
      refine qx ?_
      refine qH ?_
      exact qs (sh_gcN (encN := (nL 1 eI64)) (xss := from_3) (sz := 1) [1,5,6,7,8,29,30] 2 (by kernel_rfl) (by kernel_rfl) (fun _ => rfl)) (hFAutomaton_explore_J1 (states_3, from_3, number_2) H)
    · refine sk ?_
      refine qz ?_
      refine sr ?_
      refine ck 2 ?_
      refine sp (at_look1 (enc := eI64) (encK := eGState) (k := 3) (e1 := fun x => .int .i64 x) (m := number_2) (l := [.d (.int .i64 r11.1.Mode), .d (.int .i64 r11.1.Last), .d (.int .u8 r11.1.Need)]) (key := r11.1) (z := 0) (vz := [.int .i64 0]) eqk26 true) ?_
      refine ck 5 ?_
      refine en ?_
      refine sj (fun (x : ((List GState) × (List (List Int)) × (List (GState × Int)) × Int)) => f54_s7 p0_ k_1 x_2 x.1 x.2.1 x.2.2.1 x.2.2.2) (fun (x : ((List GState) × (List (List Int)) × (List (GState × Int)) × Int)) => FAutomaton_explore_J2 n k_1 x_2 x.1 x.2.1 x.2.2.1 x.2.2.2) z ?_ (fun hFAutomaton_explore_J2 => ?_)
      · rintro ⟨states_6, from_6, number_5, n_1⟩ H
        dsimp only [FAutomaton_explore_J2] at H
        refine bx H fun x6 h24 H => ?_
        refine rg (sh_out (enc := eI64) (encN := (nL 1 eI64)) (xss := from_6) (x := x6) (ys := x6) (n := n_1) (sz := 1) 2 0 1 (by kernel_rfl) h24 rfl) ?_
        refine ck 4 ?_
        refine sp (at_idxO 2 1 h24) ?_
        refine sp (at_ldN (encN := (nL 1 eI64)) (row := [.osl 4 1 0 (List.length x6)]) (k := 2) (sz := 1) (off := 0) (t := ty 33) (v := .osl 4 1 0 (List.length x6)) h24) ?_
        refine ck 2 ?_
        refine bx H fun l3 h25 H => ?_
        refine sp (at_appO eI64 4 1 h25) ?_
        refine sp (at_idxO 2 1 h24) ?_
        refine sp (at_stN (encN := (nL 1 eI64)) (row := [.osl 4 1 0 (List.length x6)]) (row' := [.osl 6 1 0 (List.length l3)]) (k := 2) (sz := 1) (off := 0) (t := ty 33) (v := .osl 6 1 0 (List.length l3)) h24) ?_
        refine ae ?_
        refine qN ?_
        exact qs (Shift.trans (Shift.trans (Shift.trans (Shift.trans (sh_inn (enc := eI64) (encN := (nL 1 eI64)) (xss := from_6) (yss := List.set from_6 (Int.toNat n_1) l3) (x := x6) (y := l3) (row := [.osl 6 1 0 (List.length l3)]) (zs := l3) (n := n_1) (sz := 1) 2 0 6 1 (by kernel_rfl) h24 rfl rfl rfl) (sh_len 6 2 1 0 (List.length from_6) (List.length (List.set from_6 (Int.toNat n_1) l3)) (by kernel_rfl) (List.length_set).symm)) (sh_len 65 2 1 0 (List.length from_6) (List.length (List.set from_6 (Int.toNat n_1) l3)) (by kernel_rfl) (List.length_set).symm)) (sh_len 67 2 1 0 (List.length from_6) (List.length (List.set from_6 (Int.toNat n_1) l3)) (by kernel_rfl) (List.length_set).symm)) (sh_gcN (encN := (nL 1 eI64)) (xss := List.set from_6 (Int.toNat n_1) l3) (sz := 1) [1,5,6,7,8,29,30] 2 (by kernel_rfl) (by kernel_rfl) (fun _ => rfl))) (hFAutomaton_explore_J1 (states_6, (List.set from_6 (Int.toNat n_1) l3), number_5) H)
      refine sr ?_
      refine ck 2 ?_
      refine en ?_
      refine cn H (fun H => ?_) (fun H => ?_)
      · refine sr ?_
        refine ck 3 ?_
        refine en ?_
        refine sr ?_
        refine ck 3 ?_
        refine sp (at_put1 (enc := eI64) (encK := eGState) (k := 3) (e1 := fun x => .int .i64 x) (m := number_2) (l := [.d (.int .i64 r11.1.Mode), .d (.int .i64 r11.1.Last), .d (.int .u8 r11.1.Need)]) (key := r11.1) (y := ((List.length states_3 : Nat) : Int)) (v := .d (.int .i64 ((List.length states_3 : Nat) : Int))) (vz := [.int .i64 0]) eqk26) ?_
        refine en ?_
        refine rz ?_
        refine ck 3 ?_
        refine bx H fun l4 h26 H => ?_
        refine sp (at_appO eGState 1 3 h26) ?_
        refine ck 1 ?_
        refine sK false ?_
        refine bx H fun l5 h27 H => ?_
        refine sp (at_appN (encN := (nL 1 eI64)) (esz := 1) (k := 2) (e := [.nil]) h27) ?_
        refine ck 2 ?_
        refine ae ?_
        exact qs (Shift.trans (sh_reN (encN := (nL 1 eI64)) (xss := from_3) (yss := l5) (y := ([] : (List Int))) (row := [.own 0 []]) (sz := 1) 7 (by kernel_rfl) (app_one h27) (by kernel_rfl)) (sh_gcN (encN := (nL 1 eI64)) (xss := l5) (sz := 1) [1,5,6,7,8,12,29,30] 2 (by kernel_rfl) (by kernel_rfl) (fun _ => rfl))) (hFAutomaton_explore_J2 (l4, l5, (mput r11.1 ((List.length states_3 : Nat) : Int) number_2), ((List.length states_3 : Nat) : Int)) H)
      · refine sk ?_
        exact qs (sh_gcN (encN := (nL 1 eI64)) (xss := from_3) (sz := 1) [1,5,6,7,8,12,29,30] 2 (by kernel_rfl) (by kernel_rfl) (fun _ => rfl)) (hFAutomaton_explore_J2 (states_3, from_3, number_2, (Option.getD (mget r11.1 number_2) 0)) H)
  · refine ex 2 ?_
    refine qx ?_
    cases H
    exact oe ⟨rfl, sh_gcN (encN := (nL 1 eI64)) (xss := from_3) (sz := 1) [1,5,6,7,8] 2 (by kernel_rfl) (by kernel_rfl) (fun _ => rfl)⟩
def FAutomaton_explore_L1_E (p0_ : GTable) : ((List GState) × (List (List Int))) → Ex → St → Prop := fun (y : ((List GState) × (List (List Int)))) e s => e = Ex.exit 0 ∧ Shift s (f54_s3 y.1 y.2)
theorem FAutomaton_explore_L1_ok {n : Nat} {p0_ : GTable} (x : ((List GState) × (List (List Int)) × (List (GState × Int)) × Int)) (z : (((List GState) × (List (List Int)) × (List (GState × Int)) × Int) ⊕ ((List GState) × (List (List Int))))) (H : FAutomaton_explore_L1 n p0_ x.1 x.2.1 x.2.2.1 x.2.2.2 = some z) : WP (cx 78) (bodyOf Try.f54) [1,1,1,1,0,1,0,0] (roundQ (fun (x : ((List GState) × (List (List Int)) × (List (GState × Int)) × Int)) => f54_s2 p0_ x.1 x.2.1 x.2.2.1 x.2.2.2) (FAutomaton_explore_L1_E p0_) z) (f54_s2 p0_ x.1 x.2.1 x.2.2.1 x.2.2.2) := by
  obtain ⟨states_1, from_1, number_1, k_1⟩ := x
  dsimp only [FAutomaton_explore_L1] at H
  refine sq ?_
  refine sr ?_
  refine ck 4 ?_
  refine en ?_
  refine cn H (fun H => ?_) (fun H => ?_)
  · refine sk ?_
    refine qz ?_
    refine sq ?_
    refine bk 1 ?_
    refine sr ?_
    refine ck 2 ?_
    refine sp (at_len eGRule p0_.Rules) ?_
    refine ck 1 ?_
    refine en ?_
    refine bk 2 ?_
    refine bx H fun y2 h28 H => ?_
    refine lp (fun (x : ((List GState) × (List (List Int)) × (List (GState × Int)) × Int)) => f54_s4 p0_ k_1 x.1 x.2.1 x.2.2.1 x.2.2.2) (FAutomaton_explore_L2_E p0_ k_1) h28 (sh_gcN (encN := (nL 1 eI64)) (xss := from_1) (sz := 1) [1,5,6,7,8,29,30] 2 (by kernel_rfl) (by kernel_rfl) (fun _ => rfl)) (fun x z => FAutomaton_explore_L2_ok x z) ?_
    intro e s hE2
    obtain ⟨rfl, hE2⟩ := hE2
    refine qH ?_
    refine qN ?_
    refine qs (hE2) ?_
    refine rz ?_
    refine ck 3 ?_
    refine ae ?_
    cases H
    exact og (sh_gcN (encN := (nL 1 eI64)) (xss := y2.2.1) (sz := 1) [1,5,6,7,8] 2 (by kernel_rfl) (by kernel_rfl) (fun _ => rfl))
  · refine ex 0 ?_
    refine qx ?_
    cases H
    exact oe ⟨rfl, sh_gcN (encN := (nL 1 eI64)) (xss := from_1) (sz := 1) [5,6] 1 (by kernel_rfl) (by kernel_rfl) (fun _ => rfl)⟩
theorem FAutomaton_explore_ok {n : Nat} {p0_ : GTable} {z : ((List GState) × (List (List Int)))} (H : FAutomaton_explore n p0_ = some z) : CallOK Try.prog 54 [.agg [.d (.int .i64 p0_.Modes), .d (.int .u8 p0_.Accept), .d (.sl (List.map eGRule p0_.Rules))]] (.tup [.own 3 (List.map eGState z.1), .d (.sl (List.map (eL eI64) z.2))]) := by
  dsimp only [FAutomaton_explore] at H
  refine fo (Γ := cx 78) (s := f54_s1 p0_) follows (cxOK 78) Try.func54 ?_
  refine sr ?_
  refine ck 3 ?_
  refine en ?_
  refine sr ?_
  refine bx H fun r10 h21 H => ?_
  refine ca false (FAutomaton_Start_ok h21) ?_
  refine ck 2 ?_
  refine en ?_
  refine sr ?_
  refine ck 2 ?_
  refine sK true ?_
  refine ck 2 ?_
  refine en ?_
  refine sq ?_
  refine rg (sh_toN (sz := 1) (es := [[.nil]]) 3 (List.map (nL 1 eI64) ([[]] : List (List Int))) (by kernel_rfl) (by kernel_rfl)) ?_
  refine ck 2 ?_
  refine sp (at_put1 (enc := eI64) (encK := eGState) (k := 4) (e1 := fun x => .int .i64 x) (m := []) (l := [.d (.int .i64 r10.Mode), .d (.int .i64 r10.Last), .d (.int .u8 r10.Need)]) (key := r10) (y := 0) (v := .d (.int .i64 0)) (vz := [.int .i64 0]) eqk26) ?_
  refine ck 2 ?_
  refine en ?_
  refine sq ?_
  refine sr ?_
  refine ck 1 ?_
  refine en ?_
  refine bk 0 ?_
  refine bx H fun y3 h29 H => ?_
  refine lp (fun (x : ((List GState) × (List (List Int)) × (List (GState × Int)) × Int)) => f54_s2 p0_ x.1 x.2.1 x.2.2.1 x.2.2.2) (FAutomaton_explore_L1_E p0_) h29 (sh_gcN (encN := (nL 1 eI64)) (xss := ([[]] : List (List Int))) (sz := 1) [1,5,6,7,8] 2 (by kernel_rfl) (by kernel_rfl) (fun _ => rfl)) (fun x z => FAutomaton_explore_L1_ok x z) ?_
  intro e s hE3
  obtain ⟨rfl, hE3⟩ := hE3
  refine qH ?_
  refine qs (hE3) ?_
  refine sr ?_
  refine ck 4 ?_
  refine ae ?_
  refine qs (sh_frzN (encN := (nL 1 eI64)) (encD := (eL eI64)) (xss := y3.2) (k := 1) (sz := 1) 3 (by kernel_rfl) (fun _ => rfl) (fun _ => rfl)) ?_
  refine re ?_
  injection H with H
  subst H
  exact pr (rT (vs := [.osl 0 3 0 (List.length y3.1), .d (.sl (List.map (eL eI64) y3.2))]) [0] (t1 (ao vo) (t1 (ad vd) (t0))))
end
section
variable (p0_ : GTable)
def f25_s1 : St := ⟨(0, .agg [.d (.int .i64 p0_.Modes), .d (.int .u8 p0_.Accept), .d (.sl (List.map eGRule p0_.Rules))]) :: [], []⟩
theorem FAutomaton_States_ok {n : Nat} {p0_ : GTable} {z : (List GState)} (H : FAutomaton_States n p0_ = some z) : CallOK Try.prog 25 [.agg [.d (.int .i64 p0_.Modes), .d (.int .u8 p0_.Accept), .d (.sl (List.map eGRule p0_.Rules))]] (.own 3 (List.map eGState z)) := by
  dsimp only [FAutomaton_States] at H
  refine fo (Γ := cx 11) (s := f25_s1 p0_) follows (cxOK 11) Try.func25 ?_
  refine sr ?_
  refine ck 2 ?_
  refine en ?_
  refine sr ?_
  refine ck 1 ?_
  refine bx H fun r12 h30 H => ?_
  refine cl [List.length r12.1] (FAutomaton_explore_ok h30) ?_
  refine ck 5 ?_
  refine en ?_
  refine sr ?_
  refine ck 2 ?_
  refine en ?_
  refine re ?_
  injection H with H
  subst H
  exact pr (rO (v := .osl 1 3 0 (List.length r12.1)) [1] (ao vo))
end
section
variable (p0_ : GTable)
def f28_s1 : St := ⟨(0, .agg [.d (.int .i64 p0_.Modes), .d (.int .u8 p0_.Accept), .d (.sl (List.map eGRule p0_.Rules))]) :: [], []⟩
variable (r13 : ((List GState) × (List (List Int)))) (alive_1 : (List Bool)) (open_1 : (List Int)) (x_3 : Int)
def f28_s2 : St := ⟨(1, .ptr 0 0) :: (4, .d (.sl (List.map (eL eI64) r13.2))) :: (5, .osl 1 1 0 (List.length alive_1)) :: (6, .osl 2 1 0 (List.length open_1)) :: (20, .d (.sl (List.map eGState r13.1))) :: (21, .d (.int .i64 ((List.length r13.1 : Nat) : Int))) :: (22, .d (.int .i64 x_3)) :: [], [some (.box [.d (.int .i64 p0_.Modes), .d (.int .u8 p0_.Accept), .d (.sl (List.map eGRule p0_.Rules))]), some (.arr 1 (List.map eB alive_1)), some (.arr 1 (List.map eI64 open_1))]⟩
variable (alive_2 : (List Bool)) (open_2 : (List Int))
def f28_s3 : St := ⟨(4, .d (.sl (List.map (eL eI64) r13.2))) :: (5, .osl 0 1 0 (List.length alive_2)) :: (6, .osl 1 1 0 (List.length open_2)) :: [], [some (.arr 1 (List.map eB alive_2)), some (.arr 1 (List.map eI64 open_2))]⟩
variable (alive_3 : (List Bool)) (open_3 : (List Int))
def f28_s4 : St := ⟨(1, .ptr 0 0) :: (4, .d (.sl (List.map (eL eI64) r13.2))) :: (5, .osl 1 1 0 (List.length alive_3)) :: (6, .osl 2 1 0 (List.length open_3)) :: (20, .d (.sl (List.map eGState r13.1))) :: (21, .d (.int .i64 ((List.length r13.1 : Nat) : Int))) :: (22, .d (.int .i64 x_3)) :: [], [some (.box [.d (.int .i64 p0_.Modes), .d (.int .u8 p0_.Accept), .d (.sl (List.map eGRule p0_.Rules))]), some (.arr 1 (List.map eB alive_3)), some (.arr 1 (List.map eI64 open_3))]⟩
def FAutomaton_Alive_L1_E (p0_ : GTable) (r13 : ((List GState) × (List (List Int)))) : ((List Bool) × (List Int)) → Ex → St → Prop := fun (y : ((List Bool) × (List Int))) e s => e = Ex.exit 0 ∧ Shift s (f28_s3 r13 y.1 y.2)
theorem FAutomaton_Alive_L1_ok {n : Nat} {p0_ : GTable} {r13 : ((List GState) × (List (List Int)))} (x : ((List Bool) × (List Int) × Int)) (z : (((List Bool) × (List Int) × Int) ⊕ ((List Bool) × (List Int)))) (H : FAutomaton_Alive_L1 n p0_ r13 x.1 x.2.1 x.2.2 = some z) : WP (cx 75) (bodyOf Try.f28) [1,1,1,1,0,1,0,0] (roundQ (fun (x : ((List Bool) × (List Int) × Int)) => f28_s2 p0_ r13 x.1 x.2.1 x.2.2) (FAutomaton_Alive_L1_E p0_ r13) z) (f28_s2 p0_ r13 x.1 x.2.1 x.2.2) := by
  obtain ⟨alive_1, open_1, x_3⟩ := x
  dsimp only [FAutomaton_Alive_L1] at H
  refine sr ?_
  refine ck 1 ?_
  refine en ?_
  refine sq ?_
  refine cn H (fun H => ?_) (fun H => ?_)
  · refine sk ?_
    refine qz ?_
    refine sj (fun (x : ((List Bool) × (List Int))) => f28_s4 p0_ r13 x_3 x.1 x.2) (fun (x : ((List Bool) × (List Int))) => FAutomaton_Alive_J1 n x_3 x.1 x.2) z ?_ (fun hFAutomaton_Alive_J1 => ?_)
    · rintro ⟨alive_3, open_3⟩ H
      dsimp only [FAutomaton_Alive_J1] at H
      refine rz ?_
      refine ck 2 ?_
      refine ae ?_
      cases H
      exact og (sh_gc [1,4,5,6,20,21,22] (by kernel_rfl))
    refine bk 1 ?_
    refine sr ?_
    refine ck 1 ?_
    refine bx H fun x7 h33 H => ?_
    refine sp (at_idxD eGState h33) ?_
    refine ck 4 ?_
    refine en ?_
    refine sr ?_
    refine ck 2 ?_
    refine bx H fun r14 h34 H => ?_
    refine ca false (FAutomaton_Accepts_ok h34) ?_
    refine en ?_
    refine cn H (fun H => ?_) (fun H => ?_)
    · refine sr ?_
      refine ck 2 ?_
      refine bx H fun x8 h35 H => ?_
      refine sp (at_idxO 1 1 h35) ?_
      refine bx H fun l7 h36 H => ?_
      refine stA eB 1 0 (ty 4) h35 h36 ?_
      refine en ?_
      refine rg (sh_sub (k := 1) (sz := 1) 5 (List.map eB l7) (List.length l7) (by kernel_rfl) (cut_put (put_len h36)) (le_put (enc := eB) (put_len h36)) ((put_len h36))) ?_
      refine ck 3 ?_
      refine bx H fun l8 h37 H => ?_
      refine sp (at_appO eI64 2 1 h37) ?_
      refine ck 1 ?_
      refine ae ?_
      refine qN ?_
      exact qs (sh_gc [1,4,5,6,20,21,22] (by kernel_rfl)) (hFAutomaton_Alive_J1 (l7, l8) H)
    · refine sk ?_
      refine qN ?_
      exact qs (sh_gc [1,4,5,6,20,21,22] (by kernel_rfl)) (hFAutomaton_Alive_J1 (alive_1, open_1) H)
  · refine ex 0 ?_
    refine qx ?_
    cases H
    exact oe ⟨rfl, sh_gc [4,5,6] (by kernel_rfl)⟩
variable (alive_4 : (List Bool)) (open_4 : (List Int))
def f28_s5 : St := ⟨(4, .d (.sl (List.map (eL eI64) r13.2))) :: (5, .osl 0 1 0 (List.length alive_4)) :: (6, .osl 1 1 0 (List.length open_4)) :: [], [some (.arr 1 (List.map eB alive_4)), some (.arr 1 (List.map eI64 open_4))]⟩
variable (alive_5 : (List Bool))
def f28_s6 : St := ⟨(5, .osl 0 1 0 (List.length alive_5)) :: [], [some (.arr 1 (List.map eB alive_5))]⟩
variable (x10 : (List Int)) (alive_6 : (List Bool)) (open_5 : (List Int)) (x_4 : Int)
def f28_s7 : St := ⟨(4, .d (.sl (List.map (eL eI64) r13.2))) :: (5, .osl 0 1 0 (List.length alive_6)) :: (6, .osl 1 1 0 (List.length open_5)) :: (55, .d (.sl (List.map eI64 x10))) :: (56, .d (.int .i64 ((List.length x10 : Nat) : Int))) :: (57, .d (.int .i64 x_4)) :: [], [some (.arr 1 (List.map eB alive_6)), some (.arr 1 (List.map eI64 open_5))]⟩
variable (alive_7 : (List Bool)) (open_6 : (List Int))
def f28_s8 : St := ⟨(4, .d (.sl (List.map (eL eI64) r13.2))) :: (5, .osl 0 1 0 (List.length alive_7)) :: (6, .osl 1 1 0 (List.length open_6)) :: [], [some (.arr 1 (List.map eB alive_7)), some (.arr 1 (List.map eI64 open_6))]⟩
variable (alive_8 : (List Bool)) (open_7 : (List Int))
def f28_s9 : St := ⟨(4, .d (.sl (List.map (eL eI64) r13.2))) :: (5, .osl 0 1 0 (List.length alive_8)) :: (6, .osl 1 1 0 (List.length open_7)) :: (55, .d (.sl (List.map eI64 x10))) :: (56, .d (.int .i64 ((List.length x10 : Nat) : Int))) :: (57, .d (.int .i64 x_4)) :: [], [some (.arr 1 (List.map eB alive_8)), some (.arr 1 (List.map eI64 open_7))]⟩
def FAutomaton_Alive_L3_E (r13 : ((List GState) × (List (List Int)))) (x10 : (List Int)) : ((List Bool) × (List Int)) → Ex → St → Prop := fun (y : ((List Bool) × (List Int))) e s => e = Ex.exit 4 ∧ Shift s (f28_s8 r13 y.1 y.2)
theorem FAutomaton_Alive_L3_ok {n : Nat} {r13 : ((List GState) × (List (List Int)))} {x10 : (List Int)} (x : ((List Bool) × (List Int) × Int)) (z : (((List Bool) × (List Int) × Int) ⊕ ((List Bool) × (List Int)))) (H : FAutomaton_Alive_L3 n r13 x10 x.1 x.2.1 x.2.2 = some z) : WP (cx 75) (bodyOf Try.f28) [1,1,1,1,1,0,0,0,1,0,1,1,1,0,0] (roundQ (fun (x : ((List Bool) × (List Int) × Int)) => f28_s7 r13 x10 x.1 x.2.1 x.2.2) (FAutomaton_Alive_L3_E r13 x10) z) (f28_s7 r13 x10 x.1 x.2.1 x.2.2) := by
  obtain ⟨alive_6, open_5, x_4⟩ := x
  dsimp only [FAutomaton_Alive_L3] at H
  refine sr ?_
  refine ck 1 ?_
  refine en ?_
  refine sq ?_
  refine cn H (fun H => ?_) (fun H => ?_)
  · refine sk ?_
    refine qz ?_
    refine sj (fun (x : ((List Bool) × (List Int))) => f28_s9 r13 x10 x_4 x.1 x.2) (fun (x : ((List Bool) × (List Int))) => FAutomaton_Alive_J2 n x_4 x.1 x.2) z ?_ (fun hFAutomaton_Alive_J2 => ?_)
    · rintro ⟨alive_8, open_7⟩ H
      dsimp only [FAutomaton_Alive_J2] at H
      refine rz ?_
      refine ck 2 ?_
      refine ae ?_
      cases H
      exact og (sh_gc [4,5,6,55,56,57] (by kernel_rfl))
    refine bk 5 ?_
    refine sr ?_
    refine bx H fun x11 h42 H => ?_
    refine sp (at_idxD eI64 h42) ?_
    refine ck 2 ?_
    refine en ?_
    refine sr ?_
    refine ck 2 ?_
    refine bx H fun x12 h43 H => ?_
    refine sp (at_idxO 0 1 h43) ?_
    refine sp (at_ldA eB 0 0 (ty 4) h43) ?_
    refine ck 1 ?_
    refine en ?_
    refine cn H (fun H => ?_) (fun H => ?_)
    · refine sr ?_
      refine ck 2 ?_
      refine bx H fun x13 h44 H => ?_
      refine sp (at_idxO 0 1 h44) ?_
      refine bx H fun l10 h45 H => ?_
      refine stA eB 0 0 (ty 4) h44 h45 ?_
      refine en ?_
      refine rg (sh_sub (k := 0) (sz := 1) 5 (List.map eB l10) (List.length l10) (by kernel_rfl) (cut_put (put_len h45)) (le_put (enc := eB) (put_len h45)) ((put_len h45))) ?_
      refine ck 3 ?_
      refine bx H fun l11 h46 H => ?_
      refine sp (at_appO eI64 1 1 h46) ?_
      refine ck 1 ?_
      refine ae ?_
      refine qN ?_
      exact qs (sh_gc [4,5,6,55,56,57] (by kernel_rfl)) (hFAutomaton_Alive_J2 (l10, l11) H)
    · refine sk ?_
      refine qN ?_
      exact qs (sh_gc [4,5,6,55,56,57] (by kernel_rfl)) (hFAutomaton_Alive_J2 (alive_6, open_5) H)
  · refine ex 4 ?_
    refine qx ?_
    cases H
    exact oe ⟨rfl, sh_gc [4,5,6] (by kernel_rfl)⟩
def FAutomaton_Alive_L2_E (r13 : ((List GState) × (List (List Int)))) : (List Bool) → Ex → St → Prop := fun (y : (List Bool)) e s => e = Ex.exit 2 ∧ Shift s (f28_s6 y)
theorem FAutomaton_Alive_L2_ok {n : Nat} {r13 : ((List GState) × (List (List Int)))} (x : ((List Bool) × (List Int))) (z : (((List Bool) × (List Int)) ⊕ (List Bool))) (H : FAutomaton_Alive_L2 n r13 x.1 x.2 = some z) : WP (cx 75) (bodyOf Try.f28) [1,1,1,1,1,0,0,0] (roundQ (fun (x : ((List Bool) × (List Int))) => f28_s5 r13 x.1 x.2) (FAutomaton_Alive_L2_E r13) z) (f28_s5 r13 x.1 x.2) := by
  obtain ⟨alive_4, open_4⟩ := x
  dsimp only [FAutomaton_Alive_L2] at H
  refine sq ?_
  refine sr ?_
  refine ck 3 ?_
  refine en ?_
  refine cn H (fun H => ?_) (fun H => ?_)
  · refine sk ?_
    refine qz ?_
    refine bk 3 ?_
    refine sr ?_
    refine ck 4 ?_
    refine bx H fun x9 h39 H => ?_
    refine sp (at_idxO 1 1 h39) ?_
    refine sp (at_ldA eI64 1 0 (ty 3) h39) ?_
    refine ck 1 ?_
    refine en ?_
    refine sr ?_
    refine ck 4 ?_
    refine bx H fun l9 h40 H => ?_
    refine sp (at_slO 1 1 h40) ?_
    refine ck 1 ?_
    refine en ?_
    refine sq ?_
    refine rg (sh_sub (k := 1) (sz := 1) 6 (List.map eI64 l9) (List.length l9) (by kernel_rfl) (sub_cut h40) (sub_le (enc := eI64) h40) (sub_len h40)) ?_
    refine ck 2 ?_
    refine bx H fun x10 h41 H => ?_
    refine sp (at_idxD (eL eI64) h41) ?_
    refine ck 1 ?_
    refine sp (at_len eI64 x10) ?_
    refine ck 1 ?_
    refine en ?_
    refine bk 4 ?_
    refine bx H fun y5 h47 H => ?_
    refine lp (fun (x : ((List Bool) × (List Int) × Int)) => f28_s7 r13 x10 x.1 x.2.1 x.2.2) (FAutomaton_Alive_L3_E r13 x10) h47 (sh_gc [4,5,6,55,56,57] (by kernel_rfl)) (fun x z => FAutomaton_Alive_L3_ok x z) ?_
    intro e s hE5
    obtain ⟨rfl, hE5⟩ := hE5
    refine qH ?_
    refine qN ?_
    cases H
    exact og (Shift.trans (hE5) (sh_gc [4,5,6] (by kernel_rfl)))
  · refine ex 2 ?_
    refine qx ?_
    cases H
    exact oe ⟨rfl, sh_gc [5] (by kernel_rfl)⟩
theorem FAutomaton_Alive_ok {n : Nat} {p0_ : GTable} {z : (List Bool)} (H : FAutomaton_Alive n p0_ = some z) : CallOK Try.prog 28 [.agg [.d (.int .i64 p0_.Modes), .d (.int .u8 p0_.Accept), .d (.sl (List.map eGRule p0_.Rules))]] (.own 1 (List.map eB z)) := by
  dsimp only [FAutomaton_Alive] at H
  refine fo (Γ := cx 75) (s := f28_s1 p0_) follows (cxOK 75) Try.func28 ?_
  refine sr ?_
  refine ck 2 ?_
  refine en ?_
  refine sr ?_
  refine ck 1 ?_
  refine bx H fun r13 h31 H => ?_
  refine ca false (FAutomaton_explore_ok h31) ?_
  refine ck 5 ?_
  refine en ?_
  refine sr ?_
  refine ck 1 ?_
  refine sp (at_len eGState r13.1) ?_
  refine bx H fun l6 h32 H => ?_
  refine sp (at_mk eB 1 h32) ?_
  refine ck 1 ?_
  refine en ?_
  refine sr ?_
  refine ck 1 ?_
  refine en ?_
  refine sq ?_
  refine sr ?_
  refine ck 1 ?_
  refine sp (at_len eGState r13.1) ?_
  refine ck 1 ?_
  refine en ?_
  refine bk 0 ?_
  refine bx H fun y4 h38 H => ?_
  refine lp (fun (x : ((List Bool) × (List Int) × Int)) => f28_s2 p0_ r13 x.1 x.2.1 x.2.2) (FAutomaton_Alive_L1_E p0_ r13) h38 (Shift.trans (Shift.nilo 6 1 (by kernel_rfl)) (sh_gc [1,4,5,6,20,21,22] (by kernel_rfl))) (fun x z => FAutomaton_Alive_L1_ok x z) ?_
  intro e s hE4
  obtain ⟨rfl, hE4⟩ := hE4
  refine qH ?_
  refine qs (hE4) ?_
  refine sq ?_
  refine bk 2 ?_
  refine bx H fun y6 h48 H => ?_
  refine lp (fun (x : ((List Bool) × (List Int))) => f28_s5 r13 x.1 x.2) (FAutomaton_Alive_L2_E r13) h48 (sh_gc [4,5,6] (by kernel_rfl)) (fun x z => FAutomaton_Alive_L2_ok x z) ?_
  intro e s hE6
  obtain ⟨rfl, hE6⟩ := hE6
  refine qH ?_
  refine qs (hE6) ?_
  refine sr ?_
  refine ck 2 ?_
  refine en ?_
  refine re ?_
  injection H with H
  subst H
  exact pr (rO (v := .osl 0 1 0 (List.length y6)) [0] (ao vo))
end
section
variable (p0_ : (List Int)) (p1_ : (List Int))
def f49_s1 : St := ⟨(0, .d (.sl (List.map eU8 p0_))) :: (1, .d (.sl (List.map eU8 p1_))) :: [], []⟩
variable (i_1 : Int)
def f49_s2 : St := ⟨(0, .d (.sl (List.map eU8 p0_))) :: (1, .d (.sl (List.map eU8 p1_))) :: (5, .d (.int .i64 i_1)) :: [], []⟩
def f49_s3  : St := ⟨[], []⟩
def FSixdotref02_SameCells_L1_E (p0_ : (List Int)) (p1_ : (List Int)) : (Unit ⊕ Bool) → Ex → St → Prop := fun y => Sum.casesOn y (fun (y : Unit) e s => e = Ex.exit 0 ∧ Shift s (f49_s3)) (fun (y : Bool) e s => e = Ex.ret ∧ RA ty (Try.f49).results.toList (.d (.bool y)) s)
theorem FSixdotref02_SameCells_L1_ok {n : Nat} {p0_ : (List Int)} {p1_ : (List Int)} (x : Int) (z : (Int ⊕ (Unit ⊕ Bool))) (H : FSixdotref02_SameCells_L1 n p0_ p1_ x = some z) : WP (cx 26) (bodyOf Try.f49) [1,1,0,1,0,0] (roundQ (fun (x : Int) => f49_s2 p0_ p1_ x) (FSixdotref02_SameCells_L1_E p0_ p1_) z) (f49_s2 p0_ p1_ x) := by
  revert H
  generalize x = i_1
  intro H
  dsimp only [FSixdotref02_SameCells_L1] at H
  refine sq ?_
  refine sr ?_
  refine ck 2 ?_
  refine sp (at_len eU8 p0_) ?_
  refine ck 1 ?_
  refine en ?_
  refine cn H (fun H => ?_) (fun H => ?_)
  · refine sk ?_
    refine qz ?_
    refine sq ?_
    refine bk 1 ?_
    refine sr ?_
    refine ck 2 ?_
    refine bx H fun x14 h49 H => ?_
    refine sp (at_idxD eU8 h49) ?_
    refine ck 3 ?_
    refine bx H fun x15 h50 H => ?_
    refine sp (at_idxD eU8 h50) ?_
    refine ck 2 ?_
    refine en ?_
    refine cn H (fun H => ?_) (fun H => ?_)
    · refine sr ?_
      refine ck 1 ?_
      refine en ?_
      refine re ?_
      refine qR ?_
      refine qr ?_
      cases H
      exact or ⟨rfl, rd⟩
    · refine sk ?_
      refine qN ?_
      refine qz ?_
      refine rz ?_
      refine ck 3 ?_
      refine ae ?_
      cases H
      exact og (sh_gc [0,1,5] (by kernel_rfl))
  · refine ex 0 ?_
    refine qx ?_
    cases H
    exact oe ⟨rfl, sh_gc [] (by kernel_rfl)⟩
theorem FSixdotref02_SameCells_ok {n : Nat} {p0_ : (List Int)} {p1_ : (List Int)} {z : Bool} (H : FSixdotref02_SameCells n p0_ p1_ = some z) : CallOK Try.prog 49 [.d (.sl (List.map eU8 p0_)), .d (.sl (List.map eU8 p1_))] (.d (.bool z)) := by
  dsimp only [FSixdotref02_SameCells] at H
  refine fo (Γ := cx 26) (s := f49_s1 p0_ p1_) follows (cxOK 26) Try.func49 ?_
  refine sr ?_
  refine ck 1 ?_
  refine en ?_
  refine sq ?_
  refine sr ?_
  refine ck 1 ?_
  refine sp (at_len eU8 p0_) ?_
  refine ck 1 ?_
  refine sp (at_len eU8 p1_) ?_
  refine ck 1 ?_
  refine en ?_
  refine cn H (fun H => ?_) (fun H => ?_)
  · refine sr ?_
    refine ck 1 ?_
    refine en ?_
    refine re ?_
    refine qr ?_
    injection H with H
    subst H
    exact pr (rd)
  · refine sk ?_
    refine qz ?_
    refine sq ?_
    refine sr ?_
    refine ck 1 ?_
    refine en ?_
    refine bk 0 ?_
    refine bx H fun y7 h51 H => ?_
    rcases y7 with y8 | y9
    · refine lp (fun (x : Int) => f49_s2 p0_ p1_ x) (FSixdotref02_SameCells_L1_E p0_ p1_) h51 (sh_gc [0,1,5] (by kernel_rfl)) (fun x z => FSixdotref02_SameCells_L1_ok x z) ?_
      intro e s hE7
      obtain ⟨rfl, hE7⟩ := hE7
      refine qH ?_
      refine qs (hE7) ?_
      refine sr ?_
      refine ck 1 ?_
      refine en ?_
      refine re ?_
      injection H with H
      subst H
      exact pr (rd)
    · refine lp (fun (x : Int) => f49_s2 p0_ p1_ x) (FSixdotref02_SameCells_L1_E p0_ p1_) h51 (sh_gc [0,1,5] (by kernel_rfl)) (fun x z => FSixdotref02_SameCells_L1_ok x z) ?_
      intro e s hE8
      obtain ⟨rfl, hE8⟩ := hE8
      refine qR ?_
      refine qr ?_
      cases H
      exact pr hE8
end
def f15_s0 : St := ⟨[], []⟩
section
variable (r15 : GRule) (r16 : GRule) (r17 : GRule) (r18 : GRule) (r20 : (GState × Bool)) (r21 : (GState × Bool)) (r22 : (GState × Bool)) (r23 : GTrace) (r24 : GTrace) (r25 : GTrace) (r26 : (List GState)) (r27 : (List Bool)) (i_2 : Int)
def f15_s1 : St := ⟨(1, .ptr 0 0) :: (2, .ptr 1 0) :: (3, .d (.bool r20.2)) :: (5, .d (.bool r21.2)) :: (7, .d (.bool r22.2)) :: (8, .ptr 2 0) :: (9, .ptr 3 0) :: (10, .ptr 4 0) :: (11, .d (.sl (List.map eGState r26))) :: (12, .osl 5 3 0 (List.length [({ Mode := 0, Last := 0, Need := 63 } : GState), ({ Mode := 0, Last := 1, Need := 63 } : GState), ({ Mode := 1, Last := 0, Need := 8 } : GState), ({ Mode := 1, Last := 1, Need := 8 } : GState), ({ Mode := 1, Last := 3, Need := 63 } : GState), ({ Mode := 0, Last := 4, Need := 63 } : GState), ({ Mode := 1, Last := 4, Need := 8 } : GState)])) :: (13, .d (.sl (List.map eB r27))) :: (14, .d (.int .i64 i_2)) :: [], [some (.box [.d (.int .i64 2), .d (.int .u8 3), .osl 6 6 0 (List.length [r15, r16, r17, r18])]), some (.box [.d (.int .i64 r20.1.Mode), .d (.int .i64 r20.1.Last), .d (.int .u8 r20.1.Need)]), some (.box [.d (.str r23.Text), .d (.sl (List.map eU8 r23.Cells)), .d (.int .i64 r23.At), .d (.int .i64 r23.End.Mode), .d (.int .i64 r23.End.Last), .d (.int .u8 r23.End.Need), .d (.bool r23.Ok)]), some (.box [.d (.str r24.Text), .d (.sl (List.map eU8 r24.Cells)), .d (.int .i64 r24.At), .d (.int .i64 r24.End.Mode), .d (.int .i64 r24.End.Last), .d (.int .u8 r24.End.Need), .d (.bool r24.Ok)]), some (.box [.d (.str r25.Text), .d (.sl (List.map eU8 r25.Cells)), .d (.int .i64 r25.At), .d (.int .i64 r25.End.Mode), .d (.int .i64 r25.End.Last), .d (.int .u8 r25.End.Need), .d (.bool r25.Ok)]), some (.arr 3 (List.map eGState [({ Mode := 0, Last := 0, Need := 63 } : GState), ({ Mode := 0, Last := 1, Need := 63 } : GState), ({ Mode := 1, Last := 0, Need := 8 } : GState), ({ Mode := 1, Last := 1, Need := 8 } : GState), ({ Mode := 1, Last := 3, Need := 63 } : GState), ({ Mode := 0, Last := 4, Need := 63 } : GState), ({ Mode := 1, Last := 4, Need := 8 } : GState)])), some (.arr 6 (List.map eGRule [r15, r16, r17, r18]))]⟩
def f15_s2 : St := ⟨(1, .ptr 0 0) :: (2, .ptr 1 0) :: (3, .d (.bool r20.2)) :: (5, .d (.bool r21.2)) :: (7, .d (.bool r22.2)) :: (8, .ptr 2 0) :: (9, .ptr 3 0) :: (10, .ptr 4 0) :: (11, .d (.sl (List.map eGState r26))) :: [], [some (.box [.d (.int .i64 2), .d (.int .u8 3), .osl 5 6 0 (List.length [r15, r16, r17, r18])]), some (.box [.d (.int .i64 r20.1.Mode), .d (.int .i64 r20.1.Last), .d (.int .u8 r20.1.Need)]), some (.box [.d (.str r23.Text), .d (.sl (List.map eU8 r23.Cells)), .d (.int .i64 r23.At), .d (.int .i64 r23.End.Mode), .d (.int .i64 r23.End.Last), .d (.int .u8 r23.End.Need), .d (.bool r23.Ok)]), some (.box [.d (.str r24.Text), .d (.sl (List.map eU8 r24.Cells)), .d (.int .i64 r24.At), .d (.int .i64 r24.End.Mode), .d (.int .i64 r24.End.Last), .d (.int .u8 r24.End.Need), .d (.bool r24.Ok)]), some (.box [.d (.str r25.Text), .d (.sl (List.map eU8 r25.Cells)), .d (.int .i64 r25.At), .d (.int .i64 r25.End.Mode), .d (.int .i64 r25.End.Last), .d (.int .u8 r25.End.Need), .d (.bool r25.Ok)]), some (.arr 6 (List.map eGRule [r15, r16, r17, r18]))]⟩
def FSixdotlaw03_sanity_L1_E (r15 : GRule) (r16 : GRule) (r17 : GRule) (r18 : GRule) (r20 : (GState × Bool)) (r21 : (GState × Bool)) (r22 : (GState × Bool)) (r23 : GTrace) (r24 : GTrace) (r25 : GTrace) (r26 : (List GState)) (r27 : (List Bool)) : (Unit ⊕ Bool) → Ex → St → Prop := fun y => Sum.casesOn y (fun (y : Unit) e s => e = Ex.exit 0 ∧ Shift s (f15_s2 r15 r16 r17 r18 r20 r21 r22 r23 r24 r25 r26)) (fun (y : Bool) e s => e = Ex.ret ∧ RA ty (Try.f15).results.toList (.d (.bool y)) s)
theorem FSixdotlaw03_sanity_L1_ok {n : Nat} {r15 : GRule} {r16 : GRule} {r17 : GRule} {r18 : GRule} {r20 : (GState × Bool)} {r21 : (GState × Bool)} {r22 : (GState × Bool)} {r23 : GTrace} {r24 : GTrace} {r25 : GTrace} {r26 : (List GState)} {r27 : (List Bool)} (x : Int) (z : (Int ⊕ (Unit ⊕ Bool))) (H : FSixdotlaw03_sanity_L1 n r15 r16 r17 r18 r20 r21 r22 r23 r24 r25 r26 r27 x = some z) : WP (cx 180) (bodyOf Try.f15) [1,1,1,1,1,1,1,1,1,1,1,0,1,0,0] (roundQ (fun (x : Int) => f15_s1 r15 r16 r17 r18 r20 r21 r22 r23 r24 r25 r26 r27 x) (FSixdotlaw03_sanity_L1_E r15 r16 r17 r18 r20 r21 r22 r23 r24 r25 r26 r27) z) (f15_s1 r15 r16 r17 r18 r20 r21 r22 r23 r24 r25 r26 r27 x) := by
  revert H
  generalize x = i_2
  intro H
  dsimp only [FSixdotlaw03_sanity_L1] at H
  refine sq ?_
  refine sr ?_
  refine ck 2 ?_
  refine sp (at_len eGState r26) ?_
  refine ck 1 ?_
  refine en ?_
  refine cn H (fun H => ?_) (fun H => ?_)
  · refine sk ?_
    refine qz ?_
    refine sq ?_
    refine bk 1 ?_
    refine sr ?_
    refine ck 2 ?_
    refine bx H fun x16 h65 H => ?_
    refine sp (at_idxD eGState h65) ?_
    refine ck 3 ?_
    refine bx H fun x17 h66 H => ?_
    refine sp (at_idxO 5 3 h66) ?_
    refine sp (at_ldA eGState 5 0 (ty 26) h66) ?_
    refine ck 4 ?_
    refine bx H fun x18 h67 H => ?_
    refine sG (fun hg => at_idxD eB (gimp h67 hg)) (impK (fun hh => hh) (impK (fun hh => hh) (impZ))) ?_
    refine gc 2 (!(!((x16.Mode == x17.Mode) && ((x16.Last == x17.Last) && ((x16.Need == x17.Need) && true))))) ?_
    refine pO ?_
    refine en ?_
    refine cn H (fun H => ?_) (fun H => ?_)
    · refine sr ?_
      refine ck 1 ?_
      refine en ?_
      refine re ?_
      refine qR ?_
      refine qr ?_
      cases H
      exact or ⟨rfl, rd⟩
    · refine sk ?_
      refine qN ?_
      refine qz ?_
      refine rz ?_
      refine ck 3 ?_
      refine ae ?_
      cases H
      exact og (sh_gc [1,2,3,5,7,8,9,10,11,12,13,14] (by kernel_rfl))
  · refine ex 0 ?_
    refine qx ?_
    cases H
    exact oe ⟨rfl, sh_gc [1,2,3,5,7,8,9,10,11] (by kernel_rfl)⟩
theorem FSixdotlaw03_sanity_ok {n : Nat}  {z : Bool} (H : FSixdotlaw03_sanity n = some z) : CallOK Try.prog 15 [] (.d (.bool z)) := by
  dsimp only [FSixdotlaw03_sanity] at H
  refine fo (Γ := cx 180) (s := f15_s0) follows (cxOK 180) Try.func15 ?_
  refine sr ?_
  refine ck 1 ?_
  refine en ?_
  refine sr ?_
  refine ck 1 ?_
  refine bx H fun r15 h52 H => ?_
  refine ca false (FSixdotlaw03_rule_ok h52) ?_
  refine ck 1 ?_
  refine bx H fun r16 h53 H => ?_
  refine ca false (FSixdotlaw03_rule_ok h53) ?_
  refine ck 1 ?_
  refine bx H fun r17 h54 H => ?_
  refine ca false (FSixdotlaw03_rule_ok h54) ?_
  refine ck 1 ?_
  refine bx H fun r18 h55 H => ?_
  refine ca false (FSixdotlaw03_rule_ok h55) ?_
  refine ck 4 ?_
  refine en ?_
  refine sr ?_
  refine ck 1 ?_
  refine bx H fun r19 h56 H => ?_
  refine ca false (FAutomaton_Start_ok h56) ?_
  refine bx H fun r20 h57 H => ?_
  refine cb (ks := [0]) (obl := [(0 + List.length [r15, r16, r17, r18], List.length (List.map eGRule [r15, r16, r17, r18]))]) false (leK (by simp) (leZ)) (consE (aggE (consE rfl (consE rfl (consE takeE rfl)))) (consE rfl (consE rfl rfl))) (FAutomaton_Step_ok h57) (Or.inr (by simp only [flatR, flatT, flatA, flatC, List.forall_mem_map] <;> simp [D.flat, true_and])) rfl ?_
  refine ck 6 ?_
  refine en ?_
  refine sr ?_
  refine ck 2 ?_
  refine bx H fun r21 h58 H => ?_
  refine cb (ks := [0]) (obl := [(0 + List.length [r15, r16, r17, r18], List.length (List.map eGRule [r15, r16, r17, r18]))]) false (leK (by simp) (leZ)) (consE (aggE (consE rfl (consE rfl (consE takeE rfl)))) (consE rfl (consE rfl rfl))) (FAutomaton_Step_ok h58) (Or.inr (by simp only [flatR, flatT, flatA, flatC, List.forall_mem_map] <;> simp [D.flat, true_and])) rfl ?_
  refine ck 6 ?_
  refine en ?_
  refine sr ?_
  refine ck 2 ?_
  refine bx H fun r22 h59 H => ?_
  refine cb (ks := [0]) (obl := [(0 + List.length [r15, r16, r17, r18], List.length (List.map eGRule [r15, r16, r17, r18]))]) false (leK (by simp) (leZ)) (consE (aggE (consE rfl (consE rfl (consE takeE rfl)))) (consE rfl (consE rfl rfl))) (FAutomaton_Step_ok h59) (Or.inr (by simp only [flatR, flatT, flatA, flatC, List.forall_mem_map] <;> simp [D.flat, true_and])) rfl ?_
  refine ck 6 ?_
  refine en ?_
  refine sr ?_
  refine ck 2 ?_
  refine bx H fun r23 h60 H => ?_
  refine cb (ks := [0,5]) (obl := [(0 + List.length [r15, r16, r17, r18], List.length (List.map eGRule [r15, r16, r17, r18])), (0 + List.length [1,2,3,0], List.length (List.map eI64 [1,2,3,0]))]) false (leK (by simp) (leK (by simp) (leZ))) (consE (aggE (consE rfl (consE rfl (consE takeE rfl)))) (consE takeE rfl)) (FAutomaton_Run_ok h60) (Or.inr (by simp only [flatR, flatT, flatA, flatC, List.forall_mem_map] <;> simp [D.flat, eU8])) rfl ?_
  refine ck 2 ?_
  refine en ?_
  refine sr ?_
  refine ck 2 ?_
  refine bx H fun r24 h61 H => ?_
  refine cb (ks := [0,7]) (obl := [(0 + List.length [r15, r16, r17, r18], List.length (List.map eGRule [r15, r16, r17, r18])), (0 + List.length [1,0], List.length (List.map eI64 [1,0]))]) false (leK (by simp) (leK (by simp) (leZ))) (consE (aggE (consE rfl (consE rfl (consE takeE rfl)))) (consE takeE rfl)) (FAutomaton_Run_ok h61) (Or.inr (by simp only [flatR, flatT, flatA, flatC, List.forall_mem_map] <;> simp [D.flat, eU8])) rfl ?_
  refine ck 2 ?_
  refine en ?_
  refine sr ?_
  refine ck 2 ?_
  refine bx H fun r25 h62 H => ?_
  refine cb (ks := [0,9]) (obl := [(0 + List.length [r15, r16, r17, r18], List.length (List.map eGRule [r15, r16, r17, r18])), (0 + List.length [1], List.length (List.map eI64 [1]))]) false (leK (by simp) (leK (by simp) (leZ))) (consE (aggE (consE rfl (consE rfl (consE takeE rfl)))) (consE takeE rfl)) (FAutomaton_Run_ok h62) (Or.inr (by simp only [flatR, flatT, flatA, flatC, List.forall_mem_map] <;> simp [D.flat, eU8])) rfl ?_
  refine ck 2 ?_
  refine en ?_
  refine sr ?_
  refine ck 1 ?_
  refine bx H fun r26 h63 H => ?_
  refine cb (ks := [0]) (obl := [(0 + List.length [r15, r16, r17, r18], List.length (List.map eGRule [r15, r16, r17, r18]))]) false (leK (by simp) (leZ)) (consE (aggE (consE rfl (consE rfl (consE takeE rfl)))) rfl) (FAutomaton_States_ok h63) (Or.inr (by simp only [flatR, flatT, flatA, flatC, List.forall_mem_map] <;> simp [D.flat, eGState])) rfl ?_
  refine ck 10 ?_
  refine en ?_
  refine sr ?_
  refine ck 1 ?_
  refine bx H fun r27 h64 H => ?_
  refine cb (ks := [0]) (obl := [(0 + List.length [r15, r16, r17, r18], List.length (List.map eGRule [r15, r16, r17, r18]))]) false (leK (by simp) (leZ)) (consE (aggE (consE rfl (consE rfl (consE takeE rfl)))) rfl) (FAutomaton_Alive_ok h64) (Or.inr (by simp only [flatR, flatT, flatA, flatC, List.forall_mem_map] <;> simp [D.flat, eB])) rfl ?_
  refine ck 1 ?_
  refine en ?_
  refine sq ?_
  refine sr ?_
  refine ck 1 ?_
  refine sp (at_len eGState r26) ?_
  refine ck 5 ?_
  refine sG (g := (!(((List.length r26 : Nat) : Int) != ((List.length [({ Mode := 0, Last := 0, Need := 63 } : GState), ({ Mode := 0, Last := 1, Need := 63 } : GState), ({ Mode := 1, Last := 0, Need := 8 } : GState), ({ Mode := 1, Last := 1, Need := 8 } : GState), ({ Mode := 1, Last := 3, Need := 63 } : GState), ({ Mode := 0, Last := 4, Need := 63 } : GState), ({ Mode := 1, Last := 4, Need := 8 } : GState)] : Nat) : Int)))) (fun hg => at_len eB r27) (impK (fun hh => hh) (impZ)) ?_
  refine ck 1 ?_
  refine gc 2 (!(((List.length r26 : Nat) : Int) != ((List.length [({ Mode := 0, Last := 0, Need := 63 } : GState), ({ Mode := 0, Last := 1, Need := 63 } : GState), ({ Mode := 1, Last := 0, Need := 8 } : GState), ({ Mode := 1, Last := 1, Need := 8 } : GState), ({ Mode := 1, Last := 3, Need := 63 } : GState), ({ Mode := 0, Last := 4, Need := 63 } : GState), ({ Mode := 1, Last := 4, Need := 8 } : GState)] : Nat) : Int))) ?_
  refine pO ?_
  refine en ?_
  refine cn H (fun H => ?_) (fun H => ?_)
  · refine sr ?_
    refine ck 1 ?_
    refine en ?_
    refine re ?_
    refine qr ?_
    injection H with H
    subst H
    exact pr (rd)
  · refine sk ?_
    refine qz ?_
    refine sq ?_
    refine sr ?_
    refine ck 1 ?_
    refine en ?_
    refine bk 0 ?_
    refine bx H fun y10 h68 H => ?_
    rcases y10 with y11 | y12
    · refine lp (fun (x : Int) => f15_s1 r15 r16 r17 r18 r20 r21 r22 r23 r24 r25 r26 r27 x) (FSixdotlaw03_sanity_L1_E r15 r16 r17 r18 r20 r21 r22 r23 r24 r25 r26 r27) h68 (sh_gc [1,2,3,5,7,8,9,10,11,12,13,14] (by kernel_rfl)) (fun x z => FSixdotlaw03_sanity_L1_ok x z) ?_
      intro e s hE9
      obtain ⟨rfl, hE9⟩ := hE9
      refine qH ?_
      refine qs (hE9) ?_
      refine sr ?_
      refine ck 4 ?_
      refine gc 1 r20.2 ?_
      refine pA ?_
      refine ck 2 ?_
      refine gc 1 (r20.2 && ((r20.1.Mode == 1) && ((r20.1.Last == 0) && ((r20.1.Need == 8) && true)))) ?_
      refine pA ?_
      refine ck 2 ?_
      refine gc 1 ((r20.2 && ((r20.1.Mode == 1) && ((r20.1.Last == 0) && ((r20.1.Need == 8) && true)))) && (!r21.2)) ?_
      refine pA ?_
      refine ck 1 ?_
      refine bx H fun r28 h69 H => ?_
      refine cG false (leZ) rfl (fun hg => FAutomaton_Start_ok (gimp h69 hg)) (Or.inl rfl) (impZ) rfl ?_
      refine ck 1 ?_
      refine gc 1 (((r20.2 && ((r20.1.Mode == 1) && ((r20.1.Last == 0) && ((r20.1.Need == 8) && true)))) && (!r21.2)) && (!r22.2)) ?_
      refine pA ?_
      refine ck 1 ?_
      refine en ?_
      refine sr ?_
      refine ck 4 ?_
      refine gc 2 r23.Ok ?_
      refine pA ?_
      refine ck 2 ?_
      refine gc 1 (r23.Ok && (r23.Text == [49,32,97])) ?_
      refine ck 1 ?_
      refine bx H fun r29 h70 H => ?_
      refine cG (ks := [6]) (obl := [(0 + List.length [60,1,0,1], List.length (List.map eU8 [60,1,0,1]))]) false (leK (by simp) (leZ)) (consE rfl (consE takeE rfl)) (fun hg => FSixdotref02_SameCells_ok (gimp h70 hg)) (Or.inr (by simp only [flatR, flatT, flatA, flatC, List.forall_mem_map] <;> simp [D.flat, true_and])) (impK (fun hh => hh) (impK (fun hh => hh) (impZ))) rfl ?_
      refine pA ?_
      refine ck 2 ?_
      refine gc 2 ((r23.Ok && (r23.Text == [49,32,97])) && r29) ?_
      refine pA ?_
      refine ck 2 ?_
      refine gc 2 (((r23.Ok && (r23.Text == [49,32,97])) && r29) && (r23.At == 4)) ?_
      refine pA ?_
      refine ck 2 ?_
      refine gc 2 ((((r23.Ok && (r23.Text == [49,32,97])) && r29) && (r23.At == 4)) && (r24.At == 1)) ?_
      refine pA ?_
      refine ck 2 ?_
      refine gc 2 (((((r23.Ok && (r23.Text == [49,32,97])) && r29) && (r23.At == 4)) && (r24.At == 1)) && (!r24.Ok)) ?_
      refine pA ?_
      refine ck 2 ?_
      refine gc 2 ((((((r23.Ok && (r23.Text == [49,32,97])) && r29) && (r23.At == 4)) && (r24.At == 1)) && (!r24.Ok)) && (r25.At == 1)) ?_
      refine pA ?_
      refine ck 1 ?_
      refine en ?_
      refine sr ?_
      refine ck 3 ?_
      refine pA ?_
      refine ck 3 ?_
      refine bx H fun x19 h71 H => ?_
      refine sG (fun hg => at_idxD eGState (gimp h71 hg)) (impK (fun hh => hh) (impZ)) ?_
      refine gc 1 (((((r20.2 && ((r20.1.Mode == 1) && ((r20.1.Last == 0) && ((r20.1.Need == 8) && true)))) && (!r21.2)) && (!r22.2)) && ((r28.Mode == 0) && ((r28.Last == 0) && ((r28.Need == 63) && true)))) && (((((((r23.Ok && (r23.Text == [49,32,97])) && r29) && (r23.At == 4)) && (r24.At == 1)) && (!r24.Ok)) && (r25.At == 1)) && (!r25.Ok))) ?_
      refine bx H fun r30 h72 H => ?_
      refine cG (ks := [5]) (obl := [(0 + List.length [r15, r16, r17, r18], List.length (List.map eGRule [r15, r16, r17, r18]))]) false (leK (by simp) (leZ)) (consE (aggE (consE rfl (consE rfl (consE takeE rfl)))) (consE rfl rfl)) (fun hg => FAutomaton_Accepts_ok (gimp h72 hg)) (Or.inr (by simp only [flatR, flatT, flatA, flatC, List.forall_mem_map] <;> simp [D.flat, true_and])) (impK (fun hh => hh) (impK (fun hh => hh) (impZ))) rfl ?_
      refine pA ?_
      refine ck 3 ?_
      refine bx H fun r31 h73 H => ?_
      refine cG (ks := [5]) (obl := [(0 + List.length [r15, r16, r17, r18], List.length (List.map eGRule [r15, r16, r17, r18]))]) false (leK (by simp) (leZ)) (consE (aggE (consE rfl (consE rfl (consE takeE rfl)))) (consE rfl rfl)) (fun hg => FAutomaton_Accepts_ok (gimp h73 hg)) (Or.inr (by simp only [flatR, flatT, flatA, flatC, List.forall_mem_map] <;> simp [D.flat, true_and])) (impK (fun hh => hh) (impK (fun hh => hh) (impZ))) rfl ?_
      refine gc 1 ((((((r20.2 && ((r20.1.Mode == 1) && ((r20.1.Last == 0) && ((r20.1.Need == 8) && true)))) && (!r21.2)) && (!r22.2)) && ((r28.Mode == 0) && ((r28.Last == 0) && ((r28.Need == 63) && true)))) && (((((((r23.Ok && (r23.Text == [49,32,97])) && r29) && (r23.At == 4)) && (r24.At == 1)) && (!r24.Ok)) && (r25.At == 1)) && (!r25.Ok))) && r30) ?_
      refine pA ?_
      refine ck 3 ?_
      refine bx H fun r32 h74 H => ?_
      refine cG (ks := [5]) (obl := [(0 + List.length [r15, r16, r17, r18], List.length (List.map eGRule [r15, r16, r17, r18]))]) false (leK (by simp) (leZ)) (consE (aggE (consE rfl (consE rfl (consE takeE rfl)))) (consE rfl rfl)) (fun hg => FAutomaton_Accepts_ok (gimp h74 hg)) (Or.inr (by simp only [flatR, flatT, flatA, flatC, List.forall_mem_map] <;> simp [D.flat, true_and])) (impK (fun hh => hh) (impK (fun hh => hh) (impZ))) rfl ?_
      refine gc 1 (((((((r20.2 && ((r20.1.Mode == 1) && ((r20.1.Last == 0) && ((r20.1.Need == 8) && true)))) && (!r21.2)) && (!r22.2)) && ((r28.Mode == 0) && ((r28.Last == 0) && ((r28.Need == 63) && true)))) && (((((((r23.Ok && (r23.Text == [49,32,97])) && r29) && (r23.At == 4)) && (r24.At == 1)) && (!r24.Ok)) && (r25.At == 1)) && (!r25.Ok))) && r30) && (!r31)) ?_
      refine pA ?_
      refine ck 1 ?_
      refine en ?_
      refine re ?_
      injection H with H
      subst H
      exact pr (rd)
    · refine lp (fun (x : Int) => f15_s1 r15 r16 r17 r18 r20 r21 r22 r23 r24 r25 r26 r27 x) (FSixdotlaw03_sanity_L1_E r15 r16 r17 r18 r20 r21 r22 r23 r24 r25 r26 r27) h68 (sh_gc [1,2,3,5,7,8,9,10,11,12,13,14] (by kernel_rfl)) (fun x z => FSixdotlaw03_sanity_L1_ok x z) ?_
      intro e s hE10
      obtain ⟨rfl, hE10⟩ := hE10
      refine qR ?_
      refine qr ?_
      cases H
      exact pr hE10
end
section
variable (p0_ : (List UInt8)) (p1_ : (List Int)) (p2_ : (Arr2 Int))
def f68_s1 : St := ⟨(0, .d (.str p0_)) :: (1, .d (.sl (List.map eU8 p1_))) :: (2, .agg [.d (.int .i64 p2_.a0), .d (.int .i64 p2_.a1)]) :: [], []⟩
theorem FSixdotref02_simple_ok {n : Nat} {p0_ : (List UInt8)} {p1_ : (List Int)} {p2_ : (Arr2 Int)} {z : GRule} (H : FSixdotref02_simple n p0_ p1_ p2_ = some z) : CallOK Try.prog 68 [.d (.str p0_), .d (.sl (List.map eU8 p1_)), .agg [.d (.int .i64 p2_.a0), .d (.int .i64 p2_.a1)]] (.agg [.d (.str z.Print), .d (.sl (List.map eU8 z.Cells)), .d (.int .u8 z.Left), .d (.int .u8 z.Right), .d (.int .i64 z.From), .d (.int .i64 z.To)]) := by
  dsimp only [FSixdotref02_simple] at H
  refine fo (Γ := cx 14) (s := f68_s1 p0_ p1_ p2_) follows (cxOK 14) Try.func68 ?_
  refine sr ?_
  refine ck 2 ?_
  refine en ?_
  refine sr ?_
  refine ck 8 ?_
  refine en ?_
  refine re ?_
  injection H with H
  subst H
  exact pr (rd)
end
def f66_s0 : St := ⟨[], []⟩
theorem FSixdotref02_letters_ok {n : Nat}  {z : (List GRule)} (H : FSixdotref02_letters n = some z) : CallOK Try.prog 66 [] (.own 6 (List.map eGRule z)) := by
  dsimp only [FSixdotref02_letters] at H
  refine fo (Γ := cx 16) (s := f66_s0) follows (cxOK 16) Try.func66 ?_
  refine sr ?_
  refine ck 1 ?_
  refine en ?_
  refine sr ?_
  refine ck 3 ?_
  refine en ?_
  refine sr ?_
  refine sF ?_
  refine ck 1 ?_
  refine bx H fun r33 h75 H => ?_
  refine ca false (FSixdotref02_simple_ok h75) ?_
  refine sF ?_
  refine ck 1 ?_
  refine bx H fun r34 h76 H => ?_
  refine ca false (FSixdotref02_simple_ok h76) ?_
  refine sF ?_
  refine ck 1 ?_
  refine bx H fun r35 h77 H => ?_
  refine ca false (FSixdotref02_simple_ok h77) ?_
  refine sF ?_
  refine ck 1 ?_
  refine bx H fun r36 h78 H => ?_
  refine ca false (FSixdotref02_simple_ok h78) ?_
  refine ck 2 ?_
  refine en ?_
  refine re ?_
  injection H with H
  subst H
  exact pr (rO (v := .osl 1 6 0 (List.length [r33, r34, r35, r36])) [1] (ao vo))
section
variable (p0_ : Int) (p1_ : Int) (p2_ : (Arr2 Int))
def f67_s1 : St := ⟨(0, .d (.int .u8 p0_)) :: (1, .d (.int .i64 p1_)) :: (2, .agg [.d (.int .i64 p2_.a0), .d (.int .i64 p2_.a1)]) :: [], []⟩
theorem FSixdotref02_indicator_ok {n : Nat} {p0_ : Int} {p1_ : Int} {p2_ : (Arr2 Int)} {z : GRule} (H : FSixdotref02_indicator n p0_ p1_ p2_ = some z) : CallOK Try.prog 67 [.d (.int .u8 p0_), .d (.int .i64 p1_), .agg [.d (.int .i64 p2_.a0), .d (.int .i64 p2_.a1)]] (.agg [.d (.str z.Print), .d (.sl (List.map eU8 z.Cells)), .d (.int .u8 z.Left), .d (.int .u8 z.Right), .d (.int .i64 z.From), .d (.int .i64 z.To)]) := by
  dsimp only [FSixdotref02_indicator] at H
  refine fo (Γ := cx 16) (s := f67_s1 p0_ p1_ p2_) follows (cxOK 16) Try.func67 ?_
  refine sr ?_
  refine ck 2 ?_
  refine en ?_
  refine sr ?_
  refine ck 1 ?_
  refine sF ?_
  refine ck 1 ?_
  refine bx H fun r37 h79 H => ?_
  refine ca false (FSixdotref02_simple_ok h79) ?_
  refine ck 2 ?_
  refine en ?_
  refine sr ?_
  refine ck 1 ?_
  refine bx H fun u2 h80 H => ?_
  refine so (guard_ge h80) ?_
  refine ck 2 ?_
  refine en ?_
  refine sr ?_
  refine ck 2 ?_
  refine en ?_
  refine re ?_
  injection H with H
  subst H
  exact pr (rd)
end
section
variable (p0_ : Int)
def f50_s1 : St := ⟨(0, .d (.int .u8 p0_)) :: [], []⟩
variable (l_1 : (List GRule))
def f50_s2 : St := ⟨(2, .ptr 0 0) :: (3, .osl 1 6 0 (List.length l_1)) :: [], [some (.box [.d (.int .i64 0), .d (.int .u8 0), .osl 2 6 0 (List.length ([] : List GRule))]), some (.arr 6 (List.map eGRule l_1)), some (.arr 6 (List.map eGRule ([] : List GRule)))]⟩
theorem FSixdotref02_Base_ok {n : Nat} {p0_ : Int} {z : GTable} (H : FSixdotref02_Base n p0_ = some z) : CallOK Try.prog 50 [.d (.int .u8 p0_)] (.agg [.d (.int .i64 z.Modes), .d (.int .u8 z.Accept), .own 6 (List.map eGRule z.Rules)]) := by
  dsimp only [FSixdotref02_Base] at H
  refine fo (Γ := cx 121) (s := f50_s1 p0_) follows (cxOK 121) Try.func50 ?_
  refine sr ?_
  refine ck 1 ?_
  refine en ?_
  refine sr ?_
  refine bx H fun r38 h81 H => ?_
  refine cl [List.length r38] (FSixdotref02_letters_ok h81) ?_
  refine ck 13 ?_
  refine en ?_
  refine sj (fun (x : (List GRule)) => f50_s2 x) (fun (x : (List GRule)) => FSixdotref02_Base_J1 n x) z ?_ (fun hFSixdotref02_Base_J1 => ?_)
  · intro l_1 H
    dsimp only [FSixdotref02_Base_J1] at H
    refine sr ?_
    refine ck 3 ?_
    refine en ?_
    refine re ?_
    injection H with H
    subst H
    exact pr (rO (v := .agg [.d (.int .i64 1), .d (.int .u8 1), .osl 1 6 0 (List.length l_1)]) [1] (a1 (c1 vd (c1 vd (c1 vo (c0))))))
  refine sr ?_
  refine ck 2 ?_
  refine en ?_
  refine bk 0 ?_
  refine sr ?_
  refine ck 2 ?_
  refine en ?_
  refine cn H (fun H => ?_) (fun H => ?_)
  · refine sr ?_
    refine ck 2 ?_
    refine bx H fun r39 h82 H => ?_
    refine ca false (FSixdotref02_indicator_ok h82) ?_
    refine sF ?_
    refine ck 1 ?_
    refine bx H fun r40 h83 H => ?_
    refine ca false (FSixdotref02_simple_ok h83) ?_
    refine sF ?_
    refine ck 1 ?_
    refine bx H fun r41 h84 H => ?_
    refine ca false (FSixdotref02_simple_ok h84) ?_
    refine sF ?_
    refine ck 1 ?_
    refine bx H fun r42 h85 H => ?_
    refine ca false (FSixdotref02_simple_ok h85) ?_
    refine ck 1 ?_
    refine bx H fun l12 h86 H => ?_
    refine sp (at_appO eGRule 1 6 h86) ?_
    refine ck 1 ?_
    refine en ?_
    refine sr ?_
    refine ck 3 ?_
    refine en ?_
    refine re ?_
    refine qR ?_
    refine qr ?_
    injection H with H
    subst H
    exact pr (rO (v := .agg [.d (.int .i64 2), .d (.int .u8 3), .osl 7 6 0 (List.length l12)]) [7] (a1 (c1 vd (c1 vd (c1 vo (c0))))))
  · refine sr ?_
    refine ck 2 ?_
    refine en ?_
    refine cn H (fun H => ?_) (fun H => ?_)
    · refine sr ?_
      refine ck 2 ?_
      refine bx H fun r43 h87 H => ?_
      refine ca false (FSixdotref02_indicator_ok h87) ?_
      refine sF ?_
      refine ck 1 ?_
      refine bx H fun r44 h88 H => ?_
      refine ca false (FSixdotref02_simple_ok h88) ?_
      refine sF ?_
      refine ck 1 ?_
      refine bx H fun r45 h89 H => ?_
      refine ca false (FSixdotref02_simple_ok h89) ?_
      refine ck 1 ?_
      refine bx H fun l13 h90 H => ?_
      refine sp (at_appO eGRule 1 6 h90) ?_
      refine ck 1 ?_
      refine en ?_
      refine sr ?_
      refine ck 3 ?_
      refine en ?_
      refine re ?_
      refine qR ?_
      refine qr ?_
      injection H with H
      subst H
      exact pr (rO (v := .agg [.d (.int .i64 2), .d (.int .u8 1), .osl 7 6 0 (List.length l13)]) [7] (a1 (c1 vd (c1 vd (c1 vo (c0))))))
    · refine sr ?_
      refine ck 2 ?_
      refine en ?_
      refine cn H (fun H => ?_) (fun H => ?_)
      · refine rz ?_
        refine ck 1 ?_
        refine sF ?_
        refine ck 1 ?_
        refine bx H fun r46 h91 H => ?_
        refine ca false (FSixdotref02_simple_ok h91) ?_
        refine sF ?_
        refine ck 1 ?_
        refine bx H fun r47 h92 H => ?_
        refine ca false (FSixdotref02_simple_ok h92) ?_
        refine sF ?_
        refine ck 1 ?_
        refine bx H fun r48 h93 H => ?_
        refine ca false (FSixdotref02_simple_ok h93) ?_
        refine ck 1 ?_
        refine bx H fun l14 h94 H => ?_
        refine sp (at_appO eGRule 1 6 h94) ?_
        refine ck 1 ?_
        refine ae ?_
        refine qN ?_
        exact qs (Shift.trans (sh_nilc 0 2 6 (by kernel_rfl)) (sh_gc [2,3] (by kernel_rfl))) (hFSixdotref02_Base_J1 l14 H)
      · refine sr ?_
        refine ck 2 ?_
        refine en ?_
        refine cn H (fun H => ?_) (fun H => ?_)
        · refine rz ?_
          refine ck 1 ?_
          refine sF ?_
          refine ck 1 ?_
          refine bx H fun r49 h95 H => ?_
          refine ca false (FSixdotref02_simple_ok h95) ?_
          refine ck 1 ?_
          refine bx H fun l15 h96 H => ?_
          refine sp (at_appO eGRule 1 6 h96) ?_
          refine ck 1 ?_
          refine ae ?_
          refine qN ?_
          exact qs (Shift.trans (sh_nilc 0 2 6 (by kernel_rfl)) (sh_gc [2,3] (by kernel_rfl))) (hFSixdotref02_Base_J1 l15 H)
        · refine sr ?_
          refine ck 2 ?_
          refine en ?_
          refine cn H (fun H => ?_) (fun H => ?_)
          · refine sr ?_
            refine sF ?_
            refine ck 1 ?_
            refine bx H fun r50 h97 H => ?_
            refine ca false (FSixdotref02_simple_ok h97) ?_
            refine sF ?_
            refine ck 1 ?_
            refine bx H fun r51 h98 H => ?_
            refine ca false (FSixdotref02_simple_ok h98) ?_
            refine ck 4 ?_
            refine en ?_
            refine sr ?_
            refine ck 4 ?_
            refine en ?_
            refine rz ?_
            refine ck 3 ?_
            refine sF ?_
            refine ck 1 ?_
            refine bx H fun r52 h99 H => ?_
            refine ca false (FSixdotref02_simple_ok h99) ?_
            refine ck 1 ?_
            refine bx H fun l16 h100 H => ?_
            refine sp (at_appO eGRule 1 6 h100) ?_
            refine ck 1 ?_
            refine ae ?_
            refine qN ?_
            exact qs (Shift.trans (sh_nilc 0 2 6 (by kernel_rfl)) (sh_gc [2,3] (by kernel_rfl))) (hFSixdotref02_Base_J1 l16 H)
          · refine sr ?_
            refine ck 2 ?_
            refine en ?_
            refine cn H (fun H => ?_) (fun H => ?_)
            · refine sr ?_
              refine ck 2 ?_
              refine bx H fun r53 h101 H => ?_
              refine ca false (FSixdotref02_indicator_ok h101) ?_
              refine sF ?_
              refine ck 1 ?_
              refine bx H fun r54 h102 H => ?_
              refine ca false (FSixdotref02_simple_ok h102) ?_
              refine sF ?_
              refine ck 1 ?_
              refine bx H fun r55 h103 H => ?_
              refine ca false (FSixdotref02_simple_ok h103) ?_
              refine ck 1 ?_
              refine bx H fun l17 h104 H => ?_
              refine sp (at_appO eGRule 1 6 h104) ?_
              refine ck 1 ?_
              refine en ?_
              refine sr ?_
              refine ck 3 ?_
              refine en ?_
              refine re ?_
              refine qR ?_
              refine qr ?_
              injection H with H
              subst H
              exact pr (rO (v := .agg [.d (.int .i64 2), .d (.int .u8 1), .osl 7 6 0 (List.length l17)]) [7] (a1 (c1 vd (c1 vd (c1 vo (c0))))))
            · refine sr ?_
              refine ck 2 ?_
              refine en ?_
              refine cn H (fun H => ?_) (fun H => ?_)
              · refine rz ?_
                refine ck 1 ?_
                refine sF ?_
                refine ck 1 ?_
                refine bx H fun r56 h105 H => ?_
                refine ca false (FSixdotref02_simple_ok h105) ?_
                refine sF ?_
                refine ck 1 ?_
                refine bx H fun r57 h106 H => ?_
                refine ca false (FSixdotref02_simple_ok h106) ?_
                refine sF ?_
                refine ck 1 ?_
                refine bx H fun r58 h107 H => ?_
                refine ca false (FSixdotref02_simple_ok h107) ?_
                refine ck 1 ?_
                refine bx H fun l18 h108 H => ?_
                refine sp (at_appO eGRule 1 6 h108) ?_
                refine ck 1 ?_
                refine ae ?_
                refine qN ?_
                exact qs (Shift.trans (sh_nilc 0 2 6 (by kernel_rfl)) (sh_gc [2,3] (by kernel_rfl))) (hFSixdotref02_Base_J1 l18 H)
              · refine sk ?_
                refine qN ?_
                exact qs (Shift.trans (sh_nilc 0 2 6 (by kernel_rfl)) (sh_gc [2,3] (by kernel_rfl))) (hFSixdotref02_Base_J1 r38 H)
end
section
variable (p0_ : GRawRule) (p1_ : Int)
def f37_s1 : St := ⟨(0, .agg [.d (.sl (List.map eU8 p0_.P)), .d (.sl (List.map eU8 p0_.C)), .d (.int .u8 p0_.L), .d (.int .u8 p0_.R), .d (.int .u8 p0_.W.a0), .d (.int .u8 p0_.W.a1)]) :: (1, .d (.int .i64 p1_)) :: [], []⟩
variable (x20 : Int) (x21 : Int) (out_1 : (List UInt8)) (i_3 : Int)
def f37_s2 : St := ⟨(2, .ptr 0 0) :: (4, .ptr 1 0) :: (5, .d (.str [97,98,99,65,66,49,50,45,46])) :: (7, .ptr 2 0) :: (8, .d (.int .i64 i_3)) :: [], [some (.box [.d (.sl (List.map eU8 p0_.P)), .d (.sl (List.map eU8 p0_.C)), .d (.int .u8 p0_.L), .d (.int .u8 p0_.R), .d (.int .u8 p0_.W.a0), .d (.int .u8 p0_.W.a1)]), some (.box [.d (.str []), .osl 3 1 0 (List.length ([] : List Int)), .d (.int .u8 0), .d (.int .u8 0), .d (.int .i64 0), .d (.int .i64 0)]), some (.box [.d (.str out_1), .osl 4 1 0 (List.length ([] : List Int)), .d (.int .u8 x20), .d (.int .u8 x21), .d (.int .i64 (irem (IntKind.i64.wrap p0_.W.a0) p1_)), .d (.int .i64 (irem (IntKind.i64.wrap p0_.W.a1) p1_))]), some (.arr 1 (List.map eU8 ([] : List Int))), some (.arr 1 (List.map eU8 ([] : List Int)))]⟩
variable (out_2 : (List UInt8))
def f37_s3 : St := ⟨(2, .ptr 0 0) :: (4, .ptr 1 0) :: (7, .ptr 2 0) :: [], [some (.box [.d (.sl (List.map eU8 p0_.P)), .d (.sl (List.map eU8 p0_.C)), .d (.int .u8 p0_.L), .d (.int .u8 p0_.R), .d (.int .u8 p0_.W.a0), .d (.int .u8 p0_.W.a1)]), some (.box [.d (.str []), .osl 3 1 0 (List.length ([] : List Int)), .d (.int .u8 0), .d (.int .u8 0), .d (.int .i64 0), .d (.int .i64 0)]), some (.box [.d (.str out_2), .osl 4 1 0 (List.length ([] : List Int)), .d (.int .u8 x20), .d (.int .u8 x21), .d (.int .i64 (irem (IntKind.i64.wrap p0_.W.a0) p1_)), .d (.int .i64 (irem (IntKind.i64.wrap p0_.W.a1) p1_))]), some (.arr 1 (List.map eU8 ([] : List Int))), some (.arr 1 (List.map eU8 ([] : List Int)))]⟩
def FSixdotref02_Rule_L1_E (p0_ : GRawRule) (p1_ : Int) (x20 : Int) (x21 : Int) : (List UInt8) → Ex → St → Prop := fun (y : (List UInt8)) e s => e = Ex.exit 0 ∧ Shift s (f37_s3 p0_ p1_ x20 x21 y)
theorem FSixdotref02_Rule_L1_ok {n : Nat} {p0_ : GRawRule} {p1_ : Int} {x20 : Int} {x21 : Int} (x : ((List UInt8) × Int)) (z : (((List UInt8) × Int) ⊕ (List UInt8))) (H : FSixdotref02_Rule_L1 n p0_ p1_ x20 x21 x.1 x.2 = some z) : WP (cx 101) (bodyOf Try.f37) [1,1,1,0,1,0,0] (roundQ (fun (x : ((List UInt8) × Int)) => f37_s2 p0_ p1_ x20 x21 x.1 x.2) (FSixdotref02_Rule_L1_E p0_ p1_ x20 x21) z) (f37_s2 p0_ p1_ x20 x21 x.1 x.2) := by
  obtain ⟨out_1, i_3⟩ := x
  dsimp only [FSixdotref02_Rule_L1] at H
  refine sq ?_
  refine sr ?_
  refine ck 3 ?_
  refine sp (at_len eU8 p0_.P) ?_
  refine ck 3 ?_
  refine gc 1 (decide (i_3 < ((List.length p0_.P : Nat) : Int))) ?_
  refine pA ?_
  refine en ?_
  refine cn H (fun H => ?_) (fun H => ?_)
  · refine sk ?_
    refine qz ?_
    refine sq ?_
    refine bk 1 ?_
    refine sr ?_
    refine ck 3 ?_
    refine bx H fun x22 h113 H => ?_
    refine sp (at_idxD eU8 h113) ?_
    refine ck 4 ?_
    refine en ?_
    refine rz ?_
    refine ck 6 ?_
    refine bx H fun s2 h114 H => ?_
    refine sp (at_ssub h114) ?_
    refine bx H fun s3 h115 H => ?_
    refine sp (at_cat h115) ?_
    refine ck 2 ?_
    refine ae ?_
    refine qN ?_
    refine qz ?_
    refine rz ?_
    refine ck 3 ?_
    refine ae ?_
    cases H
    exact og (sh_gc [2,4,5,7,8] (by kernel_rfl))
  · refine ex 0 ?_
    refine qx ?_
    cases H
    exact oe ⟨rfl, sh_gc [2,4,7] (by kernel_rfl)⟩
variable (y13 : (List UInt8)) (out_3 : (List Int)) (i_4 : Int)
def f37_s4 : St := ⟨(2, .ptr 0 0) :: (4, .ptr 1 0) :: (7, .ptr 2 0) :: (10, .osl 3 1 0 (List.length [1,3,9,5,7,32,44,60])) :: (11, .d (.int .i64 i_4)) :: [], [some (.box [.d (.sl (List.map eU8 p0_.P)), .d (.sl (List.map eU8 p0_.C)), .d (.int .u8 p0_.L), .d (.int .u8 p0_.R), .d (.int .u8 p0_.W.a0), .d (.int .u8 p0_.W.a1)]), some (.box [.d (.str []), .osl 4 1 0 (List.length ([] : List Int)), .d (.int .u8 0), .d (.int .u8 0), .d (.int .i64 0), .d (.int .i64 0)]), some (.box [.d (.str y13), .osl 5 1 0 (List.length out_3), .d (.int .u8 x20), .d (.int .u8 x21), .d (.int .i64 (irem (IntKind.i64.wrap p0_.W.a0) p1_)), .d (.int .i64 (irem (IntKind.i64.wrap p0_.W.a1) p1_))]), some (.arr 1 (List.map eU8 [1,3,9,5,7,32,44,60])), some (.arr 1 (List.map eU8 ([] : List Int))), some (.arr 1 (List.map eU8 out_3))]⟩
variable (out_4 : (List Int))
def f37_s5 : St := ⟨(4, .ptr 0 0) :: (7, .ptr 1 0) :: [], [some (.box [.d (.str []), .osl 2 1 0 (List.length ([] : List Int)), .d (.int .u8 0), .d (.int .u8 0), .d (.int .i64 0), .d (.int .i64 0)]), some (.box [.d (.str y13), .osl 3 1 0 (List.length out_4), .d (.int .u8 x20), .d (.int .u8 x21), .d (.int .i64 (irem (IntKind.i64.wrap p0_.W.a0) p1_)), .d (.int .i64 (irem (IntKind.i64.wrap p0_.W.a1) p1_))]), some (.arr 1 (List.map eU8 ([] : List Int))), some (.arr 1 (List.map eU8 out_4))]⟩
def FSixdotref02_Rule_L2_E (p0_ : GRawRule) (p1_ : Int) (x20 : Int) (x21 : Int) (y13 : (List UInt8)) : (List Int) → Ex → St → Prop := fun (y : (List Int)) e s => e = Ex.exit 2 ∧ Shift s (f37_s5 p0_ p1_ x20 x21 y13 y)
theorem FSixdotref02_Rule_L2_ok {n : Nat} {p0_ : GRawRule} {p1_ : Int} {x20 : Int} {x21 : Int} {y13 : (List UInt8)} (x : ((List Int) × Int)) (z : (((List Int) × Int) ⊕ (List Int))) (H : FSixdotref02_Rule_L2 n p0_ p1_ x20 x21 y13 x.1 x.2 = some z) : WP (cx 101) (bodyOf Try.f37) [1,1,1,1,1,1,0,1,0,0] (roundQ (fun (x : ((List Int) × Int)) => f37_s4 p0_ p1_ x20 x21 y13 x.1 x.2) (FSixdotref02_Rule_L2_E p0_ p1_ x20 x21 y13) z) (f37_s4 p0_ p1_ x20 x21 y13 x.1 x.2) := by
  obtain ⟨out_3, i_4⟩ := x
  dsimp only [FSixdotref02_Rule_L2] at H
  refine sq ?_
  refine sr ?_
  refine ck 3 ?_
  refine sp (at_len eU8 p0_.C) ?_
  refine ck 3 ?_
  refine gc 1 (decide (i_4 < ((List.length p0_.C : Nat) : Int))) ?_
  refine pA ?_
  refine en ?_
  refine cn H (fun H => ?_) (fun H => ?_)
  · refine sk ?_
    refine qz ?_
    refine sq ?_
    refine bk 3 ?_
    refine rz ?_
    refine ck 6 ?_
    refine bx H fun x24 h118 H => ?_
    refine sp (at_idxD eU8 h118) ?_
    refine ck 2 ?_
    refine bx H fun x25 h119 H => ?_
    refine sp (at_idxO 3 1 h119) ?_
    refine sp (at_ldA eU8 3 0 (ty 64) h119) ?_
    refine ck 1 ?_
    refine bx H fun l19 h120 H => ?_
    refine sp (at_appO eU8 5 1 h120) ?_
    refine ck 2 ?_
    refine ae ?_
    refine qN ?_
    refine qz ?_
    refine rz ?_
    refine ck 3 ?_
    refine ae ?_
    cases H
    exact og (sh_gc [2,4,7,10,11] (by kernel_rfl))
  · refine ex 2 ?_
    refine qx ?_
    cases H
    exact oe ⟨rfl, sh_gc [4,7] (by kernel_rfl)⟩
theorem FSixdotref02_Rule_ok {n : Nat} {p0_ : GRawRule} {p1_ : Int} {z : GRule} (H : FSixdotref02_Rule n p0_ p1_ = some z) : CallOK Try.prog 37 [.agg [.d (.sl (List.map eU8 p0_.P)), .d (.sl (List.map eU8 p0_.C)), .d (.int .u8 p0_.L), .d (.int .u8 p0_.R), .d (.int .u8 p0_.W.a0), .d (.int .u8 p0_.W.a1)], .d (.int .i64 p1_)] (.agg [.d (.str z.Print), .own 1 (List.map eU8 z.Cells), .d (.int .u8 z.Left), .d (.int .u8 z.Right), .d (.int .i64 z.From), .d (.int .i64 z.To)]) := by
  dsimp only [FSixdotref02_Rule] at H
  refine fo (Γ := cx 101) (s := f37_s1 p0_ p1_) follows (cxOK 101) Try.func37 ?_
  refine sr ?_
  refine ck 2 ?_
  refine en ?_
  refine sr ?_
  refine ck 3 ?_
  refine en ?_
  refine sr ?_
  refine ck 4 ?_
  refine bx H fun x20 h109 H => ?_
  refine sp (at_idxO 2 1 h109) ?_
  refine sp (at_ldA eU8 2 0 (ty 5) h109) ?_
  refine ck 4 ?_
  refine bx H fun x21 h110 H => ?_
  refine sp (at_idxO 2 1 h110) ?_
  refine sp (at_ldA eU8 2 0 (ty 5) h110) ?_
  refine ck 5 ?_
  refine bx H fun u3 h111 H => ?_
  refine so (guard_nz h111) ?_
  refine ck 5 ?_
  refine bx H fun u4 h112 H => ?_
  refine so (guard_nz h112) ?_
  refine ck 3 ?_
  refine en ?_
  refine sq ?_
  refine sr ?_
  refine ck 1 ?_
  refine en ?_
  refine bk 0 ?_
  refine bx H fun y13 h116 H => ?_
  refine lp (fun (x : ((List UInt8) × Int)) => f37_s2 p0_ p1_ x20 x21 x.1 x.2) (FSixdotref02_Rule_L1_E p0_ p1_ x20 x21) h116 (Shift.trans (Shift.trans (sh_nilc 1 1 1 (by kernel_rfl)) (sh_nilc 3 1 1 (by kernel_rfl))) (sh_gc [2,4,5,7,8] (by kernel_rfl))) (fun x z => FSixdotref02_Rule_L1_ok x z) ?_
  intro e s hE11
  obtain ⟨rfl, hE11⟩ := hE11
  refine qH ?_
  refine qs (hE11) ?_
  refine sr ?_
  refine ck 2 ?_
  refine en ?_
  refine sr ?_
  refine ck 5 ?_
  refine bx H fun x23 h117 H => ?_
  refine sp (at_idxO 5 1 h117) ?_
  refine sp (at_ldA eU8 5 0 (ty 64) h117) ?_
  refine ck 3 ?_
  refine en ?_
  refine sq ?_
  refine sr ?_
  refine ck 1 ?_
  refine en ?_
  refine bk 2 ?_
  refine bx H fun y14 h121 H => ?_
  refine lp (fun (x : ((List Int) × Int)) => f37_s4 p0_ p1_ x20 x21 y13 x.1 x.2) (FSixdotref02_Rule_L2_E p0_ p1_ x20 x21 y13) h121 (sh_gc [2,4,7,10,11] (by kernel_rfl)) (fun x z => FSixdotref02_Rule_L2_ok x z) ?_
  intro e s hE12
  obtain ⟨rfl, hE12⟩ := hE12
  refine qH ?_
  refine qs (hE12) ?_
  refine sr ?_
  refine ck 2 ?_
  refine en ?_
  refine re ?_
  injection H with H
  subst H
  exact pr (rO (v := .agg [.d (.str y13), .osl 3 1 0 (List.length y14), .d (.int .u8 x20), .d (.int .u8 x21), .d (.int .i64 (irem (IntKind.i64.wrap p0_.W.a0) p1_)), .d (.int .i64 (irem (IntKind.i64.wrap p0_.W.a1) p1_))]) [3] (a1 (c1 vd (c1 vo (c1 vd (c1 vd (c1 vd (c1 vd (c0)))))))))
end
section
variable (p0_ : Int)
def f69_s1 : St := ⟨(0, .d (.int .u8 p0_)) :: [], []⟩
theorem FSixdotref02_Character_ok {n : Nat} {p0_ : Int} {z : Bool} (H : FSixdotref02_Character n p0_ = some z) : CallOK Try.prog 69 [.d (.int .u8 p0_)] (.d (.bool z)) := by
  dsimp only [FSixdotref02_Character] at H
  refine fo (Γ := cx 11) (s := f69_s1 p0_) follows (cxOK 11) Try.func69 ?_
  refine sr ?_
  refine ck 1 ?_
  refine en ?_
  refine sr ?_
  refine ck 5 ?_
  refine gc 2 (decide (iand .u8 p0_ 127 ≥ 32)) ?_
  refine pA ?_
  refine ck 1 ?_
  refine en ?_
  refine re ?_
  injection H with H
  subst H
  exact pr (rd)
end
section
variable (p0_ : (List UInt8))
def f56_s1 : St := ⟨(0, .d (.str p0_)) :: [], []⟩
variable (i_5 : Int)
def f56_s2 : St := ⟨(0, .d (.str p0_)) :: (4, .d (.int .i64 i_5)) :: [], []⟩
def f56_s3 : St := ⟨(0, .d (.str p0_)) :: [], []⟩
def FSixdotref02_Text_L1_E (p0_ : (List UInt8)) : (Unit ⊕ (Int × Int)) → Ex → St → Prop := fun y => Sum.casesOn y (fun (y : Unit) e s => e = Ex.exit 0 ∧ Shift s (f56_s3 p0_)) (fun (y : (Int × Int)) e s => e = Ex.ret ∧ RA ty (Try.f56).results.toList (.tup [.d (.int .i64 y.1), .d (.int .i64 y.2)]) s)
theorem FSixdotref02_Text_L1_ok {n : Nat} {p0_ : (List UInt8)} (x : Int) (z : (Int ⊕ (Unit ⊕ (Int × Int)))) (H : FSixdotref02_Text_L1 n p0_ x = some z) : WP (cx 19) (bodyOf Try.f56) [1,0,1,0,0] (roundQ (fun (x : Int) => f56_s2 p0_ x) (FSixdotref02_Text_L1_E p0_) z) (f56_s2 p0_ x) := by
  revert H
  generalize x = i_5
  intro H
  dsimp only [FSixdotref02_Text_L1] at H
  refine sq ?_
  refine sr ?_
  refine ck 4 ?_
  refine en ?_
  refine cn H (fun H => ?_) (fun H => ?_)
  · refine sk ?_
    refine qz ?_
    refine sq ?_
    refine bk 1 ?_
    refine sr ?_
    refine ck 2 ?_
    refine bx H fun b3 h122 H => ?_
    refine sp (at_sidx h122) ?_
    refine bx H fun r59 h123 H => ?_
    refine ca false (FSixdotref02_Character_ok h123) ?_
    refine ck 1 ?_
    refine en ?_
    refine cn H (fun H => ?_) (fun H => ?_)
    · refine sr ?_
      refine ck 3 ?_
      refine en ?_
      refine re ?_
      refine qR ?_
      refine qr ?_
      cases H
      exact or ⟨rfl, rdT⟩
    · refine sk ?_
      refine qN ?_
      refine qz ?_
      refine rz ?_
      refine ck 3 ?_
      refine ae ?_
      cases H
      exact og (sh_gc [0,4] (by kernel_rfl))
  · refine ex 0 ?_
    refine qx ?_
    cases H
    exact oe ⟨rfl, sh_gc [0] (by kernel_rfl)⟩
theorem FSixdotref02_Text_ok {n : Nat} {p0_ : (List UInt8)} {z : (Int × Int)} (H : FSixdotref02_Text n p0_ = some z) : CallOK Try.prog 56 [.d (.str p0_)] (.tup [.d (.int .i64 z.1), .d (.int .i64 z.2)]) := by
  dsimp only [FSixdotref02_Text] at H
  refine fo (Γ := cx 19) (s := f56_s1 p0_) follows (cxOK 19) Try.func56 ?_
  refine sr ?_
  refine ck 2 ?_
  refine en ?_
  refine sq ?_
  refine sr ?_
  refine ck 1 ?_
  refine en ?_
  refine bk 0 ?_
  refine bx H fun y15 h124 H => ?_
  rcases y15 with y16 | y17
  · refine lp (fun (x : Int) => f56_s2 p0_ x) (FSixdotref02_Text_L1_E p0_) h124 (sh_gc [0,4] (by kernel_rfl)) (fun x z => FSixdotref02_Text_L1_ok x z) ?_
    intro e s hE13
    obtain ⟨rfl, hE13⟩ := hE13
    refine qH ?_
    refine qs (hE13) ?_
    refine sr ?_
    refine ck 4 ?_
    refine en ?_
    refine re ?_
    injection H with H
    subst H
    exact pr (rdT)
  · refine lp (fun (x : Int) => f56_s2 p0_ x) (FSixdotref02_Text_L1_E p0_) h124 (sh_gc [0,4] (by kernel_rfl)) (fun x z => FSixdotref02_Text_L1_ok x z) ?_
    intro e s hE14
    obtain ⟨rfl, hE14⟩ := hE14
    refine qR ?_
    refine qr ?_
    cases H
    exact pr hE14
end
section
variable (p0_ : (List UInt8))
def f36_s1 : St := ⟨(0, .d (.str p0_)) :: [], []⟩
theorem FSixdotref02_IsText_ok {n : Nat} {p0_ : (List UInt8)} {z : Bool} (H : FSixdotref02_IsText n p0_ = some z) : CallOK Try.prog 36 [.d (.str p0_)] (.d (.bool z)) := by
  dsimp only [FSixdotref02_IsText] at H
  refine fo (Γ := cx 12) (s := f36_s1 p0_) follows (cxOK 12) Try.func36 ?_
  refine sr ?_
  refine ck 1 ?_
  refine en ?_
  refine sr ?_
  refine ck 1 ?_
  refine bx H fun r60 h125 H => ?_
  refine ca false (FSixdotref02_Text_ok h125) ?_
  refine ck 5 ?_
  refine en ?_
  refine sr ?_
  refine ck 3 ?_
  refine en ?_
  refine re ?_
  injection H with H
  subst H
  exact pr (rd)
end
section
variable (p0_ : Int)
def f35_s1 : St := ⟨(0, .d (.int .u8 p0_)) :: [], []⟩
theorem FSixdotref02_Space_ok {n : Nat} {p0_ : Int} {z : Bool} (H : FSixdotref02_Space n p0_ = some z) : CallOK Try.prog 35 [.d (.int .u8 p0_)] (.d (.bool z)) := by
  dsimp only [FSixdotref02_Space] at H
  refine fo (Γ := cx 6) (s := f35_s1 p0_) follows (cxOK 6) Try.func35 ?_
  refine sr ?_
  refine ck 1 ?_
  refine en ?_
  refine sr ?_
  refine ck 4 ?_
  refine en ?_
  refine re ?_
  injection H with H
  subst H
  exact pr (rd)
end
end Go.AI
end
section
namespace Go.AI
open Go.Proofs
set_option maxRecDepth 10000
section
variable (p0_ : GRule) (p1_ : Int)
def f70_s1 : St := ⟨(0, .agg [.d (.str p0_.Print), .d (.sl (List.map eU8 p0_.Cells)), .d (.int .u8 p0_.Left), .d (.int .u8 p0_.Right), .d (.int .i64 p0_.From), .d (.int .i64 p0_.To)]) :: (1, .d (.int .i64 p1_)) :: [], []⟩
variable (space_1 : Bool) (i_6 : Int)
def f70_s2 : St := ⟨(2, .ptr 0 0) :: (5, .d (.bool space_1)) :: (6, .d (.bool false)) :: (7, .d (.int .i64 i_6)) :: [], [some (.box [.d (.str p0_.Print), .d (.sl (List.map eU8 p0_.Cells)), .d (.int .u8 p0_.Left), .d (.int .u8 p0_.Right), .d (.int .i64 p0_.From), .d (.int .i64 p0_.To)])]⟩
variable (space_2 : Bool)
def f70_s3 : St := ⟨(2, .ptr 0 0) :: (5, .d (.bool space_2)) :: (6, .d (.bool false)) :: [], [some (.box [.d (.str p0_.Print), .d (.sl (List.map eU8 p0_.Cells)), .d (.int .u8 p0_.Left), .d (.int .u8 p0_.Right), .d (.int .i64 p0_.From), .d (.int .i64 p0_.To)])]⟩
def FSixdotref02_Sound_L1_E (p0_ : GRule) : Bool → Ex → St → Prop := fun (y : Bool) e s => e = Ex.exit 0 ∧ Shift s (f70_s3 p0_ y)
theorem FSixdotref02_Sound_L1_ok {n : Nat} {p0_ : GRule} (x : (Bool × Int)) (z : ((Bool × Int) ⊕ Bool)) (H : FSixdotref02_Sound_L1 n p0_ x.1 x.2 = some z) : WP (cx 125) (bodyOf Try.f70) [1,1,1,1,0,1,0,0] (roundQ (fun (x : (Bool × Int)) => f70_s2 p0_ x.1 x.2) (FSixdotref02_Sound_L1_E p0_) z) (f70_s2 p0_ x.1 x.2) := by
  obtain ⟨space_1, i_6⟩ := x
  dsimp only [FSixdotref02_Sound_L1] at H
  refine sq ?_
  refine sr ?_
  refine ck 5 ?_
  refine en ?_
  refine cn H (fun H => ?_) (fun H => ?_)
  · refine sk ?_
    refine qz ?_
    refine sq ?_
    refine bk 1 ?_
    refine rz ?_
    refine ck 3 ?_
    refine gc 1 (!space_1) ?_
    refine ck 1 ?_
    refine bx H fun b4 h127 H => ?_
    refine sG (fun hg => at_sidx (gimp h127 hg)) (impK (fun hh => hh) (impK (fun hh => hh) (impZ))) ?_
    refine bx H fun r62 h128 H => ?_
    refine cG false (leZ) rfl (fun hg => FSixdotref02_Space_ok (gimp h128 hg)) (Or.inl rfl) (impK (fun hh => hh) (impZ)) rfl ?_
    refine pO ?_
    refine ck 1 ?_
    refine ae ?_
    refine qN ?_
    refine qz ?_
    refine rz ?_
    refine ck 3 ?_
    refine ae ?_
    cases H
    exact og (sh_gc [2,5,6,7] (by kernel_rfl))
  · refine ex 0 ?_
    refine qx ?_
    cases H
    exact oe ⟨rfl, sh_gc [2,5,6] (by kernel_rfl)⟩
variable (y18 : Bool) (blank_1 : Bool) (i_7 : Int)
def f70_s4 : St := ⟨(2, .ptr 0 0) :: (5, .d (.bool y18)) :: (6, .d (.bool blank_1)) :: (8, .d (.int .i64 i_7)) :: [], [some (.box [.d (.str p0_.Print), .d (.sl (List.map eU8 p0_.Cells)), .d (.int .u8 p0_.Left), .d (.int .u8 p0_.Right), .d (.int .i64 p0_.From), .d (.int .i64 p0_.To)])]⟩
variable (blank_2 : Bool)
def f70_s5 : St := ⟨(2, .ptr 0 0) :: (5, .d (.bool y18)) :: (6, .d (.bool blank_2)) :: [], [some (.box [.d (.str p0_.Print), .d (.sl (List.map eU8 p0_.Cells)), .d (.int .u8 p0_.Left), .d (.int .u8 p0_.Right), .d (.int .i64 p0_.From), .d (.int .i64 p0_.To)])]⟩
def FSixdotref02_Sound_L2_E (p0_ : GRule) (y18 : Bool) : (Bool ⊕ Bool) → Ex → St → Prop := fun y => Sum.casesOn y (fun (y : Bool) e s => e = Ex.exit 2 ∧ Shift s (f70_s5 p0_ y18 y)) (fun (y : Bool) e s => e = Ex.ret ∧ RA ty (Try.f70).results.toList (.d (.bool y)) s)
theorem FSixdotref02_Sound_L2_ok {n : Nat} {p0_ : GRule} {y18 : Bool} (x : (Bool × Int)) (z : ((Bool × Int) ⊕ (Bool ⊕ Bool))) (H : FSixdotref02_Sound_L2 n p0_ y18 x.1 x.2 = some z) : WP (cx 125) (bodyOf Try.f70) [1,1,1,1,1,0,1,0,0] (roundQ (fun (x : (Bool × Int)) => f70_s4 p0_ y18 x.1 x.2) (FSixdotref02_Sound_L2_E p0_ y18) z) (f70_s4 p0_ y18 x.1 x.2) := by
  obtain ⟨blank_1, i_7⟩ := x
  dsimp only [FSixdotref02_Sound_L2] at H
  refine sq ?_
  refine sr ?_
  refine ck 3 ?_
  refine sp (at_len eU8 p0_.Cells) ?_
  refine ck 1 ?_
  refine en ?_
  refine cn H (fun H => ?_) (fun H => ?_)
  · refine sk ?_
    refine qz ?_
    refine sq ?_
    refine bk 3 ?_
    refine sq ?_
    refine sr ?_
    refine ck 3 ?_
    refine bx H fun x26 h130 H => ?_
    refine sp (at_idxD eU8 h130) ?_
    refine ck 2 ?_
    refine en ?_
    refine cn H (fun H => ?_) (fun H => ?_)
    · refine sr ?_
      refine ck 1 ?_
      refine en ?_
      refine re ?_
      refine qr ?_
      refine qR ?_
      refine qr ?_
      cases H
      exact or ⟨rfl, rd⟩
    · refine sk ?_
      refine qz ?_
      refine rz ?_
      refine ck 3 ?_
      refine gc 1 (!blank_1) ?_
      refine ck 1 ?_
      refine bx H fun x27 h131 H => ?_
      refine sG (fun hg => at_idxD eU8 (gimp h131 hg)) (impK (fun hh => hh) (impK (fun hh => hh) (impZ))) ?_
      refine gc 2 (!blank_1) ?_
      refine pO ?_
      refine ck 1 ?_
      refine ae ?_
      refine qN ?_
      refine qz ?_
      refine rz ?_
      refine ck 3 ?_
      refine ae ?_
      cases H
      exact og (sh_gc [2,5,6,8] (by kernel_rfl))
  · refine ex 2 ?_
    refine qx ?_
    cases H
    exact oe ⟨rfl, sh_gc [2,5,6] (by kernel_rfl)⟩
theorem FSixdotref02_Sound_ok {n : Nat} {p0_ : GRule} {p1_ : Int} {z : Bool} (H : FSixdotref02_Sound n p0_ p1_ = some z) : CallOK Try.prog 70 [.agg [.d (.str p0_.Print), .d (.sl (List.map eU8 p0_.Cells)), .d (.int .u8 p0_.Left), .d (.int .u8 p0_.Right), .d (.int .i64 p0_.From), .d (.int .i64 p0_.To)], .d (.int .i64 p1_)] (.d (.bool z)) := by
  dsimp only [FSixdotref02_Sound] at H
  refine fo (Γ := cx 125) (s := f70_s1 p0_ p1_) follows (cxOK 125) Try.func70 ?_
  refine sr ?_
  refine ck 2 ?_
  refine en ?_
  refine sq ?_
  refine sr ?_
  refine ck 2 ?_
  refine bx H fun r61 h126 H => ?_
  refine ca false (FSixdotref02_IsText_ok h126) ?_
  refine ck 3 ?_
  refine gc 3 (!(!r61)) ?_
  refine pO ?_
  refine ck 2 ?_
  refine gc 1 (!((!r61) || (decide (((List.length p0_.Print : Nat) : Int) > 4)))) ?_
  refine sG (g := (!((!r61) || (decide (((List.length p0_.Print : Nat) : Int) > 4))))) (fun hg => at_len eU8 p0_.Cells) (impK (fun hh => hh) (impZ)) ?_
  refine gc 1 (!((!r61) || (decide (((List.length p0_.Print : Nat) : Int) > 4)))) ?_
  refine pO ?_
  refine ck 2 ?_
  refine gc 1 (!(((!r61) || (decide (((List.length p0_.Print : Nat) : Int) > 4))) || (decide (((List.length p0_.Cells : Nat) : Int) < 1)))) ?_
  refine sG (g := (!(((!r61) || (decide (((List.length p0_.Print : Nat) : Int) > 4))) || (decide (((List.length p0_.Cells : Nat) : Int) < 1))))) (fun hg => at_len eU8 p0_.Cells) (impK (fun hh => hh) (impZ)) ?_
  refine gc 1 (!(((!r61) || (decide (((List.length p0_.Print : Nat) : Int) > 4))) || (decide (((List.length p0_.Cells : Nat) : Int) < 1)))) ?_
  refine pO ?_
  refine en ?_
  refine cn H (fun H => ?_) (fun H => ?_)
  · refine sr ?_
    refine ck 1 ?_
    refine en ?_
    refine re ?_
    refine qr ?_
    injection H with H
    subst H
    exact pr (rd)
  · refine sk ?_
    refine qz ?_
    refine sq ?_
    refine sr ?_
    refine ck 5 ?_
    refine gc 2 (!(decide (p0_.Left < 1))) ?_
    refine pO ?_
    refine ck 2 ?_
    refine gc 2 (!((decide (p0_.Left < 1)) || (decide (p0_.Left > 63)))) ?_
    refine pO ?_
    refine ck 2 ?_
    refine gc 2 (!(((decide (p0_.Left < 1)) || (decide (p0_.Left > 63))) || (decide (p0_.Right < 1)))) ?_
    refine pO ?_
    refine ck 2 ?_
    refine gc 2 (!((((decide (p0_.Left < 1)) || (decide (p0_.Left > 63))) || (decide (p0_.Right < 1))) || (decide (p0_.Right > 63)))) ?_
    refine pO ?_
    refine ck 2 ?_
    refine gc 1 (!(((((decide (p0_.Left < 1)) || (decide (p0_.Left > 63))) || (decide (p0_.Right < 1))) || (decide (p0_.Right > 63))) || (decide (p0_.From < 0)))) ?_
    refine ck 1 ?_
    refine gc 1 (!(((((decide (p0_.Left < 1)) || (decide (p0_.Left > 63))) || (decide (p0_.Right < 1))) || (decide (p0_.Right > 63))) || (decide (p0_.From < 0)))) ?_
    refine pO ?_
    refine ck 2 ?_
    refine gc 2 (!((((((decide (p0_.Left < 1)) || (decide (p0_.Left > 63))) || (decide (p0_.Right < 1))) || (decide (p0_.Right > 63))) || (decide (p0_.From < 0))) || (decide (p0_.From ≥ p1_)))) ?_
    refine pO ?_
    refine ck 2 ?_
    refine gc 1 (!(((((((decide (p0_.Left < 1)) || (decide (p0_.Left > 63))) || (decide (p0_.Right < 1))) || (decide (p0_.Right > 63))) || (decide (p0_.From < 0))) || (decide (p0_.From ≥ p1_))) || (decide (p0_.To < 0)))) ?_
    refine ck 1 ?_
    refine gc 1 (!(((((((decide (p0_.Left < 1)) || (decide (p0_.Left > 63))) || (decide (p0_.Right < 1))) || (decide (p0_.Right > 63))) || (decide (p0_.From < 0))) || (decide (p0_.From ≥ p1_))) || (decide (p0_.To < 0)))) ?_
    refine pO ?_
    refine en ?_
    refine cn H (fun H => ?_) (fun H => ?_)
    · refine sr ?_
      refine ck 1 ?_
      refine en ?_
      refine re ?_
      refine qr ?_
      injection H with H
      subst H
      exact pr (rd)
    · refine sk ?_
      refine qz ?_
      refine sr ?_
      refine ck 2 ?_
      refine en ?_
      refine sq ?_
      refine sr ?_
      refine ck 1 ?_
      refine en ?_
      refine bk 0 ?_
      refine bx H fun y18 h129 H => ?_
      refine lp (fun (x : (Bool × Int)) => f70_s2 p0_ x.1 x.2) (FSixdotref02_Sound_L1_E p0_) h129 (sh_gc [2,5,6,7] (by kernel_rfl)) (fun x z => FSixdotref02_Sound_L1_ok x z) ?_
      intro e s hE15
      obtain ⟨rfl, hE15⟩ := hE15
      refine qH ?_
      refine qs (hE15) ?_
      refine sq ?_
      refine sr ?_
      refine ck 1 ?_
      refine en ?_
      refine bk 2 ?_
      refine bx H fun y19 h132 H => ?_
      rcases y19 with y20 | y21
      · refine lp (fun (x : (Bool × Int)) => f70_s4 p0_ y18 x.1 x.2) (FSixdotref02_Sound_L2_E p0_ y18) h132 (sh_gc [2,5,6,8] (by kernel_rfl)) (fun x z => FSixdotref02_Sound_L2_ok x z) ?_
        intro e s hE16
        obtain ⟨rfl, hE16⟩ := hE16
        refine qH ?_
        refine qs (hE16) ?_
        refine sq ?_
        refine sr ?_
        refine ck 2 ?_
        refine en ?_
        refine cn H (fun H => ?_) (fun H => ?_)
        · refine sr ?_
          refine ck 3 ?_
          refine en ?_
          refine re ?_
          refine qr ?_
          injection H with H
          subst H
          exact pr (rd)
        · refine sk ?_
          refine qz ?_
          refine sr ?_
          refine ck 6 ?_
          refine gc 1 (((List.length p0_.Print : Nat) : Int) == 1) ?_
          refine sG (g := (((List.length p0_.Print : Nat) : Int) == 1)) (fun hg => at_len eU8 p0_.Cells) (impK (fun hh => hh) (impZ)) ?_
          refine gc 1 (((List.length p0_.Print : Nat) : Int) == 1) ?_
          refine pA ?_
          refine ck 2 ?_
          refine pA ?_
          refine ck 1 ?_
          refine en ?_
          refine re ?_
          injection H with H
          subst H
          exact pr (rd)
      · refine lp (fun (x : (Bool × Int)) => f70_s4 p0_ y18 x.1 x.2) (FSixdotref02_Sound_L2_E p0_ y18) h132 (sh_gc [2,5,6,8] (by kernel_rfl)) (fun x z => FSixdotref02_Sound_L2_ok x z) ?_
        intro e s hE17
        obtain ⟨rfl, hE17⟩ := hE17
        refine qR ?_
        refine qr ?_
        cases H
        exact pr hE17
end
section
variable (p0_ : GRule) (p1_ : GRule)
def f71_s1 : St := ⟨(0, .agg [.d (.str p0_.Print), .d (.sl (List.map eU8 p0_.Cells)), .d (.int .u8 p0_.Left), .d (.int .u8 p0_.Right), .d (.int .i64 p0_.From), .d (.int .i64 p0_.To)]) :: (1, .agg [.d (.str p1_.Print), .d (.sl (List.map eU8 p1_.Cells)), .d (.int .u8 p1_.Left), .d (.int .u8 p1_.Right), .d (.int .i64 p1_.From), .d (.int .i64 p1_.To)]) :: [], []⟩
theorem FSixdotref02_SameRule_ok {n : Nat} {p0_ : GRule} {p1_ : GRule} {z : Bool} (H : FSixdotref02_SameRule n p0_ p1_ = some z) : CallOK Try.prog 71 [.agg [.d (.str p0_.Print), .d (.sl (List.map eU8 p0_.Cells)), .d (.int .u8 p0_.Left), .d (.int .u8 p0_.Right), .d (.int .i64 p0_.From), .d (.int .i64 p0_.To)], .agg [.d (.str p1_.Print), .d (.sl (List.map eU8 p1_.Cells)), .d (.int .u8 p1_.Left), .d (.int .u8 p1_.Right), .d (.int .i64 p1_.From), .d (.int .i64 p1_.To)]] (.d (.bool z)) := by
  dsimp only [FSixdotref02_SameRule] at H
  refine fo (Γ := cx 45) (s := f71_s1 p0_ p1_) follows (cxOK 45) Try.func71 ?_
  refine sr ?_
  refine ck 3 ?_
  refine en ?_
  refine sr ?_
  refine ck 7 ?_
  refine gc 1 (p0_.Print == p1_.Print) ?_
  refine ck 1 ?_
  refine gc 1 (p0_.Print == p1_.Print) ?_
  refine bx H fun r63 h133 H => ?_
  refine cG false (leZ) rfl (fun hg => FSixdotref02_SameCells_ok (gimp h133 hg)) (Or.inl rfl) (impK (fun hh => hh) (impK (fun hh => hh) (impZ))) rfl ?_
  refine pA ?_
  refine ck 2 ?_
  refine gc 1 ((p0_.Print == p1_.Print) && r63) ?_
  refine ck 1 ?_
  refine gc 2 ((p0_.Print == p1_.Print) && r63) ?_
  refine pA ?_
  refine ck 2 ?_
  refine gc 1 (((p0_.Print == p1_.Print) && r63) && (p0_.Left == p1_.Left)) ?_
  refine ck 1 ?_
  refine gc 2 (((p0_.Print == p1_.Print) && r63) && (p0_.Left == p1_.Left)) ?_
  refine pA ?_
  refine ck 2 ?_
  refine gc 1 ((((p0_.Print == p1_.Print) && r63) && (p0_.Left == p1_.Left)) && (p0_.Right == p1_.Right)) ?_
  refine ck 1 ?_
  refine gc 2 ((((p0_.Print == p1_.Print) && r63) && (p0_.Left == p1_.Left)) && (p0_.Right == p1_.Right)) ?_
  refine pA ?_
  refine ck 2 ?_
  refine gc 1 (((((p0_.Print == p1_.Print) && r63) && (p0_.Left == p1_.Left)) && (p0_.Right == p1_.Right)) && (p0_.From == p1_.From)) ?_
  refine ck 1 ?_
  refine gc 2 (((((p0_.Print == p1_.Print) && r63) && (p0_.Left == p1_.Left)) && (p0_.Right == p1_.Right)) && (p0_.From == p1_.From)) ?_
  refine pA ?_
  refine ck 1 ?_
  refine en ?_
  refine re ?_
  injection H with H
  subst H
  exact pr (rd)
end
section
variable (p0_ : GTable)
def f57_s1 : St := ⟨(0, .agg [.d (.int .i64 p0_.Modes), .d (.int .u8 p0_.Accept), .d (.sl (List.map eGRule p0_.Rules))]) :: [], []⟩
variable (i_8 : Int)
def f57_s2 : St := ⟨(1, .ptr 0 0) :: (4, .d (.int .i64 i_8)) :: [], [some (.box [.d (.int .i64 p0_.Modes), .d (.int .u8 p0_.Accept), .d (.sl (List.map eGRule p0_.Rules))])]⟩
def f57_s3  : St := ⟨[], []⟩
variable (k_2 : Int)
def f57_s4 : St := ⟨(1, .ptr 0 0) :: (4, .d (.int .i64 i_8)) :: (5, .d (.int .i64 k_2)) :: [], [some (.box [.d (.int .i64 p0_.Modes), .d (.int .u8 p0_.Accept), .d (.sl (List.map eGRule p0_.Rules))])]⟩
def f57_s5 : St := ⟨(1, .ptr 0 0) :: (4, .d (.int .i64 i_8)) :: [], [some (.box [.d (.int .i64 p0_.Modes), .d (.int .u8 p0_.Accept), .d (.sl (List.map eGRule p0_.Rules))])]⟩
def FSixdotref02_Check_L2_E (p0_ : GTable) (i_8 : Int) : (Unit ⊕ (Int × Int)) → Ex → St → Prop := fun y => Sum.casesOn y (fun (y : Unit) e s => e = Ex.exit 2 ∧ Shift s (f57_s5 p0_ i_8)) (fun (y : (Int × Int)) e s => e = Ex.ret ∧ RA ty (Try.f57).results.toList (.tup [.d (.int .i64 y.1), .d (.int .i64 y.2)]) s)
theorem FSixdotref02_Check_L2_ok {n : Nat} {p0_ : GTable} {i_8 : Int} (x : Int) (z : (Int ⊕ (Unit ⊕ (Int × Int)))) (H : FSixdotref02_Check_L2 n p0_ i_8 x = some z) : WP (cx 74) (bodyOf Try.f57) [1,1,0,1,0,0,1,0,0,1,1,0,0] (roundQ (fun (x : Int) => f57_s4 p0_ i_8 x) (FSixdotref02_Check_L2_E p0_ i_8) z) (f57_s4 p0_ i_8 x) := by
  revert H
  generalize x = k_2
  intro H
  dsimp only [FSixdotref02_Check_L2] at H
  refine sq ?_
  refine sr ?_
  refine ck 3 ?_
  refine en ?_
  refine cn H (fun H => ?_) (fun H => ?_)
  · refine sk ?_
    refine qz ?_
    refine sq ?_
    refine bk 3 ?_
    refine sr ?_
    refine ck 3 ?_
    refine bx H fun x29 h137 H => ?_
    refine sp (at_idxD eGRule h137) ?_
    refine ck 4 ?_
    refine bx H fun x30 h138 H => ?_
    refine sp (at_idxD eGRule h138) ?_
    refine ck 1 ?_
    refine bx H fun r65 h139 H => ?_
    refine ca false (FSixdotref02_SameRule_ok h139) ?_
    refine en ?_
    refine cn H (fun H => ?_) (fun H => ?_)
    · refine sr ?_
      refine ck 3 ?_
      refine en ?_
      refine re ?_
      refine qR ?_
      refine qr ?_
      cases H
      exact or ⟨rfl, rdT⟩
    · refine sk ?_
      refine qN ?_
      refine qz ?_
      refine rz ?_
      refine ck 3 ?_
      refine ae ?_
      cases H
      exact og (sh_gc [1,4,5] (by kernel_rfl))
  · refine ex 2 ?_
    refine qx ?_
    cases H
    exact oe ⟨rfl, sh_gc [1,4] (by kernel_rfl)⟩
def FSixdotref02_Check_L1_E (p0_ : GTable) : (Unit ⊕ (Int × Int)) → Ex → St → Prop := fun y => Sum.casesOn y (fun (y : Unit) e s => e = Ex.exit 0 ∧ Shift s (f57_s3)) (fun (y : (Int × Int)) e s => e = Ex.ret ∧ RA ty (Try.f57).results.toList (.tup [.d (.int .i64 y.1), .d (.int .i64 y.2)]) s)
theorem FSixdotref02_Check_L1_ok {n : Nat} {p0_ : GTable} (x : Int) (z : (Int ⊕ (Unit ⊕ (Int × Int)))) (H : FSixdotref02_Check_L1 n p0_ x = some z) : WP (cx 74) (bodyOf Try.f57) [1,1,0,1,0,0] (roundQ (fun (x : Int) => f57_s2 p0_ x) (FSixdotref02_Check_L1_E p0_) z) (f57_s2 p0_ x) := by
  revert H
  generalize x = i_8
  intro H
  dsimp only [FSixdotref02_Check_L1] at H
  refine sq ?_
  refine sr ?_
  refine ck 3 ?_
  refine sp (at_len eGRule p0_.Rules) ?_
  refine ck 1 ?_
  refine en ?_
  refine cn H (fun H => ?_) (fun H => ?_)
  · refine sk ?_
    refine qz ?_
    refine sq ?_
    refine bk 1 ?_
    refine sq ?_
    refine sr ?_
    refine ck 3 ?_
    refine bx H fun x28 h135 H => ?_
    refine sp (at_idxD eGRule h135) ?_
    refine ck 3 ?_
    refine bx H fun r64 h136 H => ?_
    refine ca false (FSixdotref02_Sound_ok h136) ?_
    refine ck 1 ?_
    refine en ?_
    refine cn H (fun H => ?_) (fun H => ?_)
    · refine sr ?_
      refine ck 3 ?_
      refine en ?_
      refine re ?_
      refine qr ?_
      refine qR ?_
      refine qr ?_
      cases H
      exact or ⟨rfl, rdT⟩
    · refine sk ?_
      refine qz ?_
      refine sr ?_
      refine ck 1 ?_
      refine en ?_
      refine bk 2 ?_
      refine bx H fun y22 h140 H => ?_
      rcases y22 with y23 | y24
      · refine lp (fun (x : Int) => f57_s4 p0_ i_8 x) (FSixdotref02_Check_L2_E p0_ i_8) h140 (sh_gc [1,4,5] (by kernel_rfl)) (fun x z => FSixdotref02_Check_L2_ok x z) ?_
        intro e s hE18
        obtain ⟨rfl, hE18⟩ := hE18
        refine qH ?_
        refine qN ?_
        refine qs (hE18) ?_
        refine rz ?_
        refine ck 3 ?_
        refine ae ?_
        cases H
        exact og (sh_gc [1,4] (by kernel_rfl))
      · refine lp (fun (x : Int) => f57_s4 p0_ i_8 x) (FSixdotref02_Check_L2_E p0_ i_8) h140 (sh_gc [1,4,5] (by kernel_rfl)) (fun x z => FSixdotref02_Check_L2_ok x z) ?_
        intro e s hE19
        obtain ⟨rfl, hE19⟩ := hE19
        refine qR ?_
        refine qR ?_
        refine qr ?_
        cases H
        exact or ⟨rfl, hE19⟩
  · refine ex 0 ?_
    refine qx ?_
    cases H
    exact oe ⟨rfl, sh_gc [] (by kernel_rfl)⟩
theorem FSixdotref02_Check_ok {n : Nat} {p0_ : GTable} {z : (Int × Int)} (H : FSixdotref02_Check n p0_ = some z) : CallOK Try.prog 57 [.agg [.d (.int .i64 p0_.Modes), .d (.int .u8 p0_.Accept), .d (.sl (List.map eGRule p0_.Rules))]] (.tup [.d (.int .i64 z.1), .d (.int .i64 z.2)]) := by
  dsimp only [FSixdotref02_Check] at H
  refine fo (Γ := cx 74) (s := f57_s1 p0_) follows (cxOK 74) Try.func57 ?_
  refine sr ?_
  refine ck 3 ?_
  refine en ?_
  refine sq ?_
  refine sr ?_
  refine ck 5 ?_
  refine gc 2 (!(decide (p0_.Modes < 1))) ?_
  refine pO ?_
  refine ck 2 ?_
  refine gc 2 (!((decide (p0_.Modes < 1)) || (decide (p0_.Modes > 8)))) ?_
  refine pO ?_
  refine ck 2 ?_
  refine gc 2 (!(((decide (p0_.Modes < 1)) || (decide (p0_.Modes > 8))) || (p0_.Accept == 0))) ?_
  refine ck 1 ?_
  refine gc 1 (!(((decide (p0_.Modes < 1)) || (decide (p0_.Modes > 8))) || (p0_.Accept == 0))) ?_
  refine bx H fun u5 h134 H => ?_
  refine soG (fun hg => guard_ge (gimp h134 hg)) (impK (fun hh => hh) (impZ)) ?_
  refine gc 1 (!(((decide (p0_.Modes < 1)) || (decide (p0_.Modes > 8))) || (p0_.Accept == 0))) ?_
  refine pO ?_
  refine ck 2 ?_
  refine gc 1 (!((((decide (p0_.Modes < 1)) || (decide (p0_.Modes > 8))) || (p0_.Accept == 0)) || (decide (IntKind.i64.wrap p0_.Accept ≥ ishl .i64 1 p0_.Modes)))) ?_
  refine sG (g := (!((((decide (p0_.Modes < 1)) || (decide (p0_.Modes > 8))) || (p0_.Accept == 0)) || (decide (IntKind.i64.wrap p0_.Accept ≥ ishl .i64 1 p0_.Modes))))) (fun hg => at_len eGRule p0_.Rules) (impK (fun hh => hh) (impZ)) ?_
  refine gc 1 (!((((decide (p0_.Modes < 1)) || (decide (p0_.Modes > 8))) || (p0_.Accept == 0)) || (decide (IntKind.i64.wrap p0_.Accept ≥ ishl .i64 1 p0_.Modes)))) ?_
  refine pO ?_
  refine ck 2 ?_
  refine gc 1 (!(((((decide (p0_.Modes < 1)) || (decide (p0_.Modes > 8))) || (p0_.Accept == 0)) || (decide (IntKind.i64.wrap p0_.Accept ≥ ishl .i64 1 p0_.Modes))) || (decide (((List.length p0_.Rules : Nat) : Int) < 1)))) ?_
  refine sG (g := (!(((((decide (p0_.Modes < 1)) || (decide (p0_.Modes > 8))) || (p0_.Accept == 0)) || (decide (IntKind.i64.wrap p0_.Accept ≥ ishl .i64 1 p0_.Modes))) || (decide (((List.length p0_.Rules : Nat) : Int) < 1))))) (fun hg => at_len eGRule p0_.Rules) (impK (fun hh => hh) (impZ)) ?_
  refine gc 1 (!(((((decide (p0_.Modes < 1)) || (decide (p0_.Modes > 8))) || (p0_.Accept == 0)) || (decide (IntKind.i64.wrap p0_.Accept ≥ ishl .i64 1 p0_.Modes))) || (decide (((List.length p0_.Rules : Nat) : Int) < 1)))) ?_
  refine pO ?_
  refine en ?_
  refine cn H (fun H => ?_) (fun H => ?_)
  · refine sr ?_
    refine ck 2 ?_
    refine en ?_
    refine re ?_
    refine qr ?_
    injection H with H
    subst H
    exact pr (rdT)
  · refine sk ?_
    refine qz ?_
    refine sq ?_
    refine sr ?_
    refine ck 1 ?_
    refine en ?_
    refine bk 0 ?_
    refine bx H fun y25 h141 H => ?_
    rcases y25 with y26 | y27
    · refine lp (fun (x : Int) => f57_s2 p0_ x) (FSixdotref02_Check_L1_E p0_) h141 (sh_gc [1,4] (by kernel_rfl)) (fun x z => FSixdotref02_Check_L1_ok x z) ?_
      intro e s hE20
      obtain ⟨rfl, hE20⟩ := hE20
      refine qH ?_
      refine qs (hE20) ?_
      refine sr ?_
      refine ck 2 ?_
      refine en ?_
      refine re ?_
      injection H with H
      subst H
      exact pr (rdT)
    · refine lp (fun (x : Int) => f57_s2 p0_ x) (FSixdotref02_Check_L1_E p0_) h141 (sh_gc [1,4] (by kernel_rfl)) (fun x z => FSixdotref02_Check_L1_ok x z) ?_
      intro e s hE21
      obtain ⟨rfl, hE21⟩ := hE21
      refine qR ?_
      refine qr ?_
      cases H
      exact pr hE21
end
section
variable (p0_ : GTable)
def f38_s1 : St := ⟨(0, .agg [.d (.int .i64 p0_.Modes), .d (.int .u8 p0_.Accept), .d (.sl (List.map eGRule p0_.Rules))]) :: [], []⟩
theorem FSixdotref02_Valid_ok {n : Nat} {p0_ : GTable} {z : Bool} (H : FSixdotref02_Valid n p0_ = some z) : CallOK Try.prog 38 [.agg [.d (.int .i64 p0_.Modes), .d (.int .u8 p0_.Accept), .d (.sl (List.map eGRule p0_.Rules))]] (.d (.bool z)) := by
  dsimp only [FSixdotref02_Valid] at H
  refine fo (Γ := cx 12) (s := f38_s1 p0_) follows (cxOK 12) Try.func38 ?_
  refine sr ?_
  refine ck 2 ?_
  refine en ?_
  refine sr ?_
  refine ck 1 ?_
  refine bx H fun r66 h142 H => ?_
  refine ca false (FSixdotref02_Check_ok h142) ?_
  refine ck 5 ?_
  refine en ?_
  refine sr ?_
  refine ck 3 ?_
  refine en ?_
  refine re ?_
  injection H with H
  subst H
  exact pr (rd)
end
section
variable (p0_ : GRaw)
def f16_s1 : St := ⟨(0, .agg [.d (.int .u8 p0_.Base), .d (.int .u8 p0_.Drop), .d (.sl (List.map eGRawRule p0_.More))]) :: [], []⟩
variable (r67 : GTable) (t_1 : (List GRule)) (i_9 : Int)
def f16_s2 : St := ⟨(1, .ptr 0 0) :: (2, .ptr 1 0) :: (3, .ptr 2 0) :: (4, .d (.sl (List.map eGRule r67.Rules))) :: (5, .d (.int .i64 i_9)) :: [], [some (.box [.d (.int .u8 p0_.Base), .d (.int .u8 p0_.Drop), .d (.sl (List.map eGRawRule p0_.More))]), some (.box [.d (.int .i64 0), .d (.int .u8 0), .osl 3 6 0 (List.length ([] : List GRule))]), some (.box [.d (.int .i64 r67.Modes), .d (.int .u8 r67.Accept), .osl 4 6 0 (List.length t_1)]), some (.arr 6 (List.map eGRule ([] : List GRule))), some (.arr 6 (List.map eGRule t_1))]⟩
variable (t_2 : (List GRule))
def f16_s3 : St := ⟨(1, .ptr 0 0) :: (2, .ptr 1 0) :: (3, .ptr 2 0) :: (4, .d (.sl (List.map eGRule r67.Rules))) :: [], [some (.box [.d (.int .u8 p0_.Base), .d (.int .u8 p0_.Drop), .d (.sl (List.map eGRawRule p0_.More))]), some (.box [.d (.int .i64 0), .d (.int .u8 0), .osl 3 6 0 (List.length ([] : List GRule))]), some (.box [.d (.int .i64 r67.Modes), .d (.int .u8 r67.Accept), .osl 4 6 0 (List.length t_2)]), some (.arr 6 (List.map eGRule ([] : List GRule))), some (.arr 6 (List.map eGRule t_2))]⟩
variable (t_3 : (List GRule))
def f16_s4 : St := ⟨(1, .ptr 0 0) :: (2, .ptr 1 0) :: (3, .ptr 2 0) :: (4, .d (.sl (List.map eGRule r67.Rules))) :: (5, .d (.int .i64 i_9)) :: [], [some (.box [.d (.int .u8 p0_.Base), .d (.int .u8 p0_.Drop), .d (.sl (List.map eGRawRule p0_.More))]), some (.box [.d (.int .i64 0), .d (.int .u8 0), .osl 3 6 0 (List.length ([] : List GRule))]), some (.box [.d (.int .i64 r67.Modes), .d (.int .u8 r67.Accept), .osl 4 6 0 (List.length t_3)]), some (.arr 6 (List.map eGRule ([] : List GRule))), some (.arr 6 (List.map eGRule t_3))]⟩
def FSixdotref02_Made_L1_E (p0_ : GRaw) (r67 : GTable) : (List GRule) → Ex → St → Prop := fun (y : (List GRule)) e s => e = Ex.exit 0 ∧ Shift s (f16_s3 p0_ r67 y)
theorem FSixdotref02_Made_L1_ok {n : Nat} {p0_ : GRaw} {r67 : GTable} (x : ((List GRule) × Int)) (z : (((List GRule) × Int) ⊕ (List GRule))) (H : FSixdotref02_Made_L1 n p0_ r67 x.1 x.2 = some z) : WP (cx 77) (bodyOf Try.f16) [1,1,1,1,0,1,0,0] (roundQ (fun (x : ((List GRule) × Int)) => f16_s2 p0_ r67 x.1 x.2) (FSixdotref02_Made_L1_E p0_ r67) z) (f16_s2 p0_ r67 x.1 x.2) := by
  obtain ⟨t_1, i_9⟩ := x
  dsimp only [FSixdotref02_Made_L1] at H
  refine sq ?_
  refine sr ?_
  refine ck 2 ?_
  refine sp (at_len eGRule r67.Rules) ?_
  refine ck 1 ?_
  refine en ?_
  refine cn H (fun H => ?_) (fun H => ?_)
  · refine sk ?_
    refine qz ?_
    refine sj (fun (x : (List GRule)) => f16_s4 p0_ r67 i_9 x) (fun (x : (List GRule)) => FSixdotref02_Made_J1 n i_9 x) z ?_ (fun hFSixdotref02_Made_J1 => ?_)
    · intro t_3 H
      dsimp only [FSixdotref02_Made_J1] at H
      refine rz ?_
      refine ck 3 ?_
      refine ae ?_
      cases H
      exact og (sh_gc [1,2,3,4,5] (by kernel_rfl))
    refine bk 1 ?_
    refine sr ?_
    refine ck 3 ?_
    refine bx H fun u6 h144 H => ?_
    refine so (guard_ge h144) ?_
    refine ck 2 ?_
    refine en ?_
    refine cn H (fun H => ?_) (fun H => ?_)
    · refine rz ?_
      refine ck 4 ?_
      refine bx H fun x31 h145 H => ?_
      refine sp (at_idxD eGRule h145) ?_
      refine ck 2 ?_
      refine bx H fun l20 h146 H => ?_
      refine sp (at_appO eGRule 4 6 h146) ?_
      refine ck 2 ?_
      refine ae ?_
      refine qN ?_
      exact qs (sh_gc [1,2,3,4,5] (by kernel_rfl)) (hFSixdotref02_Made_J1 l20 H)
    · refine sk ?_
      refine qN ?_
      exact qs (sh_gc [1,2,3,4,5] (by kernel_rfl)) (hFSixdotref02_Made_J1 t_1 H)
  · refine ex 0 ?_
    refine qx ?_
    cases H
    exact oe ⟨rfl, sh_gc [1,2,3,4] (by kernel_rfl)⟩
variable (t_4 : (List GRule)) (i_10 : Int)
def f16_s5 : St := ⟨(1, .ptr 0 0) :: (2, .ptr 1 0) :: (3, .ptr 2 0) :: (4, .d (.sl (List.map eGRule r67.Rules))) :: (6, .d (.int .i64 i_10)) :: [], [some (.box [.d (.int .u8 p0_.Base), .d (.int .u8 p0_.Drop), .d (.sl (List.map eGRawRule p0_.More))]), some (.box [.d (.int .i64 0), .d (.int .u8 0), .osl 3 6 0 (List.length ([] : List GRule))]), some (.box [.d (.int .i64 r67.Modes), .d (.int .u8 r67.Accept), .osl 4 6 0 (List.length t_4)]), some (.arr 6 (List.map eGRule ([] : List GRule))), some (.arr 6 (List.map eGRule t_4))]⟩
variable (t_5 : (List GRule))
def f16_s6 : St := ⟨(2, .ptr 0 0) :: (3, .ptr 1 0) :: (4, .d (.sl (List.map eGRule r67.Rules))) :: [], [some (.box [.d (.int .i64 0), .d (.int .u8 0), .osl 2 6 0 (List.length ([] : List GRule))]), some (.box [.d (.int .i64 r67.Modes), .d (.int .u8 r67.Accept), .osl 3 6 0 (List.length t_5)]), some (.arr 6 (List.map eGRule ([] : List GRule))), some (.arr 6 (List.map eGRule t_5))]⟩
variable (t_6 : (List GRule))
def f16_s7 : St := ⟨(1, .ptr 0 0) :: (2, .ptr 1 0) :: (3, .ptr 2 0) :: (4, .d (.sl (List.map eGRule r67.Rules))) :: (6, .d (.int .i64 i_10)) :: [], [some (.box [.d (.int .u8 p0_.Base), .d (.int .u8 p0_.Drop), .d (.sl (List.map eGRawRule p0_.More))]), some (.box [.d (.int .i64 0), .d (.int .u8 0), .osl 3 6 0 (List.length ([] : List GRule))]), some (.box [.d (.int .i64 r67.Modes), .d (.int .u8 r67.Accept), .osl 4 6 0 (List.length t_6)]), some (.arr 6 (List.map eGRule ([] : List GRule))), some (.arr 6 (List.map eGRule t_6))]⟩
def FSixdotref02_Made_L2_E (p0_ : GRaw) (r67 : GTable) : (List GRule) → Ex → St → Prop := fun (y : (List GRule)) e s => e = Ex.exit 2 ∧ Shift s (f16_s6 r67 y)
theorem FSixdotref02_Made_L2_ok {n : Nat} {p0_ : GRaw} {r67 : GTable} (x : ((List GRule) × Int)) (z : (((List GRule) × Int) ⊕ (List GRule))) (H : FSixdotref02_Made_L2 n p0_ r67 x.1 x.2 = some z) : WP (cx 77) (bodyOf Try.f16) [1,1,1,1,1,0,1,0,0] (roundQ (fun (x : ((List GRule) × Int)) => f16_s5 p0_ r67 x.1 x.2) (FSixdotref02_Made_L2_E p0_ r67) z) (f16_s5 p0_ r67 x.1 x.2) := by
  obtain ⟨t_4, i_10⟩ := x
  dsimp only [FSixdotref02_Made_L2] at H
  refine sq ?_
  refine sr ?_
  refine ck 3 ?_
  refine sp (at_len eGRawRule p0_.More) ?_
  refine ck 3 ?_
  refine gc 1 (decide (i_10 < ((List.length p0_.More : Nat) : Int))) ?_
  refine pA ?_
  refine en ?_
  refine cn H (fun H => ?_) (fun H => ?_)
  · refine sk ?_
    refine qz ?_
    refine sj (fun (x : (List GRule)) => f16_s7 p0_ r67 i_10 x) (fun (x : (List GRule)) => FSixdotref02_Made_J2 n i_10 x) z ?_ (fun hFSixdotref02_Made_J2 => ?_)
    · intro t_6 H
      dsimp only [FSixdotref02_Made_J2] at H
      refine rz ?_
      refine ck 3 ?_
      refine ae ?_
      cases H
      exact og (sh_gc [1,2,3,4,6] (by kernel_rfl))
    refine bk 3 ?_
    refine sr ?_
    refine ck 5 ?_
    refine bx H fun x32 h148 H => ?_
    refine sp (at_idxD eGRawRule h148) ?_
    refine ck 3 ?_
    refine bx H fun r68 h149 H => ?_
    refine ca false (FSixdotref02_Rule_ok h149) ?_
    refine ck 1 ?_
    refine bx H fun l21 h150 H => ?_
    refine sp (at_appO eGRule 4 6 h150) ?_
    refine ck 2 ?_
    refine en ?_
    refine sr ?_
    refine ck 1 ?_
    refine bx H fun r69 h151 H => ?_
    refine cb (ks := [6]) (obl := [(0 + List.length l21, List.length (List.map eGRule l21))]) false (leK (by simp) (leZ)) (consE (aggE (consE rfl (consE rfl (consE takeE rfl)))) rfl) (FSixdotref02_Valid_ok h151) (Or.inr (by simp only [flatR, flatT, flatA, flatC, List.forall_mem_map] <;> simp [D.flat, true_and])) rfl ?_
    refine ck 1 ?_
    refine en ?_
    refine cn H (fun H => ?_) (fun H => ?_)
    · refine rz ?_
      refine ck 6 ?_
      refine bx H fun l22 h152 H => ?_
      refine sp (at_slO 6 6 h152) ?_
      refine ck 2 ?_
      refine ae ?_
      refine qN ?_
      exact qs (Shift.trans (sh_subc (k := 6) (sz := 6) 2 2 (List.map eGRule l22) (List.length l22) (by kernel_rfl) (sub_cut h152) (sub_le (enc := eGRule) h152) (sub_len h152)) (sh_gc [1,2,3,4,6] (by kernel_rfl))) (hFSixdotref02_Made_J2 l22 H)
    · refine sk ?_
      refine qN ?_
      exact qs (sh_gc [1,2,3,4,6] (by kernel_rfl)) (hFSixdotref02_Made_J2 l21 H)
  · refine ex 2 ?_
    refine qx ?_
    cases H
    exact oe ⟨rfl, sh_gc [2,3,4] (by kernel_rfl)⟩
variable (t_7 : GTable)
def f16_s8 : St := ⟨(2, .ptr 0 0) :: (3, .ptr 1 0) :: [], [some (.box [.d (.int .i64 0), .d (.int .u8 0), .osl 2 6 0 (List.length ([] : List GRule))]), some (.box [.d (.int .i64 t_7.Modes), .d (.int .u8 t_7.Accept), .d (.sl (List.map eGRule t_7.Rules))]), some (.arr 6 (List.map eGRule ([] : List GRule)))]⟩
theorem FSixdotref02_Made_ok {n : Nat} {p0_ : GRaw} {z : GTable} (H : FSixdotref02_Made n p0_ = some z) : CallOK Try.prog 16 [.agg [.d (.int .u8 p0_.Base), .d (.int .u8 p0_.Drop), .d (.sl (List.map eGRawRule p0_.More))]] (.agg [.d (.int .i64 z.Modes), .d (.int .u8 z.Accept), .d (.sl (List.map eGRule z.Rules))]) := by
  dsimp only [FSixdotref02_Made] at H
  refine fo (Γ := cx 77) (s := f16_s1 p0_) follows (cxOK 77) Try.func16 ?_
  refine sr ?_
  refine ck 2 ?_
  refine en ?_
  refine sr ?_
  refine ck 2 ?_
  refine bx H fun r67 h143 H => ?_
  refine ca false (FSixdotref02_Base_ok h143) ?_
  refine ck 2 ?_
  refine en ?_
  refine sr ?_
  refine ck 3 ?_
  refine en ?_
  refine sr ?_
  refine ck 3 ?_
  refine en ?_
  refine sq ?_
  refine sr ?_
  refine ck 1 ?_
  refine en ?_
  refine bk 0 ?_
  refine bx H fun y28 h147 H => ?_
  refine lp (fun (x : ((List GRule) × Int)) => f16_s2 p0_ r67 x.1 x.2) (FSixdotref02_Made_L1_E p0_ r67) h147 (Shift.trans (sh_nilc 1 2 6 (by kernel_rfl)) (sh_gc [1,2,3,4,5] (by kernel_rfl))) (fun x z => FSixdotref02_Made_L1_ok x z) ?_
  intro e s hE22
  obtain ⟨rfl, hE22⟩ := hE22
  refine qH ?_
  refine qs (hE22) ?_
  refine sq ?_
  refine sr ?_
  refine ck 1 ?_
  refine en ?_
  refine bk 2 ?_
  refine bx H fun y29 h153 H => ?_
  refine lp (fun (x : ((List GRule) × Int)) => f16_s5 p0_ r67 x.1 x.2) (FSixdotref02_Made_L2_E p0_ r67) h153 (sh_gc [1,2,3,4,6] (by kernel_rfl)) (fun x z => FSixdotref02_Made_L2_ok x z) ?_
  intro e s hE23
  obtain ⟨rfl, hE23⟩ := hE23
  refine qH ?_
  refine qs (hE23) ?_
  refine sj (fun (x : GTable) => f16_s8 x) (fun (x : GTable) => FSixdotref02_Made_J3 n x) z ?_ (fun hFSixdotref02_Made_J3 => ?_)
  · intro t_7 H
    dsimp only [FSixdotref02_Made_J3] at H
    refine sr ?_
    refine ck 2 ?_
    refine en ?_
    refine re ?_
    injection H with H
    subst H
    exact pr (rd)
  refine sr ?_
  refine ck 4 ?_
  refine en ?_
  refine cn H (fun H => ?_) (fun H => ?_)
  · refine rz ?_
    refine ck 3 ?_
    refine ae ?_
    exact qs (sh_gc [2,3] (by kernel_rfl)) (hFSixdotref02_Made_J3 r67 H)
  · refine sk ?_
    exact qs (Shift.trans (sh_frzc (k := 3) (sz := 6) 1 2 (List.map eGRule y29) (by kernel_rfl) take_all (by simp)) (sh_gc [2,3] (by kernel_rfl))) (hFSixdotref02_Made_J3 ({ Modes := r67.Modes, Accept := r67.Accept, Rules := y29 } : GTable) H)
end
section
variable (p0_ : Int) (p1_ : Int)
def f33_s1 : St := ⟨(0, .d (.int .u8 p0_)) :: (1, .d (.int .i64 p1_)) :: [], []⟩
theorem FSixdotref03_Bit_ok {n : Nat} {p0_ : Int} {p1_ : Int} {z : Bool} (H : FSixdotref03_Bit n p0_ p1_ = some z) : CallOK Try.prog 33 [.d (.int .u8 p0_), .d (.int .i64 p1_)] (.d (.bool z)) := by
  dsimp only [FSixdotref03_Bit] at H
  refine fo (Γ := cx 18) (s := f33_s1 p0_ p1_) follows (cxOK 18) Try.func33 ?_
  refine sr ?_
  refine ck 1 ?_
  refine en ?_
  refine sr ?_
  refine ck 4 ?_
  refine gc 1 (decide (p1_ ≥ 0)) ?_
  refine pA ?_
  refine ck 3 ?_
  refine bx H fun u7 h154 H => ?_
  refine soG (fun hg => guard_ge (gimp h154 hg)) (impK (fun hh => hh) (impK (fun hh => hh) (impZ))) ?_
  refine gc 2 ((decide (p1_ ≥ 0)) && (decide (p1_ < 8))) ?_
  refine pA ?_
  refine ck 1 ?_
  refine en ?_
  refine re ?_
  injection H with H
  subst H
  exact pr (rd)
end
section
variable (p0_ : Int)
def f32_s1 : St := ⟨(0, .d (.int .u8 p0_)) :: [], []⟩
theorem FSixdotref02_Class_ok {n : Nat} {p0_ : Int} {z : Int} (H : FSixdotref02_Class n p0_ = some z) : CallOK Try.prog 32 [.d (.int .u8 p0_)] (.d (.int .i64 z)) := by
  dsimp only [FSixdotref02_Class] at H
  refine fo (Γ := cx 26) (s := f32_s1 p0_) follows (cxOK 26) Try.func32 ?_
  refine sr ?_
  refine ck 1 ?_
  refine en ?_
  refine sr ?_
  refine ck 3 ?_
  refine en ?_
  refine sq ?_
  refine sr ?_
  refine ck 4 ?_
  refine gc 1 (decide (iand .u8 p0_ 127 ≥ 97)) ?_
  refine pA ?_
  refine en ?_
  refine cn H (fun H => ?_) (fun H => ?_)
  · refine sr ?_
    refine ck 1 ?_
    refine en ?_
    refine re ?_
    refine qr ?_
    injection H with H
    subst H
    exact pr (rd)
  · refine sk ?_
    refine qz ?_
    refine sq ?_
    refine sr ?_
    refine ck 4 ?_
    refine gc 1 (decide (iand .u8 p0_ 127 ≥ 65)) ?_
    refine pA ?_
    refine en ?_
    refine cn H (fun H => ?_) (fun H => ?_)
    · refine sr ?_
      refine ck 1 ?_
      refine en ?_
      refine re ?_
      refine qr ?_
      injection H with H
      subst H
      exact pr (rd)
    · refine sk ?_
      refine qz ?_
      refine sq ?_
      refine sr ?_
      refine ck 4 ?_
      refine gc 1 (decide (iand .u8 p0_ 127 ≥ 48)) ?_
      refine pA ?_
      refine en ?_
      refine cn H (fun H => ?_) (fun H => ?_)
      · refine sr ?_
        refine ck 1 ?_
        refine en ?_
        refine re ?_
        refine qr ?_
        injection H with H
        subst H
        exact pr (rd)
      · refine sk ?_
        refine qz ?_
        refine sq ?_
        refine sr ?_
        refine ck 2 ?_
        refine en ?_
        refine cn H (fun H => ?_) (fun H => ?_)
        · refine sr ?_
          refine ck 1 ?_
          refine en ?_
          refine re ?_
          refine qr ?_
          injection H with H
          subst H
          exact pr (rd)
        · refine sk ?_
          refine qz ?_
          refine sr ?_
          refine ck 1 ?_
          refine en ?_
          refine re ?_
          injection H with H
          subst H
          exact pr (rd)
end
section
variable (p0_ : GTable) (p1_ : GState) (p2_ : Int)
def f18_s1 : St := ⟨(0, .agg [.d (.int .i64 p0_.Modes), .d (.int .u8 p0_.Accept), .d (.sl (List.map eGRule p0_.Rules))]) :: (1, .agg [.d (.int .i64 p1_.Mode), .d (.int .i64 p1_.Last), .d (.int .u8 p1_.Need)]) :: (2, .d (.int .i64 p2_)) :: [], []⟩
theorem FSixdotref03_Step_ok {n : Nat} {p0_ : GTable} {p1_ : GState} {p2_ : Int} {z : (GState × Bool)} (H : FSixdotref03_Step n p0_ p1_ p2_ = some z) : CallOK Try.prog 18 [.agg [.d (.int .i64 p0_.Modes), .d (.int .u8 p0_.Accept), .d (.sl (List.map eGRule p0_.Rules))], .agg [.d (.int .i64 p1_.Mode), .d (.int .i64 p1_.Last), .d (.int .u8 p1_.Need)], .d (.int .i64 p2_)] (.tup [.agg [.d (.int .i64 z.1.Mode), .d (.int .i64 z.1.Last), .d (.int .u8 z.1.Need)], .d (.bool z.2)]) := by
  dsimp only [FSixdotref03_Step] at H
  refine fo (Γ := cx 87) (s := f18_s1 p0_ p1_ p2_) follows (cxOK 87) Try.func18 ?_
  refine sr ?_
  refine ck 4 ?_
  refine en ?_
  refine sq ?_
  refine sr ?_
  refine ck 5 ?_
  refine gc 1 (!(decide (p2_ < 0))) ?_
  refine sG (g := (!(decide (p2_ < 0)))) (fun hg => at_len eGRule p0_.Rules) (impK (fun hh => hh) (impZ)) ?_
  refine gc 1 (!(decide (p2_ < 0))) ?_
  refine pO ?_
  refine en ?_
  refine cn H (fun H => ?_) (fun H => ?_)
  · refine sr ?_
    refine ck 3 ?_
    refine en ?_
    refine re ?_
    refine qr ?_
    injection H with H
    subst H
    exact pr (rdT)
  · refine sk ?_
    refine qz ?_
    refine sr ?_
    refine ck 3 ?_
    refine bx H fun x33 h155 H => ?_
    refine sp (at_idxD eGRule h155) ?_
    refine ck 3 ?_
    refine en ?_
    refine sq ?_
    refine sr ?_
    refine ck 7 ?_
    refine gc 1 (!(x33.From != p1_.Mode)) ?_
    refine ck 1 ?_
    refine gc 1 (!(x33.From != p1_.Mode)) ?_
    refine bx H fun r70 h156 H => ?_
    refine cG false (leZ) rfl (fun hg => FSixdotref03_Bit_ok (gimp h156 hg)) (Or.inl rfl) (impK (fun hh => hh) (impK (fun hh => hh) (impZ))) rfl ?_
    refine gc 1 (!(x33.From != p1_.Mode)) ?_
    refine pO ?_
    refine en ?_
    refine cn H (fun H => ?_) (fun H => ?_)
    · refine sr ?_
      refine ck 3 ?_
      refine en ?_
      refine re ?_
      refine qr ?_
      injection H with H
      subst H
      exact pr (rdT)
    · refine sk ?_
      refine qz ?_
      refine sq ?_
      refine sr ?_
      refine ck 6 ?_
      refine gc 1 (((List.length x33.Print : Nat) : Int) == 0) ?_
      refine ck 1 ?_
      refine gc 3 (((List.length x33.Print : Nat) : Int) == 0) ?_
      refine pA ?_
      refine en ?_
      refine cn H (fun H => ?_) (fun H => ?_)
      · refine sr ?_
        refine ck 3 ?_
        refine en ?_
        refine re ?_
        refine qr ?_
        injection H with H
        subst H
        exact pr (rdT)
      · refine sk ?_
        refine qz ?_
        refine sq ?_
        refine sr ?_
        refine ck 4 ?_
        refine en ?_
        refine cn H (fun H => ?_) (fun H => ?_)
        · refine sr ?_
          refine ck 12 ?_
          refine en ?_
          refine re ?_
          refine qr ?_
          injection H with H
          subst H
          exact pr (rdT)
        · refine sk ?_
          refine qz ?_
          refine sq ?_
          refine sr ?_
          refine ck 4 ?_
          refine bx H fun b5 h157 H => ?_
          refine sp (at_sidx h157) ?_
          refine bx H fun r71 h158 H => ?_
          refine ca false (FSixdotref02_Class_ok h158) ?_
          refine bx H fun r72 h159 H => ?_
          refine ca false (FSixdotref03_Bit_ok h159) ?_
          refine ck 1 ?_
          refine en ?_
          refine cn H (fun H => ?_) (fun H => ?_)
          · refine sr ?_
            refine ck 3 ?_
            refine en ?_
            refine re ?_
            refine qr ?_
            injection H with H
            subst H
            exact pr (rdT)
          · refine sk ?_
            refine qz ?_
            refine sr ?_
            refine ck 8 ?_
            refine bx H fun b6 h160 H => ?_
            refine sp (at_sidx h160) ?_
            refine bx H fun r73 h161 H => ?_
            refine ca false (FSixdotref02_Class_ok h161) ?_
            refine ck 5 ?_
            refine en ?_
            refine re ?_
            injection H with H
            subst H
            exact pr (rdT)
end
section
variable (p0_ : GTable) (p1_ : GState)
def f20_s1 : St := ⟨(0, .agg [.d (.int .i64 p0_.Modes), .d (.int .u8 p0_.Accept), .d (.sl (List.map eGRule p0_.Rules))]) :: (1, .agg [.d (.int .i64 p1_.Mode), .d (.int .i64 p1_.Last), .d (.int .u8 p1_.Need)]) :: [], []⟩
theorem FSixdotref03_Accepts_ok {n : Nat} {p0_ : GTable} {p1_ : GState} {z : Bool} (H : FSixdotref03_Accepts n p0_ p1_ = some z) : CallOK Try.prog 20 [.agg [.d (.int .i64 p0_.Modes), .d (.int .u8 p0_.Accept), .d (.sl (List.map eGRule p0_.Rules))], .agg [.d (.int .i64 p1_.Mode), .d (.int .i64 p1_.Last), .d (.int .u8 p1_.Need)]] (.d (.bool z)) := by
  dsimp only [FSixdotref03_Accepts] at H
  refine fo (Γ := cx 27) (s := f20_s1 p0_ p1_) follows (cxOK 27) Try.func20 ?_
  refine sr ?_
  refine ck 3 ?_
  refine en ?_
  refine sr ?_
  refine ck 5 ?_
  refine gc 1 (decide (p1_.Mode ≥ 0)) ?_
  refine ck 1 ?_
  refine gc 2 (decide (p1_.Mode ≥ 0)) ?_
  refine pA ?_
  refine ck 2 ?_
  refine gc 1 ((decide (p1_.Mode ≥ 0)) && (decide (p1_.Mode < p0_.Modes))) ?_
  refine ck 1 ?_
  refine gc 1 ((decide (p1_.Mode ≥ 0)) && (decide (p1_.Mode < p0_.Modes))) ?_
  refine bx H fun r74 h162 H => ?_
  refine cG false (leZ) rfl (fun hg => FSixdotref03_Bit_ok (gimp h162 hg)) (Or.inl rfl) (impK (fun hh => hh) (impK (fun hh => hh) (impZ))) rfl ?_
  refine pA ?_
  refine ck 2 ?_
  refine gc 1 (((decide (p1_.Mode ≥ 0)) && (decide (p1_.Mode < p0_.Modes))) && r74) ?_
  refine bx H fun r75 h163 H => ?_
  refine cG false (leZ) rfl (fun hg => FSixdotref03_Bit_ok (gimp h163 hg)) (Or.inl rfl) (impK (fun hh => hh) (impZ)) rfl ?_
  refine pA ?_
  refine ck 1 ?_
  refine en ?_
  refine re ?_
  injection H with H
  subst H
  exact pr (rd)
end
def f53_s0 : St := ⟨[], []⟩
theorem FSixdotref03_Start_ok {n : Nat}  {z : GState} (H : FSixdotref03_Start n = some z) : CallOK Try.prog 53 [] (.agg [.d (.int .i64 z.Mode), .d (.int .i64 z.Last), .d (.int .u8 z.Need)]) := by
  dsimp only [FSixdotref03_Start] at H
  refine fo (Γ := cx 2) (s := f53_s0) follows (cxOK 2) Try.func53 ?_
  refine sr ?_
  refine ck 1 ?_
  refine en ?_
  refine sr ?_
  refine ck 2 ?_
  refine en ?_
  refine re ?_
  injection H with H
  subst H
  exact pr (rd)
section
variable (p0_ : (List GState)) (p1_ : GState)
def f34_s1 : St := ⟨(0, .d (.sl (List.map eGState p0_))) :: (1, .agg [.d (.int .i64 p1_.Mode), .d (.int .i64 p1_.Last), .d (.int .u8 p1_.Need)]) :: [], []⟩
variable (i_12 : Int)
def f34_s2 : St := ⟨(0, .d (.sl (List.map eGState p0_))) :: (3, .ptr 0 0) :: (5, .d (.int .i64 i_12)) :: [], [some (.box [.d (.int .i64 p1_.Mode), .d (.int .i64 p1_.Last), .d (.int .u8 p1_.Need)])]⟩
def f34_s3  : St := ⟨[], []⟩
def FSixdotref03_Index_L1_E (p0_ : (List GState)) (p1_ : GState) : (Unit ⊕ Int) → Ex → St → Prop := fun y => Sum.casesOn y (fun (y : Unit) e s => e = Ex.exit 0 ∧ Shift s (f34_s3)) (fun (y : Int) e s => e = Ex.ret ∧ RA ty (Try.f34).results.toList (.d (.int .i64 y)) s)
theorem FSixdotref03_Index_L1_ok {n : Nat} {p0_ : (List GState)} {p1_ : GState} (x : Int) (z : (Int ⊕ (Unit ⊕ Int))) (H : FSixdotref03_Index_L1 n p0_ p1_ x = some z) : WP (cx 19) (bodyOf Try.f34) [1,0,1,0,0] (roundQ (fun (x : Int) => f34_s2 p0_ p1_ x) (FSixdotref03_Index_L1_E p0_ p1_) z) (f34_s2 p0_ p1_ x) := by
  revert H
  generalize x = i_12
  intro H
  dsimp only [FSixdotref03_Index_L1] at H
  refine sq ?_
  refine sr ?_
  refine ck 2 ?_
  refine sp (at_len eGState p0_) ?_
  refine ck 1 ?_
  refine en ?_
  refine cn H (fun H => ?_) (fun H => ?_)
  · refine sk ?_
    refine qz ?_
    refine sq ?_
    refine bk 1 ?_
    refine sr ?_
    refine ck 2 ?_
    refine bx H fun x39 h176 H => ?_
    refine sp (at_idxD eGState h176) ?_
    refine ck 3 ?_
    refine en ?_
    refine cn H (fun H => ?_) (fun H => ?_)
    · refine sr ?_
      refine ck 2 ?_
      refine en ?_
      refine re ?_
      refine qR ?_
      refine qr ?_
      cases H
      exact or ⟨rfl, rd⟩
    · refine sk ?_
      refine qN ?_
      refine qz ?_
      refine rz ?_
      refine ck 3 ?_
      refine ae ?_
      cases H
      exact og (sh_gc [0,3,5] (by kernel_rfl))
  · refine ex 0 ?_
    refine qx ?_
    cases H
    exact oe ⟨rfl, sh_gc [] (by kernel_rfl)⟩
theorem FSixdotref03_Index_ok {n : Nat} {p0_ : (List GState)} {p1_ : GState} {z : Int} (H : FSixdotref03_Index n p0_ p1_ = some z) : CallOK Try.prog 34 [.d (.sl (List.map eGState p0_)), .agg [.d (.int .i64 p1_.Mode), .d (.int .i64 p1_.Last), .d (.int .u8 p1_.Need)]] (.d (.int .i64 z)) := by
  dsimp only [FSixdotref03_Index] at H
  refine fo (Γ := cx 19) (s := f34_s1 p0_ p1_) follows (cxOK 19) Try.func34 ?_
  refine sr ?_
  refine ck 2 ?_
  refine en ?_
  refine sq ?_
  refine sr ?_
  refine ck 1 ?_
  refine en ?_
  refine bk 0 ?_
  refine bx H fun y33 h177 H => ?_
  rcases y33 with y34 | y35
  · refine lp (fun (x : Int) => f34_s2 p0_ p1_ x) (FSixdotref03_Index_L1_E p0_ p1_) h177 (sh_gc [0,3,5] (by kernel_rfl)) (fun x z => FSixdotref03_Index_L1_ok x z) ?_
    intro e s hE26
    obtain ⟨rfl, hE26⟩ := hE26
    refine qH ?_
    refine qs (hE26) ?_
    refine sr ?_
    refine ck 1 ?_
    refine en ?_
    refine re ?_
    injection H with H
    subst H
    exact pr (rd)
  · refine lp (fun (x : Int) => f34_s2 p0_ p1_ x) (FSixdotref03_Index_L1_E p0_ p1_) h177 (sh_gc [0,3,5] (by kernel_rfl)) (fun x z => FSixdotref03_Index_L1_ok x z) ?_
    intro e s hE27
    obtain ⟨rfl, hE27⟩ := hE27
    refine qR ?_
    refine qr ?_
    cases H
    exact pr hE27
end
section
variable (p0_ : GTable)
def f26_s1 : St := ⟨(0, .agg [.d (.int .i64 p0_.Modes), .d (.int .u8 p0_.Accept), .d (.sl (List.map eGRule p0_.Rules))]) :: [], []⟩
variable (out_17 : (List GState)) (i_13 : Int)
def f26_s2 : St := ⟨(1, .ptr 0 0) :: (3, .osl 1 3 0 (List.length out_17)) :: (4, .d (.int .i64 i_13)) :: [], [some (.box [.d (.int .i64 p0_.Modes), .d (.int .u8 p0_.Accept), .d (.sl (List.map eGRule p0_.Rules))]), some (.arr 3 (List.map eGState out_17))]⟩
variable (out_18 : (List GState))
def f26_s3 : St := ⟨(3, .osl 0 3 0 (List.length out_18)) :: [], [some (.arr 3 (List.map eGState out_18))]⟩
variable (out_19 : (List GState)) (k_3 : Int)
def f26_s4 : St := ⟨(1, .ptr 0 0) :: (3, .osl 1 3 0 (List.length out_19)) :: (4, .d (.int .i64 i_13)) :: (5, .d (.int .i64 k_3)) :: [], [some (.box [.d (.int .i64 p0_.Modes), .d (.int .u8 p0_.Accept), .d (.sl (List.map eGRule p0_.Rules))]), some (.arr 3 (List.map eGState out_19))]⟩
variable (out_20 : (List GState))
def f26_s5 : St := ⟨(1, .ptr 0 0) :: (3, .osl 1 3 0 (List.length out_20)) :: (4, .d (.int .i64 i_13)) :: [], [some (.box [.d (.int .i64 p0_.Modes), .d (.int .u8 p0_.Accept), .d (.sl (List.map eGRule p0_.Rules))]), some (.arr 3 (List.map eGState out_20))]⟩
variable (out_21 : (List GState))
def f26_s6 : St := ⟨(1, .ptr 0 0) :: (3, .osl 1 3 0 (List.length out_21)) :: (4, .d (.int .i64 i_13)) :: (5, .d (.int .i64 k_3)) :: [], [some (.box [.d (.int .i64 p0_.Modes), .d (.int .u8 p0_.Accept), .d (.sl (List.map eGRule p0_.Rules))]), some (.arr 3 (List.map eGState out_21))]⟩
def FSixdotref03_States_L2_E (p0_ : GTable) (i_13 : Int) : (List GState) → Ex → St → Prop := fun (y : (List GState)) e s => e = Ex.exit 2 ∧ Shift s (f26_s5 p0_ i_13 y)
theorem FSixdotref03_States_L2_ok {n : Nat} {p0_ : GTable} {i_13 : Int} (x : ((List GState) × Int)) (z : (((List GState) × Int) ⊕ (List GState))) (H : FSixdotref03_States_L2 n p0_ i_13 x.1 x.2 = some z) : WP (cx 45) (bodyOf Try.f26) [1,1,0,1,0,0,1,0,0,1,0,0] (roundQ (fun (x : ((List GState) × Int)) => f26_s4 p0_ i_13 x.1 x.2) (FSixdotref03_States_L2_E p0_ i_13) z) (f26_s4 p0_ i_13 x.1 x.2) := by
  obtain ⟨out_19, k_3⟩ := x
  dsimp only [FSixdotref03_States_L2] at H
  refine sq ?_
  refine sr ?_
  refine ck 3 ?_
  refine sp (at_len eGRule p0_.Rules) ?_
  refine ck 1 ?_
  refine en ?_
  refine cn H (fun H => ?_) (fun H => ?_)
  · refine sk ?_
    refine qz ?_
    refine sj (fun (x : (List GState)) => f26_s6 p0_ i_13 k_3 x) (fun (x : (List GState)) => FSixdotref03_States_J1 n k_3 x) z ?_ (fun hFSixdotref03_States_J1 => ?_)
    · intro out_21 H
      dsimp only [FSixdotref03_States_J1] at H
      refine rz ?_
      refine ck 3 ?_
      refine ae ?_
      cases H
      exact og (sh_gc [1,3,4,5] (by kernel_rfl))
    refine bk 3 ?_
    refine sr ?_
    refine ck 3 ?_
    refine bx H fun x40 h179 H => ?_
    refine sp (at_idxO 1 3 h179) ?_
    refine sp (at_ldA eGState 1 0 (ty 26) h179) ?_
    refine ck 1 ?_
    refine bx H fun r81 h180 H => ?_
    refine ca false (FSixdotref03_Step_ok h180) ?_
    refine ck 6 ?_
    refine en ?_
    refine sr ?_
    refine ck 4 ?_
    refine bx H fun r82 h181 H => ?_
    refine cG (ks := [1]) (obl := [(0 + List.length out_19, List.length (List.map eGState out_19))]) false (leK (by simp) (leZ)) (consE takeE (consE rfl rfl)) (fun hg => FSixdotref03_Index_ok (gimp h181 hg)) (Or.inr (by simp only [flatR, flatT, flatA, flatC, List.forall_mem_map] <;> simp [D.flat, true_and])) (impK (fun hh => hh) (impK (fun hh => hh) (impZ))) rfl ?_
    refine gc 1 r81.2 ?_
    refine pA ?_
    refine en ?_
    refine cn H (fun H => ?_) (fun H => ?_)
    · refine rz ?_
      refine ck 3 ?_
      refine bx H fun l24 h182 H => ?_
      refine sp (at_appO eGState 1 3 h182) ?_
      refine ck 1 ?_
      refine ae ?_
      refine qN ?_
      exact qs (sh_gc [1,3,4,5] (by kernel_rfl)) (hFSixdotref03_States_J1 l24 H)
    · refine sk ?_
      refine qN ?_
      exact qs (sh_gc [1,3,4,5] (by kernel_rfl)) (hFSixdotref03_States_J1 out_19 H)
  · refine ex 2 ?_
    refine qx ?_
    cases H
    exact oe ⟨rfl, sh_gc [1,3,4] (by kernel_rfl)⟩
def FSixdotref03_States_L1_E (p0_ : GTable) : (List GState) → Ex → St → Prop := fun (y : (List GState)) e s => e = Ex.exit 0 ∧ Shift s (f26_s3 y)
theorem FSixdotref03_States_L1_ok {n : Nat} {p0_ : GTable} (x : ((List GState) × Int)) (z : (((List GState) × Int) ⊕ (List GState))) (H : FSixdotref03_States_L1 n p0_ x.1 x.2 = some z) : WP (cx 45) (bodyOf Try.f26) [1,1,0,1,0,0] (roundQ (fun (x : ((List GState) × Int)) => f26_s2 p0_ x.1 x.2) (FSixdotref03_States_L1_E p0_) z) (f26_s2 p0_ x.1 x.2) := by
  obtain ⟨out_17, i_13⟩ := x
  dsimp only [FSixdotref03_States_L1] at H
  refine sq ?_
  refine sr ?_
  refine ck 4 ?_
  refine en ?_
  refine cn H (fun H => ?_) (fun H => ?_)
  · refine sk ?_
    refine qz ?_
    refine sq ?_
    refine bk 1 ?_
    refine sr ?_
    refine ck 1 ?_
    refine en ?_
    refine bk 2 ?_
    refine bx H fun y36 h183 H => ?_
    refine lp (fun (x : ((List GState) × Int)) => f26_s4 p0_ i_13 x.1 x.2) (FSixdotref03_States_L2_E p0_ i_13) h183 (sh_gc [1,3,4,5] (by kernel_rfl)) (fun x z => FSixdotref03_States_L2_ok x z) ?_
    intro e s hE28
    obtain ⟨rfl, hE28⟩ := hE28
    refine qH ?_
    refine qN ?_
    refine qs (hE28) ?_
    refine rz ?_
    refine ck 3 ?_
    refine ae ?_
    cases H
    exact og (sh_gc [1,3,4] (by kernel_rfl))
  · refine ex 0 ?_
    refine qx ?_
    cases H
    exact oe ⟨rfl, sh_gc [3] (by kernel_rfl)⟩
theorem FSixdotref03_States_ok {n : Nat} {p0_ : GTable} {z : (List GState)} (H : FSixdotref03_States n p0_ = some z) : CallOK Try.prog 26 [.agg [.d (.int .i64 p0_.Modes), .d (.int .u8 p0_.Accept), .d (.sl (List.map eGRule p0_.Rules))]] (.own 3 (List.map eGState z)) := by
  dsimp only [FSixdotref03_States] at H
  refine fo (Γ := cx 45) (s := f26_s1 p0_) follows (cxOK 45) Try.func26 ?_
  refine sr ?_
  refine ck 2 ?_
  refine en ?_
  refine sr ?_
  refine bx H fun r80 h178 H => ?_
  refine ca false (FSixdotref03_Start_ok h178) ?_
  refine ck 2 ?_
  refine en ?_
  refine sq ?_
  refine sr ?_
  refine ck 1 ?_
  refine en ?_
  refine bk 0 ?_
  refine bx H fun y37 h184 H => ?_
  refine lp (fun (x : ((List GState) × Int)) => f26_s2 p0_ x.1 x.2) (FSixdotref03_States_L1_E p0_) h184 (sh_gc [1,3,4] (by kernel_rfl)) (fun x z => FSixdotref03_States_L1_ok x z) ?_
  intro e s hE29
  obtain ⟨rfl, hE29⟩ := hE29
  refine qH ?_
  refine qs (hE29) ?_
  refine sr ?_
  refine ck 2 ?_
  refine en ?_
  refine re ?_
  injection H with H
  subst H
  exact pr (rO (v := .osl 0 3 0 (List.length y37)) [0] (ao vo))
end
section
variable (p0_ : GTable)
def f29_s1 : St := ⟨(0, .agg [.d (.int .i64 p0_.Modes), .d (.int .u8 p0_.Accept), .d (.sl (List.map eGRule p0_.Rules))]) :: [], []⟩
variable (r83 : (List GState)) (out_22 : (List Bool)) (i_15 : Int)
def f29_s2 : St := ⟨(1, .ptr 0 0) :: (3, .d (.sl (List.map eGState r83))) :: (4, .osl 1 1 0 (List.length out_22)) :: (5, .d (.int .i64 i_15)) :: [], [some (.box [.d (.int .i64 p0_.Modes), .d (.int .u8 p0_.Accept), .d (.sl (List.map eGRule p0_.Rules))]), some (.arr 1 (List.map eB out_22))]⟩
variable (out_23 : (List Bool))
def f29_s3 : St := ⟨(1, .ptr 0 0) :: (3, .d (.sl (List.map eGState r83))) :: (4, .osl 1 1 0 (List.length out_23)) :: [], [some (.box [.d (.int .i64 p0_.Modes), .d (.int .u8 p0_.Accept), .d (.sl (List.map eGRule p0_.Rules))]), some (.arr 1 (List.map eB out_23))]⟩
def FSixdotref03_Alive_L1_E (p0_ : GTable) (r83 : (List GState)) : (List Bool) → Ex → St → Prop := fun (y : (List Bool)) e s => e = Ex.exit 0 ∧ Shift s (f29_s3 p0_ r83 y)
theorem FSixdotref03_Alive_L1_ok {n : Nat} {p0_ : GTable} {r83 : (List GState)} (x : ((List Bool) × Int)) (z : (((List Bool) × Int) ⊕ (List Bool))) (H : FSixdotref03_Alive_L1 n p0_ r83 x.1 x.2 = some z) : WP (cx 73) (bodyOf Try.f29) [1,1,0,1,0,0] (roundQ (fun (x : ((List Bool) × Int)) => f29_s2 p0_ r83 x.1 x.2) (FSixdotref03_Alive_L1_E p0_ r83) z) (f29_s2 p0_ r83 x.1 x.2) := by
  obtain ⟨out_22, i_15⟩ := x
  dsimp only [FSixdotref03_Alive_L1] at H
  refine sq ?_
  refine sr ?_
  refine ck 2 ?_
  refine sp (at_len eGState r83) ?_
  refine ck 1 ?_
  refine en ?_
  refine cn H (fun H => ?_) (fun H => ?_)
  · refine sk ?_
    refine qz ?_
    refine sq ?_
    refine bk 1 ?_
    refine rz ?_
    refine ck 4 ?_
    refine bx H fun x43 h189 H => ?_
    refine sp (at_idxD eGState h189) ?_
    refine ck 1 ?_
    refine bx H fun r84 h190 H => ?_
    refine ca false (FSixdotref03_Accepts_ok h190) ?_
    refine ck 1 ?_
    refine bx H fun l25 h191 H => ?_
    refine sp (at_appO eB 1 1 h191) ?_
    refine ck 1 ?_
    refine ae ?_
    refine qN ?_
    refine qz ?_
    refine rz ?_
    refine ck 3 ?_
    refine ae ?_
    cases H
    exact og (sh_gc [1,3,4,5] (by kernel_rfl))
  · refine ex 0 ?_
    refine qx ?_
    cases H
    exact oe ⟨rfl, sh_gc [1,3,4] (by kernel_rfl)⟩
variable (out_24 : (List Bool)) (grown_1 : Bool)
def f29_s4 : St := ⟨(1, .ptr 0 0) :: (3, .d (.sl (List.map eGState r83))) :: (4, .osl 1 1 0 (List.length out_24)) :: (6, .d (.bool grown_1)) :: [], [some (.box [.d (.int .i64 p0_.Modes), .d (.int .u8 p0_.Accept), .d (.sl (List.map eGRule p0_.Rules))]), some (.arr 1 (List.map eB out_24))]⟩
variable (out_25 : (List Bool))
def f29_s5 : St := ⟨(4, .osl 0 1 0 (List.length out_25)) :: [], [some (.arr 1 (List.map eB out_25))]⟩
variable (out_26 : (List Bool)) (grown_2 : Bool) (i_16 : Int)
def f29_s6 : St := ⟨(1, .ptr 0 0) :: (3, .d (.sl (List.map eGState r83))) :: (4, .osl 1 1 0 (List.length out_26)) :: (6, .d (.bool grown_2)) :: (7, .d (.int .i64 i_16)) :: [], [some (.box [.d (.int .i64 p0_.Modes), .d (.int .u8 p0_.Accept), .d (.sl (List.map eGRule p0_.Rules))]), some (.arr 1 (List.map eB out_26))]⟩
variable (out_27 : (List Bool)) (grown_3 : Bool)
def f29_s7 : St := ⟨(1, .ptr 0 0) :: (3, .d (.sl (List.map eGState r83))) :: (4, .osl 1 1 0 (List.length out_27)) :: (6, .d (.bool grown_3)) :: [], [some (.box [.d (.int .i64 p0_.Modes), .d (.int .u8 p0_.Accept), .d (.sl (List.map eGRule p0_.Rules))]), some (.arr 1 (List.map eB out_27))]⟩
variable (out_28 : (List Bool)) (grown_4 : Bool) (k_4 : Int)
def f29_s8 : St := ⟨(1, .ptr 0 0) :: (3, .d (.sl (List.map eGState r83))) :: (4, .osl 1 1 0 (List.length out_28)) :: (6, .d (.bool grown_4)) :: (7, .d (.int .i64 i_16)) :: (8, .d (.int .i64 k_4)) :: [], [some (.box [.d (.int .i64 p0_.Modes), .d (.int .u8 p0_.Accept), .d (.sl (List.map eGRule p0_.Rules))]), some (.arr 1 (List.map eB out_28))]⟩
variable (out_29 : (List Bool)) (grown_5 : Bool)
def f29_s9 : St := ⟨(1, .ptr 0 0) :: (3, .d (.sl (List.map eGState r83))) :: (4, .osl 1 1 0 (List.length out_29)) :: (6, .d (.bool grown_5)) :: (7, .d (.int .i64 i_16)) :: [], [some (.box [.d (.int .i64 p0_.Modes), .d (.int .u8 p0_.Accept), .d (.sl (List.map eGRule p0_.Rules))]), some (.arr 1 (List.map eB out_29))]⟩
variable (out_30 : (List Bool)) (grown_6 : Bool)
def f29_s10 : St := ⟨(1, .ptr 0 0) :: (3, .d (.sl (List.map eGState r83))) :: (4, .osl 1 1 0 (List.length out_30)) :: (6, .d (.bool grown_6)) :: (7, .d (.int .i64 i_16)) :: (8, .d (.int .i64 k_4)) :: [], [some (.box [.d (.int .i64 p0_.Modes), .d (.int .u8 p0_.Accept), .d (.sl (List.map eGRule p0_.Rules))]), some (.arr 1 (List.map eB out_30))]⟩
def FSixdotref03_Alive_L4_E (p0_ : GTable) (r83 : (List GState)) (i_16 : Int) : ((List Bool) × Bool) → Ex → St → Prop := fun (y : ((List Bool) × Bool)) e s => e = Ex.exit 6 ∧ Shift s (f29_s9 p0_ r83 i_16 y.1 y.2)
theorem FSixdotref03_Alive_L4_ok {n : Nat} {p0_ : GTable} {r83 : (List GState)} {i_16 : Int} (x : ((List Bool) × Bool × Int)) (z : (((List Bool) × Bool × Int) ⊕ ((List Bool) × Bool))) (H : FSixdotref03_Alive_L4 n p0_ r83 i_16 x.1 x.2.1 x.2.2 = some z) : WP (cx 73) (bodyOf Try.f29) [1,1,1,0,1,0,0,1,0,1,1,0,0,1,0,0,1,0,0] (roundQ (fun (x : ((List Bool) × Bool × Int)) => f29_s8 p0_ r83 i_16 x.1 x.2.1 x.2.2) (FSixdotref03_Alive_L4_E p0_ r83 i_16) z) (f29_s8 p0_ r83 i_16 x.1 x.2.1 x.2.2) := by
  obtain ⟨out_28, grown_4, k_4⟩ := x
  dsimp only [FSixdotref03_Alive_L4] at H
  refine sq ?_
  refine sr ?_
  refine ck 3 ?_
  refine sp (at_len eGRule p0_.Rules) ?_
  refine ck 4 ?_
  refine bx H fun x44 h193 H => ?_
  refine sG (fun hg => at_idxO 1 1 (gimp h193 hg)) (impK (fun hh => hh) (impK (fun hh => hh) (impZ))) ?_
  refine sG (g := decide (k_4 < ((List.length p0_.Rules : Nat) : Int))) (fun hg => at_ldA eB 1 0 (ty 4) (gimp h193 hg)) (impK (fun hh => hh) (impZ)) ?_
  refine gc 1 (decide (k_4 < ((List.length p0_.Rules : Nat) : Int))) ?_
  refine pA ?_
  refine en ?_
  refine cn H (fun H => ?_) (fun H => ?_)
  · refine sk ?_
    refine qz ?_
    refine sj (fun (x : ((List Bool) × Bool)) => f29_s10 p0_ r83 i_16 k_4 x.1 x.2) (fun (x : ((List Bool) × Bool)) => FSixdotref03_Alive_J1 n k_4 x.1 x.2) z ?_ (fun hFSixdotref03_Alive_J1 => ?_)
    · rintro ⟨out_30, grown_6⟩ H
      dsimp only [FSixdotref03_Alive_J1] at H
      refine rz ?_
      refine ck 3 ?_
      refine ae ?_
      cases H
      exact og (sh_gc [1,3,4,6,7,8] (by kernel_rfl))
    refine bk 7 ?_
    refine sr ?_
    refine ck 3 ?_
    refine bx H fun x45 h194 H => ?_
    refine sp (at_idxD eGState h194) ?_
    refine ck 2 ?_
    refine bx H fun r85 h195 H => ?_
    refine ca false (FSixdotref03_Step_ok h195) ?_
    refine ck 6 ?_
    refine en ?_
    refine sr ?_
    refine ck 5 ?_
    refine bx H fun r86 h196 H => ?_
    refine cG false (leZ) rfl (fun hg => FSixdotref03_Index_ok (gimp h196 hg)) (Or.inl rfl) (impK (fun hh => hh) (impK (fun hh => hh) (impZ))) rfl ?_
    refine bx H fun x46 h197 H => ?_
    refine sG (fun hg => at_idxO 1 1 (gimp h197 hg)) (impK (fun hh => hh) (impK (fun hh => hh) (impZ))) ?_
    refine sG (g := r85.2) (fun hg => at_ldA eB 1 0 (ty 4) (gimp h197 hg)) (impK (fun hh => hh) (impZ)) ?_
    refine pA ?_
    refine en ?_
    refine cn H (fun H => ?_) (fun H => ?_)
    · refine sr ?_
      refine ck 2 ?_
      refine bx H fun x47 h198 H => ?_
      refine sp (at_idxO 1 1 h198) ?_
      refine bx H fun l26 h199 H => ?_
      refine stA eB 1 0 (ty 4) h198 h199 ?_
      refine en ?_
      refine rg (sh_sub (k := 1) (sz := 1) 4 (List.map eB l26) (List.length l26) (by kernel_rfl) (cut_put (put_len h199)) (le_put (enc := eB) (put_len h199)) ((put_len h199))) ?_
      refine ck 1 ?_
      refine ae ?_
      refine qN ?_
      exact qs (sh_gc [1,3,4,6,7,8] (by kernel_rfl)) (hFSixdotref03_Alive_J1 (l26, true) H)
    · refine sk ?_
      refine qN ?_
      exact qs (sh_gc [1,3,4,6,7,8] (by kernel_rfl)) (hFSixdotref03_Alive_J1 (out_28, grown_4) H)
  · refine ex 6 ?_
    refine qx ?_
    cases H
    exact oe ⟨rfl, sh_gc [1,3,4,6,7] (by kernel_rfl)⟩
def FSixdotref03_Alive_L3_E (p0_ : GTable) (r83 : (List GState)) : ((List Bool) × Bool) → Ex → St → Prop := fun (y : ((List Bool) × Bool)) e s => e = Ex.exit 4 ∧ Shift s (f29_s7 p0_ r83 y.1 y.2)
theorem FSixdotref03_Alive_L3_ok {n : Nat} {p0_ : GTable} {r83 : (List GState)} (x : ((List Bool) × Bool × Int)) (z : (((List Bool) × Bool × Int) ⊕ ((List Bool) × Bool))) (H : FSixdotref03_Alive_L3 n p0_ r83 x.1 x.2.1 x.2.2 = some z) : WP (cx 73) (bodyOf Try.f29) [1,1,1,0,1,0,0,1,0,1,1,0,0] (roundQ (fun (x : ((List Bool) × Bool × Int)) => f29_s6 p0_ r83 x.1 x.2.1 x.2.2) (FSixdotref03_Alive_L3_E p0_ r83) z) (f29_s6 p0_ r83 x.1 x.2.1 x.2.2) := by
  obtain ⟨out_26, grown_2, i_16⟩ := x
  dsimp only [FSixdotref03_Alive_L3] at H
  refine sq ?_
  refine sr ?_
  refine ck 2 ?_
  refine sp (at_len eGState r83) ?_
  refine ck 1 ?_
  refine en ?_
  refine cn H (fun H => ?_) (fun H => ?_)
  · refine sk ?_
    refine qz ?_
    refine sq ?_
    refine bk 5 ?_
    refine sr ?_
    refine ck 1 ?_
    refine en ?_
    refine bk 6 ?_
    refine bx H fun y42 h200 H => ?_
    refine lp (fun (x : ((List Bool) × Bool × Int)) => f29_s8 p0_ r83 i_16 x.1 x.2.1 x.2.2) (FSixdotref03_Alive_L4_E p0_ r83 i_16) h200 (sh_gc [1,3,4,6,7,8] (by kernel_rfl)) (fun x z => FSixdotref03_Alive_L4_ok x z) ?_
    intro e s hE33
    obtain ⟨rfl, hE33⟩ := hE33
    refine qH ?_
    refine qN ?_
    refine qs (hE33) ?_
    refine rz ?_
    refine ck 3 ?_
    refine ae ?_
    cases H
    exact og (sh_gc [1,3,4,6,7] (by kernel_rfl))
  · refine ex 4 ?_
    refine qx ?_
    cases H
    exact oe ⟨rfl, sh_gc [1,3,4,6] (by kernel_rfl)⟩
def FSixdotref03_Alive_L2_E (p0_ : GTable) (r83 : (List GState)) : (List Bool) → Ex → St → Prop := fun (y : (List Bool)) e s => e = Ex.exit 2 ∧ Shift s (f29_s5 y)
theorem FSixdotref03_Alive_L2_ok {n : Nat} {p0_ : GTable} {r83 : (List GState)} (x : ((List Bool) × Bool)) (z : (((List Bool) × Bool) ⊕ (List Bool))) (H : FSixdotref03_Alive_L2 n p0_ r83 x.1 x.2 = some z) : WP (cx 73) (bodyOf Try.f29) [1,1,1,0,1,0,0] (roundQ (fun (x : ((List Bool) × Bool)) => f29_s4 p0_ r83 x.1 x.2) (FSixdotref03_Alive_L2_E p0_ r83) z) (f29_s4 p0_ r83 x.1 x.2) := by
  obtain ⟨out_24, grown_1⟩ := x
  dsimp only [FSixdotref03_Alive_L2] at H
  refine sq ?_
  refine sr ?_
  refine ck 1 ?_
  refine en ?_
  refine cn H (fun H => ?_) (fun H => ?_)
  · refine sk ?_
    refine qz ?_
    refine bk 3 ?_
    refine sr ?_
    refine ck 1 ?_
    refine en ?_
    refine sr ?_
    refine ck 1 ?_
    refine en ?_
    refine bk 4 ?_
    refine bx H fun y43 h201 H => ?_
    refine lp (fun (x : ((List Bool) × Bool × Int)) => f29_s6 p0_ r83 x.1 x.2.1 x.2.2) (FSixdotref03_Alive_L3_E p0_ r83) h201 (sh_gc [1,3,4,6,7] (by kernel_rfl)) (fun x z => FSixdotref03_Alive_L3_ok x z) ?_
    intro e s hE34
    obtain ⟨rfl, hE34⟩ := hE34
    refine qH ?_
    refine qN ?_
    cases H
    exact og (Shift.trans (hE34) (sh_gc [1,3,4,6] (by kernel_rfl)))
  · refine ex 2 ?_
    refine qx ?_
    cases H
    exact oe ⟨rfl, sh_gc [4] (by kernel_rfl)⟩
theorem FSixdotref03_Alive_ok {n : Nat} {p0_ : GTable} {z : (List Bool)} (H : FSixdotref03_Alive n p0_ = some z) : CallOK Try.prog 29 [.agg [.d (.int .i64 p0_.Modes), .d (.int .u8 p0_.Accept), .d (.sl (List.map eGRule p0_.Rules))]] (.own 1 (List.map eB z)) := by
  dsimp only [FSixdotref03_Alive] at H
  refine fo (Γ := cx 73) (s := f29_s1 p0_) follows (cxOK 73) Try.func29 ?_
  refine sr ?_
  refine ck 2 ?_
  refine en ?_
  refine sr ?_
  refine ck 1 ?_
  refine bx H fun r83 h188 H => ?_
  refine ca false (FSixdotref03_States_ok h188) ?_
  refine ck 3 ?_
  refine en ?_
  refine sq ?_
  refine sr ?_
  refine ck 1 ?_
  refine en ?_
  refine bk 0 ?_
  refine bx H fun y41 h192 H => ?_
  refine lp (fun (x : ((List Bool) × Int)) => f29_s2 p0_ r83 x.1 x.2) (FSixdotref03_Alive_L1_E p0_ r83) h192 (sh_gc [1,3,4,5] (by kernel_rfl)) (fun x z => FSixdotref03_Alive_L1_ok x z) ?_
  intro e s hE32
  obtain ⟨rfl, hE32⟩ := hE32
  refine qH ?_
  refine qs (hE32) ?_
  refine sq ?_
  refine sr ?_
  refine ck 1 ?_
  refine en ?_
  refine bk 2 ?_
  refine bx H fun y44 h202 H => ?_
  refine lp (fun (x : ((List Bool) × Bool)) => f29_s4 p0_ r83 x.1 x.2) (FSixdotref03_Alive_L2_E p0_ r83) h202 (sh_gc [1,3,4,6] (by kernel_rfl)) (fun x z => FSixdotref03_Alive_L2_ok x z) ?_
  intro e s hE35
  obtain ⟨rfl, hE35⟩ := hE35
  refine qH ?_
  refine qs (hE35) ?_
  refine sr ?_
  refine ck 2 ?_
  refine en ?_
  refine re ?_
  injection H with H
  subst H
  exact pr (rO (v := .osl 0 1 0 (List.length y44)) [0] (ao vo))
end
section
variable (p0_ : GTable)
def f55_s1 : St := ⟨(0, .agg [.d (.int .i64 p0_.Modes), .d (.int .u8 p0_.Accept), .d (.sl (List.map eGRule p0_.Rules))]) :: [], []⟩
variable (r109 : (List GState)) (out_31 : (List Int)) (near_1 : (List Bool)) (i_22 : Int)
def f55_s2 : St := ⟨(1, .ptr 0 0) :: (3, .d (.sl (List.map eGState r109))) :: (4, .osl 1 1 0 (List.length out_31)) :: (5, .osl 2 1 0 (List.length near_1)) :: (6, .d (.int .i64 i_22)) :: [], [some (.box [.d (.int .i64 p0_.Modes), .d (.int .u8 p0_.Accept), .d (.sl (List.map eGRule p0_.Rules))]), some (.arr 1 (List.map eI64 out_31)), some (.arr 1 (List.map eB near_1))]⟩
variable (out_32 : (List Int)) (near_2 : (List Bool))
def f55_s3 : St := ⟨(1, .ptr 0 0) :: (3, .d (.sl (List.map eGState r109))) :: (4, .osl 1 1 0 (List.length out_32)) :: (5, .osl 2 1 0 (List.length near_2)) :: [], [some (.box [.d (.int .i64 p0_.Modes), .d (.int .u8 p0_.Accept), .d (.sl (List.map eGRule p0_.Rules))]), some (.arr 1 (List.map eI64 out_32)), some (.arr 1 (List.map eB near_2))]⟩
def FSixdotref03_home_L1_E (p0_ : GTable) (r109 : (List GState)) : ((List Int) × (List Bool)) → Ex → St → Prop := fun (y : ((List Int) × (List Bool))) e s => e = Ex.exit 0 ∧ Shift s (f55_s3 p0_ r109 y.1 y.2)
theorem FSixdotref03_home_L1_ok {n : Nat} {p0_ : GTable} {r109 : (List GState)} (x : ((List Int) × (List Bool) × Int)) (z : (((List Int) × (List Bool) × Int) ⊕ ((List Int) × (List Bool)))) (H : FSixdotref03_home_L1 n p0_ r109 x.1 x.2.1 x.2.2 = some z) : WP (cx 87) (bodyOf Try.f55) [1,1,0,1,0,0] (roundQ (fun (x : ((List Int) × (List Bool) × Int)) => f55_s2 p0_ r109 x.1 x.2.1 x.2.2) (FSixdotref03_home_L1_E p0_ r109) z) (f55_s2 p0_ r109 x.1 x.2.1 x.2.2) := by
  obtain ⟨out_31, near_1, i_22⟩ := x
  dsimp only [FSixdotref03_home_L1] at H
  refine sq ?_
  refine sr ?_
  refine ck 2 ?_
  refine sp (at_len eGState r109) ?_
  refine ck 1 ?_
  refine en ?_
  refine cn H (fun H => ?_) (fun H => ?_)
  · refine sk ?_
    refine qz ?_
    refine sq ?_
    refine bk 1 ?_
    refine sr ?_
    refine ck 2 ?_
    refine bx H fun l30 h243 H => ?_
    refine sp (at_appO eI64 1 1 h243) ?_
    refine ck 1 ?_
    refine en ?_
    refine rz ?_
    refine ck 4 ?_
    refine bx H fun x56 h244 H => ?_
    refine sp (at_idxD eGState h244) ?_
    refine ck 1 ?_
    refine bx H fun r110 h245 H => ?_
    refine ca false (FSixdotref03_Accepts_ok h245) ?_
    refine ck 1 ?_
    refine bx H fun l31 h246 H => ?_
    refine sp (at_appO eB 2 1 h246) ?_
    refine ck 1 ?_
    refine ae ?_
    refine qN ?_
    refine qz ?_
    refine rz ?_
    refine ck 3 ?_
    refine ae ?_
    cases H
    exact og (sh_gc [1,3,4,5,6] (by kernel_rfl))
  · refine ex 0 ?_
    refine qx ?_
    cases H
    exact oe ⟨rfl, sh_gc [1,3,4,5] (by kernel_rfl)⟩
variable (out_33 : (List Int)) (near_3 : (List Bool)) (grown_7 : Bool)
def f55_s4 : St := ⟨(1, .ptr 0 0) :: (3, .d (.sl (List.map eGState r109))) :: (4, .osl 1 1 0 (List.length out_33)) :: (5, .osl 2 1 0 (List.length near_3)) :: (7, .d (.bool grown_7)) :: [], [some (.box [.d (.int .i64 p0_.Modes), .d (.int .u8 p0_.Accept), .d (.sl (List.map eGRule p0_.Rules))]), some (.arr 1 (List.map eI64 out_33)), some (.arr 1 (List.map eB near_3))]⟩
variable (out_34 : (List Int))
def f55_s5 : St := ⟨(4, .osl 0 1 0 (List.length out_34)) :: [], [some (.arr 1 (List.map eI64 out_34))]⟩
variable (out_35 : (List Int)) (ring_1 : (List Bool)) (grown_8 : Bool) (i_23 : Int)
def f55_s6 : St := ⟨(1, .ptr 0 0) :: (3, .d (.sl (List.map eGState r109))) :: (4, .osl 1 1 0 (List.length out_35)) :: (5, .osl 2 1 0 (List.length near_3)) :: (7, .d (.bool grown_8)) :: (8, .osl 3 1 0 (List.length ring_1)) :: (9, .d (.int .i64 i_23)) :: [], [some (.box [.d (.int .i64 p0_.Modes), .d (.int .u8 p0_.Accept), .d (.sl (List.map eGRule p0_.Rules))]), some (.arr 1 (List.map eI64 out_35)), some (.arr 1 (List.map eB near_3)), some (.arr 1 (List.map eB ring_1))]⟩
variable (out_36 : (List Int)) (ring_2 : (List Bool)) (grown_9 : Bool)
def f55_s7 : St := ⟨(1, .ptr 0 0) :: (3, .d (.sl (List.map eGState r109))) :: (4, .osl 1 1 0 (List.length out_36)) :: (7, .d (.bool grown_9)) :: (8, .osl 2 1 0 (List.length ring_2)) :: [], [some (.box [.d (.int .i64 p0_.Modes), .d (.int .u8 p0_.Accept), .d (.sl (List.map eGRule p0_.Rules))]), some (.arr 1 (List.map eI64 out_36)), some (.arr 1 (List.map eB ring_2))]⟩
variable (out_37 : (List Int)) (ring_3 : (List Bool)) (grown_10 : Bool) (k_6 : Int)
def f55_s8 : St := ⟨(1, .ptr 0 0) :: (3, .d (.sl (List.map eGState r109))) :: (4, .osl 1 1 0 (List.length out_37)) :: (5, .osl 2 1 0 (List.length near_3)) :: (7, .d (.bool grown_10)) :: (8, .osl 3 1 0 (List.length ring_3)) :: (9, .d (.int .i64 i_23)) :: (10, .d (.int .i64 k_6)) :: [], [some (.box [.d (.int .i64 p0_.Modes), .d (.int .u8 p0_.Accept), .d (.sl (List.map eGRule p0_.Rules))]), some (.arr 1 (List.map eI64 out_37)), some (.arr 1 (List.map eB near_3)), some (.arr 1 (List.map eB ring_3))]⟩
variable (out_38 : (List Int)) (ring_4 : (List Bool)) (grown_11 : Bool)
def f55_s9 : St := ⟨(1, .ptr 0 0) :: (3, .d (.sl (List.map eGState r109))) :: (4, .osl 1 1 0 (List.length out_38)) :: (5, .osl 2 1 0 (List.length near_3)) :: (7, .d (.bool grown_11)) :: (8, .osl 3 1 0 (List.length ring_4)) :: (9, .d (.int .i64 i_23)) :: [], [some (.box [.d (.int .i64 p0_.Modes), .d (.int .u8 p0_.Accept), .d (.sl (List.map eGRule p0_.Rules))]), some (.arr 1 (List.map eI64 out_38)), some (.arr 1 (List.map eB near_3)), some (.arr 1 (List.map eB ring_4))]⟩
variable (out_39 : (List Int)) (ring_5 : (List Bool)) (grown_12 : Bool)
def f55_s10 : St := ⟨(1, .ptr 0 0) :: (3, .d (.sl (List.map eGState r109))) :: (4, .osl 1 1 0 (List.length out_39)) :: (5, .osl 2 1 0 (List.length near_3)) :: (7, .d (.bool grown_12)) :: (8, .osl 3 1 0 (List.length ring_5)) :: (9, .d (.int .i64 i_23)) :: (10, .d (.int .i64 k_6)) :: [], [some (.box [.d (.int .i64 p0_.Modes), .d (.int .u8 p0_.Accept), .d (.sl (List.map eGRule p0_.Rules))]), some (.arr 1 (List.map eI64 out_39)), some (.arr 1 (List.map eB near_3)), some (.arr 1 (List.map eB ring_5))]⟩
def FSixdotref03_home_L4_E (p0_ : GTable) (r109 : (List GState)) (near_3 : (List Bool)) (i_23 : Int) : ((List Int) × (List Bool) × Bool) → Ex → St → Prop := fun (y : ((List Int) × (List Bool) × Bool)) e s => e = Ex.exit 6 ∧ Shift s (f55_s9 p0_ r109 near_3 i_23 y.1 y.2.1 y.2.2)
theorem FSixdotref03_home_L4_ok {n : Nat} {p0_ : GTable} {r109 : (List GState)} {near_3 : (List Bool)} {i_23 : Int} (x : ((List Int) × (List Bool) × Bool × Int)) (z : (((List Int) × (List Bool) × Bool × Int) ⊕ ((List Int) × (List Bool) × Bool))) (H : FSixdotref03_home_L4 n p0_ r109 near_3 i_23 x.1 x.2.1 x.2.2.1 x.2.2.2 = some z) : WP (cx 87) (bodyOf Try.f55) [1,1,1,0,1,0,0,1,0,1,1,0,1,0,0,1,0,0,1,0,0] (roundQ (fun (x : ((List Int) × (List Bool) × Bool × Int)) => f55_s8 p0_ r109 near_3 i_23 x.1 x.2.1 x.2.2.1 x.2.2.2) (FSixdotref03_home_L4_E p0_ r109 near_3 i_23) z) (f55_s8 p0_ r109 near_3 i_23 x.1 x.2.1 x.2.2.1 x.2.2.2) := by
  obtain ⟨out_37, ring_3, grown_10, k_6⟩ := x
  dsimp only [FSixdotref03_home_L4] at H
  refine sq ?_
  refine sr ?_
  refine ck 3 ?_
  refine sp (at_len eGRule p0_.Rules) ?_
  refine ck 4 ?_
  refine bx H fun x57 h249 H => ?_
  refine sG (fun hg => at_idxO 3 1 (gimp h249 hg)) (impK (fun hh => hh) (impK (fun hh => hh) (impZ))) ?_
  refine sG (g := decide (k_6 < ((List.length p0_.Rules : Nat) : Int))) (fun hg => at_ldA eB 3 0 (ty 4) (gimp h249 hg)) (impK (fun hh => hh) (impZ)) ?_
  refine gc 1 (decide (k_6 < ((List.length p0_.Rules : Nat) : Int))) ?_
  refine pA ?_
  refine en ?_
  refine cn H (fun H => ?_) (fun H => ?_)
  · refine sk ?_
    refine qz ?_
    refine sj (fun (x : ((List Int) × (List Bool) × Bool)) => f55_s10 p0_ r109 near_3 i_23 k_6 x.1 x.2.1 x.2.2) (fun (x : ((List Int) × (List Bool) × Bool)) => FSixdotref03_home_J1 n k_6 x.1 x.2.1 x.2.2) z ?_ (fun hFSixdotref03_home_J1 => ?_)
    · rintro ⟨out_39, ring_5, grown_12⟩ H
      dsimp only [FSixdotref03_home_J1] at H
      refine rz ?_
      refine ck 3 ?_
      refine ae ?_
      cases H
      exact og (sh_gc [1,3,4,5,7,8,9,10] (by kernel_rfl))
    refine bk 7 ?_
    refine sr ?_
    refine ck 3 ?_
    refine bx H fun x58 h250 H => ?_
    refine sp (at_idxD eGState h250) ?_
    refine ck 2 ?_
    refine bx H fun r111 h251 H => ?_
    refine ca false (FSixdotref03_Step_ok h251) ?_
    refine ck 6 ?_
    refine en ?_
    refine sr ?_
    refine ck 5 ?_
    refine bx H fun r112 h252 H => ?_
    refine cG false (leZ) rfl (fun hg => FSixdotref03_Index_ok (gimp h252 hg)) (Or.inl rfl) (impK (fun hh => hh) (impK (fun hh => hh) (impZ))) rfl ?_
    refine bx H fun x59 h253 H => ?_
    refine sG (fun hg => at_idxO 2 1 (gimp h253 hg)) (impK (fun hh => hh) (impK (fun hh => hh) (impZ))) ?_
    refine sG (g := r111.2) (fun hg => at_ldA eB 2 0 (ty 4) (gimp h253 hg)) (impK (fun hh => hh) (impZ)) ?_
    refine pA ?_
    refine en ?_
    refine cn H (fun H => ?_) (fun H => ?_)
    · refine sr ?_
      refine ck 2 ?_
      refine bx H fun x60 h254 H => ?_
      refine sp (at_idxO 3 1 h254) ?_
      refine bx H fun l33 h255 H => ?_
      refine stA eB 3 0 (ty 4) h254 h255 ?_
      refine en ?_
      refine sq ?_
      refine rg (sh_sub (k := 3) (sz := 1) 8 (List.map eB l33) (List.length l33) (by kernel_rfl) (cut_put (put_len h255)) (le_put (enc := eB) (put_len h255)) ((put_len h255))) ?_
      refine ck 3 ?_
      refine bx H fun x61 h256 H => ?_
      refine sp (at_idxO 1 1 h256) ?_
      refine bx H fun l34 h257 H => ?_
      refine stA eI64 1 0 (ty 3) h256 h257 ?_
      refine en ?_
      refine rg (sh_sub (k := 1) (sz := 1) 4 (List.map eI64 l34) (List.length l34) (by kernel_rfl) (cut_put (put_len h257)) (le_put (enc := eI64) (put_len h257)) ((put_len h257))) ?_
      refine ck 1 ?_
      refine ae ?_
      refine qN ?_
      exact qs (sh_gc [1,3,4,5,7,8,9,10] (by kernel_rfl)) (hFSixdotref03_home_J1 (l34, l33, true) H)
    · refine sk ?_
      refine qN ?_
      exact qs (sh_gc [1,3,4,5,7,8,9,10] (by kernel_rfl)) (hFSixdotref03_home_J1 (out_37, ring_3, grown_10) H)
  · refine ex 6 ?_
    refine qx ?_
    cases H
    exact oe ⟨rfl, sh_gc [1,3,4,5,7,8,9] (by kernel_rfl)⟩
def FSixdotref03_home_L3_E (p0_ : GTable) (r109 : (List GState)) (near_3 : (List Bool)) : ((List Int) × (List Bool) × Bool) → Ex → St → Prop := fun (y : ((List Int) × (List Bool) × Bool)) e s => e = Ex.exit 4 ∧ Shift s (f55_s7 p0_ r109 y.1 y.2.1 y.2.2)
theorem FSixdotref03_home_L3_ok {n : Nat} {p0_ : GTable} {r109 : (List GState)} {near_3 : (List Bool)} (x : ((List Int) × (List Bool) × Bool × Int)) (z : (((List Int) × (List Bool) × Bool × Int) ⊕ ((List Int) × (List Bool) × Bool))) (H : FSixdotref03_home_L3 n p0_ r109 near_3 x.1 x.2.1 x.2.2.1 x.2.2.2 = some z) : WP (cx 87) (bodyOf Try.f55) [1,1,1,0,1,0,0,1,0,1,1,0,1,0,0] (roundQ (fun (x : ((List Int) × (List Bool) × Bool × Int)) => f55_s6 p0_ r109 near_3 x.1 x.2.1 x.2.2.1 x.2.2.2) (FSixdotref03_home_L3_E p0_ r109 near_3) z) (f55_s6 p0_ r109 near_3 x.1 x.2.1 x.2.2.1 x.2.2.2) := by
  obtain ⟨out_35, ring_1, grown_8, i_23⟩ := x
  dsimp only [FSixdotref03_home_L3] at H
  refine sq ?_
  refine sr ?_
  refine ck 2 ?_
  refine sp (at_len eGState r109) ?_
  refine ck 1 ?_
  refine en ?_
  refine cn H (fun H => ?_) (fun H => ?_)
  · refine sk ?_
    refine qz ?_
    refine sq ?_
    refine bk 5 ?_
    refine sr ?_
    refine ck 1 ?_
    refine en ?_
    refine bk 6 ?_
    refine bx H fun y62 h258 H => ?_
    refine lp (fun (x : ((List Int) × (List Bool) × Bool × Int)) => f55_s8 p0_ r109 near_3 i_23 x.1 x.2.1 x.2.2.1 x.2.2.2) (FSixdotref03_home_L4_E p0_ r109 near_3 i_23) h258 (sh_gc [1,3,4,5,7,8,9,10] (by kernel_rfl)) (fun x z => FSixdotref03_home_L4_ok x z) ?_
    intro e s hE48
    obtain ⟨rfl, hE48⟩ := hE48
    refine qH ?_
    refine qN ?_
    refine qs (hE48) ?_
    refine rz ?_
    refine ck 3 ?_
    refine ae ?_
    cases H
    exact og (sh_gc [1,3,4,5,7,8,9] (by kernel_rfl))
  · refine ex 4 ?_
    refine qx ?_
    cases H
    exact oe ⟨rfl, sh_gc [1,3,4,7,8] (by kernel_rfl)⟩
def FSixdotref03_home_L2_E (p0_ : GTable) (r109 : (List GState)) : (List Int) → Ex → St → Prop := fun (y : (List Int)) e s => e = Ex.exit 2 ∧ Shift s (f55_s5 y)
theorem FSixdotref03_home_L2_ok {n : Nat} {p0_ : GTable} {r109 : (List GState)} (x : ((List Int) × (List Bool) × Bool)) (z : (((List Int) × (List Bool) × Bool) ⊕ (List Int))) (H : FSixdotref03_home_L2 n p0_ r109 x.1 x.2.1 x.2.2 = some z) : WP (cx 87) (bodyOf Try.f55) [1,1,1,0,1,0,0] (roundQ (fun (x : ((List Int) × (List Bool) × Bool)) => f55_s4 p0_ r109 x.1 x.2.1 x.2.2) (FSixdotref03_home_L2_E p0_ r109) z) (f55_s4 p0_ r109 x.1 x.2.1 x.2.2) := by
  obtain ⟨out_33, near_3, grown_7⟩ := x
  dsimp only [FSixdotref03_home_L2] at H
  refine sq ?_
  refine sr ?_
  refine ck 1 ?_
  refine en ?_
  refine cn H (fun H => ?_) (fun H => ?_)
  · refine sk ?_
    refine qz ?_
    refine bk 3 ?_
    refine sr ?_
    refine ck 1 ?_
    refine en ?_
    refine sr ?_
    refine ck 2 ?_
    refine bx H fun l32 h248 H => ?_
    refine sp (at_appO eB 3 1 h248) ?_
    refine ck 1 ?_
    refine en ?_
    refine sq ?_
    refine sr ?_
    refine ck 1 ?_
    refine en ?_
    refine bk 4 ?_
    refine bx H fun y63 h259 H => ?_
    refine lp (fun (x : ((List Int) × (List Bool) × Bool × Int)) => f55_s6 p0_ r109 near_3 x.1 x.2.1 x.2.2.1 x.2.2.2) (FSixdotref03_home_L3_E p0_ r109 near_3) h259 (sh_gc [1,3,4,5,7,8,9] (by kernel_rfl)) (fun x z => FSixdotref03_home_L3_ok x z) ?_
    intro e s hE49
    obtain ⟨rfl, hE49⟩ := hE49
    refine qH ?_
    refine qs (hE49) ?_
    refine rz ?_
    refine ck 2 ?_
    refine ae ?_
    refine qN ?_
    cases H
    exact og (sh_gc [1,3,4,5,7] (by kernel_rfl))
  · refine ex 2 ?_
    refine qx ?_
    cases H
    exact oe ⟨rfl, sh_gc [4] (by kernel_rfl)⟩
theorem FSixdotref03_home_ok {n : Nat} {p0_ : GTable} {z : (List Int)} (H : FSixdotref03_home n p0_ = some z) : CallOK Try.prog 55 [.agg [.d (.int .i64 p0_.Modes), .d (.int .u8 p0_.Accept), .d (.sl (List.map eGRule p0_.Rules))]] (.own 1 (List.map eI64 z)) := by
  dsimp only [FSixdotref03_home] at H
  refine fo (Γ := cx 87) (s := f55_s1 p0_) follows (cxOK 87) Try.func55 ?_
  refine sr ?_
  refine ck 2 ?_
  refine en ?_
  refine sr ?_
  refine ck 1 ?_
  refine bx H fun r109 h242 H => ?_
  refine ca false (FSixdotref03_States_ok h242) ?_
  refine ck 5 ?_
  refine en ?_
  refine sq ?_
  refine sr ?_
  refine ck 1 ?_
  refine en ?_
  refine bk 0 ?_
  refine bx H fun y61 h247 H => ?_
  refine lp (fun (x : ((List Int) × (List Bool) × Int)) => f55_s2 p0_ r109 x.1 x.2.1 x.2.2) (FSixdotref03_home_L1_E p0_ r109) h247 (sh_gc [1,3,4,5,6] (by kernel_rfl)) (fun x z => FSixdotref03_home_L1_ok x z) ?_
  intro e s hE47
  obtain ⟨rfl, hE47⟩ := hE47
  refine qH ?_
  refine qs (hE47) ?_
  refine sq ?_
  refine sr ?_
  refine ck 1 ?_
  refine en ?_
  refine bk 2 ?_
  refine bx H fun y64 h260 H => ?_
  refine lp (fun (x : ((List Int) × (List Bool) × Bool)) => f55_s4 p0_ r109 x.1 x.2.1 x.2.2) (FSixdotref03_home_L2_E p0_ r109) h260 (sh_gc [1,3,4,5,7] (by kernel_rfl)) (fun x z => FSixdotref03_home_L2_ok x z) ?_
  intro e s hE50
  obtain ⟨rfl, hE50⟩ := hE50
  refine qH ?_
  refine qs (hE50) ?_
  refine sr ?_
  refine ck 2 ?_
  refine en ?_
  refine re ?_
  injection H with H
  subst H
  exact pr (rO (v := .osl 0 1 0 (List.length y64)) [0] (ao vo))
end
end Go.AI
end
section
namespace Go.AI
open Go.Proofs
set_option maxRecDepth 10000
section
variable (p0_ : GTable) (p1_ : (List Int))
def f30_s1 : St := ⟨(0, .agg [.d (.int .i64 p0_.Modes), .d (.int .u8 p0_.Accept), .d (.sl (List.map eGRule p0_.Rules))]) :: (1, .d (.sl (List.map eU8 p1_))) :: [], []⟩
variable (r113 : (List GState)) (r114 : (List Bool)) (r115 : (List Int)) (path_3 : (List Int)) (s_3 : GState) (size_1 : Int) (i_24 : Int)
def f30_s2 : St := ⟨(1, .d (.sl (List.map eU8 p1_))) :: (2, .ptr 0 0) :: (6, .d (.sl (List.map eGState r113))) :: (7, .d (.sl (List.map eB r114))) :: (8, .d (.sl (List.map eI64 r115))) :: (9, .osl 1 1 0 (List.length path_3)) :: (10, .ptr 2 0) :: (11, .d (.int .i64 size_1)) :: (12, .d (.int .i64 i_24)) :: [], [some (.box [.d (.int .i64 p0_.Modes), .d (.int .u8 p0_.Accept), .d (.sl (List.map eGRule p0_.Rules))]), some (.arr 1 (List.map eI64 path_3)), some (.box [.d (.int .i64 s_3.Mode), .d (.int .i64 s_3.Last), .d (.int .u8 s_3.Need)])]⟩
variable (path_4 : (List Int)) (s_4 : GState)
def f30_s3 : St := ⟨(2, .ptr 0 0) :: (6, .d (.sl (List.map eGState r113))) :: (8, .d (.sl (List.map eI64 r115))) :: (9, .osl 1 1 0 (List.length path_4)) :: (10, .ptr 2 0) :: [], [some (.box [.d (.int .i64 p0_.Modes), .d (.int .u8 p0_.Accept), .d (.sl (List.map eGRule p0_.Rules))]), some (.arr 1 (List.map eI64 path_4)), some (.box [.d (.int .i64 s_4.Mode), .d (.int .i64 s_4.Last), .d (.int .u8 s_4.Need)])]⟩
variable (fit_1 : (List Int)) (k_7 : Int)
def f30_s4 : St := ⟨(1, .d (.sl (List.map eU8 p1_))) :: (2, .ptr 0 0) :: (6, .d (.sl (List.map eGState r113))) :: (7, .d (.sl (List.map eB r114))) :: (8, .d (.sl (List.map eI64 r115))) :: (9, .osl 1 1 0 (List.length path_3)) :: (10, .ptr 2 0) :: (11, .d (.int .i64 size_1)) :: (12, .d (.int .i64 i_24)) :: (13, .osl 3 1 0 (List.length fit_1)) :: (14, .d (.int .i64 k_7)) :: [], [some (.box [.d (.int .i64 p0_.Modes), .d (.int .u8 p0_.Accept), .d (.sl (List.map eGRule p0_.Rules))]), some (.arr 1 (List.map eI64 path_3)), some (.box [.d (.int .i64 s_3.Mode), .d (.int .i64 s_3.Last), .d (.int .u8 s_3.Need)]), some (.arr 1 (List.map eI64 fit_1))]⟩
variable (fit_2 : (List Int))
def f30_s5 : St := ⟨(1, .d (.sl (List.map eU8 p1_))) :: (2, .ptr 0 0) :: (6, .d (.sl (List.map eGState r113))) :: (7, .d (.sl (List.map eB r114))) :: (8, .d (.sl (List.map eI64 r115))) :: (9, .osl 1 1 0 (List.length path_3)) :: (10, .ptr 2 0) :: (11, .d (.int .i64 size_1)) :: (12, .d (.int .i64 i_24)) :: (13, .osl 3 1 0 (List.length fit_2)) :: [], [some (.box [.d (.int .i64 p0_.Modes), .d (.int .u8 p0_.Accept), .d (.sl (List.map eGRule p0_.Rules))]), some (.arr 1 (List.map eI64 path_3)), some (.box [.d (.int .i64 s_3.Mode), .d (.int .i64 s_3.Last), .d (.int .u8 s_3.Need)]), some (.arr 1 (List.map eI64 fit_2))]⟩
variable (fit_3 : (List Int))
def f30_s6 : St := ⟨(1, .d (.sl (List.map eU8 p1_))) :: (2, .ptr 0 0) :: (6, .d (.sl (List.map eGState r113))) :: (7, .d (.sl (List.map eB r114))) :: (8, .d (.sl (List.map eI64 r115))) :: (9, .osl 1 1 0 (List.length path_3)) :: (10, .ptr 2 0) :: (11, .d (.int .i64 size_1)) :: (12, .d (.int .i64 i_24)) :: (13, .osl 3 1 0 (List.length fit_3)) :: (14, .d (.int .i64 k_7)) :: [], [some (.box [.d (.int .i64 p0_.Modes), .d (.int .u8 p0_.Accept), .d (.sl (List.map eGRule p0_.Rules))]), some (.arr 1 (List.map eI64 path_3)), some (.box [.d (.int .i64 s_3.Mode), .d (.int .i64 s_3.Last), .d (.int .u8 s_3.Need)]), some (.arr 1 (List.map eI64 fit_3))]⟩
def FSixdotref03_Walk_L2_E (p0_ : GTable) (p1_ : (List Int)) (r113 : (List GState)) (r114 : (List Bool)) (r115 : (List Int)) (path_3 : (List Int)) (s_3 : GState) (size_1 : Int) (i_24 : Int) : (List Int) → Ex → St → Prop := fun (y : (List Int)) e s => e = Ex.exit 2 ∧ Shift s (f30_s5 p0_ p1_ r113 r114 r115 path_3 s_3 size_1 i_24 y)
theorem FSixdotref03_Walk_L2_ok {n : Nat} {p0_ : GTable} {p1_ : (List Int)} {r113 : (List GState)} {r114 : (List Bool)} {r115 : (List Int)} {path_3 : (List Int)} {s_3 : GState} {size_1 : Int} {i_24 : Int} (x : ((List Int) × Int)) (z : (((List Int) × Int) ⊕ (List Int))) (H : FSixdotref03_Walk_L2 n p0_ p1_ r113 r114 r115 path_3 s_3 size_1 i_24 x.1 x.2 = some z) : WP (cx 130) (bodyOf Try.f30) [1,1,1,1,0,1,0,0,1,0,0,1,0,1,0,0] (roundQ (fun (x : ((List Int) × Int)) => f30_s4 p0_ p1_ r113 r114 r115 path_3 s_3 size_1 i_24 x.1 x.2) (FSixdotref03_Walk_L2_E p0_ p1_ r113 r114 r115 path_3 s_3 size_1 i_24) z) (f30_s4 p0_ p1_ r113 r114 r115 path_3 s_3 size_1 i_24 x.1 x.2) := by
  obtain ⟨fit_1, k_7⟩ := x
  dsimp only [FSixdotref03_Walk_L2] at H
  refine sq ?_
  refine sr ?_
  refine ck 3 ?_
  refine sp (at_len eGRule p0_.Rules) ?_
  refine ck 1 ?_
  refine en ?_
  refine cn H (fun H => ?_) (fun H => ?_)
  · refine sk ?_
    refine qz ?_
    refine sj (fun (x : (List Int)) => f30_s6 p0_ p1_ r113 r114 r115 path_3 s_3 size_1 i_24 k_7 x) (fun (x : (List Int)) => FSixdotref03_Walk_J1 n k_7 x) z ?_ (fun hFSixdotref03_Walk_J1 => ?_)
    · intro fit_3 H
      dsimp only [FSixdotref03_Walk_J1] at H
      refine rz ?_
      refine ck 3 ?_
      refine ae ?_
      cases H
      exact og (sh_gc [1,2,6,7,8,9,10,11,12,13,14] (by kernel_rfl))
    refine bk 3 ?_
    refine sr ?_
    refine ck 3 ?_
    refine bx H fun r117 h266 H => ?_
    refine ca false (FSixdotref03_Step_ok h266) ?_
    refine ck 6 ?_
    refine en ?_
    refine sr ?_
    refine ck 5 ?_
    refine bx H fun r118 h267 H => ?_
    refine cG false (leZ) rfl (fun hg => FSixdotref03_Index_ok (gimp h267 hg)) (Or.inl rfl) (impK (fun hh => hh) (impK (fun hh => hh) (impZ))) rfl ?_
    refine bx H fun x63 h268 H => ?_
    refine sG (fun hg => at_idxD eB (gimp h268 hg)) (impK (fun hh => hh) (impK (fun hh => hh) (impZ))) ?_
    refine gc 1 r117.2 ?_
    refine pA ?_
    refine en ?_
    refine cn H (fun H => ?_) (fun H => ?_)
    · refine rz ?_
      refine ck 3 ?_
      refine bx H fun l35 h269 H => ?_
      refine sp (at_appO eI64 3 1 h269) ?_
      refine ck 1 ?_
      refine ae ?_
      refine qN ?_
      exact qs (sh_gc [1,2,6,7,8,9,10,11,12,13,14] (by kernel_rfl)) (hFSixdotref03_Walk_J1 l35 H)
    · refine sk ?_
      refine qN ?_
      exact qs (sh_gc [1,2,6,7,8,9,10,11,12,13,14] (by kernel_rfl)) (hFSixdotref03_Walk_J1 fit_1 H)
  · refine ex 2 ?_
    refine qx ?_
    cases H
    exact oe ⟨rfl, sh_gc [1,2,6,7,8,9,10,11,12,13] (by kernel_rfl)⟩
def FSixdotref03_Walk_L1_E (p0_ : GTable) (p1_ : (List Int)) (r113 : (List GState)) (r114 : (List Bool)) (r115 : (List Int)) : ((List Int) × GState) → Ex → St → Prop := fun (y : ((List Int) × GState)) e s => e = Ex.exit 0 ∧ Shift s (f30_s3 p0_ r113 r115 y.1 y.2)
theorem FSixdotref03_Walk_L1_ok {n : Nat} {p0_ : GTable} {p1_ : (List Int)} {r113 : (List GState)} {r114 : (List Bool)} {r115 : (List Int)} (x : ((List Int) × GState × Int × Int)) (z : (((List Int) × GState × Int × Int) ⊕ ((List Int) × GState))) (H : FSixdotref03_Walk_L1 n p0_ p1_ r113 r114 r115 x.1 x.2.1 x.2.2.1 x.2.2.2 = some z) : WP (cx 130) (bodyOf Try.f30) [1,1,1,1,0,1,0,0] (roundQ (fun (x : ((List Int) × GState × Int × Int)) => f30_s2 p0_ p1_ r113 r114 r115 x.1 x.2.1 x.2.2.1 x.2.2.2) (FSixdotref03_Walk_L1_E p0_ p1_ r113 r114 r115) z) (f30_s2 p0_ p1_ r113 r114 r115 x.1 x.2.1 x.2.2.1 x.2.2.2) := by
  obtain ⟨path_3, s_3, size_1, i_24⟩ := x
  dsimp only [FSixdotref03_Walk_L1] at H
  refine sq ?_
  refine sr ?_
  refine ck 2 ?_
  refine sp (at_len eU8 p1_) ?_
  refine ck 3 ?_
  refine gc 1 (decide (i_24 < ((List.length p1_ : Nat) : Int))) ?_
  refine pA ?_
  refine ck 2 ?_
  refine gc 1 ((decide (i_24 < ((List.length p1_ : Nat) : Int))) && (decide (i_24 < 10))) ?_
  refine pA ?_
  refine en ?_
  refine cn H (fun H => ?_) (fun H => ?_)
  · refine sk ?_
    refine qz ?_
    refine sq ?_
    refine bk 1 ?_
    refine sr ?_
    refine ck 2 ?_
    refine en ?_
    refine sq ?_
    refine sr ?_
    refine ck 1 ?_
    refine en ?_
    refine bk 2 ?_
    refine bx H fun y65 h270 H => ?_
    refine lp (fun (x : ((List Int) × Int)) => f30_s4 p0_ p1_ r113 r114 r115 path_3 s_3 size_1 i_24 x.1 x.2) (FSixdotref03_Walk_L2_E p0_ p1_ r113 r114 r115 path_3 s_3 size_1 i_24) h270 (sh_gc [1,2,6,7,8,9,10,11,12,13,14] (by kernel_rfl)) (fun x z => FSixdotref03_Walk_L2_ok x z) ?_
    intro e s hE51
    obtain ⟨rfl, hE51⟩ := hE51
    refine qH ?_
    refine qs (hE51) ?_
    refine sq ?_
    refine sr ?_
    refine ck 3 ?_
    refine en ?_
    refine cn H (fun H => ?_) (fun H => ?_)
    · refine ex 0 ?_
      refine qx ?_
      refine qX rfl ?_
      refine qx ?_
      cases H
      exact oe ⟨rfl, sh_gc [2,6,8,9,10] (by kernel_rfl)⟩
    · refine sk ?_
      refine qz ?_
      refine sr ?_
      refine ck 3 ?_
      refine bx H fun x64 h271 H => ?_
      refine sp (at_idxD eU8 h271) ?_
      refine ck 4 ?_
      refine bx H fun u8 h272 H => ?_
      refine so (guard_nz h272) ?_
      refine bx H fun x65 h273 H => ?_
      refine sp (at_idxO 3 1 h273) ?_
      refine sp (at_ldA eI64 3 0 (ty 3) h273) ?_
      refine ck 1 ?_
      refine en ?_
      refine sr ?_
      refine ck 3 ?_
      refine bx H fun l36 h274 H => ?_
      refine sp (at_appO eI64 1 1 h274) ?_
      refine ck 1 ?_
      refine en ?_
      refine sr ?_
      refine ck 4 ?_
      refine bx H fun x66 h275 H => ?_
      refine sp (at_idxD eGRule h275) ?_
      refine ck 5 ?_
      refine en ?_
      refine rz ?_
      refine ck 3 ?_
      refine bx H fun r119 h276 H => ?_
      refine ca false (FSixdotref03_Step_ok h276) ?_
      refine ck 4 ?_
      refine ae ?_
      refine qN ?_
      refine qz ?_
      refine rz ?_
      refine ck 3 ?_
      refine ae ?_
      cases H
      exact og (sh_gc [1,2,6,7,8,9,10,11,12] (by kernel_rfl))
  · refine ex 0 ?_
    refine qx ?_
    cases H
    exact oe ⟨rfl, sh_gc [2,6,8,9,10] (by kernel_rfl)⟩
variable (path_5 : (List Int)) (s_5 : GState)
def f30_s7 : St := ⟨(2, .ptr 0 0) :: (6, .d (.sl (List.map eGState r113))) :: (8, .d (.sl (List.map eI64 r115))) :: (9, .osl 1 1 0 (List.length path_5)) :: (10, .ptr 2 0) :: [], [some (.box [.d (.int .i64 p0_.Modes), .d (.int .u8 p0_.Accept), .d (.sl (List.map eGRule p0_.Rules))]), some (.arr 1 (List.map eI64 path_5)), some (.box [.d (.int .i64 s_5.Mode), .d (.int .i64 s_5.Last), .d (.int .u8 s_5.Need)])]⟩
variable (path_6 : (List Int))
def f30_s8 : St := ⟨(9, .osl 0 1 0 (List.length path_6)) :: [], [some (.arr 1 (List.map eI64 path_6))]⟩
def FSixdotref03_Walk_L3_E (p0_ : GTable) (r113 : (List GState)) (r115 : (List Int)) : (List Int) → Ex → St → Prop := fun (y : (List Int)) e s => e = Ex.exit 4 ∧ Shift s (f30_s8 y)
theorem FSixdotref03_Walk_L3_ok {n : Nat} {p0_ : GTable} {r113 : (List GState)} {r115 : (List Int)} (x : ((List Int) × GState)) (z : (((List Int) × GState) ⊕ (List Int))) (H : FSixdotref03_Walk_L3 n p0_ r113 r115 x.1 x.2 = some z) : WP (cx 130) (bodyOf Try.f30) [1,1,1,1,1,0,0,0] (roundQ (fun (x : ((List Int) × GState)) => f30_s7 p0_ r113 r115 x.1 x.2) (FSixdotref03_Walk_L3_E p0_ r113 r115) z) (f30_s7 p0_ r113 r115 x.1 x.2) := by
  obtain ⟨path_5, s_5⟩ := x
  dsimp only [FSixdotref03_Walk_L3] at H
  refine sq ?_
  refine sr ?_
  refine ck 2 ?_
  refine bx H fun r120 h278 H => ?_
  refine ca false (FSixdotref03_Accepts_ok h278) ?_
  refine ck 1 ?_
  refine en ?_
  refine cn H (fun H => ?_) (fun H => ?_)
  · refine sk ?_
    refine qz ?_
    refine bk 5 ?_
    refine sr ?_
    refine ck 3 ?_
    refine bx H fun r121 h279 H => ?_
    refine ca false (FSixdotref03_Index_ok h279) ?_
    refine bx H fun x67 h280 H => ?_
    refine sp (at_idxD eI64 h280) ?_
    refine ck 2 ?_
    refine en ?_
    refine sr ?_
    refine ck 3 ?_
    refine bx H fun l37 h281 H => ?_
    refine sp (at_appO eI64 1 1 h281) ?_
    refine ck 1 ?_
    refine en ?_
    refine rz ?_
    refine ck 3 ?_
    refine bx H fun r122 h282 H => ?_
    refine ca false (FSixdotref03_Step_ok h282) ?_
    refine ck 4 ?_
    refine ae ?_
    refine qN ?_
    cases H
    exact og (sh_gc [2,6,8,9,10] (by kernel_rfl))
  · refine ex 4 ?_
    refine qx ?_
    cases H
    exact oe ⟨rfl, sh_gc [9] (by kernel_rfl)⟩
theorem FSixdotref03_Walk_ok {n : Nat} {p0_ : GTable} {p1_ : (List Int)} {z : ((List Int) × Bool)} (H : FSixdotref03_Walk n p0_ p1_ = some z) : CallOK Try.prog 30 [.agg [.d (.int .i64 p0_.Modes), .d (.int .u8 p0_.Accept), .d (.sl (List.map eGRule p0_.Rules))], .d (.sl (List.map eU8 p1_))] (.tup [.own 1 (List.map eI64 z.1), .d (.bool z.2)]) := by
  dsimp only [FSixdotref03_Walk] at H
  refine fo (Γ := cx 130) (s := f30_s1 p0_ p1_) follows (cxOK 130) Try.func30 ?_
  refine sr ?_
  refine ck 3 ?_
  refine en ?_
  refine sr ?_
  refine ck 1 ?_
  refine bx H fun r113 h261 H => ?_
  refine ca false (FSixdotref03_States_ok h261) ?_
  refine ck 1 ?_
  refine bx H fun r114 h262 H => ?_
  refine ca false (FSixdotref03_Alive_ok h262) ?_
  refine ck 1 ?_
  refine bx H fun r115 h263 H => ?_
  refine ca false (FSixdotref03_home_ok h263) ?_
  refine ck 3 ?_
  refine en ?_
  refine sq ?_
  refine sr ?_
  refine ck 1 ?_
  refine bx H fun x62 h264 H => ?_
  refine sp (at_idxD eB h264) ?_
  refine ck 2 ?_
  refine en ?_
  refine cn H (fun H => ?_) (fun H => ?_)
  · refine sr ?_
    refine ck 3 ?_
    refine en ?_
    refine re ?_
    refine qr ?_
    injection H with H
    subst H
    exact pr (rT (vs := [.osl 1 1 0 (List.length ([] : List Int)), .d (.bool false)]) [1] (t1 (ao vo) (t1 (ad vd) (t0))))
  · refine sk ?_
    refine qz ?_
    refine sr ?_
    refine ck 1 ?_
    refine bx H fun r116 h265 H => ?_
    refine ca false (FSixdotref03_Start_ok h265) ?_
    refine ck 4 ?_
    refine en ?_
    refine sq ?_
    refine sr ?_
    refine ck 1 ?_
    refine en ?_
    refine bk 0 ?_
    refine bx H fun y66 h277 H => ?_
    refine lp (fun (x : ((List Int) × GState × Int × Int)) => f30_s2 p0_ p1_ r113 r114 r115 x.1 x.2.1 x.2.2.1 x.2.2.2) (FSixdotref03_Walk_L1_E p0_ p1_ r113 r114 r115) h277 (sh_gc [1,2,6,7,8,9,10,11,12] (by kernel_rfl)) (fun x z => FSixdotref03_Walk_L1_ok x z) ?_
    intro e s hE52
    obtain ⟨rfl, hE52⟩ := hE52
    refine qH ?_
    refine qs (hE52) ?_
    refine sq ?_
    refine bk 4 ?_
    refine bx H fun y67 h283 H => ?_
    refine lp (fun (x : ((List Int) × GState)) => f30_s7 p0_ r113 r115 x.1 x.2) (FSixdotref03_Walk_L3_E p0_ r113 r115) h283 (sh_gc [2,6,8,9,10] (by kernel_rfl)) (fun x z => FSixdotref03_Walk_L3_ok x z) ?_
    intro e s hE53
    obtain ⟨rfl, hE53⟩ := hE53
    refine qH ?_
    refine qs (hE53) ?_
    refine sr ?_
    refine ck 3 ?_
    refine en ?_
    refine re ?_
    injection H with H
    subst H
    exact pr (rT (vs := [.osl 0 1 0 (List.length y67), .d (.bool true)]) [0] (t1 (ao vo) (t1 (ad vd) (t0))))
end
section
variable (p0_ : GRaw) (p1_ : (List Int)) (p2_ : (List Int))
def f5_s1 : St := ⟨(0, .agg [.d (.int .u8 p0_.Base), .d (.int .u8 p0_.Drop), .d (.sl (List.map eGRawRule p0_.More))]) :: (1, .d (.sl (List.map eU8 p1_))) :: (2, .d (.sl (List.map eU8 p2_))) :: [], []⟩
variable (r147 : Bool) (r148 : GTable) (r149 : ((List Int) × Bool)) (free_1 : (List Int)) (i_29 : Int)
def f5_s2 : St := ⟨(2, .d (.sl (List.map eU8 p2_))) :: (7, .d (.bool r147)) :: (8, .ptr 0 0) :: (9, .d (.sl (List.map eI64 r149.1))) :: (11, .osl 1 1 0 (List.length free_1)) :: (12, .d (.int .i64 i_29)) :: [], [some (.box [.d (.int .i64 r148.Modes), .d (.int .u8 r148.Accept), .d (.sl (List.map eGRule r148.Rules))]), some (.arr 1 (List.map eI64 free_1))]⟩
variable (free_2 : (List Int))
def f5_s3 : St := ⟨(7, .d (.bool r147)) :: (8, .ptr 0 0) :: (9, .d (.sl (List.map eI64 r149.1))) :: (11, .osl 1 1 0 (List.length free_2)) :: [], [some (.box [.d (.int .i64 r148.Modes), .d (.int .u8 r148.Accept), .d (.sl (List.map eGRule r148.Rules))]), some (.arr 1 (List.map eI64 free_2))]⟩
def FSixdotlaw03_AutomatonContexts_L1_E (p2_ : (List Int)) (r147 : Bool) (r148 : GTable) (r149 : ((List Int) × Bool)) : (List Int) → Ex → St → Prop := fun (y : (List Int)) e s => e = Ex.exit 0 ∧ Shift s (f5_s3 r147 r148 r149 y)
theorem FSixdotlaw03_AutomatonContexts_L1_ok {n : Nat} {p2_ : (List Int)} {r147 : Bool} {r148 : GTable} {r149 : ((List Int) × Bool)} (x : ((List Int) × Int)) (z : (((List Int) × Int) ⊕ (List Int))) (H : FSixdotlaw03_AutomatonContexts_L1 n p2_ r147 r148 r149 x.1 x.2 = some z) : WP (cx 159) (bodyOf Try.f5) [1,1,1,1,1,0,1,0,0] (roundQ (fun (x : ((List Int) × Int)) => f5_s2 p2_ r147 r148 r149 x.1 x.2) (FSixdotlaw03_AutomatonContexts_L1_E p2_ r147 r148 r149) z) (f5_s2 p2_ r147 r148 r149 x.1 x.2) := by
  obtain ⟨free_1, i_29⟩ := x
  dsimp only [FSixdotlaw03_AutomatonContexts_L1] at H
  refine sq ?_
  refine sr ?_
  refine ck 2 ?_
  refine sp (at_len eU8 p2_) ?_
  refine ck 3 ?_
  refine gc 1 (decide (i_29 < ((List.length p2_ : Nat) : Int))) ?_
  refine pA ?_
  refine en ?_
  refine cn H (fun H => ?_) (fun H => ?_)
  · refine sk ?_
    refine qz ?_
    refine sq ?_
    refine bk 1 ?_
    refine rz ?_
    refine ck 3 ?_
    refine bx H fun x81 h335 H => ?_
    refine sp (at_idxD eU8 h335) ?_
    refine ck 4 ?_
    refine sp (at_len eGRule r148.Rules) ?_
    refine bx H fun u10 h336 H => ?_
    refine so (guard_nz h336) ?_
    refine ck 1 ?_
    refine bx H fun l41 h337 H => ?_
    refine sp (at_appO eI64 1 1 h337) ?_
    refine ck 1 ?_
    refine ae ?_
    refine qN ?_
    refine qz ?_
    refine rz ?_
    refine ck 3 ?_
    refine ae ?_
    cases H
    exact og (sh_gc [2,7,8,9,11,12] (by kernel_rfl))
  · refine ex 0 ?_
    refine qx ?_
    cases H
    exact oe ⟨rfl, sh_gc [7,8,9,11] (by kernel_rfl)⟩
variable (y77 : (List Int)) (n_2 : Int)
def f5_s4 : St := ⟨(7, .d (.bool r147)) :: (8, .ptr 0 0) :: (13, .ptr 1 0) :: (14, .d (.int .i64 n_2)) :: [], [some (.box [.d (.int .i64 r148.Modes), .d (.int .u8 r148.Accept), .d (.sl (List.map eGRule r148.Rules))]), some (.box [.d (.sl (List.map eI64 r149.1)), .d (.sl (List.map eI64 y77))])]⟩
def f5_s5 : St := ⟨(7, .d (.bool r147)) :: [], []⟩
variable (fits_1 : Bool) (mode_1 : Int) (before_1 : (List UInt8)) (i_30 : Int)
def f5_s6 : St := ⟨(7, .d (.bool r147)) :: (8, .ptr 0 0) :: (13, .ptr 1 0) :: (14, .d (.int .i64 n_2)) :: (15, .d (.bool fits_1)) :: (16, .d (.int .i64 mode_1)) :: (17, .d (.str before_1)) :: (18, .d (.int .i64 i_30)) :: [], [some (.box [.d (.int .i64 r148.Modes), .d (.int .u8 r148.Accept), .d (.sl (List.map eGRule r148.Rules))]), some (.box [.d (.sl (List.map eI64 r149.1)), .d (.sl (List.map eI64 y77))])]⟩
variable (fits_2 : Bool) (mode_2 : Int)
def f5_s7 : St := ⟨(7, .d (.bool r147)) :: (8, .ptr 0 0) :: (13, .ptr 1 0) :: (14, .d (.int .i64 n_2)) :: (15, .d (.bool fits_2)) :: (16, .d (.int .i64 mode_2)) :: [], [some (.box [.d (.int .i64 r148.Modes), .d (.int .u8 r148.Accept), .d (.sl (List.map eGRule r148.Rules))]), some (.box [.d (.sl (List.map eI64 r149.1)), .d (.sl (List.map eI64 y77))])]⟩
variable (x85 : GRule) (after_1 : (List UInt8)) (k_9 : Int)
def f5_s8 : St := ⟨(7, .d (.bool r147)) :: (8, .ptr 0 0) :: (13, .ptr 1 0) :: (14, .d (.int .i64 n_2)) :: (15, .d (.bool fits_1)) :: (16, .d (.int .i64 mode_1)) :: (17, .d (.str before_1)) :: (18, .d (.int .i64 i_30)) :: (19, .ptr 2 0) :: (20, .d (.str after_1)) :: (21, .d (.int .i64 k_9)) :: [], [some (.box [.d (.int .i64 r148.Modes), .d (.int .u8 r148.Accept), .d (.sl (List.map eGRule r148.Rules))]), some (.box [.d (.sl (List.map eI64 r149.1)), .d (.sl (List.map eI64 y77))]), some (.box [.d (.str x85.Print), .d (.sl (List.map eU8 x85.Cells)), .d (.int .u8 x85.Left), .d (.int .u8 x85.Right), .d (.int .i64 x85.From), .d (.int .i64 x85.To)])]⟩
variable (after_2 : (List UInt8))
def f5_s9 : St := ⟨(7, .d (.bool r147)) :: (8, .ptr 0 0) :: (13, .ptr 1 0) :: (14, .d (.int .i64 n_2)) :: (15, .d (.bool fits_1)) :: (16, .d (.int .i64 mode_1)) :: (17, .d (.str before_1)) :: (18, .d (.int .i64 i_30)) :: (19, .ptr 2 0) :: (20, .d (.str after_2)) :: [], [some (.box [.d (.int .i64 r148.Modes), .d (.int .u8 r148.Accept), .d (.sl (List.map eGRule r148.Rules))]), some (.box [.d (.sl (List.map eI64 r149.1)), .d (.sl (List.map eI64 y77))]), some (.box [.d (.str x85.Print), .d (.sl (List.map eU8 x85.Cells)), .d (.int .u8 x85.Left), .d (.int .u8 x85.Right), .d (.int .i64 x85.From), .d (.int .i64 x85.To)])]⟩
def FSixdotlaw03_AutomatonContexts_L4_E (r147 : Bool) (r148 : GTable) (r149 : ((List Int) × Bool)) (y77 : (List Int)) (n_2 : Int) (fits_1 : Bool) (mode_1 : Int) (before_1 : (List UInt8)) (i_30 : Int) (x85 : GRule) : (List UInt8) → Ex → St → Prop := fun (y : (List UInt8)) e s => e = Ex.exit 6 ∧ Shift s (f5_s9 r147 r148 r149 y77 n_2 fits_1 mode_1 before_1 i_30 x85 y)
theorem FSixdotlaw03_AutomatonContexts_L4_ok {n : Nat} {r147 : Bool} {r148 : GTable} {r149 : ((List Int) × Bool)} {y77 : (List Int)} {n_2 : Int} {fits_1 : Bool} {mode_1 : Int} {before_1 : (List UInt8)} {i_30 : Int} {x85 : GRule} (x : ((List UInt8) × Int)) (z : (((List UInt8) × Int) ⊕ (List UInt8))) (H : FSixdotlaw03_AutomatonContexts_L4 n r147 r148 r149 y77 n_2 fits_1 mode_1 before_1 i_30 x85 x.1 x.2 = some z) : WP (cx 159) (bodyOf Try.f5) [1,1,1,1,1,1,1,0,1,0,0,1,0,0,1,0,1,0,0,1,0,0,1,0,1,0,0] (roundQ (fun (x : ((List UInt8) × Int)) => f5_s8 r147 r148 r149 y77 n_2 fits_1 mode_1 before_1 i_30 x85 x.1 x.2) (FSixdotlaw03_AutomatonContexts_L4_E r147 r148 r149 y77 n_2 fits_1 mode_1 before_1 i_30 x85) z) (f5_s8 r147 r148 r149 y77 n_2 fits_1 mode_1 before_1 i_30 x85 x.1 x.2) := by
  obtain ⟨after_1, k_9⟩ := x
  dsimp only [FSixdotlaw03_AutomatonContexts_L4] at H
  refine sq ?_
  refine sr ?_
  refine ck 2 ?_
  refine bx H fun x86 h343 H => ?_
  refine sp (at_idxV 1 0 2 h343) ?_
  refine sp (at_ldV (e1 := fun x => .sl (List.map eI64 x)) 1 0 2 (ty 33) h343) ?_
  refine sp (at_len eI64 x86) ?_
  refine ck 1 ?_
  refine en ?_
  refine cn H (fun H => ?_) (fun H => ?_)
  · refine sk ?_
    refine qz ?_
    refine sq ?_
    refine bk 7 ?_
    refine rz ?_
    refine ck 4 ?_
    refine bx H fun x87 h344 H => ?_
    refine sp (at_idxV 1 0 2 h344) ?_
    refine sp (at_ldV (e1 := fun x => .sl (List.map eI64 x)) 1 0 2 (ty 33) h344) ?_
    refine ck 1 ?_
    refine bx H fun x88 h345 H => ?_
    refine sp (at_idxD eI64 h345) ?_
    refine ck 1 ?_
    refine bx H fun x89 h346 H => ?_
    refine sp (at_idxD eGRule h346) ?_
    refine ck 2 ?_
    refine bx H fun s6 h347 H => ?_
    refine sp (at_cat h347) ?_
    refine ck 1 ?_
    refine ae ?_
    refine qN ?_
    refine qz ?_
    refine rz ?_
    refine ck 3 ?_
    refine ae ?_
    cases H
    exact og (sh_gc [7,8,13,14,15,16,17,18,19,20,21] (by kernel_rfl))
  · refine ex 6 ?_
    refine qx ?_
    cases H
    exact oe ⟨rfl, sh_gc [7,8,13,14,15,16,17,18,19,20] (by kernel_rfl)⟩
variable (y78 : (List UInt8)) (left_1 : Int)
def f5_s10 : St := ⟨(7, .d (.bool r147)) :: (8, .ptr 0 0) :: (13, .ptr 1 0) :: (14, .d (.int .i64 n_2)) :: (15, .d (.bool fits_1)) :: (16, .d (.int .i64 mode_1)) :: (17, .d (.str before_1)) :: (18, .d (.int .i64 i_30)) :: (19, .ptr 2 0) :: (20, .d (.str y78)) :: (22, .d (.int .i64 left_1)) :: (23, .d (.int .i64 0)) :: [], [some (.box [.d (.int .i64 r148.Modes), .d (.int .u8 r148.Accept), .d (.sl (List.map eGRule r148.Rules))]), some (.box [.d (.sl (List.map eI64 r149.1)), .d (.sl (List.map eI64 y77))]), some (.box [.d (.str x85.Print), .d (.sl (List.map eU8 x85.Cells)), .d (.int .u8 x85.Left), .d (.int .u8 x85.Right), .d (.int .i64 x85.From), .d (.int .i64 x85.To)])]⟩
variable (right_1 : Int)
def f5_s11 : St := ⟨(7, .d (.bool r147)) :: (8, .ptr 0 0) :: (13, .ptr 1 0) :: (14, .d (.int .i64 n_2)) :: (15, .d (.bool fits_1)) :: (16, .d (.int .i64 mode_1)) :: (17, .d (.str before_1)) :: (18, .d (.int .i64 i_30)) :: (19, .ptr 2 0) :: (22, .d (.int .i64 left_1)) :: (23, .d (.int .i64 right_1)) :: [], [some (.box [.d (.int .i64 r148.Modes), .d (.int .u8 r148.Accept), .d (.sl (List.map eGRule r148.Rules))]), some (.box [.d (.sl (List.map eI64 r149.1)), .d (.sl (List.map eI64 y77))]), some (.box [.d (.str x85.Print), .d (.sl (List.map eU8 x85.Cells)), .d (.int .u8 x85.Left), .d (.int .u8 x85.Right), .d (.int .i64 x85.From), .d (.int .i64 x85.To)])]⟩
def FSixdotlaw03_AutomatonContexts_L3_E (r147 : Bool) (r148 : GTable) (r149 : ((List Int) × Bool)) (y77 : (List Int)) (n_2 : Int) : (Bool × Int) → Ex → St → Prop := fun (y : (Bool × Int)) e s => e = Ex.exit 4 ∧ Shift s (f5_s7 r147 r148 r149 y77 n_2 y.1 y.2)
theorem FSixdotlaw03_AutomatonContexts_L3_ok {n : Nat} {r147 : Bool} {r148 : GTable} {r149 : ((List Int) × Bool)} {y77 : (List Int)} {n_2 : Int} (x : (Bool × Int × (List UInt8) × Int)) (z : ((Bool × Int × (List UInt8) × Int) ⊕ (Bool × Int))) (H : FSixdotlaw03_AutomatonContexts_L3 n r147 r148 r149 y77 n_2 x.1 x.2.1 x.2.2.1 x.2.2.2 = some z) : WP (cx 159) (bodyOf Try.f5) [1,1,1,1,1,1,1,0,1,0,0,1,0,0,1,0,1,0,0] (roundQ (fun (x : (Bool × Int × (List UInt8) × Int)) => f5_s6 r147 r148 r149 y77 n_2 x.1 x.2.1 x.2.2.1 x.2.2.2) (FSixdotlaw03_AutomatonContexts_L3_E r147 r148 r149 y77 n_2) z) (f5_s6 r147 r148 r149 y77 n_2 x.1 x.2.1 x.2.2.1 x.2.2.2) := by
  obtain ⟨fits_1, mode_1, before_1, i_30⟩ := x
  dsimp only [FSixdotlaw03_AutomatonContexts_L3] at H
  refine sq ?_
  refine sr ?_
  refine ck 2 ?_
  refine bx H fun x82 h339 H => ?_
  refine sp (at_idxV 1 0 2 h339) ?_
  refine sp (at_ldV (e1 := fun x => .sl (List.map eI64 x)) 1 0 2 (ty 33) h339) ?_
  refine sp (at_len eI64 x82) ?_
  refine ck 1 ?_
  refine en ?_
  refine cn H (fun H => ?_) (fun H => ?_)
  · refine sk ?_
    refine qz ?_
    refine sq ?_
    refine bk 5 ?_
    refine sr ?_
    refine ck 3 ?_
    refine bx H fun x83 h340 H => ?_
    refine sp (at_idxV 1 0 2 h340) ?_
    refine sp (at_ldV (e1 := fun x => .sl (List.map eI64 x)) 1 0 2 (ty 33) h340) ?_
    refine ck 1 ?_
    refine bx H fun x84 h341 H => ?_
    refine sp (at_idxD eI64 h341) ?_
    refine ck 1 ?_
    refine bx H fun x85 h342 H => ?_
    refine sp (at_idxD eGRule h342) ?_
    refine ck 4 ?_
    refine en ?_
    refine sq ?_
    refine sr ?_
    refine ck 3 ?_
    refine en ?_
    refine bk 6 ?_
    refine bx H fun y78 h348 H => ?_
    refine lp (fun (x : ((List UInt8) × Int)) => f5_s8 r147 r148 r149 y77 n_2 fits_1 mode_1 before_1 i_30 x85 x.1 x.2) (FSixdotlaw03_AutomatonContexts_L4_E r147 r148 r149 y77 n_2 fits_1 mode_1 before_1 i_30 x85) h348 (sh_gc [7,8,13,14,15,16,17,18,19,20,21] (by kernel_rfl)) (fun x z => FSixdotlaw03_AutomatonContexts_L4_ok x z) ?_
    intro e s hE62
    obtain ⟨rfl, hE62⟩ := hE62
    refine qH ?_
    refine qs (hE62) ?_
    refine sr ?_
    refine ck 2 ?_
    refine en ?_
    refine sj (fun (x : Int) => f5_s10 r147 r148 r149 y77 n_2 fits_1 mode_1 before_1 i_30 x85 y78 x) (fun (x : Int) => FSixdotlaw03_AutomatonContexts_J1 n fits_1 mode_1 before_1 i_30 x85 y78 x) z ?_ (fun hFSixdotlaw03_AutomatonContexts_J1 => ?_)
    · intro left_1 H
      dsimp only [FSixdotlaw03_AutomatonContexts_J1] at H
      refine sj (fun (x : Int) => f5_s11 r147 r148 r149 y77 n_2 fits_1 mode_1 before_1 i_30 x85 left_1 x) (fun (x : Int) => FSixdotlaw03_AutomatonContexts_J2 n fits_1 mode_1 before_1 i_30 x85 left_1 x) z ?_ (fun hFSixdotlaw03_AutomatonContexts_J2 => ?_)
      · intro right_1 H
        dsimp only [FSixdotlaw03_AutomatonContexts_J2] at H
        refine sr ?_
        refine ck 3 ?_
        refine gc 1 fits_1 ?_
        refine ck 1 ?_
        refine gc 1 fits_1 ?_
        refine pA ?_
        refine ck 2 ?_
        refine gc 1 (fits_1 && (x85.From == mode_1)) ?_
        refine ck 1 ?_
        refine bx H fun r150 h349 H => ?_
        refine cG false (leZ) rfl (fun hg => FSixdotref03_Bit_ok (gimp h349 hg)) (Or.inl rfl) (impK (fun hh => hh) (impK (fun hh => hh) (impZ))) rfl ?_
        refine pA ?_
        refine ck 2 ?_
        refine gc 1 ((fits_1 && (x85.From == mode_1)) && r150) ?_
        refine ck 1 ?_
        refine bx H fun r151 h350 H => ?_
        refine cG false (leZ) rfl (fun hg => FSixdotref03_Bit_ok (gimp h350 hg)) (Or.inl rfl) (impK (fun hh => hh) (impK (fun hh => hh) (impZ))) rfl ?_
        refine pA ?_
        refine ck 1 ?_
        refine en ?_
        refine sr ?_
        refine ck 3 ?_
        refine en ?_
        refine rz ?_
        refine ck 3 ?_
        refine bx H fun s7 h351 H => ?_
        refine sp (at_cat h351) ?_
        refine ck 1 ?_
        refine ae ?_
        refine qN ?_
        refine qz ?_
        refine rz ?_
        refine ck 3 ?_
        refine ae ?_
        cases H
        exact og (sh_gc [7,8,13,14,15,16,17,18] (by kernel_rfl))
      refine sr ?_
      refine ck 3 ?_
      refine en ?_
      refine cn H (fun H => ?_) (fun H => ?_)
      · refine rz ?_
        refine ck 1 ?_
        refine bx H fun b8 h352 H => ?_
        refine sp (at_sidx h352) ?_
        refine bx H fun r152 h353 H => ?_
        refine ca false (FSixdotref02_Class_ok h353) ?_
        refine ck 1 ?_
        refine ae ?_
        exact qs (sh_gc [7,8,13,14,15,16,17,18,19,22,23] (by kernel_rfl)) (hFSixdotlaw03_AutomatonContexts_J2 r152 H)
      · refine sk ?_
        exact qs (sh_gc [7,8,13,14,15,16,17,18,19,22,23] (by kernel_rfl)) (hFSixdotlaw03_AutomatonContexts_J2 0 H)
    refine sr ?_
    refine ck 3 ?_
    refine en ?_
    refine cn H (fun H => ?_) (fun H => ?_)
    · refine rz ?_
      refine ck 4 ?_
      refine bx H fun b9 h354 H => ?_
      refine sp (at_sidx h354) ?_
      refine bx H fun r153 h355 H => ?_
      refine ca false (FSixdotref02_Class_ok h355) ?_
      refine ck 1 ?_
      refine ae ?_
      exact qs (sh_gc [7,8,13,14,15,16,17,18,19,20,22,23] (by kernel_rfl)) (hFSixdotlaw03_AutomatonContexts_J1 r153 H)
    · refine sk ?_
      exact qs (sh_gc [7,8,13,14,15,16,17,18,19,20,22,23] (by kernel_rfl)) (hFSixdotlaw03_AutomatonContexts_J1 0 H)
  · refine ex 4 ?_
    refine qx ?_
    cases H
    exact oe ⟨rfl, sh_gc [7,8,13,14,15,16] (by kernel_rfl)⟩
def FSixdotlaw03_AutomatonContexts_L2_E (r147 : Bool) (r148 : GTable) (r149 : ((List Int) × Bool)) (y77 : (List Int)) : (Unit ⊕ Bool) → Ex → St → Prop := fun y => Sum.casesOn y (fun (y : Unit) e s => e = Ex.exit 2 ∧ Shift s (f5_s5 r147)) (fun (y : Bool) e s => e = Ex.ret ∧ RA ty (Try.f5).results.toList (.d (.bool y)) s)
theorem FSixdotlaw03_AutomatonContexts_L2_ok {n : Nat} {r147 : Bool} {r148 : GTable} {r149 : ((List Int) × Bool)} {y77 : (List Int)} (x : Int) (z : (Int ⊕ (Unit ⊕ Bool))) (H : FSixdotlaw03_AutomatonContexts_L2 n r147 r148 r149 y77 x = some z) : WP (cx 159) (bodyOf Try.f5) [1,1,1,1,1,1,1,0,1,0,0] (roundQ (fun (x : Int) => f5_s4 r147 r148 r149 y77 x) (FSixdotlaw03_AutomatonContexts_L2_E r147 r148 r149 y77) z) (f5_s4 r147 r148 r149 y77 x) := by
  revert H
  generalize x = n_2
  intro H
  dsimp only [FSixdotlaw03_AutomatonContexts_L2] at H
  refine sq ?_
  refine sr ?_
  refine ck 2 ?_
  refine en ?_
  refine cn H (fun H => ?_) (fun H => ?_)
  · refine sk ?_
    refine qz ?_
    refine sq ?_
    refine bk 3 ?_
    refine sr ?_
    refine ck 3 ?_
    refine en ?_
    refine sq ?_
    refine sr ?_
    refine ck 1 ?_
    refine en ?_
    refine bk 4 ?_
    refine bx H fun y79 h356 H => ?_
    refine lp (fun (x : (Bool × Int × (List UInt8) × Int)) => f5_s6 r147 r148 r149 y77 n_2 x.1 x.2.1 x.2.2.1 x.2.2.2) (FSixdotlaw03_AutomatonContexts_L3_E r147 r148 r149 y77 n_2) h356 (sh_gc [7,8,13,14,15,16,17,18] (by kernel_rfl)) (fun x z => FSixdotlaw03_AutomatonContexts_L3_ok x z) ?_
    intro e s hE63
    obtain ⟨rfl, hE63⟩ := hE63
    refine qH ?_
    refine qs (hE63) ?_
    refine sr ?_
    refine ck 2 ?_
    refine bx H fun x90 h357 H => ?_
    refine sp (at_idxV 1 0 2 h357) ?_
    refine sp (at_ldV (e1 := fun x => .sl (List.map eI64 x)) 1 0 2 (ty 33) h357) ?_
    refine bx H fun r154 h358 H => ?_
    refine ca false (FAutomaton_Run_ok h358) ?_
    refine ck 4 ?_
    refine gc 1 y79.1 ?_
    refine ck 1 ?_
    refine bx H fun r155 h359 H => ?_
    refine cG false (leZ) rfl (fun hg => FSixdotref03_Bit_ok (gimp h359 hg)) (Or.inl rfl) (impK (fun hh => hh) (impK (fun hh => hh) (impZ))) rfl ?_
    refine pA ?_
    refine ck 1 ?_
    refine en ?_
    refine cn H (fun H => ?_) (fun H => ?_)
    · refine sr ?_
      refine ck 1 ?_
      refine en ?_
      refine re ?_
      refine qR ?_
      refine qr ?_
      cases H
      exact or ⟨rfl, rd⟩
    · refine sk ?_
      refine qN ?_
      refine qz ?_
      refine rz ?_
      refine ck 3 ?_
      refine ae ?_
      cases H
      exact og (sh_gc [7,8,13,14] (by kernel_rfl))
  · refine ex 2 ?_
    refine qx ?_
    cases H
    exact oe ⟨rfl, sh_gc [7] (by kernel_rfl)⟩
theorem FSixdotlaw03_AutomatonContexts_ok {n : Nat} {p0_ : GRaw} {p1_ : (List Int)} {p2_ : (List Int)} {z : Bool} (H : FSixdotlaw03_AutomatonContexts n p0_ p1_ p2_ = some z) : CallOK Try.prog 5 [.agg [.d (.int .u8 p0_.Base), .d (.int .u8 p0_.Drop), .d (.sl (List.map eGRawRule p0_.More))], .d (.sl (List.map eU8 p1_)), .d (.sl (List.map eU8 p2_))] (.d (.bool z)) := by
  dsimp only [FSixdotlaw03_AutomatonContexts] at H
  refine fo (Γ := cx 159) (s := f5_s1 p0_ p1_ p2_) follows (cxOK 159) Try.func5 ?_
  refine sr ?_
  refine ck 2 ?_
  refine en ?_
  refine sr ?_
  refine bx H fun r147 h332 H => ?_
  refine ca true (FSixdotlaw03_sanity_ok h332) ?_
  refine ck 1 ?_
  refine en ?_
  refine sr ?_
  refine ck 1 ?_
  refine bx H fun r148 h333 H => ?_
  refine ca false (FSixdotref02_Made_ok h333) ?_
  refine ck 2 ?_
  refine en ?_
  refine sr ?_
  refine ck 2 ?_
  refine bx H fun r149 h334 H => ?_
  refine ca false (FSixdotref03_Walk_ok h334) ?_
  refine ck 5 ?_
  refine en ?_
  refine sr ?_
  refine ck 2 ?_
  refine en ?_
  refine sq ?_
  refine sr ?_
  refine ck 1 ?_
  refine en ?_
  refine bk 0 ?_
  refine bx H fun y77 h338 H => ?_
  refine lp (fun (x : ((List Int) × Int)) => f5_s2 p2_ r147 r148 r149 x.1 x.2) (FSixdotlaw03_AutomatonContexts_L1_E p2_ r147 r148 r149) h338 (sh_gc [2,7,8,9,11,12] (by kernel_rfl)) (fun x z => FSixdotlaw03_AutomatonContexts_L1_ok x z) ?_
  intro e s hE61
  obtain ⟨rfl, hE61⟩ := hE61
  refine qH ?_
  refine qs (hE61) ?_
  refine sr ?_
  refine ck 5 ?_
  refine en ?_
  refine sq ?_
  refine sr ?_
  refine ck 1 ?_
  refine en ?_
  refine bk 2 ?_
  refine bx H fun y80 h360 H => ?_
  rcases y80 with y81 | y82
  · refine lp (fun (x : Int) => f5_s4 r147 r148 r149 y77 x) (FSixdotlaw03_AutomatonContexts_L2_E r147 r148 r149 y77) h360 (Shift.trans (sh_frzc (k := 1) (sz := 1) 2 1 (List.map eI64 y77) (by kernel_rfl) take_all (by simp)) (sh_gc [7,8,13,14] (by kernel_rfl))) (fun x z => FSixdotlaw03_AutomatonContexts_L2_ok x z) ?_
    intro e s hE64
    obtain ⟨rfl, hE64⟩ := hE64
    refine qH ?_
    refine qs (hE64) ?_
    refine sr ?_
    refine ck 2 ?_
    refine en ?_
    refine re ?_
    injection H with H
    subst H
    exact pr (rd)
  · refine lp (fun (x : Int) => f5_s4 r147 r148 r149 y77 x) (FSixdotlaw03_AutomatonContexts_L2_E r147 r148 r149 y77) h360 (Shift.trans (sh_frzc (k := 1) (sz := 1) 2 1 (List.map eI64 y77) (by kernel_rfl) take_all (by simp)) (sh_gc [7,8,13,14] (by kernel_rfl))) (fun x z => FSixdotlaw03_AutomatonContexts_L2_ok x z) ?_
    intro e s hE65
    obtain ⟨rfl, hE65⟩ := hE65
    refine qR ?_
    refine qr ?_
    cases H
    exact pr hE65
end
end Go.AI
end
section
namespace Go.AI
def CRd (F : Nat → Option Obj) (l : List D) (cs : List Value) : Prop := l.length = cs.length ∧ ∀ (i : Nat) (y : D) (v : Value), l[i]? = some y → cs[i]? = some v → DRep F y v
def Reads {α : Type} (P : Program) (t : TypeId) (enc : α → List D) (ok : α → Prop) : Prop :=
  ∀ (H : Type) (e : TypeId × Value → H) (w : World) (base : Nat) (spare : Nat → Bool) (held : Bool) (fuel : Nat) (cs : List Value) (x : DataW H × List MemPlace), DataW.trod e P w base spare held fuel t cs = some x → ∃ a : α, ok a ∧ CRd (fun b => w.heap[b]?) (enc a) cs
theorem crd_one {F : Nat → Option Obj} {y : D} {v : Value} (h : DRep F y v) : CRd F [y] [v] := by
  refine ⟨rfl, fun i a b ha hb => ?_⟩
  cases i with
  | zero => simp at ha hb; subst ha; subst hb; exact h
  | succ i => simp at ha
theorem reads_int {P : Program} {t : TypeId} {k : IntKind} (ht : P.underlying t = some (.int k)) : Reads P t (fun n => [.int k n]) (fun n => (Lit.int k n).wf = true) := by
  intro H e w base spare held fuel cs x h
  obtain ⟨n, rfl, _, hw⟩ := DataW.trod_int ht h
  exact ⟨n, hw, crd_one (.int k n)⟩
theorem list_choose {α : Type} {Q : Nat → α → Prop} : ∀ n, (∀ i, i < n → ∃ a, Q i a) → ∃ l : List α, l.length = n ∧ ∀ i a, l[i]? = some a → Q i a := by
  intro n
  induction n with
  | zero => intro _; exact ⟨[], rfl, fun i a h => by simp at h⟩
  | succ n ih =>
    intro h
    obtain ⟨l, hl, hq⟩ := ih fun i hi => h i (by omega)
    obtain ⟨a, ha⟩ := h n (by omega)
    refine ⟨l ++ [a], by simp [hl], fun i b hb => ?_⟩
    rcases Nat.lt_or_ge i l.length with hlt | hge
    · rw [List.getElem?_append_left hlt] at hb; exact hq i b hb
    · rw [List.getElem?_append_right hge] at hb
      have : i - l.length = 0 := by have := getElem?_lt hb; simp at this; omega
      rw [this] at hb
      simp at hb
      subst hb
      have : i = n := by omega
      subst this
      exact ha
theorem mapM_get {α β : Type} {f : α → Option β} : ∀ {l : List α} {r : List β}, l.mapM f = some r → r.length = l.length ∧ ∀ (i : Nat) (a : α), l[i]? = some a → r[i]? = f a := by
  intro l
  induction l with
  | nil => intro r h; simp at h; subst h; exact ⟨rfl, fun i a h => by simp at h⟩
  | cons a l ih =>
    intro r h
    rw [List.mapM_cons] at h
    simp only [Option.bind_eq_bind, Option.bind_eq_some_iff, Option.pure_def, Option.some.injEq] at h
    obtain ⟨b, hb, r', hr', rfl⟩ := h
    obtain ⟨h1, h2⟩ := ih hr'
    refine ⟨by simp [h1], fun i x hx => ?_⟩
    cases i with
    | zero => simp at hx; subst hx; simp [hb]
    | succ i => simpa using h2 i x (by simpa using hx)
theorem reads_slice {α : Type} {P : Program} {t e : TypeId} {enc : α → List D} {ok : α → Prop} {sz : Nat} (ht : P.underlying t = some (.slice e)) (hsz : P.cellsOf e = sz) (h1 : Nat.ble 1 sz = true) (hl : ∀ a, (enc a).length = sz) (he : Reads P e enc ok) : Reads P t (eL enc) (fun l => ∀ a ∈ l, ok a) := by
  intro H en w base spare held fuel cs x h
  have h1 := Nat.le_of_ble_eq_true h1
  rcases DataW.trod_slice ht h with ⟨rfl, _⟩ | ⟨a, len, cap, elems, rest, n, _, rfl, _, _, hcap, _, hel, hget, _, _⟩
  · exact ⟨[], fun a h => by simp at h, crd_one (.sl0 _ _)⟩
  · rw [hsz] at hget
    have hex : ∀ i, i < len → ∃ y : α, ok y ∧ ∃ ci, w.cells? base (a.add (i * sz)) sz = some ci ∧ CRd (fun b => w.heap[b]?) (enc y) ci := fun i hi => by
      have hg := hget i hi
      rw [List.getElem?_eq_getElem (show i < elems.length by omega)] at hg
      simp only [Option.bind_eq_some_iff] at hg
      obtain ⟨ci, hc, htr⟩ := hg
      obtain ⟨y, hy, hcr⟩ := he H en w base spare held n ci _ htr
      exact ⟨y, hy, ci, hc, hcr⟩
    obtain ⟨l, hll, hq⟩ := list_choose len hex
    refine ⟨l, fun y hy => ?_, crd_one ?_⟩
    · obtain ⟨i, hi⟩ := List.mem_iff_getElem?.1 hy
      exact (hq i y hi).1
    · rcases Nat.eq_zero_or_pos len with h0 | hpos
      · have : l = [] := List.length_eq_zero_iff.1 (by omega)
        subst this; subst h0
        exact .sl0 _ _
      · -- the block
        have hcell : ∀ i y, l[i]? = some y → ∀ j, j < sz → ∃ v, w.cell? ((a.add (i * sz)).add j) = some v ∧ ∀ d, (enc y)[j]? = some d → DRep (fun b => w.heap[b]?) d v := fun i y hy j hj => by
          obtain ⟨_, ci, hc, hcr⟩ := hq i y hy
          unfold World.cells? at hc
          split at hc
          · obtain ⟨g1, g2⟩ := mapM_get hc
            have := g2 j j (by simp [hj])
            have hjc : j < ci.length := by rw [g1]; simpa using hj
            rw [List.getElem?_eq_getElem hjc] at this
            exact ⟨ci[j], this.symm, fun d hd => hcr.2 j d _ hd (List.getElem?_eq_getElem hjc)⟩
          · cases hc
        have h0 : l[0]? = some l[0] := List.getElem?_eq_getElem (by omega)
        obtain ⟨v0, hv0, _⟩ := hcell 0 _ h0 0 (by omega)
        have ha0 : (a.add (0 * sz)).add 0 = a := by simp [Addr.add]
        rw [ha0] at hv0
        obtain ⟨b, off, spot⟩ := a
        unfold World.cell? at hv0
        simp only at hv0
        split at hv0
        · rename_i c ty fr hblk
          cases spot with
          | some s => simp at hv0
          | none =>
            have hcell' : ∀ i y, l[i]? = some y → ∀ j d, (enc y)[j]? = some d → ∃ v, c[off + i * sz + j]? = some v ∧ DRep (fun b => w.heap[b]?) d v := fun i y hy j d hd => by
              have hj : j < sz := by rw [← hl y]; exact getElem?_lt hd
              obtain ⟨v, hv, hr⟩ := hcell i y hy j hj
              rw [add_none, add_none, cell_blk hblk] at hv
              exact ⟨v, hv, hr d hd⟩
            have hlen : (l.map enc).length = len := by simp [hll]
            have := DRep.sl (F := fun b => w.heap[b]?) (l.map enc) b off cap sz c ty fr (fun i j => (c[off + i * sz + j]?).getD undef) hblk (fun e he => by
                simp only [List.mem_map] at he
                obtain ⟨y, _, rfl⟩ := he
                exact hl y) (by omega) (fun i e hi j d hd => by
                simp only [List.getElem?_map, Option.map_eq_some_iff] at hi
                obtain ⟨y, hy, rfl⟩ := hi
                obtain ⟨v, hv, _⟩ := hcell' i y hy j d hd
                simp only [hv, Option.getD_some]) (fun i e hi j d hd => by
                simp only [List.getElem?_map, Option.map_eq_some_iff] at hi
                obtain ⟨y, hy, rfl⟩ := hi
                obtain ⟨v, hv, hr⟩ := hcell' i y hy j d hd
                simp only [hv, Option.getD_some]
                exact hr)
            rw [hlen] at this
            exact this
        · cases hv0
theorem crd_part {F : Nat → Option Obj} {l m : List D} {cs : List Value} {o n : Nat} (h : CRd F l ((cs.drop o).take n)) (hn : Nat.beq l.length n = true) (h' : CRd F m (cs.drop (o + n))) : CRd F (l ++ m) (cs.drop o) := by
  have hn := Nat.eq_of_beq_eq_true hn
  have e : cs.drop o = (cs.drop o).take n ++ cs.drop (o + n) := by rw [← List.drop_drop, List.take_append_drop]
  rw [e]
  refine ⟨by simp only [List.length_append, h.1, h'.1], fun i y v hy hv => ?_⟩
  rcases Nat.lt_or_ge i l.length with hlt | hge
  · rw [List.getElem?_append_left hlt] at hy
    rw [List.getElem?_append_left (by rw [← h.1]; exact hlt)] at hv
    exact h.2 i y v hy hv
  · rw [List.getElem?_append_right hge] at hy
    rw [List.getElem?_append_right (by rw [← h.1]; exact hge), ← h.1] at hv
    exact h'.2 _ y v hy hv
theorem crd_end {F : Nat → Option Obj} {cs : List Value} {o : Nat} (h : cs.length ≤ o) : CRd F [] (cs.drop o) := by
  rw [List.drop_eq_nil_of_le h]; exact ⟨rfl, fun i y v hy => by simp at hy⟩
theorem trod_array {H : Type} {enc : TypeId × Value → H} {P : Program} {w : World} {base : Nat} {spare : Nat → Bool} {held : Bool} {fuel : Nat} {t e : TypeId} {n : Nat} {cs : List Value} {x : DataW H × List MemPlace} (ht : P.underlying t = some (.array n e)) (h : DataW.trod enc P w base spare held fuel t cs = some x) :
    ∃ m, cs.length = P.cellsOf t ∧ ∀ i, i < n → ∃ y, DataW.trod enc P w base spare held m e ((cs.drop (i * P.cellsOf e)).take (P.cellsOf e)) = some y := by
  cases fuel with
  | zero => simp [DataW.trod] at h
  | succ m =>
    unfold DataW.trod at h
    rw [ht] at h
    split at h <;> simp_all
    obtain ⟨xs, hp, _⟩ := h.2
    refine ⟨m, fun i hi => ?_⟩
    obtain ⟨g1, g2⟩ := mapM_get hp
    have := g2 i i (by simp [hi])
    have hlt : i < xs.length := by rw [g1]; simpa using hi
    rw [List.getElem?_eq_getElem hlt] at this
    exact ⟨_, _, this.symm⟩
end Go.AI
end
section
namespace Go.AI
open Go.ChangeShapes Go.WideShapes Go.ChangeAt Go.RowKit
variable {P : Program} {H : Type} {en : TypeId × Value → H} {W W' : World} {base : Nat} {spare : Nat → Bool} {held : Bool} {t e : TypeId} {v : Value} {d : DataW H} {ps : List MemPlace} {α : Type} {enc : α → List D} {ok : α → Prop}
theorem arg_agg {cs : Array Value} (hv : v = .agg cs) (hd : DataW.Trod en P W base spare held t v d ps) (hr : Reads P t enc ok) : ∃ a, ok a ∧ ARep (fun b => W.heap[b]?) noR (.agg ((enc a).map .d)) v := by
  subst hv
  obtain ⟨fuel, hf⟩ := hd
  obtain ⟨a, h1, h2, h3⟩ := hr H en W base spare held fuel _ _ hf
  refine ⟨a, h1, .agg _ _ (by simpa [Value.cells] using h2) fun i x u hx hu => ?_⟩
  simp only [List.getElem?_map, Option.map_eq_some_iff] at hx
  obtain ⟨y, hy, rfl⟩ := hx
  exact .d _ _ (h3 i y u hy (by simpa [Value.cells] using hu))
theorem arg_one {y : α → D} (hc : v.cells = #[v]) (hd : DataW.Trod en P W base spare held t v d ps) (hr : Reads P t enc ok) (he : ∀ a, enc a = [y a]) : ∃ a, ok a ∧ ARep (fun b => W.heap[b]?) noR (.d (y a)) v := by
  obtain ⟨fuel, hf⟩ := hd
  obtain ⟨a, h1, h2, h3⟩ := hr H en W base spare held fuel _ _ hf
  refine ⟨a, h1, .d _ _ (h3 0 (y a) v (by rw [he]; rfl) (by rw [hc]; rfl))⟩
theorem cr_nil {F : Nat → Option Obj} {ρ : Nat → Option Loc} : CR F ρ [] [] := ⟨rfl, fun i a v h => by simp at h⟩
theorem cr_cons {F : Nat → Option Obj} {ρ : Nat → Option Loc} {a : AV} {v : Value} {l : List AV} {vs : List Value} (h : ARep F ρ a v) (h' : CR F ρ l vs) : CR F ρ (a :: l) (v :: vs) := by
  refine ⟨by simp [h'.1], fun i x u hx hu => ?_⟩
  cases i with
  | zero => simp at hx hu; subst hx; subst hu; exact h
  | succ i => exact h'.2 i x u (by simpa using hx) (by simpa using hu)
theorem fld {w : World} {fuel : Nat} {cs : List Value} {fs : Array Field} {xs : List (DataW H × List MemPlace)} (hg : ∀ (i : Nat) (f : Field), fs[i]? = some f → DataW.trod en P w base spare held fuel f.type ((cs.drop f.offset).take (P.cellsOf f.type)) = xs[i]?) (hxl : xs.length = fs.size) (i : Nat) {f : Field} (hf : fs[i]? = some f) (u o n : Nat) (hu : f.type = u) (ho : f.offset = o) (hn : P.cellsOf u = n) (hr : Reads P u enc ok) :
    ∃ a, ok a ∧ CRd (fun b => w.heap[b]?) (enc a) ((cs.drop o).take n) := by
  have := hg i f hf
  have hi : i < xs.length := by rw [hxl]; exact getElem?_ltA hf
  rw [List.getElem?_eq_getElem hi, hu, ho, hn] at this
  exact hr H en w base spare held fuel _ _ this
theorem fldA {w : World} {fuel : Nat} {cs : List Value} {m : Nat} (hg : ∀ i, i < m → ∃ y, DataW.trod en P w base spare held fuel e ((cs.drop (i * P.cellsOf e)).take (P.cellsOf e)) = some y) (i : Nat) (hi : Nat.ble (i + 1) m = true) (o n : Nat) (hn : P.cellsOf e = n) (ho : i * n = o) (hr : Reads P e enc ok) :
    ∃ a, ok a ∧ CRd (fun b => w.heap[b]?) (enc a) ((cs.drop o).take n) := by
  obtain ⟨y, hy⟩ := hg i (Nat.le_of_ble_eq_true hi)
  rw [hn, ho] at hy
  exact hr H en w base spare held fuel _ _ hy
theorem law_walk {f : FuncId} {args : List AV} {vs : Array Value} (hc : CallOK P f args (.d (.bool true))) (hcr : CR (fun b => W.heap[b]?) noR args vs.toList) : Calls P f vs W fun e W' => e = .returned (.bool true) ∧ Grown W W' ∧ ∀ b, b < W.heap.size → W'.heap[b]? = W.heap[b]? := by
  refine (hc.2 (fun b => W.heap[b]?) W vs hcr fun b o h => h).mono fun e W' h => ?_
  obtain ⟨v, F', ρ, rfl, hS, hr, hmu⟩ := h
  have hv : v = .bool true := by
    have : (impR true 0 (.d (.bool true))).1 = .d (.bool true) := rfl
    rw [this] at hr
    exact hr.bool
  subst hv
  have hold : ∀ b, b < W.heap.size → W'.heap[b]? = W.heap[b]? := fun b hb => hS.old b hb
  refine ⟨rfl, ⟨⟨hmu.1, hmu.2.1, fun i hi => ?_⟩, fun a => ?_, hS.size⟩, hold⟩
  · rw [hold i hi]
    cases hh : W.heap[i]? with
    | none => rfl
    | some o => cases o <;> first | exact ⟨rfl, rfl, rfl, fun _ _ => rfl⟩ | exact .inr ⟨rfl, rfl⟩ | rfl
  · by_cases hlt : a.block < W.heap.size
    · simp only [World.frozen?, hold _ hlt]
    · have h1 : W.frozen? a = false := by
        have : W.heap[a.block]? = none := by rw [Array.getElem?_eq_none_iff]; omega
        simp only [World.frozen?, this]
      rw [h1]
      cases hz : W'.frozen? a with
      | false => rfl
      | true => rw [hmu.2.2 a hz] at h1; cases h1
theorem stays (hl : laidOutB P = true) (hr : P.readableRec t = true) (hrow : t < P.types.size) (h : DataW.Trod en P W 0 (fun _ => true) true t v d ps) (hb : ∀ p ∈ ps, p.block < W.heap.size) {sp : Nat → Bool} (hs : ∀ p ∈ ps, sp p.block = true) (hold : ∀ b, b < W.heap.size → W'.heap[b]? = W.heap[b]?) : DataW.Trod en P W' 0 sp true t v d ps := by
  refine WideElems.Trod_stays hl hr hrow h (fun p hp => ?_) hs
  have := hb p hp
  cases p with
  | cell b o => exact World.cell?_of_block (w := W) (hold b this)
  | map b => exact hold b this
end Go.AI
end
section
namespace Go.AI
open Go.Proofs Go.ChangeShapes Go.WideShapes Go.ChangeAt Go.RowKit
def okI (k : IntKind) (n : Int) : Prop := (Lit.int k n).wf = true
theorem rd5 : Reads Try.prog 5 eU8 (okI .u8) := reads_int Try.underlying5
theorem rd50 : Reads Try.prog 50 (eL eU8) (fun l => ∀ a ∈ l, okI .u8 a) := reads_slice (sz := 1) Try.underlying50 (by kernel_rfl) rfl (fun _ => rfl) rd5
theorem rd67 : Reads Try.prog 67 (eArr2 eU8) (fun x => okI .u8 x.a0 ∧ okI .u8 x.a1) := by
  intro H e w base spare held fuel cs x h
  obtain ⟨m, hcl, hg⟩ := trod_array Try.underlying67 h
  have hcl : cs.length = 2 := hcl.trans (by kernel_rfl)
  obtain ⟨a0, k0, c0⟩ := fldA hg 0 rfl 0 1 (by kernel_rfl) rfl rd5
  obtain ⟨a1, k1, c1⟩ := fldA hg 1 rfl 1 1 (by kernel_rfl) rfl rd5
  refine ⟨⟨a0, a1⟩, ⟨k0, k1⟩, ?_⟩
  have := crd_part c0 rfl (crd_part c1 rfl (crd_end (Nat.le_of_eq hcl)))
  exact this
def okGRawRule (x : GRawRule) : Prop := (∀ a ∈ x.P, okI .u8 a) ∧ (∀ a ∈ x.C, okI .u8 a) ∧ okI .u8 x.L ∧ okI .u8 x.R ∧ (okI .u8 x.W.a0 ∧ okI .u8 x.W.a1)
theorem rd69 : Reads Try.prog 69 eGRawRule okGRawRule := by
  intro H e w base spare held fuel cs x h
  obtain ⟨xs, n, _, _, hcl, hxl, hg⟩ := DataW.trod_struct Try.underlying69 h
  have hcl : cs.length = 6 := hcl.trans (by kernel_rfl)
  obtain ⟨a0, k0, c0⟩ := fld hg hxl 0 rfl 50 0 1 rfl rfl (by kernel_rfl) rd50
  obtain ⟨a1, k1, c1⟩ := fld hg hxl 1 rfl 50 1 1 rfl rfl (by kernel_rfl) rd50
  obtain ⟨a2, k2, c2⟩ := fld hg hxl 2 rfl 5 2 1 rfl rfl (by kernel_rfl) rd5
  obtain ⟨a3, k3, c3⟩ := fld hg hxl 3 rfl 5 3 1 rfl rfl (by kernel_rfl) rd5
  obtain ⟨a4, k4, c4⟩ := fld hg hxl 4 rfl 67 4 2 rfl rfl (by kernel_rfl) rd67
  refine ⟨⟨a0, a1, a2, a3, a4⟩, ⟨k0, k1, k2, k3, k4⟩, ?_⟩
  have := crd_part c0 rfl (crd_part c1 rfl (crd_part c2 rfl (crd_part c3 rfl (crd_part c4 rfl (crd_end (Nat.le_of_eq hcl))))))
  exact this
theorem rd22 : Reads Try.prog 22 (eL eGRawRule) (fun l => ∀ a ∈ l, okGRawRule a) := reads_slice (sz := 6) Try.underlying22 (by kernel_rfl) rfl (fun _ => rfl) rd69
def okGRaw (x : GRaw) : Prop := okI .u8 x.Base ∧ okI .u8 x.Drop ∧ (∀ a ∈ x.More, okGRawRule a)
theorem rd24 : Reads Try.prog 24 eGRaw okGRaw := by
  intro H e w base spare held fuel cs x h
  obtain ⟨xs, n, _, _, hcl, hxl, hg⟩ := DataW.trod_struct Try.underlying24 h
  have hcl : cs.length = 3 := hcl.trans (by kernel_rfl)
  obtain ⟨a0, k0, c0⟩ := fld hg hxl 0 rfl 5 0 1 rfl rfl (by kernel_rfl) rd5
  obtain ⟨a1, k1, c1⟩ := fld hg hxl 1 rfl 5 1 1 rfl rfl (by kernel_rfl) rd5
  obtain ⟨a2, k2, c2⟩ := fld hg hxl 2 rfl 22 2 1 rfl rfl (by kernel_rfl) rd22
  refine ⟨⟨a0, a1, a2⟩, ⟨k0, k1, k2⟩, ?_⟩
  have := crd_part c0 rfl (crd_part c1 rfl (crd_part c2 rfl (crd_end (Nat.le_of_eq hcl))))
  exact this
end Go.AI
end
section
namespace Go.AI
def Le {α : Type} (a b : Option α) : Prop := ∀ z, a = some z → b = some z
theorem Le.refl {α : Type} (a : Option α) : Le a a := fun _ h => h
theorem Le.bind {α β : Type} {a a' : Option α} {f f' : α → Option β} (h : Le a a') (hf : ∀ x, Le (f x) (f' x)) : Le (a.bind f) (a'.bind f') := by
  intro z hz
  obtain ⟨x, h1, h2⟩ := bind_some hz
  rw [h x h1]
  exact hf x z h2
theorem Le.ite {α : Type} {c : Prop} [Decidable c] {a a' b b' : Option α} (h : Le a a') (h' : Le b b') : Le (if c then a else b) (if c then a' else b') := by
  split
  · exact h
  · exact h'
theorem Le.whl {σ ρ : Type} {body body' : σ → Option (σ ⊕ ρ)} (hb : ∀ x, Le (body x) (body' x)) : ∀ {n m : Nat}, n ≤ m → ∀ x, Le (whl body n x) (whl body' m x) := by
  intro n
  induction n with
  | zero => intro m _ x z hz; cases hz
  | succ n ih =>
    intro m hm x z hz
    cases m with
    | zero => omega
    | succ m =>
      simp only [Go.AI.whl] at hz ⊢
      cases hx : body x with
      | none => rw [hx] at hz; cases hz
      | some y =>
        rw [hb x y hx]
        rw [hx] at hz
        cases y with
        | inl y => exact ih (by omega) y z hz
        | inr r => exact hz
theorem Le.sum {α β γ : Type} {y : α ⊕ β} {f f' : α → Option γ} {g g' : β → Option γ} (hf : ∀ a, Le (f a) (f' a)) (hg : ∀ b, Le (g b) (g' b)) : Le (match y with | .inl a => f a | .inr b => g b) (match y with | .inl a => f' a | .inr b => g' b) := by
  cases y with
  | inl a => exact hf a
  | inr b => exact hg b
def Ev {α : Type} (f : Nat → Option α) (z : α) : Prop := ∃ n, ∀ m, n ≤ m → f m = some z
theorem Ev.const {α : Type} {z : α} : Ev (fun _ => some z) z := ⟨0, fun _ _ => rfl⟩
theorem Ev.of {α : Type} {f : Nat → Option α} {z : α} (hm : ∀ n m, n ≤ m → Le (f n) (f m)) {n : Nat} (h : f n = some z) : Ev f z := ⟨n, fun m hnm => hm n m hnm z h⟩
theorem Ev.all {α : Type} {f : Nat → Option α} {z : α} (h : ∀ n, f n = some z) : Ev f z := ⟨0, fun m _ => h m⟩
theorem Ev.bind {α β : Type} {f : Nat → Option α} {g : Nat → α → Option β} {x : α} {z : β} (h : Ev f x) (hg : Ev (fun n => g n x) z) : Ev (fun n => (f n).bind (g n)) z := by
  obtain ⟨n, hn⟩ := h
  obtain ⟨m, hm⟩ := hg
  refine ⟨max n m, fun k hk => ?_⟩
  show (f k).bind (g k) = _
  rw [hn k (by omega)]
  exact hm k (by omega)
theorem Ev.out {α : Type} {f : Nat → Option α} {z : α} (h : Ev f z) : ∃ n, f n = some z := by
  obtain ⟨n, hn⟩ := h
  exact ⟨n, hn n (Nat.le_refl n)⟩
theorem Ev.congr {α : Type} {f g : Nat → Option α} {z : α} (h : Ev f z) (e : ∀ n, g n = f n) : Ev g z := by
  obtain ⟨n, hn⟩ := h
  exact ⟨n, fun m hm => by rw [e m]; exact hn m hm⟩
theorem Ev.whl {σ ρ : Type} {body : Nat → σ → Option (σ ⊕ ρ)} {r : ρ} (I : Nat → σ → Prop) (h : ∀ k x, I k x → (∃ y j, j < k ∧ I j y ∧ Ev (fun n => body n x) (.inl y)) ∨ Ev (fun n => body n x) (.inr r)) : ∀ (k : Nat) (x : σ), I k x → Ev (fun n => Go.AI.whl (body n) n x) r := by
  have key : ∀ (k : Nat) (x : σ), I k x → ∃ N c, ∀ n fuel, N ≤ n → c ≤ fuel → Go.AI.whl (body n) fuel x = some r := by
    intro k
    induction k using Nat.strongRecOn with
    | _ k ih =>
      intro x hx
      rcases h k x hx with ⟨y, j, hj, hy, N1, h1⟩ | ⟨N1, h1⟩
      · obtain ⟨N2, c, h2⟩ := ih j hj y hy
        refine ⟨max N1 N2, c + 1, fun n fuel hn hf => ?_⟩
        cases fuel with
        | zero => omega
        | succ fuel =>
          have e := h1 n (by omega)
          simp only at e
          simp only [Go.AI.whl, e]
          exact h2 n fuel (by omega) (by omega)
      · refine ⟨N1, 1, fun n fuel hn hf => ?_⟩
        cases fuel with
        | zero => omega
        | succ fuel =>
          have e := h1 n hn
          simp only at e
          simp only [Go.AI.whl, e]
  intro k x hx
  obtain ⟨N, c, hh⟩ := key k x hx
  exact ⟨max N c, fun m hm => hh m m (by omega) (by omega)⟩
end Go.AI
end
section
namespace Go.AI
theorem FSixdotlaw03_rule_le {n m : Nat} (h : n ≤ m) (p0_ : _) (p1_ : _) (p2_ : _) : Le (FSixdotlaw03_rule n p0_ p1_ p2_) (FSixdotlaw03_rule m p0_ p1_ p2_) := by
  unfold FSixdotlaw03_rule
  repeat first | exact Le.refl _ | refine Le.bind ?_ fun _ => ?_ | refine Le.ite ?_ ?_ | refine Le.whl (fun _ => ?_) h _ | refine Le.sum (fun _ => ?_) (fun _ => ?_) | split
theorem FAutomaton_Start_le {n m : Nat} (h : n ≤ m) : Le (FAutomaton_Start n) (FAutomaton_Start m) := by
  unfold FAutomaton_Start
  repeat first | exact Le.refl _ | refine Le.bind ?_ fun _ => ?_ | refine Le.ite ?_ ?_ | refine Le.whl (fun _ => ?_) h _ | refine Le.sum (fun _ => ?_) (fun _ => ?_) | split
theorem FAutomaton_has_le {n m : Nat} (h : n ≤ m) (p0_ : _) (p1_ : _) : Le (FAutomaton_has n p0_ p1_) (FAutomaton_has m p0_ p1_) := by
  unfold FAutomaton_has
  repeat first | exact Le.refl _ | refine Le.bind ?_ fun _ => ?_ | refine Le.ite ?_ ?_ | refine Le.whl (fun _ => ?_) h _ | refine Le.sum (fun _ => ?_) (fun _ => ?_) | split
theorem FTable_Class_le {n m : Nat} (h : n ≤ m) (p0_ : _) : Le (FTable_Class n p0_) (FTable_Class m p0_) := by
  unfold FTable_Class
  repeat first | exact Le.refl _ | refine Le.bind ?_ fun _ => ?_ | refine Le.ite ?_ ?_ | refine Le.whl (fun _ => ?_) h _ | refine Le.sum (fun _ => ?_) (fun _ => ?_) | split
theorem FAutomaton_Step_le {n m : Nat} (h : n ≤ m) (p0_ : _) (p1_ : _) (p2_ : _) : Le (FAutomaton_Step n p0_ p1_ p2_) (FAutomaton_Step m p0_ p1_ p2_) := by
  unfold FAutomaton_Step
  repeat first | exact Le.refl _ | exact FAutomaton_has_le h _ _ | exact FTable_Class_le h _ | refine Le.bind ?_ fun _ => ?_ | refine Le.ite ?_ ?_ | refine Le.whl (fun _ => ?_) h _ | refine Le.sum (fun _ => ?_) (fun _ => ?_) | split
theorem FAutomaton_Accepts_le {n m : Nat} (h : n ≤ m) (p0_ : _) (p1_ : _) : Le (FAutomaton_Accepts n p0_ p1_) (FAutomaton_Accepts m p0_ p1_) := by
  unfold FAutomaton_Accepts
  repeat first | exact Le.refl _ | exact FAutomaton_has_le h _ _ | refine Le.bind ?_ fun _ => ?_ | refine Le.ite ?_ ?_ | refine Le.whl (fun _ => ?_) h _ | refine Le.sum (fun _ => ?_) (fun _ => ?_) | split
theorem FAutomaton_Run_L1_le {n m : Nat} (h : n ≤ m) (p0_ : _) (p1_ : _) (text_1 : _) (cells_1 : _) (s_1 : _) (at_1 : _) (x_1 : _) : Le (FAutomaton_Run_L1 n p0_ p1_ text_1 cells_1 s_1 at_1 x_1) (FAutomaton_Run_L1 m p0_ p1_ text_1 cells_1 s_1 at_1 x_1) := by
  unfold FAutomaton_Run_L1
  repeat first | exact Le.refl _ | exact FAutomaton_Step_le h _ _ _ | refine Le.bind ?_ fun _ => ?_ | refine Le.ite ?_ ?_ | refine Le.whl (fun _ => ?_) h _ | refine Le.sum (fun _ => ?_) (fun _ => ?_) | split
theorem FAutomaton_Run_le {n m : Nat} (h : n ≤ m) (p0_ : _) (p1_ : _) : Le (FAutomaton_Run n p0_ p1_) (FAutomaton_Run m p0_ p1_) := by
  unfold FAutomaton_Run
  repeat first | exact Le.refl _ | exact FAutomaton_Start_le h | exact FAutomaton_Accepts_le h _ _ | exact FAutomaton_Run_L1_le h _ _ _ _ _ _ _ | refine Le.bind ?_ fun _ => ?_ | refine Le.ite ?_ ?_ | refine Le.whl (fun _ => ?_) h _ | refine Le.sum (fun _ => ?_) (fun _ => ?_) | split
theorem FAutomaton_explore_J1_le {n m : Nat} (h : n ≤ m) (x_2 : _) (states_5 : _) (from_5 : _) (number_4 : _) : Le (FAutomaton_explore_J1 n x_2 states_5 from_5 number_4) (FAutomaton_explore_J1 m x_2 states_5 from_5 number_4) := by
  unfold FAutomaton_explore_J1
  repeat first | exact Le.refl _ | refine Le.bind ?_ fun _ => ?_ | refine Le.ite ?_ ?_ | refine Le.whl (fun _ => ?_) h _ | refine Le.sum (fun _ => ?_) (fun _ => ?_) | split
theorem FAutomaton_explore_J2_le {n m : Nat} (h : n ≤ m) (k_1 : _) (x_2 : _) (states_6 : _) (from_6 : _) (number_5 : _) (n_1 : _) : Le (FAutomaton_explore_J2 n k_1 x_2 states_6 from_6 number_5 n_1) (FAutomaton_explore_J2 m k_1 x_2 states_6 from_6 number_5 n_1) := by
  unfold FAutomaton_explore_J2
  repeat first | exact Le.refl _ | exact FAutomaton_explore_J1_le h _ _ _ _ | refine Le.bind ?_ fun _ => ?_ | refine Le.ite ?_ ?_ | refine Le.whl (fun _ => ?_) h _ | refine Le.sum (fun _ => ?_) (fun _ => ?_) | split
theorem FAutomaton_explore_L2_le {n m : Nat} (h : n ≤ m) (p0_ : _) (k_1 : _) (states_3 : _) (from_3 : _) (number_2 : _) (x_2 : _) : Le (FAutomaton_explore_L2 n p0_ k_1 states_3 from_3 number_2 x_2) (FAutomaton_explore_L2 m p0_ k_1 states_3 from_3 number_2 x_2) := by
  unfold FAutomaton_explore_L2
  repeat first | exact Le.refl _ | exact FAutomaton_Step_le h _ _ _ | exact FAutomaton_explore_J1_le h _ _ _ _ | exact FAutomaton_explore_J2_le h _ _ _ _ _ _ | refine Le.bind ?_ fun _ => ?_ | refine Le.ite ?_ ?_ | refine Le.whl (fun _ => ?_) h _ | refine Le.sum (fun _ => ?_) (fun _ => ?_) | split
theorem FAutomaton_explore_L1_le {n m : Nat} (h : n ≤ m) (p0_ : _) (states_1 : _) (from_1 : _) (number_1 : _) (k_1 : _) : Le (FAutomaton_explore_L1 n p0_ states_1 from_1 number_1 k_1) (FAutomaton_explore_L1 m p0_ states_1 from_1 number_1 k_1) := by
  unfold FAutomaton_explore_L1
  repeat first | exact Le.refl _ | exact FAutomaton_explore_L2_le h _ _ _ _ _ _ | refine Le.bind ?_ fun _ => ?_ | refine Le.ite ?_ ?_ | refine Le.whl (fun _ => ?_) h _ | refine Le.sum (fun _ => ?_) (fun _ => ?_) | split
theorem FAutomaton_explore_le {n m : Nat} (h : n ≤ m) (p0_ : _) : Le (FAutomaton_explore n p0_) (FAutomaton_explore m p0_) := by
  unfold FAutomaton_explore
  repeat first | exact Le.refl _ | exact FAutomaton_Start_le h | exact FAutomaton_explore_L1_le h _ _ _ _ _ | refine Le.bind ?_ fun _ => ?_ | refine Le.ite ?_ ?_ | refine Le.whl (fun _ => ?_) h _ | refine Le.sum (fun _ => ?_) (fun _ => ?_) | split
theorem FAutomaton_States_le {n m : Nat} (h : n ≤ m) (p0_ : _) : Le (FAutomaton_States n p0_) (FAutomaton_States m p0_) := by
  unfold FAutomaton_States
  repeat first | exact Le.refl _ | exact FAutomaton_explore_le h _ | refine Le.bind ?_ fun _ => ?_ | refine Le.ite ?_ ?_ | refine Le.whl (fun _ => ?_) h _ | refine Le.sum (fun _ => ?_) (fun _ => ?_) | split
theorem FAutomaton_Alive_J1_le {n m : Nat} (h : n ≤ m) (x_3 : _) (alive_3 : _) (open_3 : _) : Le (FAutomaton_Alive_J1 n x_3 alive_3 open_3) (FAutomaton_Alive_J1 m x_3 alive_3 open_3) := by
  unfold FAutomaton_Alive_J1
  repeat first | exact Le.refl _ | refine Le.bind ?_ fun _ => ?_ | refine Le.ite ?_ ?_ | refine Le.whl (fun _ => ?_) h _ | refine Le.sum (fun _ => ?_) (fun _ => ?_) | split
theorem FAutomaton_Alive_L1_le {n m : Nat} (h : n ≤ m) (p0_ : _) (r13 : _) (alive_1 : _) (open_1 : _) (x_3 : _) : Le (FAutomaton_Alive_L1 n p0_ r13 alive_1 open_1 x_3) (FAutomaton_Alive_L1 m p0_ r13 alive_1 open_1 x_3) := by
  unfold FAutomaton_Alive_L1
  repeat first | exact Le.refl _ | exact FAutomaton_Accepts_le h _ _ | exact FAutomaton_Alive_J1_le h _ _ _ | refine Le.bind ?_ fun _ => ?_ | refine Le.ite ?_ ?_ | refine Le.whl (fun _ => ?_) h _ | refine Le.sum (fun _ => ?_) (fun _ => ?_) | split
theorem FAutomaton_Alive_J2_le {n m : Nat} (h : n ≤ m) (x_4 : _) (alive_8 : _) (open_7 : _) : Le (FAutomaton_Alive_J2 n x_4 alive_8 open_7) (FAutomaton_Alive_J2 m x_4 alive_8 open_7) := by
  unfold FAutomaton_Alive_J2
  repeat first | exact Le.refl _ | refine Le.bind ?_ fun _ => ?_ | refine Le.ite ?_ ?_ | refine Le.whl (fun _ => ?_) h _ | refine Le.sum (fun _ => ?_) (fun _ => ?_) | split
theorem FAutomaton_Alive_L3_le {n m : Nat} (h : n ≤ m) (r13 : _) (x10 : _) (alive_6 : _) (open_5 : _) (x_4 : _) : Le (FAutomaton_Alive_L3 n r13 x10 alive_6 open_5 x_4) (FAutomaton_Alive_L3 m r13 x10 alive_6 open_5 x_4) := by
  unfold FAutomaton_Alive_L3
  repeat first | exact Le.refl _ | exact FAutomaton_Alive_J2_le h _ _ _ | refine Le.bind ?_ fun _ => ?_ | refine Le.ite ?_ ?_ | refine Le.whl (fun _ => ?_) h _ | refine Le.sum (fun _ => ?_) (fun _ => ?_) | split
theorem FAutomaton_Alive_L2_le {n m : Nat} (h : n ≤ m) (r13 : _) (alive_4 : _) (open_4 : _) : Le (FAutomaton_Alive_L2 n r13 alive_4 open_4) (FAutomaton_Alive_L2 m r13 alive_4 open_4) := by
  unfold FAutomaton_Alive_L2
  repeat first | exact Le.refl _ | exact FAutomaton_Alive_L3_le h _ _ _ _ _ | refine Le.bind ?_ fun _ => ?_ | refine Le.ite ?_ ?_ | refine Le.whl (fun _ => ?_) h _ | refine Le.sum (fun _ => ?_) (fun _ => ?_) | split
theorem FAutomaton_Alive_le {n m : Nat} (h : n ≤ m) (p0_ : _) : Le (FAutomaton_Alive n p0_) (FAutomaton_Alive m p0_) := by
  unfold FAutomaton_Alive
  repeat first | exact Le.refl _ | exact FAutomaton_explore_le h _ | exact FAutomaton_Alive_L1_le h _ _ _ _ _ | exact FAutomaton_Alive_L2_le h _ _ _ | refine Le.bind ?_ fun _ => ?_ | refine Le.ite ?_ ?_ | refine Le.whl (fun _ => ?_) h _ | refine Le.sum (fun _ => ?_) (fun _ => ?_) | split
theorem FSixdotref02_SameCells_L1_le {n m : Nat} (h : n ≤ m) (p0_ : _) (p1_ : _) (i_1 : _) : Le (FSixdotref02_SameCells_L1 n p0_ p1_ i_1) (FSixdotref02_SameCells_L1 m p0_ p1_ i_1) := by
  unfold FSixdotref02_SameCells_L1
  repeat first | exact Le.refl _ | refine Le.bind ?_ fun _ => ?_ | refine Le.ite ?_ ?_ | refine Le.whl (fun _ => ?_) h _ | refine Le.sum (fun _ => ?_) (fun _ => ?_) | split
theorem FSixdotref02_SameCells_le {n m : Nat} (h : n ≤ m) (p0_ : _) (p1_ : _) : Le (FSixdotref02_SameCells n p0_ p1_) (FSixdotref02_SameCells m p0_ p1_) := by
  unfold FSixdotref02_SameCells
  repeat first | exact Le.refl _ | exact FSixdotref02_SameCells_L1_le h _ _ _ | refine Le.bind ?_ fun _ => ?_ | refine Le.ite ?_ ?_ | refine Le.whl (fun _ => ?_) h _ | refine Le.sum (fun _ => ?_) (fun _ => ?_) | split
theorem FSixdotlaw03_sanity_L1_le {n m : Nat} (h : n ≤ m) (r15 : _) (r16 : _) (r17 : _) (r18 : _) (r20 : _) (r21 : _) (r22 : _) (r23 : _) (r24 : _) (r25 : _) (r26 : _) (r27 : _) (i_2 : _) : Le (FSixdotlaw03_sanity_L1 n r15 r16 r17 r18 r20 r21 r22 r23 r24 r25 r26 r27 i_2) (FSixdotlaw03_sanity_L1 m r15 r16 r17 r18 r20 r21 r22 r23 r24 r25 r26 r27 i_2) := by
  unfold FSixdotlaw03_sanity_L1
  repeat first | exact Le.refl _ | refine Le.bind ?_ fun _ => ?_ | refine Le.ite ?_ ?_ | refine Le.whl (fun _ => ?_) h _ | refine Le.sum (fun _ => ?_) (fun _ => ?_) | split
theorem FSixdotlaw03_sanity_le {n m : Nat} (h : n ≤ m) : Le (FSixdotlaw03_sanity n) (FSixdotlaw03_sanity m) := by
  unfold FSixdotlaw03_sanity
  repeat first | exact Le.refl _ | exact FSixdotlaw03_rule_le h _ _ _ | exact FAutomaton_Start_le h | exact FAutomaton_Step_le h _ _ _ | exact FAutomaton_Accepts_le h _ _ | exact FAutomaton_Run_le h _ _ | exact FAutomaton_States_le h _ | exact FAutomaton_Alive_le h _ | exact FSixdotref02_SameCells_le h _ _ | exact FSixdotlaw03_sanity_L1_le h _ _ _ _ _ _ _ _ _ _ _ _ _ | refine Le.bind ?_ fun _ => ?_ | refine Le.ite ?_ ?_ | refine Le.whl (fun _ => ?_) h _ | refine Le.sum (fun _ => ?_) (fun _ => ?_) | split
end Go.AI
end
section
namespace Go.AI
theorem wrap64_def (a : Int) : IntKind.i64.wrap a = if decide (a % 18446744073709551616 ≥ 9223372036854775808) = true then a % 18446744073709551616 - 18446744073709551616 else a % 18446744073709551616 := rfl
theorem wrap8_def (a : Int) : IntKind.u8.wrap a = a % 256 := rfl
theorem wrap64 {a : Int} (h : -9223372036854775808 ≤ a) (h' : a < 9223372036854775808) : IntKind.i64.wrap a = a := by
  rw [wrap64_def]
  split
  · rename_i hc; simp at hc; omega
  · rename_i hc; simp at hc; omega
theorem iadd64 {a b : Int} (h : -9223372036854775808 ≤ a + b) (h' : a + b < 9223372036854775808) : iadd .i64 a b = a + b := wrap64 h h'
theorem isub64 {a b : Int} (h : -9223372036854775808 ≤ a - b) (h' : a - b < 9223372036854775808) : isub .i64 a b = a - b := wrap64 h h'
theorem wrap8 {a : Int} (h : 0 ≤ a) (h' : a < 256) : IntKind.u8.wrap a = a := by
  rw [wrap8_def]; omega
theorem wrap8_range (a : Int) : 0 ≤ IntKind.u8.wrap a ∧ IntKind.u8.wrap a < 256 := by
  rw [wrap8_def]; omega
def hasS (m k : Int) : Bool := decide (0 ≤ k) && decide (k < 8) && (iand .u8 (ishr .u8 m k) 1 == 1)
theorem has_eq (n : Nat) (m k : Int) : FAutomaton_has n m k = some (hasS m k) := by
  unfold FAutomaton_has hasS
  by_cases h : 0 ≤ k
  · by_cases h' : k < 8 <;> simp [h, h', guardB]
  · simp [h]
theorem bit_eq (n : Nat) (m k : Int) : FSixdotref03_Bit n m k = some (hasS m k) := by
  unfold FSixdotref03_Bit hasS
  by_cases h : 0 ≤ k
  · by_cases h' : k < 8 <;> simp [h, h', guardB]
  · simp [h]
def classS (b : Int) : Int :=
  if (decide (97 ≤ iand .u8 b 127) && decide (iand .u8 b 127 ≤ 122)) = true then 1
  else if (decide (65 ≤ iand .u8 b 127) && decide (iand .u8 b 127 ≤ 90)) = true then 2
  else if (decide (48 ≤ iand .u8 b 127) && decide (iand .u8 b 127 ≤ 57)) = true then 3
  else if (iand .u8 b 127 == 32) = true then 4 else 5
theorem class_eq (n : Nat) (b : Int) : FTable_Class n b = some (classS b) := by
  unfold FTable_Class classS
  split
  · rfl
  · split
    · rfl
    · split
      · rfl
      · split <;> rfl
theorem class2_eq (n : Nat) (b : Int) : FSixdotref02_Class n b = some (classS b) := by
  unfold FSixdotref02_Class classS
  simp only [ge_iff_le]
  split
  · rfl
  · split
    · rfl
    · split
      · rfl
      · split <;> rfl
theorem class_range (b : Int) : 1 ≤ classS b ∧ classS b ≤ 5 := by
  unfold classS
  split
  · omega
  · split
    · omega
    · split
      · omega
      · split <;> omega
def byteS (s : List UInt8) (i : Nat) : Int := (s[i]?.getD 0).toNat
theorem sidx_eq {s : List UInt8} {i : Nat} (h : i < s.length) : sidx s (i : Int) = some (byteS s i) := by
  unfold sidx byteS
  rw [if_pos (by omega)]
  simp
def noneS : GState := ⟨0, 0, 0⟩
def stepR (r : GRule) (s : GState) : GState × Bool :=
  if ((r.From != s.Mode) || !hasS r.Left s.Last) = true then (noneS, false)
  else if (r.Print == []) = true then
    (if (iand .u8 s.Need r.Right == 0) = true then (noneS, false) else (⟨r.To, s.Last, iand .u8 s.Need r.Right⟩, true))
  else if (!hasS s.Need (classS (byteS r.Print 0))) = true then (noneS, false)
  else (⟨r.To, classS (byteS r.Print (r.Print.length - 1)), r.Right⟩, true)
def stepS (t : GTable) (s : GState) (k : Int) : GState × Bool :=
  if (decide (k < 0) || decide (k ≥ (t.Rules.length : Int))) = true then (noneS, false) else stepR (t.Rules[k.toNat]?.getD default) s
def Short (t : GTable) : Prop := ∀ r ∈ t.Rules, r.Print.length < 9223372036854775808
theorem idx_getD {α : Type} [Inhabited α] {l : List α} {k : Int} (h : 0 ≤ k) (h' : k < l.length) : idx l k = some (l[k.toNat]?.getD default) := by
  unfold idx
  rw [if_pos h]
  have : k.toNat < l.length := by omega
  simp [this]
theorem step_eq {t : GTable} (ht : Short t) (n : Nat) (s : GState) (k : Int) : FAutomaton_Step n t s k = some (stepS t s k) := by
  unfold FAutomaton_Step stepS
  by_cases hk : (decide (k < 0) || decide (k ≥ (t.Rules.length : Int))) = true
  · rw [if_pos hk, if_pos hk]; rfl
  · rw [if_neg hk, if_neg hk]
    simp only [Bool.or_eq_true, decide_eq_true_eq, not_or, Int.not_lt, ge_iff_le, Int.not_le] at hk
    rw [idx_getD hk.1 hk.2]
    have hmem : (t.Rules[k.toNat]?.getD default) ∈ t.Rules := by
      have : k.toNat < t.Rules.length := by omega
      simp [this]
    have hlen := ht _ hmem
    generalize t.Rules[k.toNat]?.getD default = r at hlen ⊢
    simp only [Option.bind_some, has_eq, class_eq]
    unfold stepR
    by_cases h1 : r.From = s.Mode
    · simp only [h1, bne_self_eq_false, Bool.not_false, if_true, Option.bind_some, Bool.false_or]
      by_cases h2 : hasS r.Left s.Last = true
      · simp only [h2, Bool.not_true, Bool.false_eq_true, if_false]
        by_cases h3 : r.Print = []
        · simp only [h3, beq_self_eq_true, if_true]
          split <;> rfl
        · have h3' : (r.Print == []) = false := by simpa using h3
          have hpos : 0 < r.Print.length := List.length_pos_iff.2 h3
          simp only [h3', Bool.false_eq_true, if_false]
          have e0 := sidx_eq (s := r.Print) (i := 0) hpos
          simp only [Int.natCast_zero] at e0
          rw [e0]
          have e1 : isub .i64 ((r.Print.length : Nat) : Int) 1 = ((r.Print.length - 1 : Nat) : Int) := by rw [isub64 (by omega) (by omega)]; omega
          rw [e1, sidx_eq (by omega)]
          simp only [Option.bind_some]
          split <;> rfl
      · have h2 : hasS r.Left s.Last = false := by simpa using h2
        simp only [h2, Bool.not_false, if_true]; rfl
    · have h1' : (r.From != s.Mode) = true := by simpa using h1
      simp only [h1', Bool.not_true, Bool.false_eq_true, if_false, Option.bind_some, Bool.true_or, if_true]; rfl
end Go.AI
end
section
namespace Go.AI
theorem getElem?_lt' {α : Type} {l : List α} {i : Nat} {x : α} (h : l[i]? = some x) : i < l.length := (List.getElem?_eq_some_iff.1 h).1
theorem step3_eq {t : GTable} (ht : Short t) (n : Nat) (s : GState) (k : Int) : FSixdotref03_Step n t s k = some (stepS t s k) := by
  unfold FSixdotref03_Step stepS
  by_cases hk : (decide (k < 0) || decide (k ≥ (t.Rules.length : Int))) = true
  · rw [if_pos hk, if_pos hk]; rfl
  · rw [if_neg hk, if_neg hk]
    simp only [Bool.or_eq_true, decide_eq_true_eq, not_or, Int.not_lt, ge_iff_le, Int.not_le] at hk
    rw [idx_getD hk.1 hk.2]
    have hmem : (t.Rules[k.toNat]?.getD default) ∈ t.Rules := by
      have : k.toNat < t.Rules.length := by omega
      simp [this]
    have hlen := ht _ hmem
    generalize t.Rules[k.toNat]?.getD default = r at hlen ⊢
    simp only [Option.bind_some, bit_eq, class2_eq]
    unfold stepR
    by_cases h1 : r.From = s.Mode
    · simp only [h1, bne_self_eq_false, Bool.not_false, if_true, Option.bind_some, Bool.false_or]
      by_cases h2 : hasS r.Left s.Last = true
      · simp only [h2, Bool.not_true, Bool.false_eq_true, if_false]
        by_cases h3 : r.Print = []
        · simp only [h3, List.length_nil, Int.natCast_zero, beq_self_eq_true, Bool.true_and, if_true]
          split <;> rfl
        · have h3' : (r.Print == []) = false := by simpa using h3
          have hpos : 0 < r.Print.length := List.length_pos_iff.2 h3
          have h4 : (((r.Print.length : Nat) : Int) == 0) = false := by simp; omega
          simp only [h3', h4, Bool.false_and, Bool.false_eq_true, if_false]
          have e0 := sidx_eq (s := r.Print) (i := 0) hpos
          simp only [Int.natCast_zero] at e0
          rw [e0]
          have e1 : isub .i64 ((r.Print.length : Nat) : Int) 1 = ((r.Print.length - 1 : Nat) : Int) := by rw [isub64 (by omega) (by omega)]; omega
          rw [e1, sidx_eq (by omega)]
          simp only [Option.bind_some]
          split <;> rfl
      · have h2 : hasS r.Left s.Last = false := by simpa using h2
        simp only [h2, Bool.not_false, if_true]; rfl
    · have h1' : (r.From != s.Mode) = true := by simpa using h1
      simp only [h1', Bool.not_true, Bool.false_eq_true, if_false, Option.bind_some, Bool.true_or, if_true]; rfl
def acceptsS (t : GTable) (s : GState) : Bool := decide (s.Mode < t.Modes) && hasS t.Accept s.Mode && hasS s.Need 0
theorem accepts_eq (n : Nat) (t : GTable) (s : GState) : FAutomaton_Accepts n t s = some (acceptsS t s) := by
  unfold FAutomaton_Accepts acceptsS
  simp only [has_eq]
  by_cases h1 : s.Mode < t.Modes
  · cases h2 : hasS t.Accept s.Mode <;> simp [h1]
  · simp [h1]
theorem accepts3_eq (n : Nat) (t : GTable) (s : GState) : FSixdotref03_Accepts n t s = some (acceptsS t s) := by
  unfold FSixdotref03_Accepts acceptsS
  simp only [bit_eq]
  have h0 : ¬ (0 ≤ s.Mode) → hasS t.Accept s.Mode = false := fun h => by simp [hasS, h]
  by_cases h : 0 ≤ s.Mode
  · by_cases h1 : s.Mode < t.Modes
    · cases h2 : hasS t.Accept s.Mode <;> simp [h, h1]
    · simp [h1]
  · simp [h, h0 h]
theorem eqS (a b : GState) : ((a.Mode == b.Mode) && ((a.Last == b.Last) && ((a.Need == b.Need) && true))) = decide (a = b) := by
  cases a; cases b
  simp [Bool.decide_and]
  rfl
def indexS (l : List GState) (s : GState) : Int := match l.findIdx? (fun x => decide (x = s)) with
  | some i => i
  | none => -1
theorem index_ev {l : List GState} {s : GState} (hl : l.length < 9223372036854775807) : Ev (fun n => FSixdotref03_Index n l s) (indexS l s) := by
  have loop : Ev (fun n => whl (fun x => FSixdotref03_Index_L1 n l s x) n (0 : Int)) (match l.findIdx? (fun x => decide (x = s)) with | some i => (.inr (i : Int) : Unit ⊕ Int) | none => .inl ()) := by
    refine Ev.whl (body := fun n x => FSixdotref03_Index_L1 n l s x) (fun k x => ∃ i : Nat, x = i ∧ i ≤ l.length ∧ k = l.length - i ∧ ∀ j, j < i → ∀ y, l[j]? = some y → y ≠ s) ?_ l.length 0 ⟨0, rfl, by omega, by omega, fun j hj => by omega⟩
    rintro k x ⟨i, rfl, hi, rfl, hbefore⟩
    by_cases hlt : i < l.length
    · have hg : l[i]? = some l[i] := List.getElem?_eq_getElem hlt
      have hidx : idx l (i : Int) = some l[i] := by
        unfold idx
        rw [if_pos (by omega)]
        simp
      by_cases he : l[i] = s
      · right
        refine Ev.all fun n => ?_
        unfold FSixdotref03_Index_L1
        rw [if_pos (by simpa using hlt), hidx]
        simp only [Option.bind_some, eqS, he, decide_true, if_true]
        have : l.findIdx? (fun x => decide (x = s)) = some i := by
          rw [List.findIdx?_eq_some_iff_getElem]
          refine ⟨hlt, by simpa using he, fun j hj => ?_⟩
          have hj' : j < l.length := by omega
          have := hbefore j hj l[j] (List.getElem?_eq_getElem hj')
          simpa using this
        rw [this]
      · left
        refine ⟨((i + 1 : Nat) : Int), l.length - (i + 1), by omega, ⟨i + 1, rfl, by omega, rfl, fun j hj y hy => ?_⟩, Ev.all fun n => ?_⟩
        · by_cases hji : j = i
          · subst hji; rw [hg] at hy; cases hy; exact he
          · exact hbefore j (by omega) y hy
        · unfold FSixdotref03_Index_L1
          rw [if_pos (by simpa using hlt), hidx]
          simp only [Option.bind_some, eqS, he, decide_false, Bool.false_eq_true, if_false]
          rw [iadd64 (by omega) (by omega)]
          rfl
    · right
      have hi' : i = l.length := by omega
      subst hi'
      refine Ev.all fun n => ?_
      unfold FSixdotref03_Index_L1
      rw [if_neg (by simp)]
      have : l.findIdx? (fun x => decide (x = s)) = none := by
        rw [List.findIdx?_eq_none_iff]
        intro y hy
        obtain ⟨j, hj⟩ := List.mem_iff_getElem?.1 hy
        have := hbefore j (getElem?_lt' hj) y hj
        simpa using this
      rw [this]
  refine (Ev.bind loop (g := fun _ y => match y with | Sum.inl _ => some (-1) | Sum.inr z => some z) (z := indexS l s) ?_).congr fun n => ?_
  · unfold indexS
    cases l.findIdx? (fun x => decide (x = s)) with
    | none => exact Ev.const
    | some i => exact Ev.const
  · rfl
end Go.AI
end
section
namespace Go.AI
theorem iand_range (a b : Int) (h : 0 ≤ b) (h' : b < 256) : 0 ≤ iand .u8 a b ∧ iand .u8 a b ≤ b := by
  unfold iand
  have hb : (BitVec.ofInt 8 b).toNat = b.toNat := by
    rw [BitVec.toNat_ofInt]
    omega
  have hle : (BitVec.ofInt 8 a &&& BitVec.ofInt 8 b).toNat ≤ b.toNat := by
    rw [BitVec.toNat_and, hb]; exact Nat.and_le_right
  have e : (BitVec.ofInt IntKind.u8.bits a &&& BitVec.ofInt IntKind.u8.bits b).toNat = (BitVec.ofInt 8 a &&& BitVec.ofInt 8 b).toNat := rfl
  rw [e, wrap8 (by omega) (by omega)]
  omega
def RuleOK (r : GRule) : Prop := 0 ≤ r.To ∧ r.To < 2 ∧ 0 ≤ r.Right ∧ r.Right ≤ 63 ∧ r.Print.length ≤ 3
def TabOK (t : GTable) : Prop := t.Rules.length ≤ 11 ∧ ∀ r ∈ t.Rules, RuleOK r
theorem TabOK.short {t : GTable} (h : TabOK t) : Short t := fun r hr => by have := (h.2 r hr).2.2.2.2; omega
def InU (s : GState) : Prop := 0 ≤ s.Mode ∧ s.Mode < 2 ∧ 0 ≤ s.Last ∧ s.Last ≤ 5 ∧ 0 ≤ s.Need ∧ s.Need ≤ 63
def allU : List GState := (List.range 768).map fun i => ⟨(i / 384 : Nat), (i / 64 % 6 : Nat), (i % 64 : Nat)⟩
theorem allU_mem {s : GState} (h : InU s) : s ∈ allU := by
  obtain ⟨h1, h2, h3, h4, h5, h6⟩ := h
  obtain ⟨m, l, d⟩ := s
  simp only at h1 h2 h3 h4 h5 h6
  simp only [allU, List.mem_map, List.mem_range]
  refine ⟨m.toNat * 384 + l.toNat * 64 + d.toNat, by omega, ?_⟩
  have e1 : (m.toNat * 384 + l.toNat * 64 + d.toNat) / 384 = m.toNat := by omega
  have e2 : (m.toNat * 384 + l.toNat * 64 + d.toNat) / 64 % 6 = l.toNat := by omega
  have e3 : (m.toNat * 384 + l.toNat * 64 + d.toNat) % 64 = d.toNat := by omega
  rw [e1, e2, e3]
  congr 1 <;> omega
theorem nodup_le {l m : List GState} (h : l.Nodup) (hs : ∀ x ∈ l, x ∈ m) : l.length ≤ m.length := by
  induction l generalizing m with
  | nil => simp
  | cons a l ih =>
    rw [List.nodup_cons] at h
    have ha := hs a (by simp)
    have hlen : (m.erase a).length = m.length - 1 := List.length_erase_of_mem ha
    have hpos : 0 < m.length := List.length_pos_of_mem ha
    have := ih (m := m.erase a) h.2 fun x hx => by
      have hne : x ≠ a := fun e => h.1 (e ▸ hx)
      exact (List.mem_erase_of_ne hne).2 (hs x (by simp [hx]))
    simp
    omega
theorem bound768 {l : List GState} (h : l.Nodup) (hs : ∀ x ∈ l, InU x) : l.length ≤ 768 := by
  have := nodup_le h fun x hx => allU_mem (hs x hx)
  simpa [allU] using this
theorem step_InU {t : GTable} (ht : TabOK t) {s : GState} (hs : InU s) {k : Int} (h : (stepS t s k).2 = true) : InU (stepS t s k).1 := by
  unfold stepS at h ⊢
  split at h
  · cases h
  · rename_i hk
    rw [if_neg hk]
    simp only [Bool.or_eq_true, decide_eq_true_eq, not_or, Int.not_lt, ge_iff_le, Int.not_le] at hk
    have hmem : (t.Rules[k.toNat]?.getD default) ∈ t.Rules := by
      have : k.toNat < t.Rules.length := by omega
      simp [this]
    have hr := ht.2 _ hmem
    generalize t.Rules[k.toNat]?.getD default = r at hr h ⊢
    obtain ⟨a1, a2, a3, a4, a5⟩ := hr
    obtain ⟨b1, b2, b3, b4, b5, b6⟩ := hs
    unfold stepR at h ⊢
    split at h
    · cases h
    · rename_i h1
      rw [if_neg h1]
      split at h
      · rename_i h2
        rw [if_pos h2]
        split at h
        · cases h
        · rename_i h3
          rw [if_neg h3]
          have := iand_range s.Need r.Right a3 (by omega)
          exact ⟨a1, a2, b3, b4, this.1, by show iand .u8 s.Need r.Right ≤ 63; omega⟩
      · rename_i h2
        rw [if_neg h2]
        split at h
        · cases h
        · rename_i h3
          rw [if_neg h3]
          have := class_range (byteS r.Print (r.Print.length - 1))
          exact ⟨a1, a2, by show 0 ≤ classS _; omega, by show classS _ ≤ 5; omega, a3, a4⟩
def startS : GState := ⟨0, 0, 63⟩
def addS (t : GTable) (s : GState) (st : List GState) (k : Nat) : List GState := if (stepS t s k).2 = true ∧ (stepS t s k).1 ∉ st then st ++ [(stepS t s k).1] else st
def expS (t : GTable) (s : GState) (m : Nat) (st : List GState) : List GState := (List.range m).foldl (addS t s) st
theorem expS_succ (t : GTable) (s : GState) (m : Nat) (st : List GState) : expS t s (m + 1) st = addS t s (expS t s m st) m := by
  simp [expS, List.range_succ]
def bfsS (t : GTable) : Nat → Nat → List GState → List GState
  | 0, _, st => st
  | f + 1, i, st => match st[i]? with
    | some s => bfsS t f (i + 1) (expS t s t.Rules.length st)
    | none => st
def statesS (t : GTable) : List GState := bfsS t 800 0 [startS]
structure Found (t : GTable) (st : List GState) : Prop where
  nodup : st.Nodup
  inU : ∀ s ∈ st, InU s
  first : st[0]? = some startS
  origin : ∀ (j : Nat) (s : GState), st[j]? = some s → 0 < j → ∃ (i : Nat) (s' : GState) (k : Nat), i < j ∧ st[i]? = some s' ∧ k < t.Rules.length ∧ stepS t s' k = (s, true)
theorem Found.len {t : GTable} {st : List GState} (h : Found t st) : st.length ≤ 768 := bound768 h.nodup h.inU
theorem Found.add {t : GTable} (ht : TabOK t) {st : List GState} (h : Found t st) {i : Nat} {s : GState} (hi : st[i]? = some s) {k : Nat} (hk : k < t.Rules.length) : Found t (addS t s st k) := by
  unfold addS
  split
  · rename_i hc
    have hil := getElem?_lt' hi
    refine ⟨?_, fun x hx => ?_, ?_, fun j x hj h0 => ?_⟩
    · rw [List.nodup_append]
      refine ⟨h.nodup, by simp, fun a ha b hb => ?_⟩
      simp at hb
      subst hb
      exact fun e => hc.2 (e ▸ ha)
    · simp only [List.mem_append, List.mem_singleton] at hx
      rcases hx with hx | rfl
      · exact h.inU x hx
      · exact step_InU ht (h.inU s (List.mem_of_getElem? hi)) hc.1
    · rw [List.getElem?_append_left (by omega)]; exact h.first
    · rcases Nat.lt_or_ge j st.length with hlt | hge
      · rw [List.getElem?_append_left hlt] at hj
        obtain ⟨i', s', k', a1, a2, a3, a4⟩ := h.origin j x hj h0
        exact ⟨i', s', k', a1, by rw [List.getElem?_append_left (by omega)]; exact a2, a3, a4⟩
      · rw [List.getElem?_append_right hge] at hj
        have : j - st.length = 0 := by have := getElem?_lt' hj; simp at this; omega
        rw [this] at hj
        simp at hj
        subst hj
        refine ⟨i, s, k, by omega, by rw [List.getElem?_append_left hil]; exact hi, hk, ?_⟩
        exact Prod.ext rfl hc.1
  · exact h
theorem addS_pre (t : GTable) (s : GState) (st : List GState) (k : Nat) : st <+: addS t s st k := by
  unfold addS
  split
  · exact List.prefix_append _ _
  · exact List.prefix_refl _
theorem expS_pre (t : GTable) (s : GState) (st : List GState) : ∀ m, st <+: expS t s m st := by
  intro m
  induction m with
  | zero => exact List.prefix_refl _
  | succ m ih => rw [expS_succ]; exact ih.trans (addS_pre _ _ _ _)
theorem pre_get {α : Type} {l m : List α} (h : l <+: m) {i : Nat} {x : α} (hi : l[i]? = some x) : m[i]? = some x := by
  obtain ⟨r, rfl⟩ := h
  rw [List.getElem?_append_left (getElem?_lt' hi)]; exact hi
theorem Found.exp {t : GTable} (ht : TabOK t) {st : List GState} (h : Found t st) {i : Nat} {s : GState} (hi : st[i]? = some s) : ∀ m, m ≤ t.Rules.length → Found t (expS t s m st) := by
  intro m
  induction m with
  | zero => intro _; exact h
  | succ m ih =>
    intro hm
    rw [expS_succ]
    exact (ih (by omega)).add ht (pre_get (expS_pre t s st m) hi) (by omega)
theorem expS_has (t : GTable) (s : GState) (st : List GState) : ∀ m k : Nat, k < m → (stepS t s k).2 = true → (stepS t s k).1 ∈ expS t s m st := by
  intro m
  induction m with
  | zero => intro k hk; omega
  | succ m ih =>
    intro k hk h
    rw [expS_succ]
    by_cases e : k = m
    · subst e
      unfold addS
      by_cases hc : (stepS t s k).1 ∈ expS t s k st
      · rw [if_neg (fun hh => hh.2 hc)]; exact hc
      · rw [if_pos ⟨h, hc⟩]; simp
    · exact (addS_pre t s _ m).subset (ih k (by omega) h)
def Done (t : GTable) (i : Nat) (st : List GState) : Prop := ∀ (j : Nat) (s : GState), j < i → st[j]? = some s → ∀ k : Nat, k < t.Rules.length → (stepS t s k).2 = true → (stepS t s k).1 ∈ st
theorem bfs_ok {t : GTable} (ht : TabOK t) : ∀ (f i : Nat) (st : List GState), Found t st → Done t i st → 768 < f + i → Found t (bfsS t f i st) ∧ ∀ i', Done t i' (bfsS t f i st) := by
  intro f
  induction f with
  | zero =>
    intro i st h hd hf
    have := h.len
    refine ⟨h, fun i' j s hj hs => ?_⟩
    have hs : st[j]? = some s := hs
    exact hd j s (by have := getElem?_lt' hs; omega) hs
  | succ f ih =>
    intro i st h hd hf
    simp only [bfsS]
    cases hi : st[i]? with
    | none =>
      refine ⟨h, fun i' j s hj hs => ?_⟩
      have hs : st[j]? = some s := hs
      exact hd j s (by have := getElem?_lt' hs; rw [List.getElem?_eq_none_iff] at hi; omega) hs
    | some s =>
      refine ih (i + 1) _ (h.exp ht hi _ (Nat.le_refl _)) (fun j x hj hx k hk hk2 => ?_) (by omega)
      by_cases e : j = i
      · subst e
        have := pre_get (expS_pre t s st t.Rules.length) hi
        rw [this] at hx
        cases hx
        exact expS_has t s st _ k hk hk2
      · have hjl : j < st.length := by have := getElem?_lt' hi; omega
        have hxx : st[j]? = some st[j] := List.getElem?_eq_getElem hjl
        have := pre_get (expS_pre t s st t.Rules.length) hxx
        rw [this] at hx
        cases hx
        exact (expS_pre t s st t.Rules.length).subset (hd j _ (by omega) hxx k hk hk2)
theorem states_ok {t : GTable} (ht : TabOK t) : Found t (statesS t) ∧ ∀ i, Done t i (statesS t) := by
  refine bfs_ok ht 800 0 [startS] ⟨by simp, fun s hs => ?_, rfl, fun j s hj h0 => ?_⟩ (fun j s hj => by omega) (by omega)
  · simp at hs; subst hs; exact ⟨by decide, by decide, by decide, by decide, by decide, by decide⟩
  · cases j with
    | zero => omega
    | succ j => simp at hj
end Go.AI
end
section
namespace Go.AI
theorem Ev.whlR {σ ρ : Type} {body : Nat → σ → Option (σ ⊕ ρ)} {R : ρ → Prop} (I : Nat → σ → Prop) (h : ∀ k x, I k x → (∃ y j, j < k ∧ I j y ∧ Ev (fun n => body n x) (.inl y)) ∨ ∃ r, R r ∧ Ev (fun n => body n x) (.inr r)) : ∀ (k : Nat) (x : σ), I k x → ∃ r, R r ∧ Ev (fun n => Go.AI.whl (body n) n x) r := by
  have key : ∀ (k : Nat) (x : σ), I k x → ∃ r, R r ∧ ∃ N c, ∀ n fuel, N ≤ n → c ≤ fuel → Go.AI.whl (body n) fuel x = some r := by
    intro k
    induction k using Nat.strongRecOn with
    | _ k ih =>
      intro x hx
      rcases h k x hx with ⟨y, j, hj, hy, N1, h1⟩ | ⟨r, hr, N1, h1⟩
      · obtain ⟨r, hr, N2, c, h2⟩ := ih j hj y hy
        refine ⟨r, hr, max N1 N2, c + 1, fun n fuel hn hf => ?_⟩
        cases fuel with
        | zero => omega
        | succ fuel =>
          have e := h1 n (by omega)
          simp only at e
          simp only [Go.AI.whl, e]
          exact h2 n fuel (by omega) (by omega)
      · refine ⟨r, hr, N1, 1, fun n fuel hn hf => ?_⟩
        cases fuel with
        | zero => omega
        | succ fuel =>
          have e := h1 n hn
          simp only at e
          simp only [Go.AI.whl, e]
  intro k x hx
  obtain ⟨r, hr, N, c, hh⟩ := key k x hx
  exact ⟨r, hr, max N c, fun m hm => hh m m (by omega) (by omega)⟩
def NumOK (st : List GState) (nb : List (GState × Int)) : Prop := ∀ s, mget s nb = (st.findIdx? fun x => decide (x = s)).map fun i => (i : Int)
theorem findIdx_some {st : List GState} {s : GState} {i : Nat} (hn : st.Nodup) (h : st[i]? = some s) : (st.findIdx? fun x => decide (x = s)) = some i := by
  have hi := getElem?_lt' h
  rw [List.findIdx?_eq_some_iff_getElem]
  have he : st[i] = s := by rw [List.getElem?_eq_getElem hi] at h; exact Option.some.inj h
  refine ⟨hi, by simpa using he, fun j hj => ?_⟩
  simp only [Bool.not_eq_true, decide_eq_false_iff_not]
  intro e
  have := (List.getElem_inj (i := j) (j := i) (h₀ := by omega) (h₁ := hi) hn).1 (by rw [e, he])
  omega
theorem findIdx_none {st : List GState} {s : GState} (h : s ∉ st) : (st.findIdx? fun x => decide (x = s)) = none := by
  rw [List.findIdx?_eq_none_iff]
  intro y hy
  simp only [decide_eq_false_iff_not]
  exact fun e => h (e ▸ hy)
theorem mget_mput {κ α : Type} [DecidableEq κ] (k k' : κ) (v : α) (m : List (κ × α)) : mget k' (mput k v m) = if k' = k then some v else mget k' m := by
  induction m with
  | nil => simp [mput, mget]
  | cons p m ih =>
    simp only [mput]
    by_cases h : k = p.1
    · rw [if_pos h]
      simp only [mget]
      by_cases h' : k' = k
      · simp [h']
      · have : k' ≠ p.1 := fun e => h' (e.trans h.symm)
        simp [h', this]
    · rw [if_neg h]
      simp only [mget]
      by_cases h' : k' = p.1
      · have : k' ≠ k := fun e => h (e ▸ h')
        rw [if_pos h', if_neg this, if_pos h']
      · rw [if_neg h', if_neg h', ih]
theorem NumOK.snoc {st : List GState} {nb : List (GState × Int)} (h : NumOK st nb) (hn : st.Nodup) {p : GState} (hp : p ∉ st) : NumOK (st ++ [p]) (mput p (st.length : Nat) nb) := by
  intro s
  rw [mget_mput]
  have hnd : (st ++ [p]).Nodup := by
    rw [List.nodup_append]
    exact ⟨hn, by simp, fun a ha b hb => by simp at hb; subst hb; exact fun e => hp (e ▸ ha)⟩
  by_cases e : s = p
  · subst e
    rw [if_pos rfl, findIdx_some hnd (i := st.length) (by simp)]
    rfl
  · rw [if_neg e, h s]
    by_cases hs : s ∈ st
    · obtain ⟨i, hi⟩ := List.mem_iff_getElem?.1 hs
      rw [findIdx_some hn hi, findIdx_some hnd (i := i) (by rw [List.getElem?_append_left (getElem?_lt' hi)]; exact hi)]
    · rw [findIdx_none hs, findIdx_none (by simp [hs, e])]
def Taken (i m j k : Nat) : Prop := j < i ∨ (j = i ∧ k < m)
structure FromOK (t : GTable) (st : List GState) (fr : List (List Int)) (i m : Nat) : Prop where
  len : fr.length = st.length
  cov : ∀ j s k, Taken i m j k → st[j]? = some s → k < t.Rules.length → (stepS t s (k : Nat)).2 = true → (stepS t s (k : Nat)).1 ∈ st
  sound : ∀ (n : Nat) l, fr[n]? = some l → ∀ x ∈ l, ∃ (j : Nat) (s : GState) (k : Nat) (s' : GState), x = (j : Int) ∧ st[j]? = some s ∧ k < t.Rules.length ∧ st[n]? = some s' ∧ stepS t s (k : Nat) = (s', true)
  compl : ∀ (n : Nat) l, fr[n]? = some l → ∀ (j : Nat) (s : GState) (k : Nat) (s' : GState), Taken i m j k → st[j]? = some s → k < t.Rules.length → st[n]? = some s' → stepS t s (k : Nat) = (s', true) → (j : Int) ∈ l
  small : ∀ (n : Nat) l, fr[n]? = some l → l.length ≤ i * 11 + m
theorem FromOK.snoc {t : GTable} {st : List GState} {fr : List (List Int)} {i m : Nat} (h : FromOK t st fr i m) {p : GState} (hp : p ∉ st) (hi : i < st.length) : FromOK t (st ++ [p]) (fr ++ [[]]) i m := by
  have hget : ∀ (j : Nat) s, Taken i m j 0 ∨ j ≤ i → (st ++ [p])[j]? = some s → st[j]? = some s := fun j s hj hs => by
    rcases Nat.lt_or_ge j st.length with hlt | hge
    · rwa [List.getElem?_append_left hlt] at hs
    · rcases hj with (h1 | ⟨h1, _⟩) | h1 <;> omega
  have hle : ∀ {j k}, Taken i m j k → j ≤ i := fun h => by rcases h with h | ⟨h, _⟩ <;> omega
  refine ⟨by simp [h.len], fun j s k ht hs hk h2 => ?_, fun n l hl x hx => ?_, fun n l hl j s k s' ht hs hk hs' he => ?_, fun n l hl => ?_⟩
  · exact List.mem_append_left _ (h.cov j s k ht (hget j s (.inr (hle ht)) hs) hk h2)
  · rcases Nat.lt_or_ge n fr.length with hlt | hge
    · rw [List.getElem?_append_left hlt] at hl
      obtain ⟨j, s, k, s', a1, a2, a3, a4, a5⟩ := h.sound n l hl x hx
      exact ⟨j, s, k, s', a1, by rw [List.getElem?_append_left (getElem?_lt' a2)]; exact a2, a3, by rw [List.getElem?_append_left (getElem?_lt' a4)]; exact a4, a5⟩
    · rw [List.getElem?_append_right hge] at hl
      have : n - fr.length = 0 := by have := getElem?_lt' hl; simp at this; omega
      rw [this] at hl; simp at hl; subst hl; simp at hx
  · have hs0 := hget j s (.inr (hle ht)) hs
    have hmem : s' ∈ st := by have := h.cov j s k ht hs0 hk (by rw [he]); rwa [he] at this
    rcases Nat.lt_or_ge n fr.length with hlt | hge
    · rw [List.getElem?_append_left hlt] at hl
      rw [List.getElem?_append_left (by rw [← h.len]; exact hlt)] at hs'
      exact h.compl n l hl j s k s' ht hs0 hk hs' he
    · have hn : n = st.length := by have := getElem?_lt' hs'; simp at this; rw [h.len] at hge; omega
      subst hn
      simp at hs'
      subst hs'
      exact absurd hmem hp
  · rcases Nat.lt_or_ge n fr.length with hlt | hge
    · rw [List.getElem?_append_left hlt] at hl; exact h.small n l hl
    · rw [List.getElem?_append_right hge] at hl
      have : n - fr.length = 0 := by have := getElem?_lt' hl; simp at this; omega
      rw [this] at hl; simp at hl; subst hl; simp
theorem FromOK.put {t : GTable} {st : List GState} {fr : List (List Int)} {i m : Nat} (h : FromOK t st fr i m) (hnd : st.Nodup) {s p : GState} {q : Nat} {l : List Int} (hs : st[i]? = some s) (hm : m < t.Rules.length) (hst : stepS t s (m : Nat) = (p, true)) (hq : st[q]? = some p) (hl : fr[q]? = some l) : FromOK t st (fr.set q (l ++ [(i : Int)])) i (m + 1) := by
  have htk : ∀ {j k}, Taken i (m + 1) j k → Taken i m j k ∨ (j = i ∧ k = m) := fun {j k} h => by
    unfold Taken at *
    omega
  have hql := getElem?_lt' hl
  refine ⟨by simp [h.len], fun j x k ht hx hk h2 => ?_, fun n l' hl' x hx => ?_, fun n l' hl' j x k x' ht hx hk hx' he => ?_, fun n l' hl' => ?_⟩
  · rcases htk ht with ht | ⟨rfl, rfl⟩
    · exact h.cov j x k ht hx hk h2
    · rw [hs] at hx; cases hx; rw [hst]; exact List.mem_of_getElem? hq
  · by_cases e : n = q
    · subst e
      rw [List.getElem?_set_self hql] at hl'
      cases hl'
      simp only [List.mem_append, List.mem_singleton] at hx
      rcases hx with hx | rfl
      · exact h.sound n l hl x hx
      · exact ⟨i, s, m, p, rfl, hs, hm, hq, hst⟩
    · rw [List.getElem?_set_ne (Ne.symm e)] at hl'; exact h.sound n l' hl' x hx
  · rcases htk ht with ht | ⟨rfl, rfl⟩
    · by_cases e : n = q
      · subst e
        rw [List.getElem?_set_self hql] at hl'
        cases hl'
        exact List.mem_append_left _ (h.compl n l hl j x k x' ht hx hk hx' he)
      · rw [List.getElem?_set_ne (Ne.symm e)] at hl'; exact h.compl n l' hl' j x k x' ht hx hk hx' he
    · rw [hs] at hx; cases hx
      rw [hst] at he; cases he
      have e : n = q := by
        have h1 := getElem?_lt' hx'
        have h2 := getElem?_lt' hq
        rw [List.getElem?_eq_getElem h1] at hx'
        rw [List.getElem?_eq_getElem h2] at hq
        exact (List.getElem_inj (h₀ := h1) (h₁ := h2) hnd).1 ((Option.some.inj hx').trans (Option.some.inj hq).symm)
      subst e
      rw [List.getElem?_set_self hql] at hl'
      cases hl'
      simp
  · by_cases e : n = q
    · subst e
      rw [List.getElem?_set_self hql] at hl'
      cases hl'
      have := h.small n l hl
      simp; omega
    · rw [List.getElem?_set_ne (Ne.symm e)] at hl'
      have := h.small n l' hl'
      omega
theorem FromOK.skip {t : GTable} {st : List GState} {fr : List (List Int)} {i m : Nat} (h : FromOK t st fr i m) {s : GState} (hs : st[i]? = some s) (hst : (stepS t s (m : Nat)).2 = false) : FromOK t st fr i (m + 1) := by
  have htk : ∀ {j k}, Taken i (m + 1) j k → Taken i m j k ∨ (j = i ∧ k = m) := fun {j k} h => by
    unfold Taken at *
    omega
  refine ⟨h.len, fun j x k ht hx hk h2 => ?_, h.sound, fun n l hl j x k x' ht hx hk hx' he => ?_, fun n l hl => by have := h.small n l hl; omega⟩
  · rcases htk ht with ht | ⟨rfl, rfl⟩
    · exact h.cov j x k ht hx hk h2
    · rw [hs] at hx; cases hx; rw [hst] at h2; cases h2
  · rcases htk ht with ht | ⟨rfl, rfl⟩
    · exact h.compl n l hl j x k x' ht hx hk hx' he
    · rw [hs] at hx; cases hx; rw [he] at hst; cases hst
end Go.AI
end
section
namespace Go.AI
theorem idx_nat {α : Type} {l : List α} {i : Nat} {x : α} (h : l[i]? = some x) : idx l (i : Int) = some x := by
  unfold idx
  rw [if_pos (by omega)]
  simpa using h
theorem app_ok {α : Type} {eb : Nat} {xs ys : List α} (h : (xs.length + ys.length) * eb ≤ 70368744177664) : app eb xs ys = some (xs ++ ys) := by
  unfold app; rw [if_pos h]
theorem FromOK.next {t : GTable} {st : List GState} {fr : List (List Int)} {i : Nat} (h : FromOK t st fr i t.Rules.length) (hr : t.Rules.length ≤ 11) : FromOK t st fr (i + 1) 0 := by
  have htk : ∀ {j k}, k < t.Rules.length → Taken (i + 1) 0 j k → Taken i t.Rules.length j k := fun {j k} hk h => by
    unfold Taken at *
    omega
  exact ⟨h.len, fun j s k ht hs hk => h.cov j s k (htk hk ht) hs hk, h.sound, fun n l hl j s k s' ht hs hk => h.compl n l hl j s k s' (htk hk ht) hs hk, fun n l hl => by have := h.small n l hl; omega⟩
end Go.AI
end
section
namespace Go.AI
def baseT (r : Int) : GTable := (FSixdotref02_Base 0 r).getD default
theorem base_eq (n : Nat) (k : Int) (h0 : 0 ≤ k) : FSixdotref02_Base n k = some (baseT (irem k 8)) ∧ 0 ≤ irem k 8 ∧ irem k 8 < 8 := by
  have e : irem k 8 = k % 8 := by unfold irem; rw [Int.tmod_eq_emod_of_nonneg h0]
  have hr : irem k 8 = 0 ∨ irem k 8 = 1 ∨ irem k 8 = 2 ∨ irem k 8 = 3 ∨ irem k 8 = 4 ∨ irem k 8 = 5 ∨ irem k 8 = 6 ∨ irem k 8 = 7 := by rw [e]; omega
  rcases hr with h | h | h | h | h | h | h | h
  all_goals
    refine ⟨?_, by omega, by omega⟩
    unfold FSixdotref02_Base
    rw [h]
    rfl
def okRuleB (r : GRule) : Bool := decide (0 ≤ r.To) && decide (r.To < 2) && decide (0 ≤ r.Right) && decide (r.Right ≤ 63) && decide (r.Print.length ≤ 3)
theorem okRuleB_ok {r : GRule} (h : okRuleB r = true) : RuleOK r := by
  simp only [okRuleB, Bool.and_eq_true, decide_eq_true_eq] at h
  obtain ⟨⟨⟨⟨h1, h2⟩, h3⟩, h4⟩, h5⟩ := h
  exact ⟨h1, h2, h3, h4, h5⟩
def okBaseB (t : GTable) : Bool := decide (t.Rules.length ≤ 8) && t.Rules.all okRuleB && decide (1 ≤ t.Modes) && decide (t.Modes ≤ 2) && decide (0 < t.Rules.length)
theorem base_ok {r : Int} (h : 0 ≤ r) (h' : r < 8) : okBaseB (baseT r) = true := by
  have hr : r = 0 ∨ r = 1 ∨ r = 2 ∨ r = 3 ∨ r = 4 ∨ r = 5 ∨ r = 6 ∨ r = 7 := by omega
  rcases hr with rfl | rfl | rfl | rfl | rfl | rfl | rfl | rfl
  all_goals rfl
def U8 (n : Int) : Prop := 0 ≤ n ∧ n < 256
def RawOK (x : GRawRule) : Prop := (∀ a ∈ x.P, U8 a) ∧ (∀ a ∈ x.C, U8 a) ∧ U8 x.L ∧ U8 x.R ∧ U8 x.W.a0 ∧ U8 x.W.a1
theorem irem_range {a m : Int} (h : 0 ≤ a) (hm : 0 < m) : 0 ≤ irem a m ∧ irem a m < m := by
  have e : irem a m = a % m := by unfold irem; rw [Int.tmod_eq_emod_of_nonneg h]
  rw [e]
  exact ⟨Int.emod_nonneg _ (by omega), Int.emod_lt_of_pos _ hm⟩
theorem idx_in {α : Type} {l : List α} {i : Int} (h : 0 ≤ i) (h' : i < l.length) : ∃ x, x ∈ l ∧ idx l i = some x := by
  have hl : i.toNat < l.length := by omega
  refine ⟨l[i.toNat], List.getElem_mem hl, ?_⟩
  unfold idx
  rw [if_pos h]
  exact List.getElem?_eq_getElem hl
theorem sub_one {α : Type} {l : List α} {i : Int} (h : 0 ≤ i) (h' : i < l.length) : ∃ z, z.length = 1 ∧ sub l i (i + 1) = some z := by
  refine ⟨(l.take (i + 1).toNat).drop i.toNat, ?_, ?_⟩
  · simp; omega
  · unfold sub
    rw [if_pos (by omega)]
theorem ruleP_ev (x : GRawRule) (hx : ∀ a ∈ x.P, U8 a) (p a b : Int) : ∃ r : List UInt8, r.length ≤ 3 ∧ Ev (fun n => whl (fun (y : ((List UInt8) × Int)) => FSixdotref02_Rule_L1 n x p a b y.1 y.2) n ([], 0)) r := by
  refine Ev.whlR (body := fun n y => FSixdotref02_Rule_L1 n x p a b y.1 y.2) (fun k y => ∃ i : Nat, y.2 = (i : Int) ∧ i ≤ 3 ∧ y.1.length = i ∧ k = 3 - i) ?_ 3 ([], 0) ⟨0, rfl, by omega, rfl, rfl⟩
  rintro k ⟨out, i'⟩ ⟨i, hi, h3, hl, rfl⟩
  simp only at hi hl
  subst hi
  by_cases hc : i < x.P.length ∧ i < 3
  · left
    obtain ⟨c, hcm, hci⟩ := idx_in (l := x.P) (i := (i : Int)) (by omega) (by omega)
    have hu := hx c hcm
    have hr := irem_range (m := 9) hu.1 (by omega)
    have hw : IntKind.i64.wrap (irem c 9) = irem c 9 := wrap64 (by omega) (by omega)
    obtain ⟨z, hz1, hz⟩ := sub_one (l := ([97, 98, 99, 65, 66, 49, 50, 45, 46] : List UInt8)) (i := irem c 9) hr.1 (by simpa using hr.2)
    refine ⟨(out ++ z, ((i + 1 : Nat) : Int)), 3 - (i + 1), by omega, ⟨i + 1, rfl, by omega, by simp [hl, hz1], rfl⟩, Ev.all fun n => ?_⟩
    unfold FSixdotref02_Rule_L1
    rw [if_pos (by simp; omega), hci]
    simp only [Option.bind_some, hw]
    rw [iadd64 (by omega) (by omega), hz]
    simp only [Option.bind_some, cat]
    rw [if_pos (by omega)]
    simp only [Option.bind_some]
    rw [iadd64 (by omega) (by omega)]
    rfl
  · right
    refine ⟨out, by omega, Ev.all fun n => ?_⟩
    unfold FSixdotref02_Rule_L1
    rw [if_neg (by simp; omega)]
theorem ruleC_ev (x : GRawRule) (hx : ∀ a ∈ x.C, U8 a) (p a b : Int) (s : List UInt8) (c0 : Int) : ∃ r : List Int, r.length ≤ 3 ∧ Ev (fun n => whl (fun (y : ((List Int) × Int)) => FSixdotref02_Rule_L2 n x p a b s y.1 y.2) n ([c0], 0)) r := by
  refine Ev.whlR (body := fun n y => FSixdotref02_Rule_L2 n x p a b s y.1 y.2) (fun k y => ∃ i : Nat, y.2 = (i : Int) ∧ i ≤ 2 ∧ y.1.length = i + 1 ∧ k = 2 - i) ?_ 2 ([c0], 0) ⟨0, rfl, by omega, rfl, rfl⟩
  rintro k ⟨out, i'⟩ ⟨i, hi, h3, hl, rfl⟩
  simp only at hi hl
  subst hi
  by_cases hc : i < x.C.length ∧ i < 2
  · left
    obtain ⟨c, hcm, hci⟩ := idx_in (l := x.C) (i := (i : Int)) (by omega) (by omega)
    have hu := hx c hcm
    have hr := irem_range (m := 8) hu.1 (by omega)
    obtain ⟨z, _, hz⟩ := idx_in (l := ([1, 3, 9, 5, 7, 32, 44, 60] : List Int)) (i := irem c 8) hr.1 (by simpa using hr.2)
    refine ⟨(out ++ [z], ((i + 1 : Nat) : Int)), 2 - (i + 1), by omega, ⟨i + 1, rfl, by omega, by simp [hl], rfl⟩, Ev.all fun n => ?_⟩
    unfold FSixdotref02_Rule_L2
    rw [if_pos (by simp; omega), hci]
    simp only [Option.bind_some]
    rw [hz]
    simp only [Option.bind_some]
    rw [app_ok (by simp; omega)]
    simp only [Option.bind_some]
    rw [iadd64 (by omega) (by omega)]
    rfl
  · right
    refine ⟨out, by omega, Ev.all fun n => ?_⟩
    unfold FSixdotref02_Rule_L2
    rw [if_neg (by simp; omega)]
theorem rule_ev {x : GRawRule} (hx : RawOK x) {m : Int} (hm : 1 ≤ m) (hm' : m ≤ 2) : ∃ r, (RuleOK r ∧ r.Cells.length ≤ 3) ∧ Ev (fun n => FSixdotref02_Rule n x m) r := by
  obtain ⟨hP, hC, hL, hR, hW0, hW1⟩ := hx
  have l8 := irem_range (m := 8) hL.1 (by omega)
  have r8 := irem_range (m := 8) hR.1 (by omega)
  obtain ⟨a, ham, ha⟩ := idx_in (l := ([63, 63, 2, 8, 17, 62, 4, 1] : List Int)) (i := irem x.L 8) l8.1 (by simpa using l8.2)
  obtain ⟨b, hbm, hb⟩ := idx_in (l := ([63, 63, 2, 8, 17, 62, 4, 1] : List Int)) (i := irem x.R 8) r8.1 (by simpa using r8.2)
  have hq : 0 ≤ iquo .u8 x.L 8 := by unfold iquo; exact (wrap8_range _).1
  have q8 := irem_range (m := 8) hq (by omega)
  obtain ⟨c, _, hc⟩ := idx_in (l := ([1, 3, 9, 5, 7, 32, 44, 60] : List Int)) (i := irem (iquo .u8 x.L 8) 8) q8.1 (by simpa using q8.2)
  obtain ⟨s, hs, hsE⟩ := ruleP_ev x hP m a b
  obtain ⟨l, hl, hlE⟩ := ruleC_ev x hC m a b s c
  have hw : IntKind.i64.wrap x.W.a1 = x.W.a1 := wrap64 (by have := hW1.1; omega) (by have := hW1.2; omega)
  have hto := irem_range (a := x.W.a1) (m := m) hW1.1 (by omega)
  have hbr : 0 ≤ b ∧ b ≤ 63 := by
    simp at hbm
    omega
  refine ⟨⟨s, l, a, b, irem (IntKind.i64.wrap x.W.a0) m, irem (IntKind.i64.wrap x.W.a1) m⟩, ⟨⟨?_, ?_, hbr.1, hbr.2, hs⟩, hl⟩, ?_⟩
  · show 0 ≤ irem (IntKind.i64.wrap x.W.a1) m
    rw [hw]; exact hto.1
  · show irem (IntKind.i64.wrap x.W.a1) m < 2
    rw [hw]; omega
  · refine (Ev.bind hsE (g := fun n y13 => (idx ([1, 3, 9, 5, 7, 32, 44, 60] : List Int) (irem (iquo .u8 x.L 8) 8)).bind fun x23 => (whl (fun (y : ((List Int) × Int)) => FSixdotref02_Rule_L2 n x m a b y13 y.1 y.2) n ([x23], 0)).bind fun y14 => some (⟨y13, y14, a, b, irem (IntKind.i64.wrap x.W.a0) m, irem (IntKind.i64.wrap x.W.a1) m⟩ : GRule)) ?_).congr fun n => ?_
    · refine (Ev.bind hlE (g := fun n y14 => some (⟨s, y14, a, b, irem (IntKind.i64.wrap x.W.a0) m, irem (IntKind.i64.wrap x.W.a1) m⟩ : GRule)) Ev.const).congr fun n => ?_
      rw [hc, Option.bind_some]
    · unfold FSixdotref02_Rule
      have hg : guardB (!(m == 0)) = some () := by unfold guardB; rw [if_pos (by simp; omega)]
      rw [ha, Option.bind_some, hb, Option.bind_some, hg, Option.bind_some, Option.bind_some]
end Go.AI
end
