/- Part 4 of 6 of the proof: lemmas about the model and the program's functions, with no condition beyond those that each states. -/
import Derived.Test.YtjbjbkidckbalaaSC
section
namespace Go.AI
open Go.Proofs
set_option maxRecDepth 10000
section
variable (p0_ : GTable)
def f54_s1 : St := ⟨(0, .agg [.d (.int .i64 p0_.Modes), .d (.int .u8 p0_.Accept), .d (.sl (List.map eGRule p0_.Rules))]) :: [], []⟩
def f54_s2 : St := po (f54_s1 p0_) [(3, .d (.nil)), (2, .d (.nil)), (1, .ptr 0 0)] fun _ => [some (.box [.d (.int .i64 p0_.Modes), .d (.int .u8 p0_.Accept), .d (.sl (List.map eGRule p0_.Rules))])]
variable (r10 : GState)
def f54_s3 : St := pe (f54_s2 p0_) [(14, .agg [.d (.int .i64 r10.Mode), .d (.int .i64 r10.Last), .d (.int .u8 r10.Need)])]
def f54_s4 : St := po (f54_s3 p0_ r10) [(4, .ptr 1 0)] fun o => o ++ [some (.box [.d (.int .i64 r10.Mode), .d (.int .i64 r10.Last), .d (.int .u8 r10.Need)])]
def f54_s5 : St := po (f54_s4 p0_ r10) [(16, .osl 2 3 0 (List.length [r10])), (15, .agg [.d (.int .i64 r10.Mode), .d (.int .i64 r10.Last), .d (.int .u8 r10.Need)])] fun o => o ++ [some (.arr 3 (List.map eGState [r10]))]
def f54_s6 : St := po (f54_s5 p0_ r10) [(17, .osl 3 1 0 (List.length ([[]] : List (List Int))))] fun o => o ++ [some (.arr 1 [[.nil]])]
def f54_s7 : St := pe (f54_s6 p0_ r10) [(6, .osl 3 1 0 (List.length ([[]] : List (List Int)))), (5, .osl 2 3 0 (List.length [r10]))]
def f54_s8 : St := po (f54_s7 p0_ r10) [] fun o => o.set 3 (some (.narr 1 (List.map (nL 1 eI64) ([[]] : List (List Int)))))
def f54_s9 : St := po (f54_s8 p0_ r10) [(19, .agg [.d (.int .i64 r10.Mode), .d (.int .i64 r10.Last), .d (.int .u8 r10.Need)]), (18, .mp 4)] fun o => o ++ [some (.map true false (encM eGState eI64 []))]
def f54_s10 : St := po (f54_s9 p0_ r10) [] fun o => o.set 4 (some (.map true false (encM eGState eI64 (mput r10 0 []))))
def f54_s11 : St := pe (f54_s10 p0_ r10) [(7, .mp 4), (20, .mp 4)]
def f54_s12 : St := pe (f54_s11 p0_ r10) [(8, .d (.int .i64 0))]
variable (states_1 : (List GState)) (from_1 : (List (List Int))) (number_1 : (List (GState × Int))) (k_1 : Int)
def f54_s13 : St := ⟨(1, .ptr 0 0) :: (5, .osl 1 3 0 (List.length states_1)) :: (6, .osl 2 1 0 (List.length from_1)) :: (7, .mp 3) :: (8, .d (.int .i64 k_1)) :: [], [some (.box [.d (.int .i64 p0_.Modes), .d (.int .u8 p0_.Accept), .d (.sl (List.map eGRule p0_.Rules))]), some (.arr 3 (List.map eGState states_1)), some (.narr 1 (List.map (nL 1 eI64) from_1)), some (.map true false (encM eGState eI64 number_1))]⟩
variable (states_2 : (List GState)) (from_2 : (List (List Int)))
def f54_s14 : St := ⟨(5, .osl 0 3 0 (List.length states_2)) :: (6, .osl 1 1 0 (List.length from_2)) :: [], [some (.arr 3 (List.map eGState states_2)), some (.narr 1 (List.map (nL 1 eI64) from_2))]⟩
def f54_s15 : St := pe (f54_s13 p0_ states_1 from_1 number_1 k_1) [(24, .d (.bool (decide (k_1 < ((List.length states_1 : Nat) : Int))))), (23, .d (.int .i64 ((List.length states_1 : Nat) : Int))), (22, .osl 1 3 0 (List.length states_1)), (21, .d (.int .i64 k_1))]
def f54_s16 : St := pe (f54_s15 p0_ states_1 from_1 number_1 k_1) [(28, .d (.sl (List.map eGRule p0_.Rules))), (27, .ptr 0 2)]
def f54_s17 : St := pe (f54_s16 p0_ states_1 from_1 number_1 k_1) [(29, .d (.int .i64 ((List.length p0_.Rules : Nat) : Int)))]
def f54_s18 : St := pe (f54_s17 p0_ states_1 from_1 number_1 k_1) [(30, .d (.int .i64 0))]
variable (states_3 : (List GState)) (from_3 : (List (List Int))) (number_2 : (List (GState × Int))) (x_2 : Int)
def f54_s19 : St := ⟨(1, .ptr 0 0) :: (5, .osl 1 3 0 (List.length states_3)) :: (6, .osl 2 1 0 (List.length from_3)) :: (7, .mp 3) :: (8, .d (.int .i64 k_1)) :: (29, .d (.int .i64 ((List.length p0_.Rules : Nat) : Int))) :: (30, .d (.int .i64 x_2)) :: [], [some (.box [.d (.int .i64 p0_.Modes), .d (.int .u8 p0_.Accept), .d (.sl (List.map eGRule p0_.Rules))]), some (.arr 3 (List.map eGState states_3)), some (.narr 1 (List.map (nL 1 eI64) from_3)), some (.map true false (encM eGState eI64 number_2))]⟩
variable (states_4 : (List GState)) (from_4 : (List (List Int))) (number_3 : (List (GState × Int)))
def f54_s20 : St := ⟨(1, .ptr 0 0) :: (5, .osl 1 3 0 (List.length states_4)) :: (6, .osl 2 1 0 (List.length from_4)) :: (7, .mp 3) :: (8, .d (.int .i64 k_1)) :: [], [some (.box [.d (.int .i64 p0_.Modes), .d (.int .u8 p0_.Accept), .d (.sl (List.map eGRule p0_.Rules))]), some (.arr 3 (List.map eGState states_4)), some (.narr 1 (List.map (nL 1 eI64) from_4)), some (.map true false (encM eGState eI64 number_3))]⟩
def f54_s21 : St := pe (f54_s19 p0_ k_1 states_3 from_3 number_2 x_2) [(31, .d (.bool (decide (x_2 < ((List.length p0_.Rules : Nat) : Int)))))]
variable (states_5 : (List GState)) (from_5 : (List (List Int))) (number_4 : (List (GState × Int)))
def f54_s22 : St := ⟨(1, .ptr 0 0) :: (5, .osl 1 3 0 (List.length states_5)) :: (6, .osl 2 1 0 (List.length from_5)) :: (7, .mp 3) :: (8, .d (.int .i64 k_1)) :: (29, .d (.int .i64 ((List.length p0_.Rules : Nat) : Int))) :: (30, .d (.int .i64 x_2)) :: [], [some (.box [.d (.int .i64 p0_.Modes), .d (.int .u8 p0_.Accept), .d (.sl (List.map eGRule p0_.Rules))]), some (.arr 3 (List.map eGState states_5)), some (.narr 1 (List.map (nL 1 eI64) from_5)), some (.map true false (encM eGState eI64 number_4))]⟩
def f54_s23 : St := pe (f54_s22 p0_ k_1 x_2 states_5 from_5 number_4) [(30, .d (.int .i64 (iadd .i64 x_2 1))), (75, .d (.int .i64 (iadd .i64 x_2 1)))]
def f54_s24 : St := pe (f54_s21 p0_ k_1 states_3 from_3 number_2 x_2) [(9, .d (.int .i64 x_2)), (32, .d (.int .i64 x_2))]
def f54_s25 : St := pe (f54_s24 p0_ k_1 states_3 from_3 number_2 x_2) [(36, .d (.int .i64 k_1)), (35, .osl 1 3 0 (List.length states_3)), (34, .agg [.d (.int .i64 p0_.Modes), .d (.int .u8 p0_.Accept), .d (.sl (List.map eGRule p0_.Rules))])]
def f54_s26 : St := pe (f54_s25 p0_ k_1 states_3 from_3 number_2 x_2) [(37, .eptr 1 3 (0 + Int.toNat k_1) 0)]
variable (x5 : GState)
def f54_s27 : St := pe (f54_s26 p0_ k_1 states_3 from_3 number_2 x_2) [(38, .agg [.d (.int .i64 x5.Mode), .d (.int .i64 x5.Last), .d (.int .u8 x5.Need)])]
def f54_s28 : St := pe (f54_s27 p0_ k_1 states_3 from_3 number_2 x_2 x5) [(39, .d (.int .i64 x_2))]
variable (r11 : (GState × Bool))
def f54_s29 : St := pe (f54_s28 p0_ k_1 states_3 from_3 number_2 x_2 x5) [(40, .tup [.agg [.d (.int .i64 r11.1.Mode), .d (.int .i64 r11.1.Last), .d (.int .u8 r11.1.Need)], .d (.bool r11.2)])]
def f54_s30 : St := po (f54_s29 p0_ k_1 states_3 from_3 number_2 x_2 x5 r11) [(11, .d (.bool r11.2)), (10, .ptr 4 0), (42, .d (.bool r11.2)), (41, .agg [.d (.int .i64 r11.1.Mode), .d (.int .i64 r11.1.Last), .d (.int .u8 r11.1.Need)]), (33, .tup [.agg [.d (.int .i64 r11.1.Mode), .d (.int .i64 r11.1.Last), .d (.int .u8 r11.1.Need)], .d (.bool r11.2)])] fun o => o ++ [some (.box [.d (.int .i64 r11.1.Mode), .d (.int .i64 r11.1.Last), .d (.int .u8 r11.1.Need)])]
def f54_s31 : St := pe (f54_s30 p0_ k_1 states_3 from_3 number_2 x_2 x5 r11) [(44, .d (.bool (!r11.2))), (43, .d (.bool r11.2))]
def f54_s32 : St := pe (f54_s31 p0_ k_1 states_3 from_3 number_2 x_2 x5 r11) [(47, .agg [.d (.int .i64 r11.1.Mode), .d (.int .i64 r11.1.Last), .d (.int .u8 r11.1.Need)]), (46, .mp 3)]
def f54_s33 : St := pe (f54_s32 p0_ k_1 states_3 from_3 number_2 x_2 x5 r11) [(48, .tup [.d (.int .i64 (Option.getD (mget r11.1 number_2) 0)), .d (.bool (Option.isSome (mget r11.1 number_2)))])]
def f54_s34 : St := pe (f54_s33 p0_ k_1 states_3 from_3 number_2 x_2 x5 r11) [(13, .d (.bool (Option.isSome (mget r11.1 number_2)))), (12, .d (.int .i64 (Option.getD (mget r11.1 number_2) 0))), (50, .d (.bool (Option.isSome (mget r11.1 number_2)))), (49, .d (.int .i64 (Option.getD (mget r11.1 number_2) 0))), (45, .tup [.d (.int .i64 (Option.getD (mget r11.1 number_2) 0)), .d (.bool (Option.isSome (mget r11.1 number_2)))])]
variable (states_6 : (List GState)) (from_6 : (List (List Int))) (number_5 : (List (GState × Int))) (n_1 : Int)
def f54_s35 : St := ⟨(1, .ptr 0 0) :: (5, .osl 1 3 0 (List.length states_6)) :: (6, .osl 2 1 0 (List.length from_6)) :: (7, .mp 3) :: (8, .d (.int .i64 k_1)) :: (12, .d (.int .i64 n_1)) :: (29, .d (.int .i64 ((List.length p0_.Rules : Nat) : Int))) :: (30, .d (.int .i64 x_2)) :: [], [some (.box [.d (.int .i64 p0_.Modes), .d (.int .u8 p0_.Accept), .d (.sl (List.map eGRule p0_.Rules))]), some (.arr 3 (List.map eGState states_6)), some (.narr 1 (List.map (nL 1 eI64) from_6)), some (.map true false (encM eGState eI64 number_5))]⟩
variable (x6 : (List Int))
def f54_s36 : St := po (f54_s35 p0_ k_1 x_2 states_6 from_6 number_5 n_1) [] fun o => o.set 2 (some (.narr 1 (List.set (List.map (nL 1 eI64) from_6) (Int.toNat n_1) [.osl 4 1 0 (List.length x6)]))) ++ [some (.arr 1 (List.map eI64 x6))]
def f54_s37 : St := pe (f54_s36 p0_ k_1 x_2 states_6 from_6 number_5 n_1 x6) [(68, .d (.int .i64 n_1)), (67, .osl 2 1 0 (List.length from_6)), (66, .d (.int .i64 n_1)), (65, .osl 2 1 0 (List.length from_6))]
def f54_s38 : St := pe (f54_s37 p0_ k_1 x_2 states_6 from_6 number_5 n_1 x6) [(69, .eptr 2 1 (0 + Int.toNat n_1) 0)]
def f54_s39 : St := pe (f54_s38 p0_ k_1 x_2 states_6 from_6 number_5 n_1 x6) [(70, .osl 4 1 0 (List.length x6))]
def f54_s40 : St := po (f54_s39 p0_ k_1 x_2 states_6 from_6 number_5 n_1 x6) [(72, .osl 5 1 0 (List.length [k_1])), (71, .d (.int .i64 k_1))] fun o => o ++ [some (.arr 1 (List.map eI64 [k_1]))]
variable (l3 : (List Int))
def f54_s41 : St := po (f54_s40 p0_ k_1 x_2 states_6 from_6 number_5 n_1 x6) [(73, .osl 6 1 0 (List.length l3))] fun o => o.set 4 none ++ [some (.arr 1 (List.map eI64 l3))]
def f54_s42 : St := pe (f54_s41 p0_ k_1 x_2 states_6 from_6 number_5 n_1 x6 l3) [(74, .eptr 2 1 (0 + Int.toNat n_1) 0)]
def f54_s43 : St := po (f54_s42 p0_ k_1 x_2 states_6 from_6 number_5 n_1 x6 l3) [] fun o => o.set 2 (some (.narr 1 (List.set (List.map (nL 1 eI64) from_6) (Int.toNat n_1) [.osl 6 1 0 (List.length l3)])))
def f54_s44 : St := pe (f54_s34 p0_ k_1 states_3 from_3 number_2 x_2 x5 r11) [(52, .d (.bool (!(Option.isSome (mget r11.1 number_2))))), (51, .d (.bool (Option.isSome (mget r11.1 number_2))))]
def f54_s45 : St := pe (f54_s44 p0_ k_1 states_3 from_3 number_2 x_2 x5 r11) [(12, .d (.int .i64 ((List.length states_3 : Nat) : Int))), (54, .d (.int .i64 ((List.length states_3 : Nat) : Int))), (53, .osl 1 3 0 (List.length states_3))]
def f54_s46 : St := pe (f54_s45 p0_ k_1 states_3 from_3 number_2 x_2 x5 r11) [(57, .d (.int .i64 ((List.length states_3 : Nat) : Int))), (56, .agg [.d (.int .i64 r11.1.Mode), .d (.int .i64 r11.1.Last), .d (.int .u8 r11.1.Need)]), (55, .mp 3)]
def f54_s47 : St := po (f54_s46 p0_ k_1 states_3 from_3 number_2 x_2 x5 r11) [] fun o => o.set 3 (some (.map true false (encM eGState eI64 (mput r11.1 ((List.length states_3 : Nat) : Int) number_2))))
def f54_s48 : St := po (f54_s47 p0_ k_1 states_3 from_3 number_2 x_2 x5 r11) [(60, .osl 5 3 0 (List.length [r11.1])), (59, .agg [.d (.int .i64 r11.1.Mode), .d (.int .i64 r11.1.Last), .d (.int .u8 r11.1.Need)]), (58, .osl 1 3 0 (List.length states_3))] fun o => o ++ [some (.arr 3 (List.map eGState [r11.1]))]
variable (l4 : (List GState))
def f54_s49 : St := po (f54_s48 p0_ k_1 states_3 from_3 number_2 x_2 x5 r11) [(61, .osl 6 3 0 (List.length l4))] fun o => o.set 1 none ++ [some (.arr 3 (List.map eGState l4))]
def f54_s50 : St := pe (f54_s49 p0_ k_1 states_3 from_3 number_2 x_2 x5 r11 l4) [(62, .osl 2 1 0 (List.length from_3))]
def f54_s51 : St := pe (f54_s50 p0_ k_1 states_3 from_3 number_2 x_2 x5 r11 l4) [(63, .d (.sl [[.nil]]))]
variable (l5 : (List (List Int)))
def f54_s52 : St := po (f54_s51 p0_ k_1 states_3 from_3 number_2 x_2 x5 r11 l4) [(64, .osl 7 1 0 (List.length l5))] fun o => o.set 2 none ++ [some (.narr 1 (List.map (nL 1 eI64) from_3 ++ [[.own 0 []]]))]
def f54_s53 : St := pe (f54_s52 p0_ k_1 states_3 from_3 number_2 x_2 x5 r11 l4 l5) [(6, .osl 7 1 0 (List.length l5)), (5, .osl 6 3 0 (List.length l4))]
def f54_L2_E (p0_ : GTable) (k_1 : Int) : ((List GState) × (List (List Int)) × (List (GState × Int))) → Ex → St → Prop := fun (y : ((List GState) × (List (List Int)) × (List (GState × Int)))) e s => e = Ex.exit 2 ∧ Shift s (f54_s20 p0_ k_1 y.1 y.2.1 y.2.2)
theorem f54_L2_ok {n : Nat} {p0_ : GTable} {k_1 : Int} (x : ((List GState) × (List (List Int)) × (List (GState × Int)) × Int)) (z : (((List GState) × (List (List Int)) × (List (GState × Int)) × Int) ⊕ ((List GState) × (List (List Int)) × (List (GState × Int))))) (H : f54_L2 n p0_ k_1 x.1 x.2.1 x.2.2.1 x.2.2.2 = some z) : wpA (cx 78) (nav [1,1,1,1,0,1,0,0,1,0,0,1,0,0] (bodyOf Try.f54)) (roundQ (fun (x : ((List GState) × (List (List Int)) × (List (GState × Int)) × Int)) => f54_s19 p0_ k_1 x.1 x.2.1 x.2.2.1 x.2.2.2) (f54_L2_E p0_ k_1) z) (f54_s19 p0_ k_1 x.1 x.2.1 x.2.2.1 x.2.2.2) := by
  obtain ⟨states_3, from_3, number_2, x_2⟩ := x
  dsimp only [f54_L2] at H
  refine at_seq (p0 := [1,1,1,1,0,1,0,0,1,0,0,1,0,0,0]) (p1 := [1,1,1,1,0,1,0,0,1,0,0,1,0,0,1]) (by kernel_rfl) ?_
  refine at_region (by kernel_rfl) sh_refl ?_
  refine chunk (s' := f54_s21 p0_ k_1 states_3 from_3 number_2 x_2) 1 1 (by kernel_rfl) rfl ?_
  refine at_end 1 (by kernel_rfl) ?_
  refine q_seq sh_refl ?_
  refine at_seq (p0 := [1,1,1,1,0,1,0,0,1,0,0,1,0,0,1,0]) (p1 := [1,1,1,1,0,1,0,0,1,0,0,1,0,0,1,1]) (by kernel_rfl) ?_
  rcases ite_some H with ⟨hc14, H⟩ | ⟨hc14, H⟩
  · refine at_condT (decide (x_2 < ((List.length p0_.Rules : Nat) : Int))) (p0 := [1,1,1,1,0,1,0,0,1,0,0,1,0,0,1,0,0]) (p1 := [1,1,1,1,0,1,0,0,1,0,0,1,0,0,1,0,1]) (by kernel_rfl) (by kernel_rfl) hc14 ?_
    refine at_skip (by kernel_rfl) ?_
    refine q_seq sh_refl ?_
    refine at_seqJ (p0 := [1,1,1,1,0,1,0,0,1,0,0,1,0,0,1,1,0]) (p1 := [1,1,1,1,0,1,0,0,1,0,0,1,0,0,1,1,1]) (fun (x : ((List GState) × (List (List Int)) × (List (GState × Int)))) => f54_s22 p0_ k_1 x_2 x.1 x.2.1 x.2.2) (fun (x : ((List GState) × (List (List Int)) × (List (GState × Int)))) => f54_J1 n x_2 x.1 x.2.1 x.2.2) z (by kernel_rfl) ?_ (fun hf54_J1 => ?_)
    · rintro ⟨states_5, from_5, number_4⟩ H
      dsimp only [f54_J1] at H
      refine at_region (by kernel_rfl) sh_refl ?_
      refine chunk (s' := f54_s23 p0_ k_1 x_2 states_5 from_5 number_4) 2 2 (by kernel_rfl) rfl ?_
      refine at_end 2 (by kernel_rfl) ?_
      have hz := Option.some.inj H
      subst hz
      exact round_go (sh_gcN (encN := (nL 1 eI64)) (xss := from_5) (sz := 1) [1,5,6,7,8,29,30] 2 (by kernel_rfl) (by kernel_rfl) (fun _ => rfl))
    refine at_block 3 (p0 := [1,1,1,1,0,1,0,0,1,0,0,1,0,0,1,1,0,0]) (by kernel_rfl) ?_
    refine at_seq (p0 := [1,1,1,1,0,1,0,0,1,0,0,1,0,0,1,1,0,0,0]) (p1 := [1,1,1,1,0,1,0,0,1,0,0,1,0,0,1,1,0,0,1]) (by kernel_rfl) ?_
    refine at_region (by kernel_rfl) sh_refl ?_
    refine chunk (s' := f54_s24 p0_ k_1 states_3 from_3 number_2 x_2) 2 2 (by kernel_rfl) rfl ?_
    refine at_end 2 (by kernel_rfl) ?_
    refine q_seq sh_refl ?_
    refine at_seq (p0 := [1,1,1,1,0,1,0,0,1,0,0,1,0,0,1,1,0,0,1,0]) (p1 := [1,1,1,1,0,1,0,0,1,0,0,1,0,0,1,1,0,0,1,1]) (by kernel_rfl) ?_
    refine at_region (by kernel_rfl) sh_refl ?_
    refine chunk (s' := f54_s25 p0_ k_1 states_3 from_3 number_2 x_2) 3 3 (by kernel_rfl) rfl ?_
    obtain ⟨x5, h22, H⟩ := bind_some H
    refine spec (s' := f54_s26 p0_ k_1 states_3 from_3 number_2 x_2) (v := .eptr 1 3 (0 + Int.toNat k_1) 0) (obs := []) (rm := []) (upd := none) 4 (by kernel_rfl) (is_idxO (k := 1) (esz := 3) (eb := 24) (ez := [.int .i64 0, .int .i64 0, .int .u8 0]) h22) (by kernel_rfl) rfl ?_
    refine spec (s' := f54_s27 p0_ k_1 states_3 from_3 number_2 x_2 x5) (v := .agg [.d (.int .i64 x5.Mode), .d (.int .i64 x5.Last), .d (.int .u8 x5.Need)]) (obs := []) (rm := []) (upd := none) 5 (by kernel_rfl) (is_ldA (enc := eGState) (objs := (f54_s26 p0_ k_1 states_3 from_3 number_2 x_2).objs) (i := k_1) (k := 1) (sz := 3) (off := 0) (t := ty 26) (v := .agg [.d (.int .i64 x5.Mode), .d (.int .i64 x5.Last), .d (.int .u8 x5.Need)]) (by kernel_rfl) h22 (by kernel_rfl) (by kernel_rfl)) (by kernel_rfl) rfl ?_
    refine chunk (s' := f54_s28 p0_ k_1 states_3 from_3 number_2 x_2 x5) 1 6 (by kernel_rfl) rfl ?_
    obtain ⟨r11, h23, H⟩ := bind_some H
    refine callS (s' := f54_s29 p0_ k_1 states_3 from_3 number_2 x_2 x5 r11) (f := 17) (xs := [.agg [.d (.int .i64 p0_.Modes), .d (.int .u8 p0_.Accept), .d (.sl (List.map eGRule p0_.Rules))], .agg [.d (.int .i64 x5.Mode), .d (.int .i64 x5.Last), .d (.int .u8 x5.Need)], .d (.int .i64 x_2)]) (ys := [.agg [.d (.int .i64 p0_.Modes), .d (.int .u8 p0_.Accept), .d (.sl (List.map eGRule p0_.Rules))], .agg [.d (.int .i64 x5.Mode), .d (.int .i64 x5.Last), .d (.int .u8 x5.Need)], .d (.int .i64 x_2)]) (ks := []) (obl := []) (r := .tup [.agg [.d (.int .i64 r11.1.Mode), .d (.int .i64 r11.1.Last), .d (.int .u8 r11.1.Need)], .d (.bool r11.2)]) (ls := []) 7 false (by kernel_rfl) (leZ) rfl (FAutomaton_Step_ok h23) (Or.inl rfl) rfl (by kernel_rfl) rfl ?_
    refine chunk (s' := f54_s30 p0_ k_1 states_3 from_3 number_2 x_2 x5 r11) 6 13 (by kernel_rfl) rfl ?_
    refine at_end 13 (by kernel_rfl) ?_
    refine q_seq sh_refl ?_
    refine at_seq (p0 := [1,1,1,1,0,1,0,0,1,0,0,1,0,0,1,1,0,0,1,1,0]) (p1 := [1,1,1,1,0,1,0,0,1,0,0,1,0,0,1,1,0,0,1,1,1]) (by kernel_rfl) ?_
    refine at_seq (p0 := [1,1,1,1,0,1,0,0,1,0,0,1,0,0,1,1,0,0,1,1,0,0]) (p1 := [1,1,1,1,0,1,0,0,1,0,0,1,0,0,1,1,0,0,1,1,0,1]) (by kernel_rfl) ?_
    refine at_region (by kernel_rfl) sh_refl ?_
    refine chunk (s' := f54_s31 p0_ k_1 states_3 from_3 number_2 x_2 x5 r11) 2 2 (by kernel_rfl) rfl ?_
    refine at_end 2 (by kernel_rfl) ?_
    refine q_seq sh_refl ?_
    rcases ite_some H with ⟨hc13, H⟩ | ⟨hc13, H⟩
    · refine at_condT (!r11.2) (p0 := [1,1,1,1,0,1,0,0,1,0,0,1,0,0,1,1,0,0,1,1,0,1,0]) (p1 := [1,1,1,1,0,1,0,0,1,0,0,1,0,0,1,1,0,0,1,1,0,1,1]) (by kernel_rfl) (by kernel_rfl) hc13 ?_
      refine at_exit 3 (by kernel_rfl) ?_
      refine q_seqX ?_
      refine q_blockH ?_
      exact q_seq (sh_gcN (encN := (nL 1 eI64)) (xss := from_3) (sz := 1) [1,5,6,7,8,29,30] 2 (by kernel_rfl) (by kernel_rfl) (fun _ => rfl)) (hf54_J1 (states_3, from_3, number_2) H)
    · refine at_condF (!r11.2) (p0 := [1,1,1,1,0,1,0,0,1,0,0,1,0,0,1,1,0,0,1,1,0,1,0]) (p1 := [1,1,1,1,0,1,0,0,1,0,0,1,0,0,1,1,0,0,1,1,0,1,1]) (by kernel_rfl) (by kernel_rfl) hc13 ?_
      refine at_skip (by kernel_rfl) ?_
      refine q_seq sh_refl ?_
      refine at_seq (p0 := [1,1,1,1,0,1,0,0,1,0,0,1,0,0,1,1,0,0,1,1,1,0]) (p1 := [1,1,1,1,0,1,0,0,1,0,0,1,0,0,1,1,0,0,1,1,1,1]) (by kernel_rfl) ?_
      refine at_region (by kernel_rfl) sh_refl ?_
      refine chunk (s' := f54_s32 p0_ k_1 states_3 from_3 number_2 x_2 x5 r11) 2 2 (by kernel_rfl) rfl ?_
      refine spec (s' := f54_s33 p0_ k_1 states_3 from_3 number_2 x_2 x5 r11) (v := .tup [.d (.int .i64 (Option.getD (mget r11.1 number_2) 0)), .d (.bool (Option.isSome (mget r11.1 number_2)))]) (obs := []) (rm := []) (upd := none) 3 (by kernel_rfl) (is_look1 (enc := eI64) (encK := eGState) (objs := (f54_s32 p0_ k_1 states_3 from_3 number_2 x_2 x5 r11).objs) (k := 3) (e1 := fun x => .int .i64 x) (m := number_2) (l := [.d (.int .i64 r11.1.Mode), .d (.int .i64 r11.1.Last), .d (.int .u8 r11.1.Need)]) (key := r11.1) (z := 0) (vz := [.int .i64 0]) (eqk26) (fun _ => rfl) rfl (by kernel_rfl) (by kernel_rfl) true) (by kernel_rfl) rfl ?_
      refine chunk (s' := f54_s34 p0_ k_1 states_3 from_3 number_2 x_2 x5 r11) 5 8 (by kernel_rfl) rfl ?_
      refine at_end 8 (by kernel_rfl) ?_
      refine q_seq sh_refl ?_
      refine at_seqJ (p0 := [1,1,1,1,0,1,0,0,1,0,0,1,0,0,1,1,0,0,1,1,1,1,0]) (p1 := [1,1,1,1,0,1,0,0,1,0,0,1,0,0,1,1,0,0,1,1,1,1,1]) (fun (x : ((List GState) × (List (List Int)) × (List (GState × Int)) × Int)) => f54_s35 p0_ k_1 x_2 x.1 x.2.1 x.2.2.1 x.2.2.2) (fun (x : ((List GState) × (List (List Int)) × (List (GState × Int)) × Int)) => f54_J2 n k_1 x_2 x.1 x.2.1 x.2.2.1 x.2.2.2) z (by kernel_rfl) ?_ (fun hf54_J2 => ?_)
      · rintro ⟨states_6, from_6, number_5, n_1⟩ H
        dsimp only [f54_J2] at H
        obtain ⟨x6, h24, H⟩ := bind_some H
        refine at_region (s' := f54_s36 p0_ k_1 x_2 states_6 from_6 number_5 n_1 x6) (by kernel_rfl) (Shift.trans (sh_out (enc := eI64) (encN := (nL 1 eI64)) (xss := from_6) (x := x6) (ys := x6) (n := n_1) (sz := 1) 2 0 1 (by kernel_rfl) h24 rfl) (sh_eq (by kernel_rfl))) ?_
        refine chunk (s' := f54_s37 p0_ k_1 x_2 states_6 from_6 number_5 n_1 x6) 4 4 (by kernel_rfl) rfl ?_
        refine spec (s' := f54_s38 p0_ k_1 x_2 states_6 from_6 number_5 n_1 x6) (v := .eptr 2 1 (0 + Int.toNat n_1) 0) (obs := []) (rm := []) (upd := none) 5 (by kernel_rfl) (is_idxO (k := 2) (esz := 1) (eb := 24) (ez := [.nil]) h24) (by kernel_rfl) rfl ?_
        refine spec (s' := f54_s39 p0_ k_1 x_2 states_6 from_6 number_5 n_1 x6) (v := .osl 4 1 0 (List.length x6)) (obs := []) (rm := []) (upd := none) 6 (by kernel_rfl) (is_ldN (encN := (nL 1 eI64)) (objs := (f54_s38 p0_ k_1 x_2 states_6 from_6 number_5 n_1 x6).objs) (xss := from_6) (x := x6) (row := [.osl 4 1 0 (List.length x6)]) (n := n_1) (k := 2) (sz := 1) (off := 0) (t := ty 33) (v := .osl 4 1 0 (List.length x6)) (by kernel_rfl) h24 (by kernel_rfl) (by kernel_rfl) (by kernel_rfl)) (by kernel_rfl) rfl ?_
        refine chunk (s' := f54_s40 p0_ k_1 x_2 states_6 from_6 number_5 n_1 x6) 2 8 (by kernel_rfl) rfl ?_
        obtain ⟨l3, h25, H⟩ := bind_some H
        refine spec (s' := f54_s41 p0_ k_1 x_2 states_6 from_6 number_5 n_1 x6 l3) (v := .osl 6 1 0 (List.length l3)) (obs := [.arr 1 (List.map eI64 l3)]) (rm := [4]) (upd := none) 9 (by kernel_rfl) (is_app (enc := eI64) (objs := (f54_s40 p0_ k_1 x_2 states_6 from_6 number_5 n_1 x6).objs) (esz := 1) (eb := 8) (ob := 0 + List.length [k_1] ≤ List.length (List.map eI64 [k_1])) (k := 4) (by kernel_rfl) take_all (fun _ => rfl) (by simp) h25) (by kernel_rfl) rfl ?_
        refine spec (s' := f54_s42 p0_ k_1 x_2 states_6 from_6 number_5 n_1 x6 l3) (v := .eptr 2 1 (0 + Int.toNat n_1) 0) (obs := []) (rm := []) (upd := none) 10 (by kernel_rfl) (is_idxO (k := 2) (esz := 1) (eb := 24) (ez := [.nil]) h24) (by kernel_rfl) rfl ?_
        refine spec (s' := f54_s43 p0_ k_1 x_2 states_6 from_6 number_5 n_1 x6 l3) (v := .top) (obs := []) (rm := []) (upd := some (2, .narr 1 (List.set (List.map (nL 1 eI64) from_6) (Int.toNat n_1) [.osl 6 1 0 (List.length l3)]))) 11 (by kernel_rfl) (is_stN (encN := (nL 1 eI64)) (objs := (f54_s42 p0_ k_1 x_2 states_6 from_6 number_5 n_1 x6 l3).objs) (xss := from_6) (x := x6) (row := [.osl 4 1 0 (List.length x6)]) (row' := [.osl 6 1 0 (List.length l3)]) (n := n_1) (k := 2) (sz := 1) (off := 0) (t := ty 33) (v := .osl 6 1 0 (List.length l3)) (by kernel_rfl) h24 (by kernel_rfl) (by kernel_rfl) (by kernel_rfl)) (by kernel_rfl) rfl ?_
        refine at_end 11 (by kernel_rfl) ?_
        refine q_blockN ?_
        exact q_seq (Shift.trans (Shift.trans (Shift.trans (Shift.trans (sh_inn (enc := eI64) (encN := (nL 1 eI64)) (xss := from_6) (yss := List.set from_6 (Int.toNat n_1) l3) (x := x6) (y := l3) (row := [.osl 6 1 0 (List.length l3)]) (zs := l3) (n := n_1) (sz := 1) 2 0 6 1 (by kernel_rfl) h24 rfl rfl rfl) (sh_len 6 2 1 0 (List.length from_6) (List.length (List.set from_6 (Int.toNat n_1) l3)) (by kernel_rfl) (List.length_set).symm)) (sh_len 65 2 1 0 (List.length from_6) (List.length (List.set from_6 (Int.toNat n_1) l3)) (by kernel_rfl) (List.length_set).symm)) (sh_len 67 2 1 0 (List.length from_6) (List.length (List.set from_6 (Int.toNat n_1) l3)) (by kernel_rfl) (List.length_set).symm)) (sh_gcN (encN := (nL 1 eI64)) (xss := List.set from_6 (Int.toNat n_1) l3) (sz := 1) [1,5,6,7,8,29,30] 2 (by kernel_rfl) (by kernel_rfl) (fun _ => rfl))) (hf54_J1 (states_6, (List.set from_6 (Int.toNat n_1) l3), number_5) H)
      refine at_seq (p0 := [1,1,1,1,0,1,0,0,1,0,0,1,0,0,1,1,0,0,1,1,1,1,0,0]) (p1 := [1,1,1,1,0,1,0,0,1,0,0,1,0,0,1,1,0,0,1,1,1,1,0,1]) (by kernel_rfl) ?_
      refine at_region (by kernel_rfl) sh_refl ?_
      refine chunk (s' := f54_s44 p0_ k_1 states_3 from_3 number_2 x_2 x5 r11) 2 2 (by kernel_rfl) rfl ?_
      refine at_end 2 (by kernel_rfl) ?_
      refine q_seq sh_refl ?_
      rcases ite_some H with ⟨hc12, H⟩ | ⟨hc12, H⟩
      · refine at_condT (!(Option.isSome (mget r11.1 number_2))) (p0 := [1,1,1,1,0,1,0,0,1,0,0,1,0,0,1,1,0,0,1,1,1,1,0,1,0]) (p1 := [1,1,1,1,0,1,0,0,1,0,0,1,0,0,1,1,0,0,1,1,1,1,0,1,1]) (by kernel_rfl) (by kernel_rfl) hc12 ?_
        refine at_seq (p0 := [1,1,1,1,0,1,0,0,1,0,0,1,0,0,1,1,0,0,1,1,1,1,0,1,0,0]) (p1 := [1,1,1,1,0,1,0,0,1,0,0,1,0,0,1,1,0,0,1,1,1,1,0,1,0,1]) (by kernel_rfl) ?_
        refine at_region (by kernel_rfl) sh_refl ?_
        refine chunk (s' := f54_s45 p0_ k_1 states_3 from_3 number_2 x_2 x5 r11) 3 3 (by kernel_rfl) rfl ?_
        refine at_end 3 (by kernel_rfl) ?_
        refine q_seq sh_refl ?_
        refine at_seq (p0 := [1,1,1,1,0,1,0,0,1,0,0,1,0,0,1,1,0,0,1,1,1,1,0,1,0,1,0]) (p1 := [1,1,1,1,0,1,0,0,1,0,0,1,0,0,1,1,0,0,1,1,1,1,0,1,0,1,1]) (by kernel_rfl) ?_
        refine at_region (by kernel_rfl) sh_refl ?_
        refine chunk (s' := f54_s46 p0_ k_1 states_3 from_3 number_2 x_2 x5 r11) 3 3 (by kernel_rfl) rfl ?_
        refine spec (s' := f54_s47 p0_ k_1 states_3 from_3 number_2 x_2 x5 r11) (v := .top) (obs := []) (rm := []) (upd := some (3, .map true false (encM eGState eI64 (mput r11.1 ((List.length states_3 : Nat) : Int) number_2)))) 4 (by kernel_rfl) (is_put1 (enc := eI64) (encK := eGState) (objs := (f54_s46 p0_ k_1 states_3 from_3 number_2 x_2 x5 r11).objs) (k := 3) (e1 := fun x => .int .i64 x) (m := number_2) (l := [.d (.int .i64 r11.1.Mode), .d (.int .i64 r11.1.Last), .d (.int .u8 r11.1.Need)]) (key := r11.1) (y := ((List.length states_3 : Nat) : Int)) (v := .d (.int .i64 ((List.length states_3 : Nat) : Int))) (vz := [.int .i64 0]) (eqk26) (fun _ => rfl) rfl (by kernel_rfl) (by kernel_rfl) rfl (by kernel_rfl)) (by kernel_rfl) rfl ?_
        refine at_end 4 (by kernel_rfl) ?_
        refine q_seq sh_refl ?_
        refine at_region (by kernel_rfl) sh_refl ?_
        refine chunk (s' := f54_s48 p0_ k_1 states_3 from_3 number_2 x_2 x5 r11) 3 3 (by kernel_rfl) rfl ?_
        obtain ⟨l4, h26, H⟩ := bind_some H
        refine spec (s' := f54_s49 p0_ k_1 states_3 from_3 number_2 x_2 x5 r11 l4) (v := .osl 6 3 0 (List.length l4)) (obs := [.arr 3 (List.map eGState l4)]) (rm := [1]) (upd := none) 4 (by kernel_rfl) (is_app (enc := eGState) (objs := (f54_s48 p0_ k_1 states_3 from_3 number_2 x_2 x5 r11).objs) (esz := 3) (eb := 24) (ob := 0 + List.length [r11.1] ≤ List.length (List.map eGState [r11.1])) (k := 1) (by kernel_rfl) take_all (fun _ => rfl) (by simp) h26) (by kernel_rfl) rfl ?_
        refine chunk (s' := f54_s50 p0_ k_1 states_3 from_3 number_2 x_2 x5 r11 l4) 1 5 (by kernel_rfl) rfl ?_
        refine specK (s' := f54_s51 p0_ k_1 states_3 from_3 number_2 x_2 x5 r11 l4) (esz := 1) 6 false [[.nil]] (by kernel_rfl) (by kernel_rfl) rfl ?_
        obtain ⟨l5, h27, H⟩ := bind_some H
        refine spec (s' := f54_s52 p0_ k_1 states_3 from_3 number_2 x_2 x5 r11 l4 l5) (v := .osl 7 1 0 (List.length l5)) (obs := [.narr 1 (List.map (nL 1 eI64) from_3 ++ [[.own 0 []]])]) (rm := [2]) (upd := none) 7 (by kernel_rfl) (is_appN (encN := (nL 1 eI64)) (objs := (f54_s51 p0_ k_1 states_3 from_3 number_2 x_2 x5 r11 l4).objs) (esz := 1) (eb := 24) (k := 2) (y := ([] : (List Int))) (e := [.nil]) (ob := True) (by kernel_rfl) (by kernel_rfl) trivial h27) (by kernel_rfl) rfl ?_
        refine chunk (s' := f54_s53 p0_ k_1 states_3 from_3 number_2 x_2 x5 r11 l4 l5) 2 9 (by kernel_rfl) rfl ?_
        refine at_end 9 (by kernel_rfl) ?_
        exact q_seq (Shift.trans (sh_reN (encN := (nL 1 eI64)) (xss := from_3) (yss := l5) (y := ([] : (List Int))) (row := [.own 0 []]) (sz := 1) 7 (by kernel_rfl) (app_one h27) (by kernel_rfl)) (sh_gcN (encN := (nL 1 eI64)) (xss := l5) (sz := 1) [1,5,6,7,8,12,29,30] 2 (by kernel_rfl) (by kernel_rfl) (fun _ => rfl))) (hf54_J2 (l4, l5, (mput r11.1 ((List.length states_3 : Nat) : Int) number_2), ((List.length states_3 : Nat) : Int)) H)
      · refine at_condF (!(Option.isSome (mget r11.1 number_2))) (p0 := [1,1,1,1,0,1,0,0,1,0,0,1,0,0,1,1,0,0,1,1,1,1,0,1,0]) (p1 := [1,1,1,1,0,1,0,0,1,0,0,1,0,0,1,1,0,0,1,1,1,1,0,1,1]) (by kernel_rfl) (by kernel_rfl) hc12 ?_
        refine at_skip (by kernel_rfl) ?_
        exact q_seq (sh_gcN (encN := (nL 1 eI64)) (xss := from_3) (sz := 1) [1,5,6,7,8,12,29,30] 2 (by kernel_rfl) (by kernel_rfl) (fun _ => rfl)) (hf54_J2 (states_3, from_3, number_2, (Option.getD (mget r11.1 number_2) 0)) H)
  · refine at_condF (decide (x_2 < ((List.length p0_.Rules : Nat) : Int))) (p0 := [1,1,1,1,0,1,0,0,1,0,0,1,0,0,1,0,0]) (p1 := [1,1,1,1,0,1,0,0,1,0,0,1,0,0,1,0,1]) (by kernel_rfl) (by kernel_rfl) hc14 ?_
    refine at_exit 2 (by kernel_rfl) ?_
    refine q_seqX ?_
    have hz := Option.some.inj H
    subst hz
    exact round_exit ⟨rfl, sh_gcN (encN := (nL 1 eI64)) (xss := from_3) (sz := 1) [1,5,6,7,8] 2 (by kernel_rfl) (by kernel_rfl) (fun _ => rfl)⟩
variable (y2 : ((List GState) × (List (List Int)) × (List (GState × Int))))
def f54_s54 : St := pe (f54_s20 p0_ k_1 y2.1 y2.2.1 y2.2.2) [(8, .d (.int .i64 (iadd .i64 k_1 1))), (26, .d (.int .i64 (iadd .i64 k_1 1))), (25, .d (.int .i64 k_1))]
def f54_L1_E (p0_ : GTable) : ((List GState) × (List (List Int))) → Ex → St → Prop := fun (y : ((List GState) × (List (List Int)))) e s => e = Ex.exit 0 ∧ Shift s (f54_s14 y.1 y.2)
theorem f54_L1_ok {n : Nat} {p0_ : GTable} (x : ((List GState) × (List (List Int)) × (List (GState × Int)) × Int)) (z : (((List GState) × (List (List Int)) × (List (GState × Int)) × Int) ⊕ ((List GState) × (List (List Int))))) (H : f54_L1 n p0_ x.1 x.2.1 x.2.2.1 x.2.2.2 = some z) : wpA (cx 78) (nav [1,1,1,1,0,1,0,0] (bodyOf Try.f54)) (roundQ (fun (x : ((List GState) × (List (List Int)) × (List (GState × Int)) × Int)) => f54_s13 p0_ x.1 x.2.1 x.2.2.1 x.2.2.2) (f54_L1_E p0_) z) (f54_s13 p0_ x.1 x.2.1 x.2.2.1 x.2.2.2) := by
  obtain ⟨states_1, from_1, number_1, k_1⟩ := x
  dsimp only [f54_L1] at H
  refine at_seq (p0 := [1,1,1,1,0,1,0,0,0]) (p1 := [1,1,1,1,0,1,0,0,1]) (by kernel_rfl) ?_
  refine at_seq (p0 := [1,1,1,1,0,1,0,0,0,0]) (p1 := [1,1,1,1,0,1,0,0,0,1]) (by kernel_rfl) ?_
  refine at_region (by kernel_rfl) sh_refl ?_
  refine chunk (s' := f54_s15 p0_ states_1 from_1 number_1 k_1) 4 4 (by kernel_rfl) rfl ?_
  refine at_end 4 (by kernel_rfl) ?_
  refine q_seq sh_refl ?_
  rcases ite_some H with ⟨hc15, H⟩ | ⟨hc15, H⟩
  · refine at_condT (decide (k_1 < ((List.length states_1 : Nat) : Int))) (p0 := [1,1,1,1,0,1,0,0,0,1,0]) (p1 := [1,1,1,1,0,1,0,0,0,1,1]) (by kernel_rfl) (by kernel_rfl) hc15 ?_
    refine at_skip (by kernel_rfl) ?_
    refine q_seq sh_refl ?_
    refine at_seq (p0 := [1,1,1,1,0,1,0,0,1,0]) (p1 := [1,1,1,1,0,1,0,0,1,1]) (by kernel_rfl) ?_
    refine at_block 1 (p0 := [1,1,1,1,0,1,0,0,1,0,0]) (by kernel_rfl) ?_
    refine at_seq (p0 := [1,1,1,1,0,1,0,0,1,0,0,0]) (p1 := [1,1,1,1,0,1,0,0,1,0,0,1]) (by kernel_rfl) ?_
    refine at_region (by kernel_rfl) sh_refl ?_
    refine chunk (s' := f54_s16 p0_ states_1 from_1 number_1 k_1) 2 2 (by kernel_rfl) rfl ?_
    refine spec (s' := f54_s17 p0_ states_1 from_1 number_1 k_1) (v := .d (.int .i64 ((List.length p0_.Rules : Nat) : Int))) (obs := []) (rm := []) (upd := none) 3 (by kernel_rfl) (is_len (enc := eGRule) (esz := 6) (eb := 64) (ez := [.str [], .nil, .int .u8 0, .int .u8 0, .int .i64 0, .int .i64 0]) (xs := p0_.Rules)) (by kernel_rfl) rfl ?_
    refine chunk (s' := f54_s18 p0_ states_1 from_1 number_1 k_1) 1 4 (by kernel_rfl) rfl ?_
    refine at_end 4 (by kernel_rfl) ?_
    refine q_seq sh_refl ?_
    refine at_block 2 (p0 := [1,1,1,1,0,1,0,0,1,0,0,1,0]) (by kernel_rfl) ?_
    obtain ⟨y2, h28, H⟩ := bind_some H
    refine at_loop (p0 := [1,1,1,1,0,1,0,0,1,0,0,1,0,0]) (fun (x : ((List GState) × (List (List Int)) × (List (GState × Int)) × Int)) => f54_s19 p0_ k_1 x.1 x.2.1 x.2.2.1 x.2.2.2) (f54_L2_E p0_ k_1) (by kernel_rfl) h28 (sh_gcN (encN := (nL 1 eI64)) (xss := from_1) (sz := 1) [1,5,6,7,8,29,30] 2 (by kernel_rfl) (by kernel_rfl) (fun _ => rfl)) (fun x z => f54_L2_ok x z) ?_
    intro e s hE2
    obtain ⟨rfl, hE2⟩ := hE2
    refine q_blockH ?_
    refine q_blockN ?_
    refine q_seq (s' := f54_s20 p0_ k_1 y2.1 y2.2.1 y2.2.2) (hE2) ?_
    refine at_region (by kernel_rfl) sh_refl ?_
    refine chunk (s' := f54_s54 p0_ k_1 y2) 3 3 (by kernel_rfl) rfl ?_
    refine at_end 3 (by kernel_rfl) ?_
    have hz := Option.some.inj H
    subst hz
    exact round_go (sh_gcN (encN := (nL 1 eI64)) (xss := y2.2.1) (sz := 1) [1,5,6,7,8] 2 (by kernel_rfl) (by kernel_rfl) (fun _ => rfl))
  · refine at_condF (decide (k_1 < ((List.length states_1 : Nat) : Int))) (p0 := [1,1,1,1,0,1,0,0,0,1,0]) (p1 := [1,1,1,1,0,1,0,0,0,1,1]) (by kernel_rfl) (by kernel_rfl) hc15 ?_
    refine at_exit 0 (by kernel_rfl) ?_
    refine q_seqX ?_
    have hz := Option.some.inj H
    subst hz
    exact round_exit ⟨rfl, sh_gcN (encN := (nL 1 eI64)) (xss := from_1) (sz := 1) [5,6] 1 (by kernel_rfl) (by kernel_rfl) (fun _ => rfl)⟩
variable (y3 : ((List GState) × (List (List Int))))
def f54_s55 : St := pe (f54_s14 y3.1 y3.2) [(3, .osl 1 1 0 (List.length y3.2)), (2, .osl 0 3 0 (List.length y3.1)), (77, .osl 1 1 0 (List.length y3.2)), (76, .osl 0 3 0 (List.length y3.1))]
def f54_s56 : St := po (f54_s55 y3) [(3, .d (.sl (List.map (eL eI64) y3.2)))] fun o => o.set 1 none
theorem FAutomaton_explore_ok {n : Nat} {p0_ : GTable} {z : ((List GState) × (List (List Int)))} (H : FAutomaton_explore n p0_ = some z) : CallOK Try.prog 54 [.agg [.d (.int .i64 p0_.Modes), .d (.int .u8 p0_.Accept), .d (.sl (List.map eGRule p0_.Rules))]] (.tup [.own 3 (List.map eGState z.1), .d (.sl (List.map (eL eI64) z.2))]) := by
  dsimp only [FAutomaton_explore] at H
  refine fn_ok (Γ := cx 78) (s := f54_s1 p0_) follows (cxOK 78) Try.func54 (by kernel_rfl) (by kernel_rfl) (by kernel_rfl) (by kernel_rfl) (by kernel_rfl) (by kernel_rfl) ?_
  refine at_seq (p0 := [0]) (p1 := [1]) (by kernel_rfl) ?_
  refine at_region (by kernel_rfl) sh_refl ?_
  refine chunk (s' := f54_s2 p0_) 3 3 (by kernel_rfl) rfl ?_
  refine at_end 3 (by kernel_rfl) ?_
  refine q_seq sh_refl ?_
  refine at_seq (p0 := [1,0]) (p1 := [1,1]) (by kernel_rfl) ?_
  refine at_region (by kernel_rfl) sh_refl ?_
  obtain ⟨r10, h21, H⟩ := bind_some H
  refine callS (s' := f54_s3 p0_ r10) (f := 31) (xs := []) (ys := []) (ks := []) (obl := []) (r := .agg [.d (.int .i64 r10.Mode), .d (.int .i64 r10.Last), .d (.int .u8 r10.Need)]) (ls := []) 1 false (by kernel_rfl) (leZ) rfl (FAutomaton_Start_ok h21) (Or.inl rfl) rfl (by kernel_rfl) rfl ?_
  refine chunk (s' := f54_s4 p0_ r10) 2 3 (by kernel_rfl) rfl ?_
  refine at_end 3 (by kernel_rfl) ?_
  refine q_seq sh_refl ?_
  refine at_seq (p0 := [1,1,0]) (p1 := [1,1,1]) (by kernel_rfl) ?_
  refine at_region (by kernel_rfl) sh_refl ?_
  refine chunk (s' := f54_s5 p0_ r10) 2 2 (by kernel_rfl) rfl ?_
  refine specK (s' := f54_s6 p0_ r10) (esz := 1) 3 true [[.nil]] (by kernel_rfl) (by kernel_rfl) rfl ?_
  refine chunk (s' := f54_s7 p0_ r10) 2 5 (by kernel_rfl) rfl ?_
  refine at_end 5 (by kernel_rfl) ?_
  refine q_seq sh_refl ?_
  refine at_seq (p0 := [1,1,1,0]) (p1 := [1,1,1,1]) (by kernel_rfl) ?_
  refine at_region (s' := f54_s8 p0_ r10) (by kernel_rfl) (Shift.trans (sh_toN (sz := 1) (es := [[.nil]]) 3 (List.map (nL 1 eI64) ([[]] : List (List Int))) (by kernel_rfl) (by kernel_rfl)) (sh_eq (by kernel_rfl))) ?_
  refine chunk (s' := f54_s9 p0_ r10) 2 2 (by kernel_rfl) rfl ?_
  refine spec (s' := f54_s10 p0_ r10) (v := .top) (obs := []) (rm := []) (upd := some (4, .map true false (encM eGState eI64 (mput r10 0 [])))) 3 (by kernel_rfl) (is_put1 (enc := eI64) (encK := eGState) (objs := (f54_s9 p0_ r10).objs) (k := 4) (e1 := fun x => .int .i64 x) (m := []) (l := [.d (.int .i64 r10.Mode), .d (.int .i64 r10.Last), .d (.int .u8 r10.Need)]) (key := r10) (y := 0) (v := .d (.int .i64 0)) (vz := [.int .i64 0]) (eqk26) (fun _ => rfl) rfl (by kernel_rfl) (by kernel_rfl) rfl (by kernel_rfl)) (by kernel_rfl) rfl ?_
  refine chunk (s' := f54_s11 p0_ r10) 2 5 (by kernel_rfl) rfl ?_
  refine at_end 5 (by kernel_rfl) ?_
  refine q_seq sh_refl ?_
  refine at_seq (p0 := [1,1,1,1,0]) (p1 := [1,1,1,1,1]) (by kernel_rfl) ?_
  refine at_seq (p0 := [1,1,1,1,0,0]) (p1 := [1,1,1,1,0,1]) (by kernel_rfl) ?_
  refine at_region (by kernel_rfl) sh_refl ?_
  refine chunk (s' := f54_s12 p0_ r10) 1 1 (by kernel_rfl) rfl ?_
  refine at_end 1 (by kernel_rfl) ?_
  refine q_seq sh_refl ?_
  refine at_block 0 (p0 := [1,1,1,1,0,1,0]) (by kernel_rfl) ?_
  obtain ⟨y3, h29, H⟩ := bind_some H
  refine at_loop (p0 := [1,1,1,1,0,1,0,0]) (fun (x : ((List GState) × (List (List Int)) × (List (GState × Int)) × Int)) => f54_s13 p0_ x.1 x.2.1 x.2.2.1 x.2.2.2) (f54_L1_E p0_) (by kernel_rfl) h29 (sh_gcN (encN := (nL 1 eI64)) (xss := ([[]] : List (List Int))) (sz := 1) [1,5,6,7,8] 2 (by kernel_rfl) (by kernel_rfl) (fun _ => rfl)) (fun x z => f54_L1_ok x z) ?_
  intro e s hE3
  obtain ⟨rfl, hE3⟩ := hE3
  refine q_blockH ?_
  refine q_seq (s' := f54_s14 y3.1 y3.2) (hE3) ?_
  refine at_seq (p0 := [1,1,1,1,1,0]) (p1 := [1,1,1,1,1,1]) (by kernel_rfl) ?_
  refine at_region (by kernel_rfl) sh_refl ?_
  refine chunk (s' := f54_s55 y3) 4 4 (by kernel_rfl) rfl ?_
  refine at_end 4 (by kernel_rfl) ?_
  refine q_seq (s' := f54_s56 y3) (Shift.trans (sh_frzN (encN := (nL 1 eI64)) (encD := (eL eI64)) (xss := y3.2) (k := 1) (sz := 1) 3 (by kernel_rfl) (fun _ => rfl) (fun _ => rfl)) (sh_eq (by kernel_rfl))) ?_
  refine at_ret (by kernel_rfl) ?_
  have hz := Option.some.inj H
  subst hz
  exact post_ret (retT (vs := [.osl 0 3 0 (List.length y3.1), .d (.sl (List.map (eL eI64) y3.2))]) (l := [.own 3 (List.map eGState y3.1), .d (.sl (List.map (eL eI64) y3.2))]) (by kernel_rfl) rfl (outT_cons (outA_o (outV_own (by kernel_rfl))) (outT_cons (outA_d (outV_d)) (outT_nil))) [0] (by kernel_rfl) (by decide))
end
section
variable (p0_ : GTable)
def f25_s1 : St := ⟨(0, .agg [.d (.int .i64 p0_.Modes), .d (.int .u8 p0_.Accept), .d (.sl (List.map eGRule p0_.Rules))]) :: [], []⟩
def f25_s2 : St := po (f25_s1 p0_) [(2, .d (.nil)), (1, .ptr 0 0)] fun _ => [some (.box [.d (.int .i64 p0_.Modes), .d (.int .u8 p0_.Accept), .d (.sl (List.map eGRule p0_.Rules))])]
def f25_s3 : St := pe (f25_s2 p0_) [(6, .agg [.d (.int .i64 p0_.Modes), .d (.int .u8 p0_.Accept), .d (.sl (List.map eGRule p0_.Rules))])]
variable (r12 : ((List GState) × (List (List Int))))
def f25_s4 : St := pe (f25_s3 p0_) [(7, .tup [.d (.sl (List.map eGState r12.1)), .d (.sl (List.map (eL eI64) r12.2))])]
def f25_s5 : St := pe (f25_s4 p0_ r12) [(4, .d (.sl (List.map (eL eI64) r12.2))), (3, .d (.sl (List.map eGState r12.1))), (9, .d (.sl (List.map (eL eI64) r12.2))), (8, .d (.sl (List.map eGState r12.1))), (5, .tup [.d (.sl (List.map eGState r12.1)), .d (.sl (List.map (eL eI64) r12.2))])]
def f25_s6 : St := pe (f25_s5 p0_ r12) [(2, .d (.sl (List.map eGState r12.1))), (10, .d (.sl (List.map eGState r12.1)))]
theorem FAutomaton_States_ok {n : Nat} {p0_ : GTable} {z : (List GState)} (H : FAutomaton_States n p0_ = some z) : CallOK Try.prog 25 [.agg [.d (.int .i64 p0_.Modes), .d (.int .u8 p0_.Accept), .d (.sl (List.map eGRule p0_.Rules))]] (.d (.sl (List.map eGState z))) := by
  dsimp only [FAutomaton_States] at H
  refine fn_ok (Γ := cx 11) (s := f25_s1 p0_) follows (cxOK 11) Try.func25 (by kernel_rfl) (by kernel_rfl) (by kernel_rfl) (by kernel_rfl) (by kernel_rfl) (by kernel_rfl) ?_
  refine at_seq (p0 := [0]) (p1 := [1]) (by kernel_rfl) ?_
  refine at_region (by kernel_rfl) sh_refl ?_
  refine chunk (s' := f25_s2 p0_) 2 2 (by kernel_rfl) rfl ?_
  refine at_end 2 (by kernel_rfl) ?_
  refine q_seq sh_refl ?_
  refine at_seq (p0 := [1,0]) (p1 := [1,1]) (by kernel_rfl) ?_
  refine at_region (by kernel_rfl) sh_refl ?_
  refine chunk (s' := f25_s3 p0_) 1 1 (by kernel_rfl) rfl ?_
  obtain ⟨r12, h30, H⟩ := bind_some H
  refine callS (s' := f25_s4 p0_ r12) (f := 54) (xs := [.agg [.d (.int .i64 p0_.Modes), .d (.int .u8 p0_.Accept), .d (.sl (List.map eGRule p0_.Rules))]]) (ys := [.agg [.d (.int .i64 p0_.Modes), .d (.int .u8 p0_.Accept), .d (.sl (List.map eGRule p0_.Rules))]]) (ks := []) (obl := []) (r := .tup [.own 3 (List.map eGState r12.1), .d (.sl (List.map (eL eI64) r12.2))]) (ls := [List.length r12.1]) 2 false (by kernel_rfl) (leZ) rfl (FAutomaton_explore_ok h30) (Or.inl rfl) (by simp only [lensR, lensT, lensA, lensC, List.length_map, List.nil_append, List.append_nil, List.cons_append]) (by kernel_rfl) rfl ?_
  refine chunk (s' := f25_s5 p0_ r12) 5 7 (by kernel_rfl) rfl ?_
  refine at_end 7 (by kernel_rfl) ?_
  refine q_seq sh_refl ?_
  refine at_seq (p0 := [1,1,0]) (p1 := [1,1,1]) (by kernel_rfl) ?_
  refine at_region (by kernel_rfl) sh_refl ?_
  refine chunk (s' := f25_s6 p0_ r12) 2 2 (by kernel_rfl) rfl ?_
  refine at_end 2 (by kernel_rfl) ?_
  refine q_seq sh_refl ?_
  refine at_ret (by kernel_rfl) ?_
  have hz := Option.some.inj H
  subst hz
  exact post_ret (ret1 (v := .d (.sl (List.map eGState r12.1))) (r := .d (.sl (List.map eGState r12.1))) [] (by kernel_rfl) (outA_d (outV_d)) (by kernel_rfl) (by decide))
end
section
variable (p0_ : GTable)
def f28_s1 : St := ⟨(0, .agg [.d (.int .i64 p0_.Modes), .d (.int .u8 p0_.Accept), .d (.sl (List.map eGRule p0_.Rules))]) :: [], []⟩
def f28_s2 : St := po (f28_s1 p0_) [(2, .d (.nil)), (1, .ptr 0 0)] fun _ => [some (.box [.d (.int .i64 p0_.Modes), .d (.int .u8 p0_.Accept), .d (.sl (List.map eGRule p0_.Rules))])]
def f28_s3 : St := pe (f28_s2 p0_) [(13, .agg [.d (.int .i64 p0_.Modes), .d (.int .u8 p0_.Accept), .d (.sl (List.map eGRule p0_.Rules))])]
variable (r13 : ((List GState) × (List (List Int))))
def f28_s4 : St := pe (f28_s3 p0_) [(14, .tup [.d (.sl (List.map eGState r13.1)), .d (.sl (List.map (eL eI64) r13.2))])]
def f28_s5 : St := pe (f28_s4 p0_ r13) [(4, .d (.sl (List.map (eL eI64) r13.2))), (3, .d (.sl (List.map eGState r13.1))), (16, .d (.sl (List.map (eL eI64) r13.2))), (15, .d (.sl (List.map eGState r13.1))), (12, .tup [.d (.sl (List.map eGState r13.1)), .d (.sl (List.map (eL eI64) r13.2))])]
def f28_s6 : St := pe (f28_s5 p0_ r13) [(17, .d (.sl (List.map eGState r13.1)))]
def f28_s7 : St := pe (f28_s6 p0_ r13) [(18, .d (.int .i64 ((List.length r13.1 : Nat) : Int)))]
variable (l6 : (List Bool))
def f28_s8 : St := po (f28_s7 p0_ r13) [(19, .osl 1 1 0 (List.length l6))] fun o => o ++ [some (.arr 1 (List.map eB l6))]
def f28_s9 : St := pe (f28_s8 p0_ r13 l6) [(5, .osl 1 1 0 (List.length l6))]
def f28_s10 : St := pe (f28_s9 p0_ r13 l6) [(6, .d (.nil))]
def f28_s11 : St := pe (f28_s10 p0_ r13 l6) [(20, .d (.sl (List.map eGState r13.1)))]
def f28_s12 : St := pe (f28_s11 p0_ r13 l6) [(21, .d (.int .i64 ((List.length r13.1 : Nat) : Int)))]
def f28_s13 : St := pe (f28_s12 p0_ r13 l6) [(22, .d (.int .i64 0))]
variable (alive_1 : (List Bool)) (open_1 : (List Int)) (x_3 : Int)
def f28_s14 : St := ⟨(1, .ptr 0 0) :: (4, .d (.sl (List.map (eL eI64) r13.2))) :: (5, .osl 1 1 0 (List.length alive_1)) :: (6, .osl 2 1 0 (List.length open_1)) :: (20, .d (.sl (List.map eGState r13.1))) :: (21, .d (.int .i64 ((List.length r13.1 : Nat) : Int))) :: (22, .d (.int .i64 x_3)) :: [], [some (.box [.d (.int .i64 p0_.Modes), .d (.int .u8 p0_.Accept), .d (.sl (List.map eGRule p0_.Rules))]), some (.arr 1 (List.map eB alive_1)), some (.arr 1 (List.map eI64 open_1))]⟩
variable (alive_2 : (List Bool)) (open_2 : (List Int))
def f28_s15 : St := ⟨(4, .d (.sl (List.map (eL eI64) r13.2))) :: (5, .osl 0 1 0 (List.length alive_2)) :: (6, .osl 1 1 0 (List.length open_2)) :: [], [some (.arr 1 (List.map eB alive_2)), some (.arr 1 (List.map eI64 open_2))]⟩
def f28_s16 : St := pe (f28_s14 p0_ r13 alive_1 open_1 x_3) [(23, .d (.bool (decide (x_3 < ((List.length r13.1 : Nat) : Int)))))]
variable (alive_3 : (List Bool)) (open_3 : (List Int))
def f28_s17 : St := ⟨(1, .ptr 0 0) :: (4, .d (.sl (List.map (eL eI64) r13.2))) :: (5, .osl 1 1 0 (List.length alive_3)) :: (6, .osl 2 1 0 (List.length open_3)) :: (20, .d (.sl (List.map eGState r13.1))) :: (21, .d (.int .i64 ((List.length r13.1 : Nat) : Int))) :: (22, .d (.int .i64 x_3)) :: [], [some (.box [.d (.int .i64 p0_.Modes), .d (.int .u8 p0_.Accept), .d (.sl (List.map eGRule p0_.Rules))]), some (.arr 1 (List.map eB alive_3)), some (.arr 1 (List.map eI64 open_3))]⟩
def f28_s18 : St := pe (f28_s17 p0_ r13 x_3 alive_3 open_3) [(22, .d (.int .i64 (iadd .i64 x_3 1))), (37, .d (.int .i64 (iadd .i64 x_3 1)))]
def f28_s19 : St := pe (f28_s16 p0_ r13 alive_1 open_1 x_3) [(24, .d (.int .i64 x_3))]
variable (x7 : GState)
def f28_s20 : St := pe (f28_s19 p0_ r13 alive_1 open_1 x_3) [(25, .dptr (eGState x7) 0)]
def f28_s21 : St := po (f28_s20 p0_ r13 alive_1 open_1 x_3 x7) [(7, .d (.int .i64 x_3)), (8, .ptr 3 0), (26, .agg [.d (.int .i64 x7.Mode), .d (.int .i64 x7.Last), .d (.int .u8 x7.Need)])] fun o => o ++ [some (.box [.d (.int .i64 x7.Mode), .d (.int .i64 x7.Last), .d (.int .u8 x7.Need)])]
def f28_s22 : St := pe (f28_s21 p0_ r13 alive_1 open_1 x_3 x7) [(28, .agg [.d (.int .i64 x7.Mode), .d (.int .i64 x7.Last), .d (.int .u8 x7.Need)]), (27, .agg [.d (.int .i64 p0_.Modes), .d (.int .u8 p0_.Accept), .d (.sl (List.map eGRule p0_.Rules))])]
variable (r14 : Bool)
def f28_s23 : St := pe (f28_s22 p0_ r13 alive_1 open_1 x_3 x7) [(29, .d (.bool r14))]
def f28_s24 : St := pe (f28_s23 p0_ r13 alive_1 open_1 x_3 x7 r14) [(31, .d (.int .i64 x_3)), (30, .osl 1 1 0 (List.length alive_1))]
def f28_s25 : St := pe (f28_s24 p0_ r13 alive_1 open_1 x_3 x7 r14) [(32, .eptr 1 1 (0 + Int.toNat x_3) 0)]
variable (l7 : (List Bool))
def f28_s26 : St := po (f28_s25 p0_ r13 alive_1 open_1 x_3 x7 r14) [] fun o => o.set 1 (some (.arr 1 (List.map eB l7)))
def f28_s27 : St := po (f28_s26 p0_ r13 alive_1 open_1 x_3 x7 r14 l7) [(5, .osl 4 1 0 (List.length l7))] fun o => o.set 1 none ++ [some (.arr 1 (List.map eB l7))]
def f28_s28 : St := po (f28_s27 p0_ r13 alive_1 open_1 x_3 x7 r14 l7) [(35, .osl 5 1 0 (List.length [x_3])), (34, .d (.int .i64 x_3)), (33, .osl 2 1 0 (List.length open_1))] fun o => o ++ [some (.arr 1 (List.map eI64 [x_3]))]
variable (l8 : (List Int))
def f28_s29 : St := po (f28_s28 p0_ r13 alive_1 open_1 x_3 x7 r14 l7) [(36, .osl 6 1 0 (List.length l8))] fun o => o.set 2 none ++ [some (.arr 1 (List.map eI64 l8))]
def f28_s30 : St := pe (f28_s29 p0_ r13 alive_1 open_1 x_3 x7 r14 l7 l8) [(6, .osl 6 1 0 (List.length l8))]
def f28_L1_E (p0_ : GTable) (r13 : ((List GState) × (List (List Int)))) : ((List Bool) × (List Int)) → Ex → St → Prop := fun (y : ((List Bool) × (List Int))) e s => e = Ex.exit 0 ∧ Shift s (f28_s15 r13 y.1 y.2)
theorem f28_L1_ok {n : Nat} {p0_ : GTable} {r13 : ((List GState) × (List (List Int)))} (x : ((List Bool) × (List Int) × Int)) (z : (((List Bool) × (List Int) × Int) ⊕ ((List Bool) × (List Int)))) (H : f28_L1 n p0_ r13 x.1 x.2.1 x.2.2 = some z) : wpA (cx 75) (nav [1,1,1,1,0,1,0,0] (bodyOf Try.f28)) (roundQ (fun (x : ((List Bool) × (List Int) × Int)) => f28_s14 p0_ r13 x.1 x.2.1 x.2.2) (f28_L1_E p0_ r13) z) (f28_s14 p0_ r13 x.1 x.2.1 x.2.2) := by
  obtain ⟨alive_1, open_1, x_3⟩ := x
  dsimp only [f28_L1] at H
  refine at_seq (p0 := [1,1,1,1,0,1,0,0,0]) (p1 := [1,1,1,1,0,1,0,0,1]) (by kernel_rfl) ?_
  refine at_region (by kernel_rfl) sh_refl ?_
  refine chunk (s' := f28_s16 p0_ r13 alive_1 open_1 x_3) 1 1 (by kernel_rfl) rfl ?_
  refine at_end 1 (by kernel_rfl) ?_
  refine q_seq sh_refl ?_
  refine at_seq (p0 := [1,1,1,1,0,1,0,0,1,0]) (p1 := [1,1,1,1,0,1,0,0,1,1]) (by kernel_rfl) ?_
  rcases ite_some H with ⟨hc17, H⟩ | ⟨hc17, H⟩
  · refine at_condT (decide (x_3 < ((List.length r13.1 : Nat) : Int))) (p0 := [1,1,1,1,0,1,0,0,1,0,0]) (p1 := [1,1,1,1,0,1,0,0,1,0,1]) (by kernel_rfl) (by kernel_rfl) hc17 ?_
    refine at_skip (by kernel_rfl) ?_
    refine q_seq sh_refl ?_
    refine at_seqJ (p0 := [1,1,1,1,0,1,0,0,1,1,0]) (p1 := [1,1,1,1,0,1,0,0,1,1,1]) (fun (x : ((List Bool) × (List Int))) => f28_s17 p0_ r13 x_3 x.1 x.2) (fun (x : ((List Bool) × (List Int))) => f28_J1 n x_3 x.1 x.2) z (by kernel_rfl) ?_ (fun hf28_J1 => ?_)
    · rintro ⟨alive_3, open_3⟩ H
      dsimp only [f28_J1] at H
      refine at_region (by kernel_rfl) sh_refl ?_
      refine chunk (s' := f28_s18 p0_ r13 x_3 alive_3 open_3) 2 2 (by kernel_rfl) rfl ?_
      refine at_end 2 (by kernel_rfl) ?_
      have hz := Option.some.inj H
      subst hz
      exact round_go (sh_gc [1,4,5,6,20,21,22] (by kernel_rfl))
    refine at_block 1 (p0 := [1,1,1,1,0,1,0,0,1,1,0,0]) (by kernel_rfl) ?_
    refine at_seq (p0 := [1,1,1,1,0,1,0,0,1,1,0,0,0]) (p1 := [1,1,1,1,0,1,0,0,1,1,0,0,1]) (by kernel_rfl) ?_
    refine at_region (by kernel_rfl) sh_refl ?_
    refine chunk (s' := f28_s19 p0_ r13 alive_1 open_1 x_3) 1 1 (by kernel_rfl) rfl ?_
    obtain ⟨x7, h33, H⟩ := bind_some H
    refine spec (s' := f28_s20 p0_ r13 alive_1 open_1 x_3 x7) (v := .dptr (eGState x7) 0) (obs := []) (rm := []) (upd := none) 2 (by kernel_rfl) (is_idxD (enc := eGState) (esz := 3) (eb := 24) (ez := [.int .i64 0, .int .i64 0, .int .u8 0]) h33 (by kernel_rfl)) (by kernel_rfl) rfl ?_
    refine chunk (s' := f28_s21 p0_ r13 alive_1 open_1 x_3 x7) 4 6 (by kernel_rfl) rfl ?_
    refine at_end 6 (by kernel_rfl) ?_
    refine q_seq sh_refl ?_
    refine at_seq (p0 := [1,1,1,1,0,1,0,0,1,1,0,0,1,0]) (p1 := [1,1,1,1,0,1,0,0,1,1,0,0,1,1]) (by kernel_rfl) ?_
    refine at_region (by kernel_rfl) sh_refl ?_
    refine chunk (s' := f28_s22 p0_ r13 alive_1 open_1 x_3 x7) 2 2 (by kernel_rfl) rfl ?_
    obtain ⟨r14, h34, H⟩ := bind_some H
    refine callS (s' := f28_s23 p0_ r13 alive_1 open_1 x_3 x7 r14) (f := 19) (xs := [.agg [.d (.int .i64 p0_.Modes), .d (.int .u8 p0_.Accept), .d (.sl (List.map eGRule p0_.Rules))], .agg [.d (.int .i64 x7.Mode), .d (.int .i64 x7.Last), .d (.int .u8 x7.Need)]]) (ys := [.agg [.d (.int .i64 p0_.Modes), .d (.int .u8 p0_.Accept), .d (.sl (List.map eGRule p0_.Rules))], .agg [.d (.int .i64 x7.Mode), .d (.int .i64 x7.Last), .d (.int .u8 x7.Need)]]) (ks := []) (obl := []) (r := .d (.bool r14)) (ls := []) 3 false (by kernel_rfl) (leZ) rfl (FAutomaton_Accepts_ok h34) (Or.inl rfl) rfl (by kernel_rfl) rfl ?_
    refine at_end 3 (by kernel_rfl) ?_
    refine q_seq sh_refl ?_
    rcases ite_some H with ⟨hc16, H⟩ | ⟨hc16, H⟩
    · refine at_condT r14 (p0 := [1,1,1,1,0,1,0,0,1,1,0,0,1,1,0]) (p1 := [1,1,1,1,0,1,0,0,1,1,0,0,1,1,1]) (by kernel_rfl) (by kernel_rfl) hc16 ?_
      refine at_seq (p0 := [1,1,1,1,0,1,0,0,1,1,0,0,1,1,0,0]) (p1 := [1,1,1,1,0,1,0,0,1,1,0,0,1,1,0,1]) (by kernel_rfl) ?_
      refine at_region (by kernel_rfl) sh_refl ?_
      refine chunk (s' := f28_s24 p0_ r13 alive_1 open_1 x_3 x7 r14) 2 2 (by kernel_rfl) rfl ?_
      obtain ⟨x8, h35, H⟩ := bind_some H
      refine spec (s' := f28_s25 p0_ r13 alive_1 open_1 x_3 x7 r14) (v := .eptr 1 1 (0 + Int.toNat x_3) 0) (obs := []) (rm := []) (upd := none) 3 (by kernel_rfl) (is_idxO (k := 1) (esz := 1) (eb := 1) (ez := [.bool false]) h35) (by kernel_rfl) rfl ?_
      obtain ⟨l7, h36, H⟩ := bind_some H
      refine spec (s' := f28_s26 p0_ r13 alive_1 open_1 x_3 x7 r14 l7) (v := .top) (obs := []) (rm := []) (upd := some (1, .arr 1 (List.map eB l7))) 4 (by kernel_rfl) (is_stA (enc := eB) (objs := (f28_s25 p0_ r13 alive_1 open_1 x_3 x7 r14).objs) (y := true) (k := 1) (sz := 1) (off := 0) (t := ty 4) (v := .d (.bool true)) (r := [.bool true]) (ks := []) (obl := []) (by kernel_rfl) h35 h36 (by kernel_rfl) leZ (by kernel_rfl) (by kernel_rfl) (by kernel_rfl)) (by kernel_rfl) rfl ?_
      refine at_end 4 (by kernel_rfl) ?_
      refine q_seq sh_refl ?_
      refine at_region (s' := f28_s27 p0_ r13 alive_1 open_1 x_3 x7 r14 l7) (by kernel_rfl) (Shift.trans (sh_sub (k := 1) (sz := 1) 5 (List.map eB l7) (List.length l7) (by kernel_rfl) (cut_put (put_len h36)) (le_put (enc := eB) (put_len h36)) ((put_len h36))) (sh_eq (by kernel_rfl))) ?_
      refine chunk (s' := f28_s28 p0_ r13 alive_1 open_1 x_3 x7 r14 l7) 3 3 (by kernel_rfl) rfl ?_
      obtain ⟨l8, h37, H⟩ := bind_some H
      refine spec (s' := f28_s29 p0_ r13 alive_1 open_1 x_3 x7 r14 l7 l8) (v := .osl 6 1 0 (List.length l8)) (obs := [.arr 1 (List.map eI64 l8)]) (rm := [2]) (upd := none) 4 (by kernel_rfl) (is_app (enc := eI64) (objs := (f28_s28 p0_ r13 alive_1 open_1 x_3 x7 r14 l7).objs) (esz := 1) (eb := 8) (ob := 0 + List.length [x_3] ≤ List.length (List.map eI64 [x_3])) (k := 2) (by kernel_rfl) take_all (fun _ => rfl) (by simp) h37) (by kernel_rfl) rfl ?_
      refine chunk (s' := f28_s30 p0_ r13 alive_1 open_1 x_3 x7 r14 l7 l8) 1 5 (by kernel_rfl) rfl ?_
      refine at_end 5 (by kernel_rfl) ?_
      refine q_blockN ?_
      exact q_seq (sh_gc [1,4,5,6,20,21,22] (by kernel_rfl)) (hf28_J1 (l7, l8) H)
    · refine at_condF r14 (p0 := [1,1,1,1,0,1,0,0,1,1,0,0,1,1,0]) (p1 := [1,1,1,1,0,1,0,0,1,1,0,0,1,1,1]) (by kernel_rfl) (by kernel_rfl) hc16 ?_
      refine at_skip (by kernel_rfl) ?_
      refine q_blockN ?_
      exact q_seq (sh_gc [1,4,5,6,20,21,22] (by kernel_rfl)) (hf28_J1 (alive_1, open_1) H)
  · refine at_condF (decide (x_3 < ((List.length r13.1 : Nat) : Int))) (p0 := [1,1,1,1,0,1,0,0,1,0,0]) (p1 := [1,1,1,1,0,1,0,0,1,0,1]) (by kernel_rfl) (by kernel_rfl) hc17 ?_
    refine at_exit 0 (by kernel_rfl) ?_
    refine q_seqX ?_
    have hz := Option.some.inj H
    subst hz
    exact round_exit ⟨rfl, sh_gc [4,5,6] (by kernel_rfl)⟩
variable (alive_4 : (List Bool)) (open_4 : (List Int))
def f28_s31 : St := ⟨(4, .d (.sl (List.map (eL eI64) r13.2))) :: (5, .osl 0 1 0 (List.length alive_4)) :: (6, .osl 1 1 0 (List.length open_4)) :: [], [some (.arr 1 (List.map eB alive_4)), some (.arr 1 (List.map eI64 open_4))]⟩
variable (alive_5 : (List Bool))
def f28_s32 : St := ⟨(5, .osl 0 1 0 (List.length alive_5)) :: [], [some (.arr 1 (List.map eB alive_5))]⟩
def f28_s33 : St := pe (f28_s31 r13 alive_4 open_4) [(40, .d (.bool (decide (((List.length open_4 : Nat) : Int) > 0)))), (39, .d (.int .i64 ((List.length open_4 : Nat) : Int))), (38, .osl 1 1 0 (List.length open_4))]
def f28_s34 : St := pe (f28_s33 r13 alive_4 open_4) [(44, .d (.int .i64 (isub .i64 ((List.length open_4 : Nat) : Int) 1))), (43, .d (.int .i64 ((List.length open_4 : Nat) : Int))), (42, .osl 1 1 0 (List.length open_4)), (41, .osl 1 1 0 (List.length open_4))]
def f28_s35 : St := pe (f28_s34 r13 alive_4 open_4) [(45, .eptr 1 1 (0 + Int.toNat (isub .i64 ((List.length open_4 : Nat) : Int) 1)) 0)]
variable (x9 : Int)
def f28_s36 : St := pe (f28_s35 r13 alive_4 open_4) [(46, .d (.int .i64 x9))]
def f28_s37 : St := pe (f28_s36 r13 alive_4 open_4 x9) [(9, .d (.int .i64 x9))]
def f28_s38 : St := pe (f28_s37 r13 alive_4 open_4 x9) [(50, .d (.int .i64 (isub .i64 ((List.length open_4 : Nat) : Int) 1))), (49, .d (.int .i64 ((List.length open_4 : Nat) : Int))), (48, .osl 1 1 0 (List.length open_4)), (47, .osl 1 1 0 (List.length open_4))]
def f28_s39 : St := pe (f28_s38 r13 alive_4 open_4 x9) [(51, .osl 1 1 (0 + Int.toNat 0) (Int.toNat (isub .i64 ((List.length open_4 : Nat) : Int) 1) - Int.toNat 0))]
def f28_s40 : St := pe (f28_s39 r13 alive_4 open_4 x9) [(6, .osl 1 1 (0 + Int.toNat 0) (Int.toNat (isub .i64 ((List.length open_4 : Nat) : Int) 1) - Int.toNat 0))]
variable (l9 : (List Int))
def f28_s41 : St := po (f28_s40 r13 alive_4 open_4 x9) [(6, .osl 2 1 0 (List.length l9))] fun _ => [some (.arr 1 (List.map eB alive_4)), none, some (.arr 1 (List.map eI64 l9))]
def f28_s42 : St := pe (f28_s41 r13 alive_4 open_4 x9 l9) [(53, .d (.int .i64 x9)), (52, .d (.sl (List.map (eL eI64) r13.2)))]
variable (x10 : (List Int))
def f28_s43 : St := pe (f28_s42 r13 alive_4 open_4 x9 l9) [(54, .dptr ((eL eI64) x10) 0)]
def f28_s44 : St := pe (f28_s43 r13 alive_4 open_4 x9 l9 x10) [(55, .d (.sl (List.map eI64 x10)))]
def f28_s45 : St := pe (f28_s44 r13 alive_4 open_4 x9 l9 x10) [(56, .d (.int .i64 ((List.length x10 : Nat) : Int)))]
def f28_s46 : St := pe (f28_s45 r13 alive_4 open_4 x9 l9 x10) [(57, .d (.int .i64 0))]
variable (alive_6 : (List Bool)) (open_5 : (List Int)) (x_4 : Int)
def f28_s47 : St := ⟨(4, .d (.sl (List.map (eL eI64) r13.2))) :: (5, .osl 0 1 0 (List.length alive_6)) :: (6, .osl 1 1 0 (List.length open_5)) :: (55, .d (.sl (List.map eI64 x10))) :: (56, .d (.int .i64 ((List.length x10 : Nat) : Int))) :: (57, .d (.int .i64 x_4)) :: [], [some (.arr 1 (List.map eB alive_6)), some (.arr 1 (List.map eI64 open_5))]⟩
variable (alive_7 : (List Bool)) (open_6 : (List Int))
def f28_s48 : St := ⟨(4, .d (.sl (List.map (eL eI64) r13.2))) :: (5, .osl 0 1 0 (List.length alive_7)) :: (6, .osl 1 1 0 (List.length open_6)) :: [], [some (.arr 1 (List.map eB alive_7)), some (.arr 1 (List.map eI64 open_6))]⟩
def f28_s49 : St := pe (f28_s47 r13 x10 alive_6 open_5 x_4) [(58, .d (.bool (decide (x_4 < ((List.length x10 : Nat) : Int)))))]
variable (alive_8 : (List Bool)) (open_7 : (List Int))
def f28_s50 : St := ⟨(4, .d (.sl (List.map (eL eI64) r13.2))) :: (5, .osl 0 1 0 (List.length alive_8)) :: (6, .osl 1 1 0 (List.length open_7)) :: (55, .d (.sl (List.map eI64 x10))) :: (56, .d (.int .i64 ((List.length x10 : Nat) : Int))) :: (57, .d (.int .i64 x_4)) :: [], [some (.arr 1 (List.map eB alive_8)), some (.arr 1 (List.map eI64 open_7))]⟩
def f28_s51 : St := pe (f28_s50 r13 x10 x_4 alive_8 open_7) [(57, .d (.int .i64 (iadd .i64 x_4 1))), (73, .d (.int .i64 (iadd .i64 x_4 1)))]
variable (x11 : Int)
def f28_s52 : St := pe (f28_s49 r13 x10 alive_6 open_5 x_4) [(59, .dptr (eI64 x11) 0)]
def f28_s53 : St := pe (f28_s52 r13 x10 alive_6 open_5 x_4 x11) [(11, .d (.int .i64 x11)), (60, .d (.int .i64 x11))]
def f28_s54 : St := pe (f28_s53 r13 x10 alive_6 open_5 x_4 x11) [(62, .d (.int .i64 x11)), (61, .osl 0 1 0 (List.length alive_6))]
def f28_s55 : St := pe (f28_s54 r13 x10 alive_6 open_5 x_4 x11) [(63, .eptr 0 1 (0 + Int.toNat x11) 0)]
variable (x12 : Bool)
def f28_s56 : St := pe (f28_s55 r13 x10 alive_6 open_5 x_4 x11) [(64, .d (.bool x12))]
def f28_s57 : St := pe (f28_s56 r13 x10 alive_6 open_5 x_4 x11 x12) [(65, .d (.bool (!x12)))]
def f28_s58 : St := pe (f28_s57 r13 x10 alive_6 open_5 x_4 x11 x12) [(67, .d (.int .i64 x11)), (66, .osl 0 1 0 (List.length alive_6))]
def f28_s59 : St := pe (f28_s58 r13 x10 alive_6 open_5 x_4 x11 x12) [(68, .eptr 0 1 (0 + Int.toNat x11) 0)]
variable (l10 : (List Bool))
def f28_s60 : St := po (f28_s59 r13 x10 alive_6 open_5 x_4 x11 x12) [] fun _ => [some (.arr 1 (List.map eB l10)), some (.arr 1 (List.map eI64 open_5))]
def f28_s61 : St := po (f28_s60 r13 x10 alive_6 open_5 x_4 x11 x12 l10) [(5, .osl 2 1 0 (List.length l10))] fun _ => [none, some (.arr 1 (List.map eI64 open_5)), some (.arr 1 (List.map eB l10))]
def f28_s62 : St := po (f28_s61 r13 x10 alive_6 open_5 x_4 x11 x12 l10) [(71, .osl 3 1 0 (List.length [x11])), (70, .d (.int .i64 x11)), (69, .osl 1 1 0 (List.length open_5))] fun o => o ++ [some (.arr 1 (List.map eI64 [x11]))]
variable (l11 : (List Int))
def f28_s63 : St := po (f28_s62 r13 x10 alive_6 open_5 x_4 x11 x12 l10) [(72, .osl 4 1 0 (List.length l11))] fun o => o.set 1 none ++ [some (.arr 1 (List.map eI64 l11))]
def f28_s64 : St := pe (f28_s63 r13 x10 alive_6 open_5 x_4 x11 x12 l10 l11) [(6, .osl 4 1 0 (List.length l11))]
def f28_L3_E (r13 : ((List GState) × (List (List Int)))) (x10 : (List Int)) : ((List Bool) × (List Int)) → Ex → St → Prop := fun (y : ((List Bool) × (List Int))) e s => e = Ex.exit 4 ∧ Shift s (f28_s48 r13 y.1 y.2)
theorem f28_L3_ok {n : Nat} {r13 : ((List GState) × (List (List Int)))} {x10 : (List Int)} (x : ((List Bool) × (List Int) × Int)) (z : (((List Bool) × (List Int) × Int) ⊕ ((List Bool) × (List Int)))) (H : f28_L3 n r13 x10 x.1 x.2.1 x.2.2 = some z) : wpA (cx 75) (nav [1,1,1,1,1,0,0,0,1,0,1,1,1,0,0] (bodyOf Try.f28)) (roundQ (fun (x : ((List Bool) × (List Int) × Int)) => f28_s47 r13 x10 x.1 x.2.1 x.2.2) (f28_L3_E r13 x10) z) (f28_s47 r13 x10 x.1 x.2.1 x.2.2) := by
  obtain ⟨alive_6, open_5, x_4⟩ := x
  dsimp only [f28_L3] at H
  refine at_seq (p0 := [1,1,1,1,1,0,0,0,1,0,1,1,1,0,0,0]) (p1 := [1,1,1,1,1,0,0,0,1,0,1,1,1,0,0,1]) (by kernel_rfl) ?_
  refine at_region (by kernel_rfl) sh_refl ?_
  refine chunk (s' := f28_s49 r13 x10 alive_6 open_5 x_4) 1 1 (by kernel_rfl) rfl ?_
  refine at_end 1 (by kernel_rfl) ?_
  refine q_seq sh_refl ?_
  refine at_seq (p0 := [1,1,1,1,1,0,0,0,1,0,1,1,1,0,0,1,0]) (p1 := [1,1,1,1,1,0,0,0,1,0,1,1,1,0,0,1,1]) (by kernel_rfl) ?_
  rcases ite_some H with ⟨hc19, H⟩ | ⟨hc19, H⟩
  · refine at_condT (decide (x_4 < ((List.length x10 : Nat) : Int))) (p0 := [1,1,1,1,1,0,0,0,1,0,1,1,1,0,0,1,0,0]) (p1 := [1,1,1,1,1,0,0,0,1,0,1,1,1,0,0,1,0,1]) (by kernel_rfl) (by kernel_rfl) hc19 ?_
    refine at_skip (by kernel_rfl) ?_
    refine q_seq sh_refl ?_
    refine at_seqJ (p0 := [1,1,1,1,1,0,0,0,1,0,1,1,1,0,0,1,1,0]) (p1 := [1,1,1,1,1,0,0,0,1,0,1,1,1,0,0,1,1,1]) (fun (x : ((List Bool) × (List Int))) => f28_s50 r13 x10 x_4 x.1 x.2) (fun (x : ((List Bool) × (List Int))) => f28_J2 n x_4 x.1 x.2) z (by kernel_rfl) ?_ (fun hf28_J2 => ?_)
    · rintro ⟨alive_8, open_7⟩ H
      dsimp only [f28_J2] at H
      refine at_region (by kernel_rfl) sh_refl ?_
      refine chunk (s' := f28_s51 r13 x10 x_4 alive_8 open_7) 2 2 (by kernel_rfl) rfl ?_
      refine at_end 2 (by kernel_rfl) ?_
      have hz := Option.some.inj H
      subst hz
      exact round_go (sh_gc [4,5,6,55,56,57] (by kernel_rfl))
    refine at_block 5 (p0 := [1,1,1,1,1,0,0,0,1,0,1,1,1,0,0,1,1,0,0]) (by kernel_rfl) ?_
    refine at_seq (p0 := [1,1,1,1,1,0,0,0,1,0,1,1,1,0,0,1,1,0,0,0]) (p1 := [1,1,1,1,1,0,0,0,1,0,1,1,1,0,0,1,1,0,0,1]) (by kernel_rfl) ?_
    refine at_region (by kernel_rfl) sh_refl ?_
    obtain ⟨x11, h42, H⟩ := bind_some H
    refine spec (s' := f28_s52 r13 x10 alive_6 open_5 x_4 x11) (v := .dptr (eI64 x11) 0) (obs := []) (rm := []) (upd := none) 1 (by kernel_rfl) (is_idxD (enc := eI64) (esz := 1) (eb := 8) (ez := [.int .i64 0]) h42 (by kernel_rfl)) (by kernel_rfl) rfl ?_
    refine chunk (s' := f28_s53 r13 x10 alive_6 open_5 x_4 x11) 2 3 (by kernel_rfl) rfl ?_
    refine at_end 3 (by kernel_rfl) ?_
    refine q_seq sh_refl ?_
    refine at_seq (p0 := [1,1,1,1,1,0,0,0,1,0,1,1,1,0,0,1,1,0,0,1,0]) (p1 := [1,1,1,1,1,0,0,0,1,0,1,1,1,0,0,1,1,0,0,1,1]) (by kernel_rfl) ?_
    refine at_region (by kernel_rfl) sh_refl ?_
    refine chunk (s' := f28_s54 r13 x10 alive_6 open_5 x_4 x11) 2 2 (by kernel_rfl) rfl ?_
    obtain ⟨x12, h43, H⟩ := bind_some H
    refine spec (s' := f28_s55 r13 x10 alive_6 open_5 x_4 x11) (v := .eptr 0 1 (0 + Int.toNat x11) 0) (obs := []) (rm := []) (upd := none) 3 (by kernel_rfl) (is_idxO (k := 0) (esz := 1) (eb := 1) (ez := [.bool false]) h43) (by kernel_rfl) rfl ?_
    refine spec (s' := f28_s56 r13 x10 alive_6 open_5 x_4 x11 x12) (v := .d (.bool x12)) (obs := []) (rm := []) (upd := none) 4 (by kernel_rfl) (is_ldA (enc := eB) (objs := (f28_s55 r13 x10 alive_6 open_5 x_4 x11).objs) (i := x11) (k := 0) (sz := 1) (off := 0) (t := ty 4) (v := .d (.bool x12)) (by kernel_rfl) h43 (by kernel_rfl) (by kernel_rfl)) (by kernel_rfl) rfl ?_
    refine chunk (s' := f28_s57 r13 x10 alive_6 open_5 x_4 x11 x12) 1 5 (by kernel_rfl) rfl ?_
    refine at_end 5 (by kernel_rfl) ?_
    refine q_seq sh_refl ?_
    rcases ite_some H with ⟨hc18, H⟩ | ⟨hc18, H⟩
    · refine at_condT (!x12) (p0 := [1,1,1,1,1,0,0,0,1,0,1,1,1,0,0,1,1,0,0,1,1,0]) (p1 := [1,1,1,1,1,0,0,0,1,0,1,1,1,0,0,1,1,0,0,1,1,1]) (by kernel_rfl) (by kernel_rfl) hc18 ?_
      refine at_seq (p0 := [1,1,1,1,1,0,0,0,1,0,1,1,1,0,0,1,1,0,0,1,1,0,0]) (p1 := [1,1,1,1,1,0,0,0,1,0,1,1,1,0,0,1,1,0,0,1,1,0,1]) (by kernel_rfl) ?_
      refine at_region (by kernel_rfl) sh_refl ?_
      refine chunk (s' := f28_s58 r13 x10 alive_6 open_5 x_4 x11 x12) 2 2 (by kernel_rfl) rfl ?_
      obtain ⟨x13, h44, H⟩ := bind_some H
      refine spec (s' := f28_s59 r13 x10 alive_6 open_5 x_4 x11 x12) (v := .eptr 0 1 (0 + Int.toNat x11) 0) (obs := []) (rm := []) (upd := none) 3 (by kernel_rfl) (is_idxO (k := 0) (esz := 1) (eb := 1) (ez := [.bool false]) h44) (by kernel_rfl) rfl ?_
      obtain ⟨l10, h45, H⟩ := bind_some H
      refine spec (s' := f28_s60 r13 x10 alive_6 open_5 x_4 x11 x12 l10) (v := .top) (obs := []) (rm := []) (upd := some (0, .arr 1 (List.map eB l10))) 4 (by kernel_rfl) (is_stA (enc := eB) (objs := (f28_s59 r13 x10 alive_6 open_5 x_4 x11 x12).objs) (y := true) (k := 0) (sz := 1) (off := 0) (t := ty 4) (v := .d (.bool true)) (r := [.bool true]) (ks := []) (obl := []) (by kernel_rfl) h44 h45 (by kernel_rfl) leZ (by kernel_rfl) (by kernel_rfl) (by kernel_rfl)) (by kernel_rfl) rfl ?_
      refine at_end 4 (by kernel_rfl) ?_
      refine q_seq sh_refl ?_
      refine at_region (s' := f28_s61 r13 x10 alive_6 open_5 x_4 x11 x12 l10) (by kernel_rfl) (Shift.trans (sh_sub (k := 0) (sz := 1) 5 (List.map eB l10) (List.length l10) (by kernel_rfl) (cut_put (put_len h45)) (le_put (enc := eB) (put_len h45)) ((put_len h45))) (sh_eq (by kernel_rfl))) ?_
      refine chunk (s' := f28_s62 r13 x10 alive_6 open_5 x_4 x11 x12 l10) 3 3 (by kernel_rfl) rfl ?_
      obtain ⟨l11, h46, H⟩ := bind_some H
      refine spec (s' := f28_s63 r13 x10 alive_6 open_5 x_4 x11 x12 l10 l11) (v := .osl 4 1 0 (List.length l11)) (obs := [.arr 1 (List.map eI64 l11)]) (rm := [1]) (upd := none) 4 (by kernel_rfl) (is_app (enc := eI64) (objs := (f28_s62 r13 x10 alive_6 open_5 x_4 x11 x12 l10).objs) (esz := 1) (eb := 8) (ob := 0 + List.length [x11] ≤ List.length (List.map eI64 [x11])) (k := 1) (by kernel_rfl) take_all (fun _ => rfl) (by simp) h46) (by kernel_rfl) rfl ?_
      refine chunk (s' := f28_s64 r13 x10 alive_6 open_5 x_4 x11 x12 l10 l11) 1 5 (by kernel_rfl) rfl ?_
      refine at_end 5 (by kernel_rfl) ?_
      refine q_blockN ?_
      exact q_seq (sh_gc [4,5,6,55,56,57] (by kernel_rfl)) (hf28_J2 (l10, l11) H)
    · refine at_condF (!x12) (p0 := [1,1,1,1,1,0,0,0,1,0,1,1,1,0,0,1,1,0,0,1,1,0]) (p1 := [1,1,1,1,1,0,0,0,1,0,1,1,1,0,0,1,1,0,0,1,1,1]) (by kernel_rfl) (by kernel_rfl) hc18 ?_
      refine at_skip (by kernel_rfl) ?_
      refine q_blockN ?_
      exact q_seq (sh_gc [4,5,6,55,56,57] (by kernel_rfl)) (hf28_J2 (alive_6, open_5) H)
  · refine at_condF (decide (x_4 < ((List.length x10 : Nat) : Int))) (p0 := [1,1,1,1,1,0,0,0,1,0,1,1,1,0,0,1,0,0]) (p1 := [1,1,1,1,1,0,0,0,1,0,1,1,1,0,0,1,0,1]) (by kernel_rfl) (by kernel_rfl) hc19 ?_
    refine at_exit 4 (by kernel_rfl) ?_
    refine q_seqX ?_
    have hz := Option.some.inj H
    subst hz
    exact round_exit ⟨rfl, sh_gc [4,5,6] (by kernel_rfl)⟩
def f28_L2_E (r13 : ((List GState) × (List (List Int)))) : (List Bool) → Ex → St → Prop := fun (y : (List Bool)) e s => e = Ex.exit 2 ∧ Shift s (f28_s32 y)
theorem f28_L2_ok {n : Nat} {r13 : ((List GState) × (List (List Int)))} (x : ((List Bool) × (List Int))) (z : (((List Bool) × (List Int)) ⊕ (List Bool))) (H : f28_L2 n r13 x.1 x.2 = some z) : wpA (cx 75) (nav [1,1,1,1,1,0,0,0] (bodyOf Try.f28)) (roundQ (fun (x : ((List Bool) × (List Int))) => f28_s31 r13 x.1 x.2) (f28_L2_E r13) z) (f28_s31 r13 x.1 x.2) := by
  obtain ⟨alive_4, open_4⟩ := x
  dsimp only [f28_L2] at H
  refine at_seq (p0 := [1,1,1,1,1,0,0,0,0]) (p1 := [1,1,1,1,1,0,0,0,1]) (by kernel_rfl) ?_
  refine at_seq (p0 := [1,1,1,1,1,0,0,0,0,0]) (p1 := [1,1,1,1,1,0,0,0,0,1]) (by kernel_rfl) ?_
  refine at_region (by kernel_rfl) sh_refl ?_
  refine chunk (s' := f28_s33 r13 alive_4 open_4) 3 3 (by kernel_rfl) rfl ?_
  refine at_end 3 (by kernel_rfl) ?_
  refine q_seq sh_refl ?_
  rcases ite_some H with ⟨hc20, H⟩ | ⟨hc20, H⟩
  · refine at_condT (decide (((List.length open_4 : Nat) : Int) > 0)) (p0 := [1,1,1,1,1,0,0,0,0,1,0]) (p1 := [1,1,1,1,1,0,0,0,0,1,1]) (by kernel_rfl) (by kernel_rfl) hc20 ?_
    refine at_skip (by kernel_rfl) ?_
    refine q_seq sh_refl ?_
    refine at_block 3 (p0 := [1,1,1,1,1,0,0,0,1,0]) (by kernel_rfl) ?_
    refine at_seq (p0 := [1,1,1,1,1,0,0,0,1,0,0]) (p1 := [1,1,1,1,1,0,0,0,1,0,1]) (by kernel_rfl) ?_
    refine at_region (by kernel_rfl) sh_refl ?_
    refine chunk (s' := f28_s34 r13 alive_4 open_4) 4 4 (by kernel_rfl) rfl ?_
    obtain ⟨x9, h39, H⟩ := bind_some H
    refine spec (s' := f28_s35 r13 alive_4 open_4) (v := .eptr 1 1 (0 + Int.toNat (isub .i64 ((List.length open_4 : Nat) : Int) 1)) 0) (obs := []) (rm := []) (upd := none) 5 (by kernel_rfl) (is_idxO (k := 1) (esz := 1) (eb := 8) (ez := [.int .i64 0]) h39) (by kernel_rfl) rfl ?_
    refine spec (s' := f28_s36 r13 alive_4 open_4 x9) (v := .d (.int .i64 x9)) (obs := []) (rm := []) (upd := none) 6 (by kernel_rfl) (is_ldA (enc := eI64) (objs := (f28_s35 r13 alive_4 open_4).objs) (i := (isub .i64 ((List.length open_4 : Nat) : Int) 1)) (k := 1) (sz := 1) (off := 0) (t := ty 3) (v := .d (.int .i64 x9)) (by kernel_rfl) h39 (by kernel_rfl) (by kernel_rfl)) (by kernel_rfl) rfl ?_
    refine chunk (s' := f28_s37 r13 alive_4 open_4 x9) 1 7 (by kernel_rfl) rfl ?_
    refine at_end 7 (by kernel_rfl) ?_
    refine q_seq sh_refl ?_
    refine at_seq (p0 := [1,1,1,1,1,0,0,0,1,0,1,0]) (p1 := [1,1,1,1,1,0,0,0,1,0,1,1]) (by kernel_rfl) ?_
    refine at_region (by kernel_rfl) sh_refl ?_
    refine chunk (s' := f28_s38 r13 alive_4 open_4 x9) 4 4 (by kernel_rfl) rfl ?_
    obtain ⟨l9, h40, H⟩ := bind_some H
    refine spec (s' := f28_s39 r13 alive_4 open_4 x9) (v := .osl 1 1 (0 + Int.toNat 0) (Int.toNat (isub .i64 ((List.length open_4 : Nat) : Int) 1) - Int.toNat 0)) (obs := []) (rm := []) (upd := none) 5 (by kernel_rfl) (is_slO (k := 1) (esz := 1) (eb := 8) (ez := [.int .i64 0]) h40) (by kernel_rfl) rfl ?_
    refine chunk (s' := f28_s40 r13 alive_4 open_4 x9) 1 6 (by kernel_rfl) rfl ?_
    refine at_end 6 (by kernel_rfl) ?_
    refine q_seq sh_refl ?_
    refine at_seq (p0 := [1,1,1,1,1,0,0,0,1,0,1,1,0]) (p1 := [1,1,1,1,1,0,0,0,1,0,1,1,1]) (by kernel_rfl) ?_
    refine at_region (s' := f28_s41 r13 alive_4 open_4 x9 l9) (by kernel_rfl) (Shift.trans (sh_sub (k := 1) (sz := 1) 6 (List.map eI64 l9) (List.length l9) (by kernel_rfl) (sub_cut h40) (sub_le (enc := eI64) h40) (sub_len h40)) (sh_eq (by kernel_rfl))) ?_
    refine chunk (s' := f28_s42 r13 alive_4 open_4 x9 l9) 2 2 (by kernel_rfl) rfl ?_
    obtain ⟨x10, h41, H⟩ := bind_some H
    refine spec (s' := f28_s43 r13 alive_4 open_4 x9 l9 x10) (v := .dptr ((eL eI64) x10) 0) (obs := []) (rm := []) (upd := none) 3 (by kernel_rfl) (is_idxD (enc := (eL eI64)) (esz := 1) (eb := 24) (ez := [.nil]) h41 (by kernel_rfl)) (by kernel_rfl) rfl ?_
    refine chunk (s' := f28_s44 r13 alive_4 open_4 x9 l9 x10) 1 4 (by kernel_rfl) rfl ?_
    refine spec (s' := f28_s45 r13 alive_4 open_4 x9 l9 x10) (v := .d (.int .i64 ((List.length x10 : Nat) : Int))) (obs := []) (rm := []) (upd := none) 5 (by kernel_rfl) (is_len (enc := eI64) (esz := 1) (eb := 8) (ez := [.int .i64 0]) (xs := x10)) (by kernel_rfl) rfl ?_
    refine chunk (s' := f28_s46 r13 alive_4 open_4 x9 l9 x10) 1 6 (by kernel_rfl) rfl ?_
    refine at_end 6 (by kernel_rfl) ?_
    refine q_seq sh_refl ?_
    refine at_block 4 (p0 := [1,1,1,1,1,0,0,0,1,0,1,1,1,0]) (by kernel_rfl) ?_
    obtain ⟨y5, h47, H⟩ := bind_some H
    refine at_loop (p0 := [1,1,1,1,1,0,0,0,1,0,1,1,1,0,0]) (fun (x : ((List Bool) × (List Int) × Int)) => f28_s47 r13 x10 x.1 x.2.1 x.2.2) (f28_L3_E r13 x10) (by kernel_rfl) h47 (sh_gc [4,5,6,55,56,57] (by kernel_rfl)) (fun x z => f28_L3_ok x z) ?_
    intro e s hE5
    obtain ⟨rfl, hE5⟩ := hE5
    refine q_blockH ?_
    refine q_blockN ?_
    have hz := Option.some.inj H
    subst hz
    exact round_go (Shift.trans (hE5) (sh_gc [4,5,6] (by kernel_rfl)))
  · refine at_condF (decide (((List.length open_4 : Nat) : Int) > 0)) (p0 := [1,1,1,1,1,0,0,0,0,1,0]) (p1 := [1,1,1,1,1,0,0,0,0,1,1]) (by kernel_rfl) (by kernel_rfl) hc20 ?_
    refine at_exit 2 (by kernel_rfl) ?_
    refine q_seqX ?_
    have hz := Option.some.inj H
    subst hz
    exact round_exit ⟨rfl, sh_gc [5] (by kernel_rfl)⟩
variable (y6 : (List Bool))
def f28_s65 : St := pe (f28_s32 y6) [(2, .osl 0 1 0 (List.length y6)), (74, .osl 0 1 0 (List.length y6))]
theorem FAutomaton_Alive_ok {n : Nat} {p0_ : GTable} {z : (List Bool)} (H : FAutomaton_Alive n p0_ = some z) : CallOK Try.prog 28 [.agg [.d (.int .i64 p0_.Modes), .d (.int .u8 p0_.Accept), .d (.sl (List.map eGRule p0_.Rules))]] (.own 1 (List.map eB z)) := by
  dsimp only [FAutomaton_Alive] at H
  refine fn_ok (Γ := cx 75) (s := f28_s1 p0_) follows (cxOK 75) Try.func28 (by kernel_rfl) (by kernel_rfl) (by kernel_rfl) (by kernel_rfl) (by kernel_rfl) (by kernel_rfl) ?_
  refine at_seq (p0 := [0]) (p1 := [1]) (by kernel_rfl) ?_
  refine at_region (by kernel_rfl) sh_refl ?_
  refine chunk (s' := f28_s2 p0_) 2 2 (by kernel_rfl) rfl ?_
  refine at_end 2 (by kernel_rfl) ?_
  refine q_seq sh_refl ?_
  refine at_seq (p0 := [1,0]) (p1 := [1,1]) (by kernel_rfl) ?_
  refine at_region (by kernel_rfl) sh_refl ?_
  refine chunk (s' := f28_s3 p0_) 1 1 (by kernel_rfl) rfl ?_
  obtain ⟨r13, h31, H⟩ := bind_some H
  refine callS (s' := f28_s4 p0_ r13) (f := 54) (xs := [.agg [.d (.int .i64 p0_.Modes), .d (.int .u8 p0_.Accept), .d (.sl (List.map eGRule p0_.Rules))]]) (ys := [.agg [.d (.int .i64 p0_.Modes), .d (.int .u8 p0_.Accept), .d (.sl (List.map eGRule p0_.Rules))]]) (ks := []) (obl := []) (r := .tup [.own 3 (List.map eGState r13.1), .d (.sl (List.map (eL eI64) r13.2))]) (ls := [List.length r13.1]) 2 false (by kernel_rfl) (leZ) rfl (FAutomaton_explore_ok h31) (Or.inl rfl) (by simp only [lensR, lensT, lensA, lensC, List.length_map, List.nil_append, List.append_nil, List.cons_append]) (by kernel_rfl) rfl ?_
  refine chunk (s' := f28_s5 p0_ r13) 5 7 (by kernel_rfl) rfl ?_
  refine at_end 7 (by kernel_rfl) ?_
  refine q_seq sh_refl ?_
  refine at_seq (p0 := [1,1,0]) (p1 := [1,1,1]) (by kernel_rfl) ?_
  refine at_region (by kernel_rfl) sh_refl ?_
  refine chunk (s' := f28_s6 p0_ r13) 1 1 (by kernel_rfl) rfl ?_
  refine spec (s' := f28_s7 p0_ r13) (v := .d (.int .i64 ((List.length r13.1 : Nat) : Int))) (obs := []) (rm := []) (upd := none) 2 (by kernel_rfl) (is_len (enc := eGState) (esz := 3) (eb := 24) (ez := [.int .i64 0, .int .i64 0, .int .u8 0]) (xs := r13.1)) (by kernel_rfl) rfl ?_
  obtain ⟨l6, h32, H⟩ := bind_some H
  refine spec (s' := f28_s8 p0_ r13 l6) (v := .osl 1 1 0 (List.length l6)) (obs := [.arr 1 (List.map eB l6)]) (rm := []) (upd := none) 3 (by kernel_rfl) (is_mk (enc := eB) (objs := (f28_s7 p0_ r13).objs) (esz := 1) h32 rfl) (by kernel_rfl) rfl ?_
  refine chunk (s' := f28_s9 p0_ r13 l6) 1 4 (by kernel_rfl) rfl ?_
  refine at_end 4 (by kernel_rfl) ?_
  refine q_seq sh_refl ?_
  refine at_seq (p0 := [1,1,1,0]) (p1 := [1,1,1,1]) (by kernel_rfl) ?_
  refine at_region (by kernel_rfl) sh_refl ?_
  refine chunk (s' := f28_s10 p0_ r13 l6) 1 1 (by kernel_rfl) rfl ?_
  refine at_end 1 (by kernel_rfl) ?_
  refine q_seq sh_refl ?_
  refine at_seq (p0 := [1,1,1,1,0]) (p1 := [1,1,1,1,1]) (by kernel_rfl) ?_
  refine at_seq (p0 := [1,1,1,1,0,0]) (p1 := [1,1,1,1,0,1]) (by kernel_rfl) ?_
  refine at_region (by kernel_rfl) sh_refl ?_
  refine chunk (s' := f28_s11 p0_ r13 l6) 1 1 (by kernel_rfl) rfl ?_
  refine spec (s' := f28_s12 p0_ r13 l6) (v := .d (.int .i64 ((List.length r13.1 : Nat) : Int))) (obs := []) (rm := []) (upd := none) 2 (by kernel_rfl) (is_len (enc := eGState) (esz := 3) (eb := 24) (ez := [.int .i64 0, .int .i64 0, .int .u8 0]) (xs := r13.1)) (by kernel_rfl) rfl ?_
  refine chunk (s' := f28_s13 p0_ r13 l6) 1 3 (by kernel_rfl) rfl ?_
  refine at_end 3 (by kernel_rfl) ?_
  refine q_seq sh_refl ?_
  refine at_block 0 (p0 := [1,1,1,1,0,1,0]) (by kernel_rfl) ?_
  obtain ⟨y4, h38, H⟩ := bind_some H
  refine at_loop (p0 := [1,1,1,1,0,1,0,0]) (fun (x : ((List Bool) × (List Int) × Int)) => f28_s14 p0_ r13 x.1 x.2.1 x.2.2) (f28_L1_E p0_ r13) (by kernel_rfl) h38 (Shift.trans (Shift.nilo 6 1 (by kernel_rfl)) (sh_gc [1,4,5,6,20,21,22] (by kernel_rfl))) (fun x z => f28_L1_ok x z) ?_
  intro e s hE4
  obtain ⟨rfl, hE4⟩ := hE4
  refine q_blockH ?_
  refine q_seq (s' := f28_s15 r13 y4.1 y4.2) (hE4) ?_
  refine at_seq (p0 := [1,1,1,1,1,0]) (p1 := [1,1,1,1,1,1]) (by kernel_rfl) ?_
  refine at_block 2 (p0 := [1,1,1,1,1,0,0]) (by kernel_rfl) ?_
  obtain ⟨y6, h48, H⟩ := bind_some H
  refine at_loop (p0 := [1,1,1,1,1,0,0,0]) (fun (x : ((List Bool) × (List Int))) => f28_s31 r13 x.1 x.2) (f28_L2_E r13) (by kernel_rfl) h48 (sh_gc [4,5,6] (by kernel_rfl)) (fun x z => f28_L2_ok x z) ?_
  intro e s hE6
  obtain ⟨rfl, hE6⟩ := hE6
  refine q_blockH ?_
  refine q_seq (s' := f28_s32 y6) (hE6) ?_
  refine at_seq (p0 := [1,1,1,1,1,1,0]) (p1 := [1,1,1,1,1,1,1]) (by kernel_rfl) ?_
  refine at_region (by kernel_rfl) sh_refl ?_
  refine chunk (s' := f28_s65 y6) 2 2 (by kernel_rfl) rfl ?_
  refine at_end 2 (by kernel_rfl) ?_
  refine q_seq sh_refl ?_
  refine at_ret (by kernel_rfl) ?_
  have hz := Option.some.inj H
  subst hz
  exact post_ret (ret1 (v := .osl 0 1 0 (List.length y6)) (r := .own 1 (List.map eB y6)) [0] (by kernel_rfl) (outA_o (outV_own (by kernel_rfl))) (by kernel_rfl) (by decide))
end
section
variable (p0_ : (List Int)) (p1_ : (List Int))
def f49_s1 : St := ⟨(0, .d (.sl (List.map eU8 p0_))) :: (1, .d (.sl (List.map eU8 p1_))) :: [], []⟩
def f49_s2 : St := po (f49_s1 p0_ p1_) [(4, .d (.bool false))] fun _ => []
def f49_s3 : St := po (f49_s2 p0_ p1_) [(6, .d (.sl (List.map eU8 p0_)))] fun _ => []
def f49_s4 : St := po (f49_s3 p0_ p1_) [(7, .d (.int .i64 ((List.length p0_ : Nat) : Int)))] fun _ => []
def f49_s5 : St := po (f49_s4 p0_ p1_) [(8, .d (.sl (List.map eU8 p1_)))] fun _ => []
def f49_s6 : St := po (f49_s5 p0_ p1_) [(9, .d (.int .i64 ((List.length p1_ : Nat) : Int)))] fun _ => []
def f49_s7 : St := po (f49_s6 p0_ p1_) [(10, .d (.bool (((List.length p0_ : Nat) : Int) != ((List.length p1_ : Nat) : Int))))] fun _ => []
def f49_s8 : St := po (f49_s7 p0_ p1_) [(4, .d (.bool false))] fun _ => []
def f49_s9 : St := po (f49_s7 p0_ p1_) [(5, .d (.int .i64 0))] fun _ => []
variable (i_1 : Int)
def f49_s10 : St := ⟨(0, .d (.sl (List.map eU8 p0_))) :: (1, .d (.sl (List.map eU8 p1_))) :: (5, .d (.int .i64 i_1)) :: [], []⟩
def f49_s11  : St := ⟨[], []⟩
def f49_s12 : St := po (f49_s10 p0_ p1_ i_1) [(12, .d (.sl (List.map eU8 p0_))), (11, .d (.int .i64 i_1))] fun _ => []
def f49_s13 : St := po (f49_s12 p0_ p1_ i_1) [(13, .d (.int .i64 ((List.length p0_ : Nat) : Int)))] fun _ => []
def f49_s14 : St := po (f49_s13 p0_ p1_ i_1) [(14, .d (.bool (decide (i_1 < ((List.length p0_ : Nat) : Int)))))] fun _ => []
def f49_s15 : St := po (f49_s14 p0_ p1_ i_1) [(18, .d (.int .i64 i_1)), (17, .d (.sl (List.map eU8 p0_)))] fun _ => []
variable (x14 : Int)
def f49_s16 : St := po (f49_s15 p0_ p1_ i_1) [(19, .dptr (eU8 x14) 0)] fun _ => []
def f49_s17 : St := po (f49_s16 p0_ p1_ i_1 x14) [(22, .d (.int .i64 i_1)), (21, .d (.sl (List.map eU8 p1_))), (20, .d (.int .u8 x14))] fun _ => []
variable (x15 : Int)
def f49_s18 : St := po (f49_s17 p0_ p1_ i_1 x14) [(23, .dptr (eU8 x15) 0)] fun _ => []
def f49_s19 : St := po (f49_s18 p0_ p1_ i_1 x14 x15) [(25, .d (.bool (x14 != x15))), (24, .d (.int .u8 x15))] fun _ => []
def f49_s20 : St := po (f49_s19 p0_ p1_ i_1 x14 x15) [(4, .d (.bool false))] fun _ => []
def f49_s21 : St := po (f49_s19 p0_ p1_ i_1 x14 x15) [(5, .d (.int .i64 (iadd .i64 i_1 1))), (16, .d (.int .i64 (iadd .i64 i_1 1))), (15, .d (.int .i64 i_1))] fun _ => []
def f49_L1_E (p0_ : (List Int)) (p1_ : (List Int)) : (Unit ⊕ Bool) → Ex → St → Prop := fun y => Sum.casesOn y (fun (y : Unit) e s => e = Ex.exit 0 ∧ Shift s (f49_s11)) (fun (y : Bool) e s => e = Ex.ret ∧ retA ty (Try.f49).results.toList (.d (.bool y)) s)
theorem f49_L1_ok {n : Nat} {p0_ : (List Int)} {p1_ : (List Int)} (x : Int) (z : (Int ⊕ (Unit ⊕ Bool))) (H : f49_L1 n p0_ p1_ x = some z) : wpA (cx 26) (nav [1,1,0,1,0,0] (bodyOf Try.f49)) (roundQ (fun (x : Int) => f49_s10 p0_ p1_ x) (f49_L1_E p0_ p1_) z) (f49_s10 p0_ p1_ x) := by
  revert H
  generalize x = i_1
  intro H
  dsimp only [f49_L1] at H
  refine at_seq (p0 := [1,1,0,1,0,0,0]) (p1 := [1,1,0,1,0,0,1]) (by kernel_rfl) ?_
  refine at_seq (p0 := [1,1,0,1,0,0,0,0]) (p1 := [1,1,0,1,0,0,0,1]) (by kernel_rfl) ?_
  refine at_region (by kernel_rfl) sh_refl ?_
  refine chunk (s' := f49_s12 p0_ p1_ i_1) 2 2 (by kernel_rfl) rfl ?_
  refine spec (s' := f49_s13 p0_ p1_ i_1) (v := .d (.int .i64 ((List.length p0_ : Nat) : Int))) (obs := []) (rm := []) (upd := none) 3 (by kernel_rfl) (is_len (enc := eU8) (esz := 1) (eb := 1) (ez := [.int .u8 0]) (xs := p0_)) (by kernel_rfl) rfl ?_
  refine chunk (s' := f49_s14 p0_ p1_ i_1) 1 4 (by kernel_rfl) rfl ?_
  refine at_end 4 (by kernel_rfl) ?_
  refine q_seq sh_refl ?_
  rcases ite_some H with ⟨hc22, H⟩ | ⟨hc22, H⟩
  · refine at_condT (decide (i_1 < ((List.length p0_ : Nat) : Int))) (p0 := [1,1,0,1,0,0,0,1,0]) (p1 := [1,1,0,1,0,0,0,1,1]) (by kernel_rfl) (by kernel_rfl) hc22 ?_
    refine at_skip (by kernel_rfl) ?_
    refine q_seq sh_refl ?_
    refine at_seq (p0 := [1,1,0,1,0,0,1,0]) (p1 := [1,1,0,1,0,0,1,1]) (by kernel_rfl) ?_
    refine at_block 1 (p0 := [1,1,0,1,0,0,1,0,0]) (by kernel_rfl) ?_
    refine at_seq (p0 := [1,1,0,1,0,0,1,0,0,0]) (p1 := [1,1,0,1,0,0,1,0,0,1]) (by kernel_rfl) ?_
    refine at_region (by kernel_rfl) sh_refl ?_
    refine chunk (s' := f49_s15 p0_ p1_ i_1) 2 2 (by kernel_rfl) rfl ?_
    obtain ⟨x14, h49, H⟩ := bind_some H
    refine spec (s' := f49_s16 p0_ p1_ i_1 x14) (v := .dptr (eU8 x14) 0) (obs := []) (rm := []) (upd := none) 3 (by kernel_rfl) (is_idxD (enc := eU8) (esz := 1) (eb := 1) (ez := [.int .u8 0]) h49 (by kernel_rfl)) (by kernel_rfl) rfl ?_
    refine chunk (s' := f49_s17 p0_ p1_ i_1 x14) 3 6 (by kernel_rfl) rfl ?_
    obtain ⟨x15, h50, H⟩ := bind_some H
    refine spec (s' := f49_s18 p0_ p1_ i_1 x14 x15) (v := .dptr (eU8 x15) 0) (obs := []) (rm := []) (upd := none) 7 (by kernel_rfl) (is_idxD (enc := eU8) (esz := 1) (eb := 1) (ez := [.int .u8 0]) h50 (by kernel_rfl)) (by kernel_rfl) rfl ?_
    refine chunk (s' := f49_s19 p0_ p1_ i_1 x14 x15) 2 9 (by kernel_rfl) rfl ?_
    refine at_end 9 (by kernel_rfl) ?_
    refine q_seq sh_refl ?_
    rcases ite_some H with ⟨hc21, H⟩ | ⟨hc21, H⟩
    · refine at_condT (x14 != x15) (p0 := [1,1,0,1,0,0,1,0,0,1,0]) (p1 := [1,1,0,1,0,0,1,0,0,1,1]) (by kernel_rfl) (by kernel_rfl) hc21 ?_
      refine at_seq (p0 := [1,1,0,1,0,0,1,0,0,1,0,0]) (p1 := [1,1,0,1,0,0,1,0,0,1,0,1]) (by kernel_rfl) ?_
      refine at_region (by kernel_rfl) sh_refl ?_
      refine chunk (s' := f49_s20 p0_ p1_ i_1 x14 x15) 1 1 (by kernel_rfl) rfl ?_
      refine at_end 1 (by kernel_rfl) ?_
      refine q_seq sh_refl ?_
      refine at_ret (by kernel_rfl) ?_
      refine q_blockR ?_
      refine q_seqR ?_
      have hz := Option.some.inj H
      subst hz
      exact round_ret ⟨rfl, ret1 (v := .d (.bool false)) (r := .d (.bool false)) [] (by kernel_rfl) (outA_d (outV_d)) (by kernel_rfl) (by decide)⟩
    · refine at_condF (x14 != x15) (p0 := [1,1,0,1,0,0,1,0,0,1,0]) (p1 := [1,1,0,1,0,0,1,0,0,1,1]) (by kernel_rfl) (by kernel_rfl) hc21 ?_
      refine at_skip (by kernel_rfl) ?_
      refine q_blockN ?_
      refine q_seq sh_refl ?_
      refine at_region (by kernel_rfl) sh_refl ?_
      refine chunk (s' := f49_s21 p0_ p1_ i_1 x14 x15) 3 3 (by kernel_rfl) rfl ?_
      refine at_end 3 (by kernel_rfl) ?_
      have hz := Option.some.inj H
      subst hz
      exact round_go (sh_gc [0,1,5] (by kernel_rfl))
  · refine at_condF (decide (i_1 < ((List.length p0_ : Nat) : Int))) (p0 := [1,1,0,1,0,0,0,1,0]) (p1 := [1,1,0,1,0,0,0,1,1]) (by kernel_rfl) (by kernel_rfl) hc22 ?_
    refine at_exit 0 (by kernel_rfl) ?_
    refine q_seqX ?_
    have hz := Option.some.inj H
    subst hz
    exact round_exit ⟨rfl, sh_gc [] (by kernel_rfl)⟩
def f49_s22  : St := po (f49_s11) [(4, .d (.bool true))] fun _ => []
theorem FSixdotref02_SameCells_ok {n : Nat} {p0_ : (List Int)} {p1_ : (List Int)} {z : Bool} (H : FSixdotref02_SameCells n p0_ p1_ = some z) : CallOK Try.prog 49 [.d (.sl (List.map eU8 p0_)), .d (.sl (List.map eU8 p1_))] (.d (.bool z)) := by
  dsimp only [FSixdotref02_SameCells] at H
  refine fn_ok (Γ := cx 26) (s := f49_s1 p0_ p1_) follows (cxOK 26) Try.func49 (by kernel_rfl) (by kernel_rfl) (by kernel_rfl) (by kernel_rfl) (by kernel_rfl) (by kernel_rfl) ?_
  refine at_seq (p0 := [0]) (p1 := [1]) (by kernel_rfl) ?_
  refine at_region (by kernel_rfl) sh_refl ?_
  refine chunk (s' := f49_s2 p0_ p1_) 1 1 (by kernel_rfl) rfl ?_
  refine at_end 1 (by kernel_rfl) ?_
  refine q_seq sh_refl ?_
  refine at_seq (p0 := [1,0]) (p1 := [1,1]) (by kernel_rfl) ?_
  refine at_seq (p0 := [1,0,0]) (p1 := [1,0,1]) (by kernel_rfl) ?_
  refine at_region (by kernel_rfl) sh_refl ?_
  refine chunk (s' := f49_s3 p0_ p1_) 1 1 (by kernel_rfl) rfl ?_
  refine spec (s' := f49_s4 p0_ p1_) (v := .d (.int .i64 ((List.length p0_ : Nat) : Int))) (obs := []) (rm := []) (upd := none) 2 (by kernel_rfl) (is_len (enc := eU8) (esz := 1) (eb := 1) (ez := [.int .u8 0]) (xs := p0_)) (by kernel_rfl) rfl ?_
  refine chunk (s' := f49_s5 p0_ p1_) 1 3 (by kernel_rfl) rfl ?_
  refine spec (s' := f49_s6 p0_ p1_) (v := .d (.int .i64 ((List.length p1_ : Nat) : Int))) (obs := []) (rm := []) (upd := none) 4 (by kernel_rfl) (is_len (enc := eU8) (esz := 1) (eb := 1) (ez := [.int .u8 0]) (xs := p1_)) (by kernel_rfl) rfl ?_
  refine chunk (s' := f49_s7 p0_ p1_) 1 5 (by kernel_rfl) rfl ?_
  refine at_end 5 (by kernel_rfl) ?_
  refine q_seq sh_refl ?_
  rcases ite_some H with ⟨hc23, H⟩ | ⟨hc23, H⟩
  · refine at_condT (((List.length p0_ : Nat) : Int) != ((List.length p1_ : Nat) : Int)) (p0 := [1,0,1,0]) (p1 := [1,0,1,1]) (by kernel_rfl) (by kernel_rfl) hc23 ?_
    refine at_seq (p0 := [1,0,1,0,0]) (p1 := [1,0,1,0,1]) (by kernel_rfl) ?_
    refine at_region (by kernel_rfl) sh_refl ?_
    refine chunk (s' := f49_s8 p0_ p1_) 1 1 (by kernel_rfl) rfl ?_
    refine at_end 1 (by kernel_rfl) ?_
    refine q_seq sh_refl ?_
    refine at_ret (by kernel_rfl) ?_
    refine q_seqR ?_
    have hz := Option.some.inj H
    subst hz
    exact post_ret (ret1 (v := .d (.bool false)) (r := .d (.bool false)) [] (by kernel_rfl) (outA_d (outV_d)) (by kernel_rfl) (by decide))
  · refine at_condF (((List.length p0_ : Nat) : Int) != ((List.length p1_ : Nat) : Int)) (p0 := [1,0,1,0]) (p1 := [1,0,1,1]) (by kernel_rfl) (by kernel_rfl) hc23 ?_
    refine at_skip (by kernel_rfl) ?_
    refine q_seq sh_refl ?_
    refine at_seq (p0 := [1,1,0]) (p1 := [1,1,1]) (by kernel_rfl) ?_
    refine at_seq (p0 := [1,1,0,0]) (p1 := [1,1,0,1]) (by kernel_rfl) ?_
    refine at_region (by kernel_rfl) sh_refl ?_
    refine chunk (s' := f49_s9 p0_ p1_) 1 1 (by kernel_rfl) rfl ?_
    refine at_end 1 (by kernel_rfl) ?_
    refine q_seq sh_refl ?_
    refine at_block 0 (p0 := [1,1,0,1,0]) (by kernel_rfl) ?_
    obtain ⟨y7, h51, H⟩ := bind_some H
    rcases y7 with y8 | y9
    · refine at_loop (p0 := [1,1,0,1,0,0]) (fun (x : Int) => f49_s10 p0_ p1_ x) (f49_L1_E p0_ p1_) (by kernel_rfl) h51 (sh_gc [0,1,5] (by kernel_rfl)) (fun x z => f49_L1_ok x z) ?_
      intro e s hE7
      obtain ⟨rfl, hE7⟩ := hE7
      refine q_blockH ?_
      refine q_seq (s' := f49_s11) (hE7) ?_
      refine at_seq (p0 := [1,1,1,0]) (p1 := [1,1,1,1]) (by kernel_rfl) ?_
      refine at_region (by kernel_rfl) sh_refl ?_
      refine chunk (s' := f49_s22) 1 1 (by kernel_rfl) rfl ?_
      refine at_end 1 (by kernel_rfl) ?_
      refine q_seq sh_refl ?_
      refine at_ret (by kernel_rfl) ?_
      have hz := Option.some.inj H
      subst hz
      exact post_ret (ret1 (v := .d (.bool true)) (r := .d (.bool true)) [] (by kernel_rfl) (outA_d (outV_d)) (by kernel_rfl) (by decide))
    · refine at_loop (p0 := [1,1,0,1,0,0]) (fun (x : Int) => f49_s10 p0_ p1_ x) (f49_L1_E p0_ p1_) (by kernel_rfl) h51 (sh_gc [0,1,5] (by kernel_rfl)) (fun x z => f49_L1_ok x z) ?_
      intro e s hE8
      obtain ⟨rfl, hE8⟩ := hE8
      refine q_blockR ?_
      refine q_seqR ?_
      have hz := Option.some.inj H
      subst hz
      exact post_ret hE8
end
def f15_s0 : St := ⟨[], []⟩
def f15_s1  : St := po (f15_s0) [(0, .d (.bool false))] fun _ => []
def f15_s2  : St := po (f15_s1) [(17, .agg [.d (.int .i64 63), .d (.int .i64 0), .d (.int .i64 0)])] fun _ => []
end Go.AI
end
section
namespace Go.AI
open Go.Proofs
set_option maxRecDepth 10000
section
variable (r15 : GRule)
def f15_s3 : St := po (f15_s2) [(18, .agg [.d (.str r15.Print), .d (.sl (List.map eU8 r15.Cells)), .d (.int .u8 r15.Left), .d (.int .u8 r15.Right), .d (.int .i64 r15.From), .d (.int .i64 r15.To)])] fun _ => []
def f15_s4 : St := po (f15_s3 r15) [(19, .agg [.d (.int .i64 8), .d (.int .i64 0), .d (.int .i64 1)])] fun _ => []
variable (r16 : GRule)
def f15_s5 : St := po (f15_s4 r15) [(20, .agg [.d (.str r16.Print), .d (.sl (List.map eU8 r16.Cells)), .d (.int .u8 r16.Left), .d (.int .u8 r16.Right), .d (.int .i64 r16.From), .d (.int .i64 r16.To)])] fun _ => []
def f15_s6 : St := po (f15_s5 r15 r16) [(21, .agg [.d (.int .i64 63), .d (.int .i64 1), .d (.int .i64 1)])] fun _ => []
variable (r17 : GRule)
def f15_s7 : St := po (f15_s6 r15 r16) [(22, .agg [.d (.str r17.Print), .d (.sl (List.map eU8 r17.Cells)), .d (.int .u8 r17.Left), .d (.int .u8 r17.Right), .d (.int .i64 r17.From), .d (.int .i64 r17.To)])] fun _ => []
def f15_s8 : St := po (f15_s7 r15 r16 r17) [(23, .agg [.d (.int .i64 63), .d (.int .i64 1), .d (.int .i64 0)])] fun _ => []
variable (r18 : GRule)
def f15_s9 : St := po (f15_s8 r15 r16 r17) [(24, .agg [.d (.str r18.Print), .d (.sl (List.map eU8 r18.Cells)), .d (.int .u8 r18.Left), .d (.int .u8 r18.Right), .d (.int .i64 r18.From), .d (.int .i64 r18.To)])] fun _ => []
def f15_s10 : St := po (f15_s9 r15 r16 r17 r18) [(1, .ptr 1 0), (26, .agg [.d (.int .i64 2), .d (.int .u8 3), .osl 0 6 0 (List.length [r15, r16, r17, r18])]), (25, .osl 0 6 0 (List.length [r15, r16, r17, r18]))] fun _ => [some (.arr 6 (List.map eGRule [r15, r16, r17, r18])), some (.box [.d (.int .i64 2), .d (.int .u8 3), .osl 0 6 0 (List.length [r15, r16, r17, r18])])]
def f15_s11 : St := pe (f15_s10 r15 r16 r17 r18) [(28, .agg [.d (.int .i64 2), .d (.int .u8 3), .osl 0 6 0 (List.length [r15, r16, r17, r18])])]
variable (r19 : GState)
def f15_s12 : St := pe (f15_s11 r15 r16 r17 r18) [(29, .agg [.d (.int .i64 r19.Mode), .d (.int .i64 r19.Last), .d (.int .u8 r19.Need)])]
variable (r20 : (GState × Bool))
def f15_s13 : St := pe (f15_s12 r15 r16 r17 r18 r19) [(30, .tup [.agg [.d (.int .i64 r20.1.Mode), .d (.int .i64 r20.1.Last), .d (.int .u8 r20.1.Need)], .d (.bool r20.2)])]
def f15_s14 : St := po (f15_s13 r15 r16 r17 r18 r19 r20) [(3, .d (.bool r20.2)), (2, .ptr 2 0), (32, .d (.bool r20.2)), (31, .agg [.d (.int .i64 r20.1.Mode), .d (.int .i64 r20.1.Last), .d (.int .u8 r20.1.Need)]), (27, .tup [.agg [.d (.int .i64 r20.1.Mode), .d (.int .i64 r20.1.Last), .d (.int .u8 r20.1.Need)], .d (.bool r20.2)])] fun o => o ++ [some (.box [.d (.int .i64 r20.1.Mode), .d (.int .i64 r20.1.Last), .d (.int .u8 r20.1.Need)])]
def f15_s15 : St := pe (f15_s14 r15 r16 r17 r18 r19 r20) [(35, .agg [.d (.int .i64 r20.1.Mode), .d (.int .i64 r20.1.Last), .d (.int .u8 r20.1.Need)]), (34, .agg [.d (.int .i64 2), .d (.int .u8 3), .osl 0 6 0 (List.length [r15, r16, r17, r18])])]
variable (r21 : (GState × Bool))
def f15_s16 : St := pe (f15_s15 r15 r16 r17 r18 r19 r20) [(36, .tup [.agg [.d (.int .i64 r21.1.Mode), .d (.int .i64 r21.1.Last), .d (.int .u8 r21.1.Need)], .d (.bool r21.2)])]
def f15_s17 : St := po (f15_s16 r15 r16 r17 r18 r19 r20 r21) [(5, .d (.bool r21.2)), (4, .ptr 3 0), (38, .d (.bool r21.2)), (37, .agg [.d (.int .i64 r21.1.Mode), .d (.int .i64 r21.1.Last), .d (.int .u8 r21.1.Need)]), (33, .tup [.agg [.d (.int .i64 r21.1.Mode), .d (.int .i64 r21.1.Last), .d (.int .u8 r21.1.Need)], .d (.bool r21.2)])] fun o => o ++ [some (.box [.d (.int .i64 r21.1.Mode), .d (.int .i64 r21.1.Last), .d (.int .u8 r21.1.Need)])]
def f15_s18 : St := pe (f15_s17 r15 r16 r17 r18 r19 r20 r21) [(41, .agg [.d (.int .i64 r20.1.Mode), .d (.int .i64 r20.1.Last), .d (.int .u8 r20.1.Need)]), (40, .agg [.d (.int .i64 2), .d (.int .u8 3), .osl 0 6 0 (List.length [r15, r16, r17, r18])])]
variable (r22 : (GState × Bool))
def f15_s19 : St := pe (f15_s18 r15 r16 r17 r18 r19 r20 r21) [(42, .tup [.agg [.d (.int .i64 r22.1.Mode), .d (.int .i64 r22.1.Last), .d (.int .u8 r22.1.Need)], .d (.bool r22.2)])]
def f15_s20 : St := po (f15_s19 r15 r16 r17 r18 r19 r20 r21 r22) [(7, .d (.bool r22.2)), (6, .ptr 4 0), (44, .d (.bool r22.2)), (43, .agg [.d (.int .i64 r22.1.Mode), .d (.int .i64 r22.1.Last), .d (.int .u8 r22.1.Need)]), (39, .tup [.agg [.d (.int .i64 r22.1.Mode), .d (.int .i64 r22.1.Last), .d (.int .u8 r22.1.Need)], .d (.bool r22.2)])] fun o => o ++ [some (.box [.d (.int .i64 r22.1.Mode), .d (.int .i64 r22.1.Last), .d (.int .u8 r22.1.Need)])]
def f15_s21 : St := po (f15_s20 r15 r16 r17 r18 r19 r20 r21 r22) [(46, .osl 5 1 0 (List.length [1,2,3,0])), (45, .agg [.d (.int .i64 2), .d (.int .u8 3), .osl 0 6 0 (List.length [r15, r16, r17, r18])])] fun o => o ++ [some (.arr 1 (List.map eI64 [1,2,3,0]))]
variable (r23 : GTrace)
def f15_s22 : St := pe (f15_s21 r15 r16 r17 r18 r19 r20 r21 r22) [(47, .agg [.d (.str r23.Text), .d (.sl (List.map eU8 r23.Cells)), .d (.int .i64 r23.At), .d (.int .i64 r23.End.Mode), .d (.int .i64 r23.End.Last), .d (.int .u8 r23.End.Need), .d (.bool r23.Ok)])]
def f15_s23 : St := po (f15_s22 r15 r16 r17 r18 r19 r20 r21 r22 r23) [(8, .ptr 6 0)] fun o => o ++ [some (.box [.d (.str r23.Text), .d (.sl (List.map eU8 r23.Cells)), .d (.int .i64 r23.At), .d (.int .i64 r23.End.Mode), .d (.int .i64 r23.End.Last), .d (.int .u8 r23.End.Need), .d (.bool r23.Ok)])]
def f15_s24 : St := po (f15_s23 r15 r16 r17 r18 r19 r20 r21 r22 r23) [(49, .osl 7 1 0 (List.length [1,0])), (48, .agg [.d (.int .i64 2), .d (.int .u8 3), .osl 0 6 0 (List.length [r15, r16, r17, r18])])] fun o => o ++ [some (.arr 1 (List.map eI64 [1,0]))]
variable (r24 : GTrace)
def f15_s25 : St := pe (f15_s24 r15 r16 r17 r18 r19 r20 r21 r22 r23) [(50, .agg [.d (.str r24.Text), .d (.sl (List.map eU8 r24.Cells)), .d (.int .i64 r24.At), .d (.int .i64 r24.End.Mode), .d (.int .i64 r24.End.Last), .d (.int .u8 r24.End.Need), .d (.bool r24.Ok)])]
def f15_s26 : St := po (f15_s25 r15 r16 r17 r18 r19 r20 r21 r22 r23 r24) [(9, .ptr 8 0)] fun o => o ++ [some (.box [.d (.str r24.Text), .d (.sl (List.map eU8 r24.Cells)), .d (.int .i64 r24.At), .d (.int .i64 r24.End.Mode), .d (.int .i64 r24.End.Last), .d (.int .u8 r24.End.Need), .d (.bool r24.Ok)])]
def f15_s27 : St := po (f15_s26 r15 r16 r17 r18 r19 r20 r21 r22 r23 r24) [(52, .osl 9 1 0 (List.length [1])), (51, .agg [.d (.int .i64 2), .d (.int .u8 3), .osl 0 6 0 (List.length [r15, r16, r17, r18])])] fun o => o ++ [some (.arr 1 (List.map eI64 [1]))]
variable (r25 : GTrace)
def f15_s28 : St := pe (f15_s27 r15 r16 r17 r18 r19 r20 r21 r22 r23 r24) [(53, .agg [.d (.str r25.Text), .d (.sl (List.map eU8 r25.Cells)), .d (.int .i64 r25.At), .d (.int .i64 r25.End.Mode), .d (.int .i64 r25.End.Last), .d (.int .u8 r25.End.Need), .d (.bool r25.Ok)])]
def f15_s29 : St := po (f15_s28 r15 r16 r17 r18 r19 r20 r21 r22 r23 r24 r25) [(10, .ptr 10 0)] fun o => o ++ [some (.box [.d (.str r25.Text), .d (.sl (List.map eU8 r25.Cells)), .d (.int .i64 r25.At), .d (.int .i64 r25.End.Mode), .d (.int .i64 r25.End.Last), .d (.int .u8 r25.End.Need), .d (.bool r25.Ok)])]
def f15_s30 : St := po (f15_s29 r15 r16 r17 r18 r19 r20 r21 r22 r23 r24 r25) [] fun o => (o.set 0 none).set 1 (some (.box [.d (.int .i64 2), .d (.int .u8 3), .d (.sl (List.map eGRule [r15, r16, r17, r18]))]))
def f15_s31 : St := pe (f15_s30 r15 r16 r17 r18 r19 r20 r21 r22 r23 r24 r25) [(54, .agg [.d (.int .i64 2), .d (.int .u8 3), .d (.sl (List.map eGRule [r15, r16, r17, r18]))])]
variable (r26 : (List GState))
def f15_s32 : St := pe (f15_s31 r15 r16 r17 r18 r19 r20 r21 r22 r23 r24 r25) [(55, .d (.sl (List.map eGState r26)))]
def f15_s33 : St := po (f15_s32 r15 r16 r17 r18 r19 r20 r21 r22 r23 r24 r25 r26) [(12, .osl 11 3 0 (List.length [({ Mode := 0, Last := 0, Need := 63 } : GState), ({ Mode := 0, Last := 1, Need := 63 } : GState), ({ Mode := 1, Last := 0, Need := 8 } : GState), ({ Mode := 1, Last := 1, Need := 8 } : GState), ({ Mode := 1, Last := 3, Need := 63 } : GState), ({ Mode := 0, Last := 4, Need := 63 } : GState), ({ Mode := 1, Last := 4, Need := 8 } : GState)])), (11, .d (.sl (List.map eGState r26))), (63, .osl 11 3 0 (List.length [({ Mode := 0, Last := 0, Need := 63 } : GState), ({ Mode := 0, Last := 1, Need := 63 } : GState), ({ Mode := 1, Last := 0, Need := 8 } : GState), ({ Mode := 1, Last := 1, Need := 8 } : GState), ({ Mode := 1, Last := 3, Need := 63 } : GState), ({ Mode := 0, Last := 4, Need := 63 } : GState), ({ Mode := 1, Last := 4, Need := 8 } : GState)])), (62, .agg [.d (.int .i64 1), .d (.int .i64 4), .d (.int .u8 8)]), (61, .agg [.d (.int .i64 0), .d (.int .i64 4), .d (.int .u8 63)]), (60, .agg [.d (.int .i64 1), .d (.int .i64 3), .d (.int .u8 63)]), (59, .agg [.d (.int .i64 1), .d (.int .i64 1), .d (.int .u8 8)]), (58, .agg [.d (.int .i64 1), .d (.int .i64 0), .d (.int .u8 8)]), (57, .agg [.d (.int .i64 0), .d (.int .i64 1), .d (.int .u8 63)]), (56, .agg [.d (.int .i64 0), .d (.int .i64 0), .d (.int .u8 63)])] fun o => o ++ [some (.arr 3 (List.map eGState [({ Mode := 0, Last := 0, Need := 63 } : GState), ({ Mode := 0, Last := 1, Need := 63 } : GState), ({ Mode := 1, Last := 0, Need := 8 } : GState), ({ Mode := 1, Last := 1, Need := 8 } : GState), ({ Mode := 1, Last := 3, Need := 63 } : GState), ({ Mode := 0, Last := 4, Need := 63 } : GState), ({ Mode := 1, Last := 4, Need := 8 } : GState)]))]
def f15_s34 : St := pe (f15_s33 r15 r16 r17 r18 r19 r20 r21 r22 r23 r24 r25 r26) [(64, .agg [.d (.int .i64 2), .d (.int .u8 3), .d (.sl (List.map eGRule [r15, r16, r17, r18]))])]
variable (r27 : (List Bool))
def f15_s35 : St := pe (f15_s34 r15 r16 r17 r18 r19 r20 r21 r22 r23 r24 r25 r26) [(65, .d (.sl (List.map eB r27)))]
def f15_s36 : St := pe (f15_s35 r15 r16 r17 r18 r19 r20 r21 r22 r23 r24 r25 r26 r27) [(13, .d (.sl (List.map eB r27)))]
def f15_s37 : St := pe (f15_s36 r15 r16 r17 r18 r19 r20 r21 r22 r23 r24 r25 r26 r27) [(66, .d (.sl (List.map eGState r26)))]
def f15_s38 : St := pe (f15_s37 r15 r16 r17 r18 r19 r20 r21 r22 r23 r24 r25 r26 r27) [(67, .d (.int .i64 ((List.length r26 : Nat) : Int)))]
def f15_s39 : St := pe (f15_s38 r15 r16 r17 r18 r19 r20 r21 r22 r23 r24 r25 r26 r27) [(72, .gv (!(((List.length r26 : Nat) : Int) != ((List.length [({ Mode := 0, Last := 0, Need := 63 } : GState), ({ Mode := 0, Last := 1, Need := 63 } : GState), ({ Mode := 1, Last := 0, Need := 8 } : GState), ({ Mode := 1, Last := 1, Need := 8 } : GState), ({ Mode := 1, Last := 3, Need := 63 } : GState), ({ Mode := 0, Last := 4, Need := 63 } : GState), ({ Mode := 1, Last := 4, Need := 8 } : GState)] : Nat) : Int))) (.d (.sl (List.map eB r27)))), (71, .d (.bool (((List.length r26 : Nat) : Int) != ((List.length [({ Mode := 0, Last := 0, Need := 63 } : GState), ({ Mode := 0, Last := 1, Need := 63 } : GState), ({ Mode := 1, Last := 0, Need := 8 } : GState), ({ Mode := 1, Last := 1, Need := 8 } : GState), ({ Mode := 1, Last := 3, Need := 63 } : GState), ({ Mode := 0, Last := 4, Need := 63 } : GState), ({ Mode := 1, Last := 4, Need := 8 } : GState)] : Nat) : Int)))), (70, .d (.bool (((List.length r26 : Nat) : Int) != ((List.length [({ Mode := 0, Last := 0, Need := 63 } : GState), ({ Mode := 0, Last := 1, Need := 63 } : GState), ({ Mode := 1, Last := 0, Need := 8 } : GState), ({ Mode := 1, Last := 1, Need := 8 } : GState), ({ Mode := 1, Last := 3, Need := 63 } : GState), ({ Mode := 0, Last := 4, Need := 63 } : GState), ({ Mode := 1, Last := 4, Need := 8 } : GState)] : Nat) : Int)))), (69, .d (.int .i64 ((List.length [({ Mode := 0, Last := 0, Need := 63 } : GState), ({ Mode := 0, Last := 1, Need := 63 } : GState), ({ Mode := 1, Last := 0, Need := 8 } : GState), ({ Mode := 1, Last := 1, Need := 8 } : GState), ({ Mode := 1, Last := 3, Need := 63 } : GState), ({ Mode := 0, Last := 4, Need := 63 } : GState), ({ Mode := 1, Last := 4, Need := 8 } : GState)] : Nat) : Int))), (68, .osl 11 3 0 (List.length [({ Mode := 0, Last := 0, Need := 63 } : GState), ({ Mode := 0, Last := 1, Need := 63 } : GState), ({ Mode := 1, Last := 0, Need := 8 } : GState), ({ Mode := 1, Last := 1, Need := 8 } : GState), ({ Mode := 1, Last := 3, Need := 63 } : GState), ({ Mode := 0, Last := 4, Need := 63 } : GState), ({ Mode := 1, Last := 4, Need := 8 } : GState)]))]
def f15_s40 : St := pe (f15_s39 r15 r16 r17 r18 r19 r20 r21 r22 r23 r24 r25 r26 r27) [(73, .gv (!(((List.length r26 : Nat) : Int) != ((List.length [({ Mode := 0, Last := 0, Need := 63 } : GState), ({ Mode := 0, Last := 1, Need := 63 } : GState), ({ Mode := 1, Last := 0, Need := 8 } : GState), ({ Mode := 1, Last := 1, Need := 8 } : GState), ({ Mode := 1, Last := 3, Need := 63 } : GState), ({ Mode := 0, Last := 4, Need := 63 } : GState), ({ Mode := 1, Last := 4, Need := 8 } : GState)] : Nat) : Int))) (.d (.int .i64 ((List.length r27 : Nat) : Int))))]
def f15_s41 : St := pe (f15_s40 r15 r16 r17 r18 r19 r20 r21 r22 r23 r24 r25 r26 r27) [(74, .gv (!(((List.length r26 : Nat) : Int) != ((List.length [({ Mode := 0, Last := 0, Need := 63 } : GState), ({ Mode := 0, Last := 1, Need := 63 } : GState), ({ Mode := 1, Last := 0, Need := 8 } : GState), ({ Mode := 1, Last := 1, Need := 8 } : GState), ({ Mode := 1, Last := 3, Need := 63 } : GState), ({ Mode := 0, Last := 4, Need := 63 } : GState), ({ Mode := 1, Last := 4, Need := 8 } : GState)] : Nat) : Int))) (.osl 11 3 0 (List.length [({ Mode := 0, Last := 0, Need := 63 } : GState), ({ Mode := 0, Last := 1, Need := 63 } : GState), ({ Mode := 1, Last := 0, Need := 8 } : GState), ({ Mode := 1, Last := 1, Need := 8 } : GState), ({ Mode := 1, Last := 3, Need := 63 } : GState), ({ Mode := 0, Last := 4, Need := 63 } : GState), ({ Mode := 1, Last := 4, Need := 8 } : GState)])))]
def f15_s42 : St := pe (f15_s41 r15 r16 r17 r18 r19 r20 r21 r22 r23 r24 r25 r26 r27) [(75, .gv (!(((List.length r26 : Nat) : Int) != ((List.length [({ Mode := 0, Last := 0, Need := 63 } : GState), ({ Mode := 0, Last := 1, Need := 63 } : GState), ({ Mode := 1, Last := 0, Need := 8 } : GState), ({ Mode := 1, Last := 1, Need := 8 } : GState), ({ Mode := 1, Last := 3, Need := 63 } : GState), ({ Mode := 0, Last := 4, Need := 63 } : GState), ({ Mode := 1, Last := 4, Need := 8 } : GState)] : Nat) : Int))) (.d (.int .i64 ((List.length [({ Mode := 0, Last := 0, Need := 63 } : GState), ({ Mode := 0, Last := 1, Need := 63 } : GState), ({ Mode := 1, Last := 0, Need := 8 } : GState), ({ Mode := 1, Last := 1, Need := 8 } : GState), ({ Mode := 1, Last := 3, Need := 63 } : GState), ({ Mode := 0, Last := 4, Need := 63 } : GState), ({ Mode := 1, Last := 4, Need := 8 } : GState)] : Nat) : Int))))]
def f15_s43 : St := pe (f15_s42 r15 r16 r17 r18 r19 r20 r21 r22 r23 r24 r25 r26 r27) [(76, .gv (!(((List.length r26 : Nat) : Int) != ((List.length [({ Mode := 0, Last := 0, Need := 63 } : GState), ({ Mode := 0, Last := 1, Need := 63 } : GState), ({ Mode := 1, Last := 0, Need := 8 } : GState), ({ Mode := 1, Last := 1, Need := 8 } : GState), ({ Mode := 1, Last := 3, Need := 63 } : GState), ({ Mode := 0, Last := 4, Need := 63 } : GState), ({ Mode := 1, Last := 4, Need := 8 } : GState)] : Nat) : Int))) (.d (.bool (((List.length r27 : Nat) : Int) != ((List.length [({ Mode := 0, Last := 0, Need := 63 } : GState), ({ Mode := 0, Last := 1, Need := 63 } : GState), ({ Mode := 1, Last := 0, Need := 8 } : GState), ({ Mode := 1, Last := 1, Need := 8 } : GState), ({ Mode := 1, Last := 3, Need := 63 } : GState), ({ Mode := 0, Last := 4, Need := 63 } : GState), ({ Mode := 1, Last := 4, Need := 8 } : GState)] : Nat) : Int)))))]
def f15_s44 : St := pe (f15_s43 r15 r16 r17 r18 r19 r20 r21 r22 r23 r24 r25 r26 r27) [(77, .d (.bool ((((List.length r26 : Nat) : Int) != ((List.length [({ Mode := 0, Last := 0, Need := 63 } : GState), ({ Mode := 0, Last := 1, Need := 63 } : GState), ({ Mode := 1, Last := 0, Need := 8 } : GState), ({ Mode := 1, Last := 1, Need := 8 } : GState), ({ Mode := 1, Last := 3, Need := 63 } : GState), ({ Mode := 0, Last := 4, Need := 63 } : GState), ({ Mode := 1, Last := 4, Need := 8 } : GState)] : Nat) : Int)) || (((List.length r27 : Nat) : Int) != ((List.length [({ Mode := 0, Last := 0, Need := 63 } : GState), ({ Mode := 0, Last := 1, Need := 63 } : GState), ({ Mode := 1, Last := 0, Need := 8 } : GState), ({ Mode := 1, Last := 1, Need := 8 } : GState), ({ Mode := 1, Last := 3, Need := 63 } : GState), ({ Mode := 0, Last := 4, Need := 63 } : GState), ({ Mode := 1, Last := 4, Need := 8 } : GState)] : Nat) : Int)))))]
def f15_s45 : St := pe (f15_s44 r15 r16 r17 r18 r19 r20 r21 r22 r23 r24 r25 r26 r27) [(0, .d (.bool false))]
def f15_s46 : St := pe (f15_s44 r15 r16 r17 r18 r19 r20 r21 r22 r23 r24 r25 r26 r27) [(14, .d (.int .i64 0))]
variable (i_2 : Int)
def f15_s47 : St := ⟨(1, .ptr 0 0) :: (2, .ptr 1 0) :: (3, .d (.bool r20.2)) :: (5, .d (.bool r21.2)) :: (7, .d (.bool r22.2)) :: (8, .ptr 2 0) :: (9, .ptr 3 0) :: (10, .ptr 4 0) :: (11, .d (.sl (List.map eGState r26))) :: (12, .osl 5 3 0 (List.length [({ Mode := 0, Last := 0, Need := 63 } : GState), ({ Mode := 0, Last := 1, Need := 63 } : GState), ({ Mode := 1, Last := 0, Need := 8 } : GState), ({ Mode := 1, Last := 1, Need := 8 } : GState), ({ Mode := 1, Last := 3, Need := 63 } : GState), ({ Mode := 0, Last := 4, Need := 63 } : GState), ({ Mode := 1, Last := 4, Need := 8 } : GState)])) :: (13, .d (.sl (List.map eB r27))) :: (14, .d (.int .i64 i_2)) :: [], [some (.box [.d (.int .i64 2), .d (.int .u8 3), .d (.sl (List.map eGRule [r15, r16, r17, r18]))]), some (.box [.d (.int .i64 r20.1.Mode), .d (.int .i64 r20.1.Last), .d (.int .u8 r20.1.Need)]), some (.box [.d (.str r23.Text), .d (.sl (List.map eU8 r23.Cells)), .d (.int .i64 r23.At), .d (.int .i64 r23.End.Mode), .d (.int .i64 r23.End.Last), .d (.int .u8 r23.End.Need), .d (.bool r23.Ok)]), some (.box [.d (.str r24.Text), .d (.sl (List.map eU8 r24.Cells)), .d (.int .i64 r24.At), .d (.int .i64 r24.End.Mode), .d (.int .i64 r24.End.Last), .d (.int .u8 r24.End.Need), .d (.bool r24.Ok)]), some (.box [.d (.str r25.Text), .d (.sl (List.map eU8 r25.Cells)), .d (.int .i64 r25.At), .d (.int .i64 r25.End.Mode), .d (.int .i64 r25.End.Last), .d (.int .u8 r25.End.Need), .d (.bool r25.Ok)]), some (.arr 3 (List.map eGState [({ Mode := 0, Last := 0, Need := 63 } : GState), ({ Mode := 0, Last := 1, Need := 63 } : GState), ({ Mode := 1, Last := 0, Need := 8 } : GState), ({ Mode := 1, Last := 1, Need := 8 } : GState), ({ Mode := 1, Last := 3, Need := 63 } : GState), ({ Mode := 0, Last := 4, Need := 63 } : GState), ({ Mode := 1, Last := 4, Need := 8 } : GState)]))]⟩
def f15_s48 : St := ⟨(1, .ptr 0 0) :: (2, .ptr 1 0) :: (3, .d (.bool r20.2)) :: (5, .d (.bool r21.2)) :: (7, .d (.bool r22.2)) :: (8, .ptr 2 0) :: (9, .ptr 3 0) :: (10, .ptr 4 0) :: (11, .d (.sl (List.map eGState r26))) :: [], [some (.box [.d (.int .i64 2), .d (.int .u8 3), .d (.sl (List.map eGRule [r15, r16, r17, r18]))]), some (.box [.d (.int .i64 r20.1.Mode), .d (.int .i64 r20.1.Last), .d (.int .u8 r20.1.Need)]), some (.box [.d (.str r23.Text), .d (.sl (List.map eU8 r23.Cells)), .d (.int .i64 r23.At), .d (.int .i64 r23.End.Mode), .d (.int .i64 r23.End.Last), .d (.int .u8 r23.End.Need), .d (.bool r23.Ok)]), some (.box [.d (.str r24.Text), .d (.sl (List.map eU8 r24.Cells)), .d (.int .i64 r24.At), .d (.int .i64 r24.End.Mode), .d (.int .i64 r24.End.Last), .d (.int .u8 r24.End.Need), .d (.bool r24.Ok)]), some (.box [.d (.str r25.Text), .d (.sl (List.map eU8 r25.Cells)), .d (.int .i64 r25.At), .d (.int .i64 r25.End.Mode), .d (.int .i64 r25.End.Last), .d (.int .u8 r25.End.Need), .d (.bool r25.Ok)])]⟩
def f15_s49 : St := pe (f15_s47 r15 r16 r17 r18 r20 r21 r22 r23 r24 r25 r26 r27 i_2) [(79, .d (.sl (List.map eGState r26))), (78, .d (.int .i64 i_2))]
def f15_s50 : St := pe (f15_s49 r15 r16 r17 r18 r20 r21 r22 r23 r24 r25 r26 r27 i_2) [(80, .d (.int .i64 ((List.length r26 : Nat) : Int)))]
def f15_s51 : St := pe (f15_s50 r15 r16 r17 r18 r20 r21 r22 r23 r24 r25 r26 r27 i_2) [(81, .d (.bool (decide (i_2 < ((List.length r26 : Nat) : Int)))))]
def f15_s52 : St := pe (f15_s51 r15 r16 r17 r18 r20 r21 r22 r23 r24 r25 r26 r27 i_2) [(85, .d (.int .i64 i_2)), (84, .d (.sl (List.map eGState r26)))]
variable (x16 : GState)
def f15_s53 : St := pe (f15_s52 r15 r16 r17 r18 r20 r21 r22 r23 r24 r25 r26 r27 i_2) [(86, .dptr (eGState x16) 0)]
def f15_s54 : St := pe (f15_s53 r15 r16 r17 r18 r20 r21 r22 r23 r24 r25 r26 r27 i_2 x16) [(89, .d (.int .i64 i_2)), (88, .osl 5 3 0 (List.length [({ Mode := 0, Last := 0, Need := 63 } : GState), ({ Mode := 0, Last := 1, Need := 63 } : GState), ({ Mode := 1, Last := 0, Need := 8 } : GState), ({ Mode := 1, Last := 1, Need := 8 } : GState), ({ Mode := 1, Last := 3, Need := 63 } : GState), ({ Mode := 0, Last := 4, Need := 63 } : GState), ({ Mode := 1, Last := 4, Need := 8 } : GState)])), (87, .agg [.d (.int .i64 x16.Mode), .d (.int .i64 x16.Last), .d (.int .u8 x16.Need)])]
def f15_s55 : St := pe (f15_s54 r15 r16 r17 r18 r20 r21 r22 r23 r24 r25 r26 r27 i_2 x16) [(90, .eptr 5 3 (0 + Int.toNat i_2) 0)]
variable (x17 : GState)
def f15_s56 : St := pe (f15_s55 r15 r16 r17 r18 r20 r21 r22 r23 r24 r25 r26 r27 i_2 x16) [(91, .agg [.d (.int .i64 x17.Mode), .d (.int .i64 x17.Last), .d (.int .u8 x17.Need)])]
def f15_s57 : St := pe (f15_s56 r15 r16 r17 r18 r20 r21 r22 r23 r24 r25 r26 r27 i_2 x16 x17) [(95, .gv (!(!((x16.Mode == x17.Mode) && ((x16.Last == x17.Last) && ((x16.Need == x17.Need) && true))))) (.d (.int .i64 i_2))), (94, .gv (!(!((x16.Mode == x17.Mode) && ((x16.Last == x17.Last) && ((x16.Need == x17.Need) && true))))) (.d (.sl (List.map eB r27)))), (93, .d (.bool (!((x16.Mode == x17.Mode) && ((x16.Last == x17.Last) && ((x16.Need == x17.Need) && true)))))), (92, .d (.bool (!((x16.Mode == x17.Mode) && ((x16.Last == x17.Last) && ((x16.Need == x17.Need) && true))))))]
variable (x18 : Bool)
def f15_s58 : St := pe (f15_s57 r15 r16 r17 r18 r20 r21 r22 r23 r24 r25 r26 r27 i_2 x16 x17) [(96, .gv (!(!((x16.Mode == x17.Mode) && ((x16.Last == x17.Last) && ((x16.Need == x17.Need) && true))))) (.dptr (eB x18) 0))]
def f15_s59 : St := pe (f15_s58 r15 r16 r17 r18 r20 r21 r22 r23 r24 r25 r26 r27 i_2 x16 x17 x18) [(97, .gv (!(!((x16.Mode == x17.Mode) && ((x16.Last == x17.Last) && ((x16.Need == x17.Need) && true))))) (.d (.bool x18)))]
def f15_s60 : St := pe (f15_s59 r15 r16 r17 r18 r20 r21 r22 r23 r24 r25 r26 r27 i_2 x16 x17 x18) [(98, .gv (!(!((x16.Mode == x17.Mode) && ((x16.Last == x17.Last) && ((x16.Need == x17.Need) && true))))) (.d (.bool (!x18))))]
def f15_s61 : St := pe (f15_s60 r15 r16 r17 r18 r20 r21 r22 r23 r24 r25 r26 r27 i_2 x16 x17 x18) [(99, .d (.bool ((!((x16.Mode == x17.Mode) && ((x16.Last == x17.Last) && ((x16.Need == x17.Need) && true)))) || (!x18))))]
def f15_s62 : St := pe (f15_s61 r15 r16 r17 r18 r20 r21 r22 r23 r24 r25 r26 r27 i_2 x16 x17 x18) [(0, .d (.bool false))]
def f15_s63 : St := pe (f15_s61 r15 r16 r17 r18 r20 r21 r22 r23 r24 r25 r26 r27 i_2 x16 x17 x18) [(14, .d (.int .i64 (iadd .i64 i_2 1))), (83, .d (.int .i64 (iadd .i64 i_2 1))), (82, .d (.int .i64 i_2))]
def f15_L1_E (r15 : GRule) (r16 : GRule) (r17 : GRule) (r18 : GRule) (r20 : (GState × Bool)) (r21 : (GState × Bool)) (r22 : (GState × Bool)) (r23 : GTrace) (r24 : GTrace) (r25 : GTrace) (r26 : (List GState)) (r27 : (List Bool)) : (Unit ⊕ Bool) → Ex → St → Prop := fun y => Sum.casesOn y (fun (y : Unit) e s => e = Ex.exit 0 ∧ Shift s (f15_s48 r15 r16 r17 r18 r20 r21 r22 r23 r24 r25 r26)) (fun (y : Bool) e s => e = Ex.ret ∧ retA ty (Try.f15).results.toList (.d (.bool y)) s)
theorem f15_L1_ok {n : Nat} {r15 : GRule} {r16 : GRule} {r17 : GRule} {r18 : GRule} {r20 : (GState × Bool)} {r21 : (GState × Bool)} {r22 : (GState × Bool)} {r23 : GTrace} {r24 : GTrace} {r25 : GTrace} {r26 : (List GState)} {r27 : (List Bool)} (x : Int) (z : (Int ⊕ (Unit ⊕ Bool))) (H : f15_L1 n r15 r16 r17 r18 r20 r21 r22 r23 r24 r25 r26 r27 x = some z) : wpA (cx 180) (nav [1,1,1,1,1,1,1,1,1,1,1,0,1,0,0] (bodyOf Try.f15)) (roundQ (fun (x : Int) => f15_s47 r15 r16 r17 r18 r20 r21 r22 r23 r24 r25 r26 r27 x) (f15_L1_E r15 r16 r17 r18 r20 r21 r22 r23 r24 r25 r26 r27) z) (f15_s47 r15 r16 r17 r18 r20 r21 r22 r23 r24 r25 r26 r27 x) := by
  revert H
  generalize x = i_2
  intro H
  dsimp only [f15_L1] at H
  refine at_seq (p0 := [1,1,1,1,1,1,1,1,1,1,1,0,1,0,0,0]) (p1 := [1,1,1,1,1,1,1,1,1,1,1,0,1,0,0,1]) (by kernel_rfl) ?_
  refine at_seq (p0 := [1,1,1,1,1,1,1,1,1,1,1,0,1,0,0,0,0]) (p1 := [1,1,1,1,1,1,1,1,1,1,1,0,1,0,0,0,1]) (by kernel_rfl) ?_
  refine at_region (by kernel_rfl) sh_refl ?_
  refine chunk (s' := f15_s49 r15 r16 r17 r18 r20 r21 r22 r23 r24 r25 r26 r27 i_2) 2 2 (by kernel_rfl) rfl ?_
  refine spec (s' := f15_s50 r15 r16 r17 r18 r20 r21 r22 r23 r24 r25 r26 r27 i_2) (v := .d (.int .i64 ((List.length r26 : Nat) : Int))) (obs := []) (rm := []) (upd := none) 3 (by kernel_rfl) (is_len (enc := eGState) (esz := 3) (eb := 24) (ez := [.int .i64 0, .int .i64 0, .int .u8 0]) (xs := r26)) (by kernel_rfl) rfl ?_
  refine chunk (s' := f15_s51 r15 r16 r17 r18 r20 r21 r22 r23 r24 r25 r26 r27 i_2) 1 4 (by kernel_rfl) rfl ?_
  refine at_end 4 (by kernel_rfl) ?_
  refine q_seq sh_refl ?_
  rcases ite_some H with ⟨hc25, H⟩ | ⟨hc25, H⟩
  · refine at_condT (decide (i_2 < ((List.length r26 : Nat) : Int))) (p0 := [1,1,1,1,1,1,1,1,1,1,1,0,1,0,0,0,1,0]) (p1 := [1,1,1,1,1,1,1,1,1,1,1,0,1,0,0,0,1,1]) (by kernel_rfl) (by kernel_rfl) hc25 ?_
    refine at_skip (by kernel_rfl) ?_
    refine q_seq sh_refl ?_
    refine at_seq (p0 := [1,1,1,1,1,1,1,1,1,1,1,0,1,0,0,1,0]) (p1 := [1,1,1,1,1,1,1,1,1,1,1,0,1,0,0,1,1]) (by kernel_rfl) ?_
    refine at_block 1 (p0 := [1,1,1,1,1,1,1,1,1,1,1,0,1,0,0,1,0,0]) (by kernel_rfl) ?_
    refine at_seq (p0 := [1,1,1,1,1,1,1,1,1,1,1,0,1,0,0,1,0,0,0]) (p1 := [1,1,1,1,1,1,1,1,1,1,1,0,1,0,0,1,0,0,1]) (by kernel_rfl) ?_
    refine at_region (by kernel_rfl) sh_refl ?_
    refine chunk (s' := f15_s52 r15 r16 r17 r18 r20 r21 r22 r23 r24 r25 r26 r27 i_2) 2 2 (by kernel_rfl) rfl ?_
    obtain ⟨x16, h65, H⟩ := bind_some H
    refine spec (s' := f15_s53 r15 r16 r17 r18 r20 r21 r22 r23 r24 r25 r26 r27 i_2 x16) (v := .dptr (eGState x16) 0) (obs := []) (rm := []) (upd := none) 3 (by kernel_rfl) (is_idxD (enc := eGState) (esz := 3) (eb := 24) (ez := [.int .i64 0, .int .i64 0, .int .u8 0]) h65 (by kernel_rfl)) (by kernel_rfl) rfl ?_
    refine chunk (s' := f15_s54 r15 r16 r17 r18 r20 r21 r22 r23 r24 r25 r26 r27 i_2 x16) 3 6 (by kernel_rfl) rfl ?_
    obtain ⟨x17, h66, H⟩ := bind_some H
    refine spec (s' := f15_s55 r15 r16 r17 r18 r20 r21 r22 r23 r24 r25 r26 r27 i_2 x16) (v := .eptr 5 3 (0 + Int.toNat i_2) 0) (obs := []) (rm := []) (upd := none) 7 (by kernel_rfl) (is_idxO (k := 5) (esz := 3) (eb := 24) (ez := [.int .i64 0, .int .i64 0, .int .u8 0]) h66) (by kernel_rfl) rfl ?_
    refine spec (s' := f15_s56 r15 r16 r17 r18 r20 r21 r22 r23 r24 r25 r26 r27 i_2 x16 x17) (v := .agg [.d (.int .i64 x17.Mode), .d (.int .i64 x17.Last), .d (.int .u8 x17.Need)]) (obs := []) (rm := []) (upd := none) 8 (by kernel_rfl) (is_ldA (enc := eGState) (objs := (f15_s55 r15 r16 r17 r18 r20 r21 r22 r23 r24 r25 r26 r27 i_2 x16).objs) (i := i_2) (k := 5) (sz := 3) (off := 0) (t := ty 26) (v := .agg [.d (.int .i64 x17.Mode), .d (.int .i64 x17.Last), .d (.int .u8 x17.Need)]) (by kernel_rfl) h66 (by kernel_rfl) (by kernel_rfl)) (by kernel_rfl) rfl ?_
    refine chunk (s' := f15_s57 r15 r16 r17 r18 r20 r21 r22 r23 r24 r25 r26 r27 i_2 x16 x17) 4 12 (by kernel_rfl) rfl ?_
    obtain ⟨x18, h67, H⟩ := bind_some H
    refine specG (g := (!(!((x16.Mode == x17.Mode) && ((x16.Last == x17.Last) && ((x16.Need == x17.Need) && true)))))) (gs := [(!(!((x16.Mode == x17.Mode) && ((x16.Last == x17.Last) && ((x16.Need == x17.Need) && true))))), (!(!((x16.Mode == x17.Mode) && ((x16.Last == x17.Last) && ((x16.Need == x17.Need) && true)))))]) (s' := f15_s58 r15 r16 r17 r18 r20 r21 r22 r23 r24 r25 r26 r27 i_2 x16 x17 x18) (v := .dptr (eB x18) 0) (obs := []) 13 (by kernel_rfl) (by kernel_rfl) (fun hg => is_idxD (enc := eB) (esz := 1) (eb := 1) (ez := [.bool false]) (gimp h67 hg) (by kernel_rfl)) (by kernel_rfl) (impK (fun hh => hh) (impK (fun hh => hh) (impZ))) (by kernel_rfl) rfl ?_
    refine specG (g := (!(!((x16.Mode == x17.Mode) && ((x16.Last == x17.Last) && ((x16.Need == x17.Need) && true)))))) (gs := [(!(!((x16.Mode == x17.Mode) && ((x16.Last == x17.Last) && ((x16.Need == x17.Need) && true)))))]) (s' := f15_s59 r15 r16 r17 r18 r20 r21 r22 r23 r24 r25 r26 r27 i_2 x16 x17 x18) (v := .d (.bool x18)) (obs := []) 14 (by kernel_rfl) rfl (fun hg => is_pl (by kernel_rfl)) (by kernel_rfl) (impK (fun hh => hh) (impZ)) (by kernel_rfl) rfl ?_
    refine specG (g := (!(!((x16.Mode == x17.Mode) && ((x16.Last == x17.Last) && ((x16.Need == x17.Need) && true)))))) (gs := [(!(!((x16.Mode == x17.Mode) && ((x16.Last == x17.Last) && ((x16.Need == x17.Need) && true)))))]) (s' := f15_s60 r15 r16 r17 r18 r20 r21 r22 r23 r24 r25 r26 r27 i_2 x16 x17 x18) (v := .d (.bool (!x18))) (obs := []) 15 (by kernel_rfl) rfl (fun hg => is_pl (by kernel_rfl)) (by kernel_rfl) (impK (fun hh => hh) (impZ)) (by kernel_rfl) rfl ?_
    refine specP (s' := f15_s61 r15 r16 r17 r18 r20 r21 r22 r23 r24 r25 r26 r27 i_2 x16 x17 x18) 16 (by kernel_rfl) (pick_or (t := (!((x16.Mode == x17.Mode) && ((x16.Last == x17.Last) && ((x16.Need == x17.Need) && true))))) (x := true) (y := (!x18))) (by kernel_rfl) rfl ?_
    refine at_end 16 (by kernel_rfl) ?_
    refine q_seq sh_refl ?_
    rcases ite_some H with ⟨hc24, H⟩ | ⟨hc24, H⟩
    · refine at_condT ((!((x16.Mode == x17.Mode) && ((x16.Last == x17.Last) && ((x16.Need == x17.Need) && true)))) || (!x18)) (p0 := [1,1,1,1,1,1,1,1,1,1,1,0,1,0,0,1,0,0,1,0]) (p1 := [1,1,1,1,1,1,1,1,1,1,1,0,1,0,0,1,0,0,1,1]) (by kernel_rfl) (by kernel_rfl) hc24 ?_
      refine at_seq (p0 := [1,1,1,1,1,1,1,1,1,1,1,0,1,0,0,1,0,0,1,0,0]) (p1 := [1,1,1,1,1,1,1,1,1,1,1,0,1,0,0,1,0,0,1,0,1]) (by kernel_rfl) ?_
      refine at_region (by kernel_rfl) sh_refl ?_
      refine chunk (s' := f15_s62 r15 r16 r17 r18 r20 r21 r22 r23 r24 r25 r26 r27 i_2 x16 x17 x18) 1 1 (by kernel_rfl) rfl ?_
      refine at_end 1 (by kernel_rfl) ?_
      refine q_seq sh_refl ?_
      refine at_ret (by kernel_rfl) ?_
      refine q_blockR ?_
      refine q_seqR ?_
      have hz := Option.some.inj H
      subst hz
      exact round_ret ⟨rfl, ret1 (v := .d (.bool false)) (r := .d (.bool false)) [] (by kernel_rfl) (outA_d (outV_d)) (by kernel_rfl) (by decide)⟩
    · refine at_condF ((!((x16.Mode == x17.Mode) && ((x16.Last == x17.Last) && ((x16.Need == x17.Need) && true)))) || (!x18)) (p0 := [1,1,1,1,1,1,1,1,1,1,1,0,1,0,0,1,0,0,1,0]) (p1 := [1,1,1,1,1,1,1,1,1,1,1,0,1,0,0,1,0,0,1,1]) (by kernel_rfl) (by kernel_rfl) hc24 ?_
      refine at_skip (by kernel_rfl) ?_
      refine q_blockN ?_
      refine q_seq sh_refl ?_
      refine at_region (by kernel_rfl) sh_refl ?_
      refine chunk (s' := f15_s63 r15 r16 r17 r18 r20 r21 r22 r23 r24 r25 r26 r27 i_2 x16 x17 x18) 3 3 (by kernel_rfl) rfl ?_
      refine at_end 3 (by kernel_rfl) ?_
      have hz := Option.some.inj H
      subst hz
      exact round_go (sh_gc [1,2,3,5,7,8,9,10,11,12,13,14] (by kernel_rfl))
  · refine at_condF (decide (i_2 < ((List.length r26 : Nat) : Int))) (p0 := [1,1,1,1,1,1,1,1,1,1,1,0,1,0,0,0,1,0]) (p1 := [1,1,1,1,1,1,1,1,1,1,1,0,1,0,0,0,1,1]) (by kernel_rfl) (by kernel_rfl) hc25 ?_
    refine at_exit 0 (by kernel_rfl) ?_
    refine q_seqX ?_
    have hz := Option.some.inj H
    subst hz
    exact round_exit ⟨rfl, sh_gc [1,2,3,5,7,8,9,10,11] (by kernel_rfl)⟩
def f15_s64 : St := pe (f15_s48 r15 r16 r17 r18 r20 r21 r22 r23 r24 r25 r26) [(103, .gv r20.2 (.agg [.d (.int .i64 1), .d (.int .i64 0), .d (.int .u8 8)])), (102, .gv r20.2 (.agg [.d (.int .i64 r20.1.Mode), .d (.int .i64 r20.1.Last), .d (.int .u8 r20.1.Need)])), (101, .d (.bool r20.2)), (100, .d (.bool r20.2))]
def f15_s65 : St := pe (f15_s64 r15 r16 r17 r18 r20 r21 r22 r23 r24 r25 r26) [(104, .gv r20.2 (.d (.bool ((r20.1.Mode == 1) && ((r20.1.Last == 0) && ((r20.1.Need == 8) && true))))))]
def f15_s66 : St := pe (f15_s65 r15 r16 r17 r18 r20 r21 r22 r23 r24 r25 r26) [(105, .d (.bool (r20.2 && ((r20.1.Mode == 1) && ((r20.1.Last == 0) && ((r20.1.Need == 8) && true))))))]
def f15_s67 : St := pe (f15_s66 r15 r16 r17 r18 r20 r21 r22 r23 r24 r25 r26) [(107, .gv (r20.2 && ((r20.1.Mode == 1) && ((r20.1.Last == 0) && ((r20.1.Need == 8) && true)))) (.d (.bool r21.2))), (106, .d (.bool (r20.2 && ((r20.1.Mode == 1) && ((r20.1.Last == 0) && ((r20.1.Need == 8) && true))))))]
def f15_s68 : St := pe (f15_s67 r15 r16 r17 r18 r20 r21 r22 r23 r24 r25 r26) [(108, .gv (r20.2 && ((r20.1.Mode == 1) && ((r20.1.Last == 0) && ((r20.1.Need == 8) && true)))) (.d (.bool (!r21.2))))]
def f15_s69 : St := pe (f15_s68 r15 r16 r17 r18 r20 r21 r22 r23 r24 r25 r26) [(109, .d (.bool ((r20.2 && ((r20.1.Mode == 1) && ((r20.1.Last == 0) && ((r20.1.Need == 8) && true)))) && (!r21.2))))]
def f15_s70 : St := pe (f15_s69 r15 r16 r17 r18 r20 r21 r22 r23 r24 r25 r26) [(111, .gv ((r20.2 && ((r20.1.Mode == 1) && ((r20.1.Last == 0) && ((r20.1.Need == 8) && true)))) && (!r21.2)) (.d (.bool r22.2))), (110, .d (.bool ((r20.2 && ((r20.1.Mode == 1) && ((r20.1.Last == 0) && ((r20.1.Need == 8) && true)))) && (!r21.2))))]
def f15_s71 : St := pe (f15_s70 r15 r16 r17 r18 r20 r21 r22 r23 r24 r25 r26) [(112, .gv ((r20.2 && ((r20.1.Mode == 1) && ((r20.1.Last == 0) && ((r20.1.Need == 8) && true)))) && (!r21.2)) (.d (.bool (!r22.2))))]
def f15_s72 : St := pe (f15_s71 r15 r16 r17 r18 r20 r21 r22 r23 r24 r25 r26) [(113, .d (.bool (((r20.2 && ((r20.1.Mode == 1) && ((r20.1.Last == 0) && ((r20.1.Need == 8) && true)))) && (!r21.2)) && (!r22.2))))]
def f15_s73 : St := pe (f15_s72 r15 r16 r17 r18 r20 r21 r22 r23 r24 r25 r26) [(114, .d (.bool (((r20.2 && ((r20.1.Mode == 1) && ((r20.1.Last == 0) && ((r20.1.Need == 8) && true)))) && (!r21.2)) && (!r22.2))))]
variable (r28 : GState)
def f15_s74 : St := pe (f15_s73 r15 r16 r17 r18 r20 r21 r22 r23 r24 r25 r26) [(115, .gv (((r20.2 && ((r20.1.Mode == 1) && ((r20.1.Last == 0) && ((r20.1.Need == 8) && true)))) && (!r21.2)) && (!r22.2)) (.agg [.d (.int .i64 r28.Mode), .d (.int .i64 r28.Last), .d (.int .u8 r28.Need)]))]
def f15_s75 : St := pe (f15_s74 r15 r16 r17 r18 r20 r21 r22 r23 r24 r25 r26 r28) [(116, .gv (((r20.2 && ((r20.1.Mode == 1) && ((r20.1.Last == 0) && ((r20.1.Need == 8) && true)))) && (!r21.2)) && (!r22.2)) (.agg [.d (.int .i64 0), .d (.int .i64 0), .d (.int .u8 63)]))]
def f15_s76 : St := pe (f15_s75 r15 r16 r17 r18 r20 r21 r22 r23 r24 r25 r26 r28) [(117, .gv (((r20.2 && ((r20.1.Mode == 1) && ((r20.1.Last == 0) && ((r20.1.Need == 8) && true)))) && (!r21.2)) && (!r22.2)) (.d (.bool ((r28.Mode == 0) && ((r28.Last == 0) && ((r28.Need == 63) && true))))))]
def f15_s77 : St := pe (f15_s76 r15 r16 r17 r18 r20 r21 r22 r23 r24 r25 r26 r28) [(118, .d (.bool ((((r20.2 && ((r20.1.Mode == 1) && ((r20.1.Last == 0) && ((r20.1.Need == 8) && true)))) && (!r21.2)) && (!r22.2)) && ((r28.Mode == 0) && ((r28.Last == 0) && ((r28.Need == 63) && true))))))]
def f15_s78 : St := pe (f15_s77 r15 r16 r17 r18 r20 r21 r22 r23 r24 r25 r26 r28) [(15, .d (.bool ((((r20.2 && ((r20.1.Mode == 1) && ((r20.1.Last == 0) && ((r20.1.Need == 8) && true)))) && (!r21.2)) && (!r22.2)) && ((r28.Mode == 0) && ((r28.Last == 0) && ((r28.Need == 63) && true))))))]
def f15_s79 : St := pe (f15_s78 r15 r16 r17 r18 r20 r21 r22 r23 r24 r25 r26 r28) [(122, .gv r23.Ok (.ptr 2 0)), (121, .d (.bool r23.Ok)), (120, .d (.bool r23.Ok)), (119, .ptr 2 6)]
def f15_s80 : St := pe (f15_s79 r15 r16 r17 r18 r20 r21 r22 r23 r24 r25 r26 r28) [(123, .gv r23.Ok (.d (.str r23.Text)))]
def f15_s81 : St := pe (f15_s80 r15 r16 r17 r18 r20 r21 r22 r23 r24 r25 r26 r28) [(124, .gv r23.Ok (.d (.bool (r23.Text == [49,32,97]))))]
def f15_s82 : St := pe (f15_s81 r15 r16 r17 r18 r20 r21 r22 r23 r24 r25 r26 r28) [(125, .d (.bool (r23.Ok && (r23.Text == [49,32,97]))))]
def f15_s83 : St := pe (f15_s82 r15 r16 r17 r18 r20 r21 r22 r23 r24 r25 r26 r28) [(127, .gv (r23.Ok && (r23.Text == [49,32,97])) (.ptr 2 1)), (126, .d (.bool (r23.Ok && (r23.Text == [49,32,97]))))]
def f15_s84 : St := pe (f15_s83 r15 r16 r17 r18 r20 r21 r22 r23 r24 r25 r26 r28) [(128, .gv (r23.Ok && (r23.Text == [49,32,97])) (.d (.sl (List.map eU8 r23.Cells))))]
def f15_s85 : St := po (f15_s84 r15 r16 r17 r18 r20 r21 r22 r23 r24 r25 r26 r28) [(129, .gv (r23.Ok && (r23.Text == [49,32,97])) (.osl 5 1 0 (List.length [60,1,0,1])))] fun o => o ++ [some (.arr 1 (List.map eU8 [60,1,0,1]))]
variable (r29 : Bool)
def f15_s86 : St := pe (f15_s85 r15 r16 r17 r18 r20 r21 r22 r23 r24 r25 r26 r28) [(130, .gv (r23.Ok && (r23.Text == [49,32,97])) (.d (.bool r29)))]
def f15_s87 : St := pe (f15_s86 r15 r16 r17 r18 r20 r21 r22 r23 r24 r25 r26 r28 r29) [(131, .d (.bool ((r23.Ok && (r23.Text == [49,32,97])) && r29)))]
def f15_s88 : St := pe (f15_s87 r15 r16 r17 r18 r20 r21 r22 r23 r24 r25 r26 r28 r29) [(133, .gv ((r23.Ok && (r23.Text == [49,32,97])) && r29) (.ptr 2 2)), (132, .d (.bool ((r23.Ok && (r23.Text == [49,32,97])) && r29)))]
def f15_s89 : St := pe (f15_s88 r15 r16 r17 r18 r20 r21 r22 r23 r24 r25 r26 r28 r29) [(134, .gv ((r23.Ok && (r23.Text == [49,32,97])) && r29) (.d (.int .i64 r23.At)))]
def f15_s90 : St := pe (f15_s89 r15 r16 r17 r18 r20 r21 r22 r23 r24 r25 r26 r28 r29) [(135, .gv ((r23.Ok && (r23.Text == [49,32,97])) && r29) (.d (.bool (r23.At == 4))))]
def f15_s91 : St := pe (f15_s90 r15 r16 r17 r18 r20 r21 r22 r23 r24 r25 r26 r28 r29) [(136, .d (.bool (((r23.Ok && (r23.Text == [49,32,97])) && r29) && (r23.At == 4))))]
def f15_s92 : St := pe (f15_s91 r15 r16 r17 r18 r20 r21 r22 r23 r24 r25 r26 r28 r29) [(138, .gv (((r23.Ok && (r23.Text == [49,32,97])) && r29) && (r23.At == 4)) (.ptr 3 2)), (137, .d (.bool (((r23.Ok && (r23.Text == [49,32,97])) && r29) && (r23.At == 4))))]
def f15_s93 : St := pe (f15_s92 r15 r16 r17 r18 r20 r21 r22 r23 r24 r25 r26 r28 r29) [(139, .gv (((r23.Ok && (r23.Text == [49,32,97])) && r29) && (r23.At == 4)) (.d (.int .i64 r24.At)))]
def f15_s94 : St := pe (f15_s93 r15 r16 r17 r18 r20 r21 r22 r23 r24 r25 r26 r28 r29) [(140, .gv (((r23.Ok && (r23.Text == [49,32,97])) && r29) && (r23.At == 4)) (.d (.bool (r24.At == 1))))]
def f15_s95 : St := pe (f15_s94 r15 r16 r17 r18 r20 r21 r22 r23 r24 r25 r26 r28 r29) [(141, .d (.bool ((((r23.Ok && (r23.Text == [49,32,97])) && r29) && (r23.At == 4)) && (r24.At == 1))))]
def f15_s96 : St := pe (f15_s95 r15 r16 r17 r18 r20 r21 r22 r23 r24 r25 r26 r28 r29) [(143, .gv ((((r23.Ok && (r23.Text == [49,32,97])) && r29) && (r23.At == 4)) && (r24.At == 1)) (.ptr 3 6)), (142, .d (.bool ((((r23.Ok && (r23.Text == [49,32,97])) && r29) && (r23.At == 4)) && (r24.At == 1))))]
def f15_s97 : St := pe (f15_s96 r15 r16 r17 r18 r20 r21 r22 r23 r24 r25 r26 r28 r29) [(144, .gv ((((r23.Ok && (r23.Text == [49,32,97])) && r29) && (r23.At == 4)) && (r24.At == 1)) (.d (.bool r24.Ok)))]
def f15_s98 : St := pe (f15_s97 r15 r16 r17 r18 r20 r21 r22 r23 r24 r25 r26 r28 r29) [(145, .gv ((((r23.Ok && (r23.Text == [49,32,97])) && r29) && (r23.At == 4)) && (r24.At == 1)) (.d (.bool (!r24.Ok))))]
def f15_s99 : St := pe (f15_s98 r15 r16 r17 r18 r20 r21 r22 r23 r24 r25 r26 r28 r29) [(146, .d (.bool (((((r23.Ok && (r23.Text == [49,32,97])) && r29) && (r23.At == 4)) && (r24.At == 1)) && (!r24.Ok))))]
def f15_s100 : St := pe (f15_s99 r15 r16 r17 r18 r20 r21 r22 r23 r24 r25 r26 r28 r29) [(148, .gv (((((r23.Ok && (r23.Text == [49,32,97])) && r29) && (r23.At == 4)) && (r24.At == 1)) && (!r24.Ok)) (.ptr 4 2)), (147, .d (.bool (((((r23.Ok && (r23.Text == [49,32,97])) && r29) && (r23.At == 4)) && (r24.At == 1)) && (!r24.Ok))))]
def f15_s101 : St := pe (f15_s100 r15 r16 r17 r18 r20 r21 r22 r23 r24 r25 r26 r28 r29) [(149, .gv (((((r23.Ok && (r23.Text == [49,32,97])) && r29) && (r23.At == 4)) && (r24.At == 1)) && (!r24.Ok)) (.d (.int .i64 r25.At)))]
def f15_s102 : St := pe (f15_s101 r15 r16 r17 r18 r20 r21 r22 r23 r24 r25 r26 r28 r29) [(150, .gv (((((r23.Ok && (r23.Text == [49,32,97])) && r29) && (r23.At == 4)) && (r24.At == 1)) && (!r24.Ok)) (.d (.bool (r25.At == 1))))]
def f15_s103 : St := pe (f15_s102 r15 r16 r17 r18 r20 r21 r22 r23 r24 r25 r26 r28 r29) [(151, .d (.bool ((((((r23.Ok && (r23.Text == [49,32,97])) && r29) && (r23.At == 4)) && (r24.At == 1)) && (!r24.Ok)) && (r25.At == 1))))]
def f15_s104 : St := pe (f15_s103 r15 r16 r17 r18 r20 r21 r22 r23 r24 r25 r26 r28 r29) [(153, .gv ((((((r23.Ok && (r23.Text == [49,32,97])) && r29) && (r23.At == 4)) && (r24.At == 1)) && (!r24.Ok)) && (r25.At == 1)) (.ptr 4 6)), (152, .d (.bool ((((((r23.Ok && (r23.Text == [49,32,97])) && r29) && (r23.At == 4)) && (r24.At == 1)) && (!r24.Ok)) && (r25.At == 1))))]
def f15_s105 : St := pe (f15_s104 r15 r16 r17 r18 r20 r21 r22 r23 r24 r25 r26 r28 r29) [(154, .gv ((((((r23.Ok && (r23.Text == [49,32,97])) && r29) && (r23.At == 4)) && (r24.At == 1)) && (!r24.Ok)) && (r25.At == 1)) (.d (.bool r25.Ok)))]
def f15_s106 : St := pe (f15_s105 r15 r16 r17 r18 r20 r21 r22 r23 r24 r25 r26 r28 r29) [(155, .gv ((((((r23.Ok && (r23.Text == [49,32,97])) && r29) && (r23.At == 4)) && (r24.At == 1)) && (!r24.Ok)) && (r25.At == 1)) (.d (.bool (!r25.Ok))))]
def f15_s107 : St := pe (f15_s106 r15 r16 r17 r18 r20 r21 r22 r23 r24 r25 r26 r28 r29) [(156, .d (.bool (((((((r23.Ok && (r23.Text == [49,32,97])) && r29) && (r23.At == 4)) && (r24.At == 1)) && (!r24.Ok)) && (r25.At == 1)) && (!r25.Ok))))]
def f15_s108 : St := pe (f15_s107 r15 r16 r17 r18 r20 r21 r22 r23 r24 r25 r26 r28 r29) [(16, .d (.bool (((((((r23.Ok && (r23.Text == [49,32,97])) && r29) && (r23.At == 4)) && (r24.At == 1)) && (!r24.Ok)) && (r25.At == 1)) && (!r25.Ok))))]
def f15_s109 : St := pe (f15_s108 r15 r16 r17 r18 r20 r21 r22 r23 r24 r25 r26 r28 r29) [(159, .gv ((((r20.2 && ((r20.1.Mode == 1) && ((r20.1.Last == 0) && ((r20.1.Need == 8) && true)))) && (!r21.2)) && (!r22.2)) && ((r28.Mode == 0) && ((r28.Last == 0) && ((r28.Need == 63) && true)))) (.d (.bool (((((((r23.Ok && (r23.Text == [49,32,97])) && r29) && (r23.At == 4)) && (r24.At == 1)) && (!r24.Ok)) && (r25.At == 1)) && (!r25.Ok))))), (158, .d (.bool ((((r20.2 && ((r20.1.Mode == 1) && ((r20.1.Last == 0) && ((r20.1.Need == 8) && true)))) && (!r21.2)) && (!r22.2)) && ((r28.Mode == 0) && ((r28.Last == 0) && ((r28.Need == 63) && true)))))), (157, .d (.bool ((((r20.2 && ((r20.1.Mode == 1) && ((r20.1.Last == 0) && ((r20.1.Need == 8) && true)))) && (!r21.2)) && (!r22.2)) && ((r28.Mode == 0) && ((r28.Last == 0) && ((r28.Need == 63) && true))))))]
def f15_s110 : St := pe (f15_s109 r15 r16 r17 r18 r20 r21 r22 r23 r24 r25 r26 r28 r29) [(160, .d (.bool (((((r20.2 && ((r20.1.Mode == 1) && ((r20.1.Last == 0) && ((r20.1.Need == 8) && true)))) && (!r21.2)) && (!r22.2)) && ((r28.Mode == 0) && ((r28.Last == 0) && ((r28.Need == 63) && true)))) && (((((((r23.Ok && (r23.Text == [49,32,97])) && r29) && (r23.At == 4)) && (r24.At == 1)) && (!r24.Ok)) && (r25.At == 1)) && (!r25.Ok)))))]
def f15_s111 : St := pe (f15_s110 r15 r16 r17 r18 r20 r21 r22 r23 r24 r25 r26 r28 r29) [(163, .gv (((((r20.2 && ((r20.1.Mode == 1) && ((r20.1.Last == 0) && ((r20.1.Need == 8) && true)))) && (!r21.2)) && (!r22.2)) && ((r28.Mode == 0) && ((r28.Last == 0) && ((r28.Need == 63) && true)))) && (((((((r23.Ok && (r23.Text == [49,32,97])) && r29) && (r23.At == 4)) && (r24.At == 1)) && (!r24.Ok)) && (r25.At == 1)) && (!r25.Ok))) (.d (.sl (List.map eGState r26)))), (162, .gv (((((r20.2 && ((r20.1.Mode == 1) && ((r20.1.Last == 0) && ((r20.1.Need == 8) && true)))) && (!r21.2)) && (!r22.2)) && ((r28.Mode == 0) && ((r28.Last == 0) && ((r28.Need == 63) && true)))) && (((((((r23.Ok && (r23.Text == [49,32,97])) && r29) && (r23.At == 4)) && (r24.At == 1)) && (!r24.Ok)) && (r25.At == 1)) && (!r25.Ok))) (.agg [.d (.int .i64 2), .d (.int .u8 3), .d (.sl (List.map eGRule [r15, r16, r17, r18]))])), (161, .d (.bool (((((r20.2 && ((r20.1.Mode == 1) && ((r20.1.Last == 0) && ((r20.1.Need == 8) && true)))) && (!r21.2)) && (!r22.2)) && ((r28.Mode == 0) && ((r28.Last == 0) && ((r28.Need == 63) && true)))) && (((((((r23.Ok && (r23.Text == [49,32,97])) && r29) && (r23.At == 4)) && (r24.At == 1)) && (!r24.Ok)) && (r25.At == 1)) && (!r25.Ok)))))]
variable (x19 : GState)
def f15_s112 : St := pe (f15_s111 r15 r16 r17 r18 r20 r21 r22 r23 r24 r25 r26 r28 r29) [(164, .gv (((((r20.2 && ((r20.1.Mode == 1) && ((r20.1.Last == 0) && ((r20.1.Need == 8) && true)))) && (!r21.2)) && (!r22.2)) && ((r28.Mode == 0) && ((r28.Last == 0) && ((r28.Need == 63) && true)))) && (((((((r23.Ok && (r23.Text == [49,32,97])) && r29) && (r23.At == 4)) && (r24.At == 1)) && (!r24.Ok)) && (r25.At == 1)) && (!r25.Ok))) (.dptr (eGState x19) 0))]
def f15_s113 : St := pe (f15_s112 r15 r16 r17 r18 r20 r21 r22 r23 r24 r25 r26 r28 r29 x19) [(165, .gv (((((r20.2 && ((r20.1.Mode == 1) && ((r20.1.Last == 0) && ((r20.1.Need == 8) && true)))) && (!r21.2)) && (!r22.2)) && ((r28.Mode == 0) && ((r28.Last == 0) && ((r28.Need == 63) && true)))) && (((((((r23.Ok && (r23.Text == [49,32,97])) && r29) && (r23.At == 4)) && (r24.At == 1)) && (!r24.Ok)) && (r25.At == 1)) && (!r25.Ok))) (.agg [.d (.int .i64 x19.Mode), .d (.int .i64 x19.Last), .d (.int .u8 x19.Need)]))]
variable (r30 : Bool)
def f15_s114 : St := pe (f15_s113 r15 r16 r17 r18 r20 r21 r22 r23 r24 r25 r26 r28 r29 x19) [(166, .gv (((((r20.2 && ((r20.1.Mode == 1) && ((r20.1.Last == 0) && ((r20.1.Need == 8) && true)))) && (!r21.2)) && (!r22.2)) && ((r28.Mode == 0) && ((r28.Last == 0) && ((r28.Need == 63) && true)))) && (((((((r23.Ok && (r23.Text == [49,32,97])) && r29) && (r23.At == 4)) && (r24.At == 1)) && (!r24.Ok)) && (r25.At == 1)) && (!r25.Ok))) (.d (.bool r30)))]
def f15_s115 : St := pe (f15_s114 r15 r16 r17 r18 r20 r21 r22 r23 r24 r25 r26 r28 r29 x19 r30) [(167, .d (.bool ((((((r20.2 && ((r20.1.Mode == 1) && ((r20.1.Last == 0) && ((r20.1.Need == 8) && true)))) && (!r21.2)) && (!r22.2)) && ((r28.Mode == 0) && ((r28.Last == 0) && ((r28.Need == 63) && true)))) && (((((((r23.Ok && (r23.Text == [49,32,97])) && r29) && (r23.At == 4)) && (r24.At == 1)) && (!r24.Ok)) && (r25.At == 1)) && (!r25.Ok))) && r30)))]
def f15_s116 : St := pe (f15_s115 r15 r16 r17 r18 r20 r21 r22 r23 r24 r25 r26 r28 r29 x19 r30) [(170, .gv ((((((r20.2 && ((r20.1.Mode == 1) && ((r20.1.Last == 0) && ((r20.1.Need == 8) && true)))) && (!r21.2)) && (!r22.2)) && ((r28.Mode == 0) && ((r28.Last == 0) && ((r28.Need == 63) && true)))) && (((((((r23.Ok && (r23.Text == [49,32,97])) && r29) && (r23.At == 4)) && (r24.At == 1)) && (!r24.Ok)) && (r25.At == 1)) && (!r25.Ok))) && r30) (.agg [.d (.int .i64 r20.1.Mode), .d (.int .i64 r20.1.Last), .d (.int .u8 r20.1.Need)])), (169, .gv ((((((r20.2 && ((r20.1.Mode == 1) && ((r20.1.Last == 0) && ((r20.1.Need == 8) && true)))) && (!r21.2)) && (!r22.2)) && ((r28.Mode == 0) && ((r28.Last == 0) && ((r28.Need == 63) && true)))) && (((((((r23.Ok && (r23.Text == [49,32,97])) && r29) && (r23.At == 4)) && (r24.At == 1)) && (!r24.Ok)) && (r25.At == 1)) && (!r25.Ok))) && r30) (.agg [.d (.int .i64 2), .d (.int .u8 3), .d (.sl (List.map eGRule [r15, r16, r17, r18]))])), (168, .d (.bool ((((((r20.2 && ((r20.1.Mode == 1) && ((r20.1.Last == 0) && ((r20.1.Need == 8) && true)))) && (!r21.2)) && (!r22.2)) && ((r28.Mode == 0) && ((r28.Last == 0) && ((r28.Need == 63) && true)))) && (((((((r23.Ok && (r23.Text == [49,32,97])) && r29) && (r23.At == 4)) && (r24.At == 1)) && (!r24.Ok)) && (r25.At == 1)) && (!r25.Ok))) && r30)))]
variable (r31 : Bool)
def f15_s117 : St := pe (f15_s116 r15 r16 r17 r18 r20 r21 r22 r23 r24 r25 r26 r28 r29 x19 r30) [(171, .gv ((((((r20.2 && ((r20.1.Mode == 1) && ((r20.1.Last == 0) && ((r20.1.Need == 8) && true)))) && (!r21.2)) && (!r22.2)) && ((r28.Mode == 0) && ((r28.Last == 0) && ((r28.Need == 63) && true)))) && (((((((r23.Ok && (r23.Text == [49,32,97])) && r29) && (r23.At == 4)) && (r24.At == 1)) && (!r24.Ok)) && (r25.At == 1)) && (!r25.Ok))) && r30) (.d (.bool r31)))]
def f15_s118 : St := pe (f15_s117 r15 r16 r17 r18 r20 r21 r22 r23 r24 r25 r26 r28 r29 x19 r30 r31) [(172, .gv ((((((r20.2 && ((r20.1.Mode == 1) && ((r20.1.Last == 0) && ((r20.1.Need == 8) && true)))) && (!r21.2)) && (!r22.2)) && ((r28.Mode == 0) && ((r28.Last == 0) && ((r28.Need == 63) && true)))) && (((((((r23.Ok && (r23.Text == [49,32,97])) && r29) && (r23.At == 4)) && (r24.At == 1)) && (!r24.Ok)) && (r25.At == 1)) && (!r25.Ok))) && r30) (.d (.bool (!r31))))]
def f15_s119 : St := pe (f15_s118 r15 r16 r17 r18 r20 r21 r22 r23 r24 r25 r26 r28 r29 x19 r30 r31) [(173, .d (.bool (((((((r20.2 && ((r20.1.Mode == 1) && ((r20.1.Last == 0) && ((r20.1.Need == 8) && true)))) && (!r21.2)) && (!r22.2)) && ((r28.Mode == 0) && ((r28.Last == 0) && ((r28.Need == 63) && true)))) && (((((((r23.Ok && (r23.Text == [49,32,97])) && r29) && (r23.At == 4)) && (r24.At == 1)) && (!r24.Ok)) && (r25.At == 1)) && (!r25.Ok))) && r30) && (!r31))))]
def f15_s120 : St := pe (f15_s119 r15 r16 r17 r18 r20 r21 r22 r23 r24 r25 r26 r28 r29 x19 r30 r31) [(176, .gv (((((((r20.2 && ((r20.1.Mode == 1) && ((r20.1.Last == 0) && ((r20.1.Need == 8) && true)))) && (!r21.2)) && (!r22.2)) && ((r28.Mode == 0) && ((r28.Last == 0) && ((r28.Need == 63) && true)))) && (((((((r23.Ok && (r23.Text == [49,32,97])) && r29) && (r23.At == 4)) && (r24.At == 1)) && (!r24.Ok)) && (r25.At == 1)) && (!r25.Ok))) && r30) && (!r31)) (.agg [.d (.int .i64 2), .d (.int .i64 0), .d (.int .u8 63)])), (175, .gv (((((((r20.2 && ((r20.1.Mode == 1) && ((r20.1.Last == 0) && ((r20.1.Need == 8) && true)))) && (!r21.2)) && (!r22.2)) && ((r28.Mode == 0) && ((r28.Last == 0) && ((r28.Need == 63) && true)))) && (((((((r23.Ok && (r23.Text == [49,32,97])) && r29) && (r23.At == 4)) && (r24.At == 1)) && (!r24.Ok)) && (r25.At == 1)) && (!r25.Ok))) && r30) && (!r31)) (.agg [.d (.int .i64 2), .d (.int .u8 3), .d (.sl (List.map eGRule [r15, r16, r17, r18]))])), (174, .d (.bool (((((((r20.2 && ((r20.1.Mode == 1) && ((r20.1.Last == 0) && ((r20.1.Need == 8) && true)))) && (!r21.2)) && (!r22.2)) && ((r28.Mode == 0) && ((r28.Last == 0) && ((r28.Need == 63) && true)))) && (((((((r23.Ok && (r23.Text == [49,32,97])) && r29) && (r23.At == 4)) && (r24.At == 1)) && (!r24.Ok)) && (r25.At == 1)) && (!r25.Ok))) && r30) && (!r31))))]
variable (r32 : Bool)
def f15_s121 : St := pe (f15_s120 r15 r16 r17 r18 r20 r21 r22 r23 r24 r25 r26 r28 r29 x19 r30 r31) [(177, .gv (((((((r20.2 && ((r20.1.Mode == 1) && ((r20.1.Last == 0) && ((r20.1.Need == 8) && true)))) && (!r21.2)) && (!r22.2)) && ((r28.Mode == 0) && ((r28.Last == 0) && ((r28.Need == 63) && true)))) && (((((((r23.Ok && (r23.Text == [49,32,97])) && r29) && (r23.At == 4)) && (r24.At == 1)) && (!r24.Ok)) && (r25.At == 1)) && (!r25.Ok))) && r30) && (!r31)) (.d (.bool r32)))]
def f15_s122 : St := pe (f15_s121 r15 r16 r17 r18 r20 r21 r22 r23 r24 r25 r26 r28 r29 x19 r30 r31 r32) [(178, .gv (((((((r20.2 && ((r20.1.Mode == 1) && ((r20.1.Last == 0) && ((r20.1.Need == 8) && true)))) && (!r21.2)) && (!r22.2)) && ((r28.Mode == 0) && ((r28.Last == 0) && ((r28.Need == 63) && true)))) && (((((((r23.Ok && (r23.Text == [49,32,97])) && r29) && (r23.At == 4)) && (r24.At == 1)) && (!r24.Ok)) && (r25.At == 1)) && (!r25.Ok))) && r30) && (!r31)) (.d (.bool (!r32))))]
def f15_s123 : St := pe (f15_s122 r15 r16 r17 r18 r20 r21 r22 r23 r24 r25 r26 r28 r29 x19 r30 r31 r32) [(179, .d (.bool ((((((((r20.2 && ((r20.1.Mode == 1) && ((r20.1.Last == 0) && ((r20.1.Need == 8) && true)))) && (!r21.2)) && (!r22.2)) && ((r28.Mode == 0) && ((r28.Last == 0) && ((r28.Need == 63) && true)))) && (((((((r23.Ok && (r23.Text == [49,32,97])) && r29) && (r23.At == 4)) && (r24.At == 1)) && (!r24.Ok)) && (r25.At == 1)) && (!r25.Ok))) && r30) && (!r31)) && (!r32))))]
def f15_s124 : St := pe (f15_s123 r15 r16 r17 r18 r20 r21 r22 r23 r24 r25 r26 r28 r29 x19 r30 r31 r32) [(0, .d (.bool ((((((((r20.2 && ((r20.1.Mode == 1) && ((r20.1.Last == 0) && ((r20.1.Need == 8) && true)))) && (!r21.2)) && (!r22.2)) && ((r28.Mode == 0) && ((r28.Last == 0) && ((r28.Need == 63) && true)))) && (((((((r23.Ok && (r23.Text == [49,32,97])) && r29) && (r23.At == 4)) && (r24.At == 1)) && (!r24.Ok)) && (r25.At == 1)) && (!r25.Ok))) && r30) && (!r31)) && (!r32))))]
theorem FSixdotlaw03_sanity_ok {n : Nat}  {z : Bool} (H : FSixdotlaw03_sanity n = some z) : CallOK Try.prog 15 [] (.d (.bool z)) := by
  dsimp only [FSixdotlaw03_sanity] at H
  refine fn_ok (Γ := cx 180) (s := f15_s0) follows (cxOK 180) Try.func15 (by kernel_rfl) (by kernel_rfl) (by kernel_rfl) (by kernel_rfl) (by kernel_rfl) (by kernel_rfl) ?_
  refine at_seq (p0 := [0]) (p1 := [1]) (by kernel_rfl) ?_
  refine at_region (by kernel_rfl) sh_refl ?_
  refine chunk (s' := f15_s1) 1 1 (by kernel_rfl) rfl ?_
  refine at_end 1 (by kernel_rfl) ?_
  refine q_seq sh_refl ?_
  refine at_seq (p0 := [1,0]) (p1 := [1,1]) (by kernel_rfl) ?_
  refine at_region (by kernel_rfl) sh_refl ?_
  refine chunk (s' := f15_s2) 1 1 (by kernel_rfl) rfl ?_
  obtain ⟨r15, h52, H⟩ := bind_some H
  refine callS (s' := f15_s3 r15) (f := 48) (xs := [.d (.str [97]), .d (.int .u8 1), .agg [.d (.int .i64 63), .d (.int .i64 0), .d (.int .i64 0)]]) (ys := [.d (.str [97]), .d (.int .u8 1), .agg [.d (.int .i64 63), .d (.int .i64 0), .d (.int .i64 0)]]) (ks := []) (obl := []) (r := .agg [.d (.str r15.Print), .own 1 (List.map eU8 r15.Cells), .d (.int .u8 r15.Left), .d (.int .u8 r15.Right), .d (.int .i64 r15.From), .d (.int .i64 r15.To)]) (ls := [List.length r15.Cells]) 2 false (by kernel_rfl) (leZ) rfl (FSixdotlaw03_rule_ok h52) (Or.inl rfl) (by simp only [lensR, lensT, lensA, lensC, List.length_map, List.nil_append, List.append_nil, List.cons_append]) (by kernel_rfl) rfl ?_
  refine chunk (s' := f15_s4 r15) 1 3 (by kernel_rfl) rfl ?_
  obtain ⟨r16, h53, H⟩ := bind_some H
  refine callS (s' := f15_s5 r15 r16) (f := 48) (xs := [.d (.str []), .d (.int .u8 60), .agg [.d (.int .i64 8), .d (.int .i64 0), .d (.int .i64 1)]]) (ys := [.d (.str []), .d (.int .u8 60), .agg [.d (.int .i64 8), .d (.int .i64 0), .d (.int .i64 1)]]) (ks := []) (obl := []) (r := .agg [.d (.str r16.Print), .own 1 (List.map eU8 r16.Cells), .d (.int .u8 r16.Left), .d (.int .u8 r16.Right), .d (.int .i64 r16.From), .d (.int .i64 r16.To)]) (ls := [List.length r16.Cells]) 4 false (by kernel_rfl) (leZ) rfl (FSixdotlaw03_rule_ok h53) (Or.inl rfl) (by simp only [lensR, lensT, lensA, lensC, List.length_map, List.nil_append, List.append_nil, List.cons_append]) (by kernel_rfl) rfl ?_
  refine chunk (s' := f15_s6 r15 r16) 1 5 (by kernel_rfl) rfl ?_
  obtain ⟨r17, h54, H⟩ := bind_some H
  refine callS (s' := f15_s7 r15 r16 r17) (f := 48) (xs := [.d (.str [49]), .d (.int .u8 1), .agg [.d (.int .i64 63), .d (.int .i64 1), .d (.int .i64 1)]]) (ys := [.d (.str [49]), .d (.int .u8 1), .agg [.d (.int .i64 63), .d (.int .i64 1), .d (.int .i64 1)]]) (ks := []) (obl := []) (r := .agg [.d (.str r17.Print), .own 1 (List.map eU8 r17.Cells), .d (.int .u8 r17.Left), .d (.int .u8 r17.Right), .d (.int .i64 r17.From), .d (.int .i64 r17.To)]) (ls := [List.length r17.Cells]) 6 false (by kernel_rfl) (leZ) rfl (FSixdotlaw03_rule_ok h54) (Or.inl rfl) (by simp only [lensR, lensT, lensA, lensC, List.length_map, List.nil_append, List.append_nil, List.cons_append]) (by kernel_rfl) rfl ?_
  refine chunk (s' := f15_s8 r15 r16 r17) 1 7 (by kernel_rfl) rfl ?_
  obtain ⟨r18, h55, H⟩ := bind_some H
  refine callS (s' := f15_s9 r15 r16 r17 r18) (f := 48) (xs := [.d (.str [32]), .d (.int .u8 0), .agg [.d (.int .i64 63), .d (.int .i64 1), .d (.int .i64 0)]]) (ys := [.d (.str [32]), .d (.int .u8 0), .agg [.d (.int .i64 63), .d (.int .i64 1), .d (.int .i64 0)]]) (ks := []) (obl := []) (r := .agg [.d (.str r18.Print), .own 1 (List.map eU8 r18.Cells), .d (.int .u8 r18.Left), .d (.int .u8 r18.Right), .d (.int .i64 r18.From), .d (.int .i64 r18.To)]) (ls := [List.length r18.Cells]) 8 false (by kernel_rfl) (leZ) rfl (FSixdotlaw03_rule_ok h55) (Or.inl rfl) (by simp only [lensR, lensT, lensA, lensC, List.length_map, List.nil_append, List.append_nil, List.cons_append]) (by kernel_rfl) rfl ?_
  refine chunk (s' := f15_s10 r15 r16 r17 r18) 4 12 (by kernel_rfl) rfl ?_
  refine at_end 12 (by kernel_rfl) ?_
  refine q_seq sh_refl ?_
  refine at_seq (p0 := [1,1,0]) (p1 := [1,1,1]) (by kernel_rfl) ?_
  refine at_region (by kernel_rfl) sh_refl ?_
  refine chunk (s' := f15_s11 r15 r16 r17 r18) 1 1 (by kernel_rfl) rfl ?_
  obtain ⟨r19, h56, H⟩ := bind_some H
  refine callS (s' := f15_s12 r15 r16 r17 r18 r19) (f := 31) (xs := []) (ys := []) (ks := []) (obl := []) (r := .agg [.d (.int .i64 r19.Mode), .d (.int .i64 r19.Last), .d (.int .u8 r19.Need)]) (ls := []) 2 false (by kernel_rfl) (leZ) rfl (FAutomaton_Start_ok h56) (Or.inl rfl) rfl (by kernel_rfl) rfl ?_
  obtain ⟨r20, h57, H⟩ := bind_some H
  refine callS (s' := f15_s13 r15 r16 r17 r18 r19 r20) (f := 17) (xs := [.agg [.d (.int .i64 2), .d (.int .u8 3), .d (.sl (List.take (List.length [r15, r16, r17, r18]) (List.drop 0 (List.map eGRule [r15, r16, r17, r18]))))], .agg [.d (.int .i64 r19.Mode), .d (.int .i64 r19.Last), .d (.int .u8 r19.Need)], .d (.int .i64 1)]) (ys := [.agg [.d (.int .i64 2), .d (.int .u8 3), .d (.sl (List.map eGRule [r15, r16, r17, r18]))], .agg [.d (.int .i64 r19.Mode), .d (.int .i64 r19.Last), .d (.int .u8 r19.Need)], .d (.int .i64 1)]) (ks := [0]) (obl := [(0 + List.length [r15, r16, r17, r18], List.length (List.map eGRule [r15, r16, r17, r18]))]) (r := .tup [.agg [.d (.int .i64 r20.1.Mode), .d (.int .i64 r20.1.Last), .d (.int .u8 r20.1.Need)], .d (.bool r20.2)]) (ls := []) 3 false (by kernel_rfl) (leK (by simp) (leZ)) (consE (aggE (consE rfl (consE rfl (consE takeE rfl)))) (consE rfl (consE rfl rfl))) (FAutomaton_Step_ok h57) (Or.inr (by simp [flatR, flatT, flatA, flatC, D.flat, true_and])) rfl (by kernel_rfl) rfl ?_
  refine chunk (s' := f15_s14 r15 r16 r17 r18 r19 r20) 6 9 (by kernel_rfl) rfl ?_
  refine at_end 9 (by kernel_rfl) ?_
  refine q_seq sh_refl ?_
  refine at_seq (p0 := [1,1,1,0]) (p1 := [1,1,1,1]) (by kernel_rfl) ?_
  refine at_region (by kernel_rfl) sh_refl ?_
  refine chunk (s' := f15_s15 r15 r16 r17 r18 r19 r20) 2 2 (by kernel_rfl) rfl ?_
  obtain ⟨r21, h58, H⟩ := bind_some H
  refine callS (s' := f15_s16 r15 r16 r17 r18 r19 r20 r21) (f := 17) (xs := [.agg [.d (.int .i64 2), .d (.int .u8 3), .d (.sl (List.take (List.length [r15, r16, r17, r18]) (List.drop 0 (List.map eGRule [r15, r16, r17, r18]))))], .agg [.d (.int .i64 r20.1.Mode), .d (.int .i64 r20.1.Last), .d (.int .u8 r20.1.Need)], .d (.int .i64 0)]) (ys := [.agg [.d (.int .i64 2), .d (.int .u8 3), .d (.sl (List.map eGRule [r15, r16, r17, r18]))], .agg [.d (.int .i64 r20.1.Mode), .d (.int .i64 r20.1.Last), .d (.int .u8 r20.1.Need)], .d (.int .i64 0)]) (ks := [0]) (obl := [(0 + List.length [r15, r16, r17, r18], List.length (List.map eGRule [r15, r16, r17, r18]))]) (r := .tup [.agg [.d (.int .i64 r21.1.Mode), .d (.int .i64 r21.1.Last), .d (.int .u8 r21.1.Need)], .d (.bool r21.2)]) (ls := []) 3 false (by kernel_rfl) (leK (by simp) (leZ)) (consE (aggE (consE rfl (consE rfl (consE takeE rfl)))) (consE rfl (consE rfl rfl))) (FAutomaton_Step_ok h58) (Or.inr (by simp [flatR, flatT, flatA, flatC, D.flat, true_and])) rfl (by kernel_rfl) rfl ?_
  refine chunk (s' := f15_s17 r15 r16 r17 r18 r19 r20 r21) 6 9 (by kernel_rfl) rfl ?_
  refine at_end 9 (by kernel_rfl) ?_
  refine q_seq sh_refl ?_
  refine at_seq (p0 := [1,1,1,1,0]) (p1 := [1,1,1,1,1]) (by kernel_rfl) ?_
  refine at_region (by kernel_rfl) sh_refl ?_
  refine chunk (s' := f15_s18 r15 r16 r17 r18 r19 r20 r21) 2 2 (by kernel_rfl) rfl ?_
  obtain ⟨r22, h59, H⟩ := bind_some H
  refine callS (s' := f15_s19 r15 r16 r17 r18 r19 r20 r21 r22) (f := 17) (xs := [.agg [.d (.int .i64 2), .d (.int .u8 3), .d (.sl (List.take (List.length [r15, r16, r17, r18]) (List.drop 0 (List.map eGRule [r15, r16, r17, r18]))))], .agg [.d (.int .i64 r20.1.Mode), .d (.int .i64 r20.1.Last), .d (.int .u8 r20.1.Need)], .d (.int .i64 4)]) (ys := [.agg [.d (.int .i64 2), .d (.int .u8 3), .d (.sl (List.map eGRule [r15, r16, r17, r18]))], .agg [.d (.int .i64 r20.1.Mode), .d (.int .i64 r20.1.Last), .d (.int .u8 r20.1.Need)], .d (.int .i64 4)]) (ks := [0]) (obl := [(0 + List.length [r15, r16, r17, r18], List.length (List.map eGRule [r15, r16, r17, r18]))]) (r := .tup [.agg [.d (.int .i64 r22.1.Mode), .d (.int .i64 r22.1.Last), .d (.int .u8 r22.1.Need)], .d (.bool r22.2)]) (ls := []) 3 false (by kernel_rfl) (leK (by simp) (leZ)) (consE (aggE (consE rfl (consE rfl (consE takeE rfl)))) (consE rfl (consE rfl rfl))) (FAutomaton_Step_ok h59) (Or.inr (by simp [flatR, flatT, flatA, flatC, D.flat, true_and])) rfl (by kernel_rfl) rfl ?_
  refine chunk (s' := f15_s20 r15 r16 r17 r18 r19 r20 r21 r22) 6 9 (by kernel_rfl) rfl ?_
  refine at_end 9 (by kernel_rfl) ?_
  refine q_seq sh_refl ?_
  refine at_seq (p0 := [1,1,1,1,1,0]) (p1 := [1,1,1,1,1,1]) (by kernel_rfl) ?_
  refine at_region (by kernel_rfl) sh_refl ?_
  refine chunk (s' := f15_s21 r15 r16 r17 r18 r19 r20 r21 r22) 2 2 (by kernel_rfl) rfl ?_
  obtain ⟨r23, h60, H⟩ := bind_some H
  refine callS (s' := f15_s22 r15 r16 r17 r18 r19 r20 r21 r22 r23) (f := 22) (xs := [.agg [.d (.int .i64 2), .d (.int .u8 3), .d (.sl (List.take (List.length [r15, r16, r17, r18]) (List.drop 0 (List.map eGRule [r15, r16, r17, r18]))))], .d (.sl (List.take (List.length [1,2,3,0]) (List.drop 0 (List.map eI64 [1,2,3,0]))))]) (ys := [.agg [.d (.int .i64 2), .d (.int .u8 3), .d (.sl (List.map eGRule [r15, r16, r17, r18]))], .d (.sl (List.map eI64 [1,2,3,0]))]) (ks := [0,5]) (obl := [(0 + List.length [r15, r16, r17, r18], List.length (List.map eGRule [r15, r16, r17, r18])), (0 + List.length [1,2,3,0], List.length (List.map eI64 [1,2,3,0]))]) (r := .agg [.d (.str r23.Text), .own 1 (List.map eU8 r23.Cells), .d (.int .i64 r23.At), .d (.int .i64 r23.End.Mode), .d (.int .i64 r23.End.Last), .d (.int .u8 r23.End.Need), .d (.bool r23.Ok)]) (ls := [List.length r23.Cells]) 3 false (by kernel_rfl) (leK (by simp) (leK (by simp) (leZ))) (consE (aggE (consE rfl (consE rfl (consE takeE rfl)))) (consE takeE rfl)) (FAutomaton_Run_ok h60) (Or.inr (by simp [flatR, flatT, flatA, flatC, D.flat, eU8])) (by simp only [lensR, lensT, lensA, lensC, List.length_map, List.nil_append, List.append_nil, List.cons_append]) (by kernel_rfl) rfl ?_
  refine chunk (s' := f15_s23 r15 r16 r17 r18 r19 r20 r21 r22 r23) 2 5 (by kernel_rfl) rfl ?_
  refine at_end 5 (by kernel_rfl) ?_
  refine q_seq sh_refl ?_
  refine at_seq (p0 := [1,1,1,1,1,1,0]) (p1 := [1,1,1,1,1,1,1]) (by kernel_rfl) ?_
  refine at_region (by kernel_rfl) sh_refl ?_
  refine chunk (s' := f15_s24 r15 r16 r17 r18 r19 r20 r21 r22 r23) 2 2 (by kernel_rfl) rfl ?_
  obtain ⟨r24, h61, H⟩ := bind_some H
  refine callS (s' := f15_s25 r15 r16 r17 r18 r19 r20 r21 r22 r23 r24) (f := 22) (xs := [.agg [.d (.int .i64 2), .d (.int .u8 3), .d (.sl (List.take (List.length [r15, r16, r17, r18]) (List.drop 0 (List.map eGRule [r15, r16, r17, r18]))))], .d (.sl (List.take (List.length [1,0]) (List.drop 0 (List.map eI64 [1,0]))))]) (ys := [.agg [.d (.int .i64 2), .d (.int .u8 3), .d (.sl (List.map eGRule [r15, r16, r17, r18]))], .d (.sl (List.map eI64 [1,0]))]) (ks := [0,7]) (obl := [(0 + List.length [r15, r16, r17, r18], List.length (List.map eGRule [r15, r16, r17, r18])), (0 + List.length [1,0], List.length (List.map eI64 [1,0]))]) (r := .agg [.d (.str r24.Text), .own 1 (List.map eU8 r24.Cells), .d (.int .i64 r24.At), .d (.int .i64 r24.End.Mode), .d (.int .i64 r24.End.Last), .d (.int .u8 r24.End.Need), .d (.bool r24.Ok)]) (ls := [List.length r24.Cells]) 3 false (by kernel_rfl) (leK (by simp) (leK (by simp) (leZ))) (consE (aggE (consE rfl (consE rfl (consE takeE rfl)))) (consE takeE rfl)) (FAutomaton_Run_ok h61) (Or.inr (by simp [flatR, flatT, flatA, flatC, D.flat, eU8])) (by simp only [lensR, lensT, lensA, lensC, List.length_map, List.nil_append, List.append_nil, List.cons_append]) (by kernel_rfl) rfl ?_
  refine chunk (s' := f15_s26 r15 r16 r17 r18 r19 r20 r21 r22 r23 r24) 2 5 (by kernel_rfl) rfl ?_
  refine at_end 5 (by kernel_rfl) ?_
  refine q_seq sh_refl ?_
  refine at_seq (p0 := [1,1,1,1,1,1,1,0]) (p1 := [1,1,1,1,1,1,1,1]) (by kernel_rfl) ?_
  refine at_region (by kernel_rfl) sh_refl ?_
  refine chunk (s' := f15_s27 r15 r16 r17 r18 r19 r20 r21 r22 r23 r24) 2 2 (by kernel_rfl) rfl ?_
  obtain ⟨r25, h62, H⟩ := bind_some H
  refine callS (s' := f15_s28 r15 r16 r17 r18 r19 r20 r21 r22 r23 r24 r25) (f := 22) (xs := [.agg [.d (.int .i64 2), .d (.int .u8 3), .d (.sl (List.take (List.length [r15, r16, r17, r18]) (List.drop 0 (List.map eGRule [r15, r16, r17, r18]))))], .d (.sl (List.take (List.length [1]) (List.drop 0 (List.map eI64 [1]))))]) (ys := [.agg [.d (.int .i64 2), .d (.int .u8 3), .d (.sl (List.map eGRule [r15, r16, r17, r18]))], .d (.sl (List.map eI64 [1]))]) (ks := [0,9]) (obl := [(0 + List.length [r15, r16, r17, r18], List.length (List.map eGRule [r15, r16, r17, r18])), (0 + List.length [1], List.length (List.map eI64 [1]))]) (r := .agg [.d (.str r25.Text), .own 1 (List.map eU8 r25.Cells), .d (.int .i64 r25.At), .d (.int .i64 r25.End.Mode), .d (.int .i64 r25.End.Last), .d (.int .u8 r25.End.Need), .d (.bool r25.Ok)]) (ls := [List.length r25.Cells]) 3 false (by kernel_rfl) (leK (by simp) (leK (by simp) (leZ))) (consE (aggE (consE rfl (consE rfl (consE takeE rfl)))) (consE takeE rfl)) (FAutomaton_Run_ok h62) (Or.inr (by simp [flatR, flatT, flatA, flatC, D.flat, eU8])) (by simp only [lensR, lensT, lensA, lensC, List.length_map, List.nil_append, List.append_nil, List.cons_append]) (by kernel_rfl) rfl ?_
  refine chunk (s' := f15_s29 r15 r16 r17 r18 r19 r20 r21 r22 r23 r24 r25) 2 5 (by kernel_rfl) rfl ?_
  refine at_end 5 (by kernel_rfl) ?_
  refine q_seq sh_refl ?_
  refine at_seq (p0 := [1,1,1,1,1,1,1,1,0]) (p1 := [1,1,1,1,1,1,1,1,1]) (by kernel_rfl) ?_
  refine at_region (s' := f15_s30 r15 r16 r17 r18 r19 r20 r21 r22 r23 r24 r25) (by kernel_rfl) (Shift.trans (sh_frzc (k := 0) (sz := 6) 1 2 (List.map eGRule [r15, r16, r17, r18]) (by kernel_rfl) take_all (by simp)) (sh_eq (by kernel_rfl))) ?_
  refine chunk (s' := f15_s31 r15 r16 r17 r18 r19 r20 r21 r22 r23 r24 r25) 1 1 (by kernel_rfl) rfl ?_
  obtain ⟨r26, h63, H⟩ := bind_some H
  refine callS (s' := f15_s32 r15 r16 r17 r18 r19 r20 r21 r22 r23 r24 r25 r26) (f := 25) (xs := [.agg [.d (.int .i64 2), .d (.int .u8 3), .d (.sl (List.map eGRule [r15, r16, r17, r18]))]]) (ys := [.agg [.d (.int .i64 2), .d (.int .u8 3), .d (.sl (List.map eGRule [r15, r16, r17, r18]))]]) (ks := []) (obl := []) (r := .d (.sl (List.map eGState r26))) (ls := []) 2 false (by kernel_rfl) (leZ) rfl (FAutomaton_States_ok h63) (Or.inl rfl) rfl (by kernel_rfl) rfl ?_
  refine chunk (s' := f15_s33 r15 r16 r17 r18 r19 r20 r21 r22 r23 r24 r25 r26) 10 12 (by kernel_rfl) rfl ?_
  refine at_end 12 (by kernel_rfl) ?_
  refine q_seq sh_refl ?_
  refine at_seq (p0 := [1,1,1,1,1,1,1,1,1,0]) (p1 := [1,1,1,1,1,1,1,1,1,1]) (by kernel_rfl) ?_
  refine at_region (by kernel_rfl) sh_refl ?_
  refine chunk (s' := f15_s34 r15 r16 r17 r18 r19 r20 r21 r22 r23 r24 r25 r26) 1 1 (by kernel_rfl) rfl ?_
  obtain ⟨r27, h64, H⟩ := bind_some H
  refine callS (s' := f15_s35 r15 r16 r17 r18 r19 r20 r21 r22 r23 r24 r25 r26 r27) (f := 28) (xs := [.agg [.d (.int .i64 2), .d (.int .u8 3), .d (.sl (List.map eGRule [r15, r16, r17, r18]))]]) (ys := [.agg [.d (.int .i64 2), .d (.int .u8 3), .d (.sl (List.map eGRule [r15, r16, r17, r18]))]]) (ks := []) (obl := []) (r := .own 1 (List.map eB r27)) (ls := [List.length r27]) 2 false (by kernel_rfl) (leZ) rfl (FAutomaton_Alive_ok h64) (Or.inl rfl) (by simp only [lensR, lensT, lensA, lensC, List.length_map, List.nil_append, List.append_nil, List.cons_append]) (by kernel_rfl) rfl ?_
  refine chunk (s' := f15_s36 r15 r16 r17 r18 r19 r20 r21 r22 r23 r24 r25 r26 r27) 1 3 (by kernel_rfl) rfl ?_
  refine at_end 3 (by kernel_rfl) ?_
  refine q_seq sh_refl ?_
  refine at_seq (p0 := [1,1,1,1,1,1,1,1,1,1,0]) (p1 := [1,1,1,1,1,1,1,1,1,1,1]) (by kernel_rfl) ?_
  refine at_seq (p0 := [1,1,1,1,1,1,1,1,1,1,0,0]) (p1 := [1,1,1,1,1,1,1,1,1,1,0,1]) (by kernel_rfl) ?_
  refine at_region (by kernel_rfl) sh_refl ?_
  refine chunk (s' := f15_s37 r15 r16 r17 r18 r19 r20 r21 r22 r23 r24 r25 r26 r27) 1 1 (by kernel_rfl) rfl ?_
  refine spec (s' := f15_s38 r15 r16 r17 r18 r19 r20 r21 r22 r23 r24 r25 r26 r27) (v := .d (.int .i64 ((List.length r26 : Nat) : Int))) (obs := []) (rm := []) (upd := none) 2 (by kernel_rfl) (is_len (enc := eGState) (esz := 3) (eb := 24) (ez := [.int .i64 0, .int .i64 0, .int .u8 0]) (xs := r26)) (by kernel_rfl) rfl ?_
  refine chunk (s' := f15_s39 r15 r16 r17 r18 r19 r20 r21 r22 r23 r24 r25 r26 r27) 5 7 (by kernel_rfl) rfl ?_
  refine specG (g := (!(((List.length r26 : Nat) : Int) != ((List.length [({ Mode := 0, Last := 0, Need := 63 } : GState), ({ Mode := 0, Last := 1, Need := 63 } : GState), ({ Mode := 1, Last := 0, Need := 8 } : GState), ({ Mode := 1, Last := 1, Need := 8 } : GState), ({ Mode := 1, Last := 3, Need := 63 } : GState), ({ Mode := 0, Last := 4, Need := 63 } : GState), ({ Mode := 1, Last := 4, Need := 8 } : GState)] : Nat) : Int)))) (gs := [(!(((List.length r26 : Nat) : Int) != ((List.length [({ Mode := 0, Last := 0, Need := 63 } : GState), ({ Mode := 0, Last := 1, Need := 63 } : GState), ({ Mode := 1, Last := 0, Need := 8 } : GState), ({ Mode := 1, Last := 1, Need := 8 } : GState), ({ Mode := 1, Last := 3, Need := 63 } : GState), ({ Mode := 0, Last := 4, Need := 63 } : GState), ({ Mode := 1, Last := 4, Need := 8 } : GState)] : Nat) : Int)))]) (s' := f15_s40 r15 r16 r17 r18 r19 r20 r21 r22 r23 r24 r25 r26 r27) (v := .d (.int .i64 ((List.length r27 : Nat) : Int))) (obs := []) 8 (by kernel_rfl) (by kernel_rfl) (fun hg => is_len (enc := eB) (esz := 1) (eb := 1) (ez := [.bool false]) (xs := r27)) (by kernel_rfl) (impK (fun hh => hh) (impZ)) (by kernel_rfl) rfl ?_
  refine chunk (s' := f15_s41 r15 r16 r17 r18 r19 r20 r21 r22 r23 r24 r25 r26 r27) 1 9 (by kernel_rfl) rfl ?_
  refine specG (g := (!(((List.length r26 : Nat) : Int) != ((List.length [({ Mode := 0, Last := 0, Need := 63 } : GState), ({ Mode := 0, Last := 1, Need := 63 } : GState), ({ Mode := 1, Last := 0, Need := 8 } : GState), ({ Mode := 1, Last := 1, Need := 8 } : GState), ({ Mode := 1, Last := 3, Need := 63 } : GState), ({ Mode := 0, Last := 4, Need := 63 } : GState), ({ Mode := 1, Last := 4, Need := 8 } : GState)] : Nat) : Int)))) (gs := [(!(((List.length r26 : Nat) : Int) != ((List.length [({ Mode := 0, Last := 0, Need := 63 } : GState), ({ Mode := 0, Last := 1, Need := 63 } : GState), ({ Mode := 1, Last := 0, Need := 8 } : GState), ({ Mode := 1, Last := 1, Need := 8 } : GState), ({ Mode := 1, Last := 3, Need := 63 } : GState), ({ Mode := 0, Last := 4, Need := 63 } : GState), ({ Mode := 1, Last := 4, Need := 8 } : GState)] : Nat) : Int)))]) (s' := f15_s42 r15 r16 r17 r18 r19 r20 r21 r22 r23 r24 r25 r26 r27) (v := .d (.int .i64 ((List.length [({ Mode := 0, Last := 0, Need := 63 } : GState), ({ Mode := 0, Last := 1, Need := 63 } : GState), ({ Mode := 1, Last := 0, Need := 8 } : GState), ({ Mode := 1, Last := 1, Need := 8 } : GState), ({ Mode := 1, Last := 3, Need := 63 } : GState), ({ Mode := 0, Last := 4, Need := 63 } : GState), ({ Mode := 1, Last := 4, Need := 8 } : GState)] : Nat) : Int))) (obs := []) 10 (by kernel_rfl) rfl (fun hg => is_pl (by kernel_rfl)) (by kernel_rfl) (impK (fun hh => hh) (impZ)) (by kernel_rfl) rfl ?_
  refine specG (g := (!(((List.length r26 : Nat) : Int) != ((List.length [({ Mode := 0, Last := 0, Need := 63 } : GState), ({ Mode := 0, Last := 1, Need := 63 } : GState), ({ Mode := 1, Last := 0, Need := 8 } : GState), ({ Mode := 1, Last := 1, Need := 8 } : GState), ({ Mode := 1, Last := 3, Need := 63 } : GState), ({ Mode := 0, Last := 4, Need := 63 } : GState), ({ Mode := 1, Last := 4, Need := 8 } : GState)] : Nat) : Int)))) (gs := [(!(((List.length r26 : Nat) : Int) != ((List.length [({ Mode := 0, Last := 0, Need := 63 } : GState), ({ Mode := 0, Last := 1, Need := 63 } : GState), ({ Mode := 1, Last := 0, Need := 8 } : GState), ({ Mode := 1, Last := 1, Need := 8 } : GState), ({ Mode := 1, Last := 3, Need := 63 } : GState), ({ Mode := 0, Last := 4, Need := 63 } : GState), ({ Mode := 1, Last := 4, Need := 8 } : GState)] : Nat) : Int))), (!(((List.length r26 : Nat) : Int) != ((List.length [({ Mode := 0, Last := 0, Need := 63 } : GState), ({ Mode := 0, Last := 1, Need := 63 } : GState), ({ Mode := 1, Last := 0, Need := 8 } : GState), ({ Mode := 1, Last := 1, Need := 8 } : GState), ({ Mode := 1, Last := 3, Need := 63 } : GState), ({ Mode := 0, Last := 4, Need := 63 } : GState), ({ Mode := 1, Last := 4, Need := 8 } : GState)] : Nat) : Int)))]) (s' := f15_s43 r15 r16 r17 r18 r19 r20 r21 r22 r23 r24 r25 r26 r27) (v := .d (.bool (((List.length r27 : Nat) : Int) != ((List.length [({ Mode := 0, Last := 0, Need := 63 } : GState), ({ Mode := 0, Last := 1, Need := 63 } : GState), ({ Mode := 1, Last := 0, Need := 8 } : GState), ({ Mode := 1, Last := 1, Need := 8 } : GState), ({ Mode := 1, Last := 3, Need := 63 } : GState), ({ Mode := 0, Last := 4, Need := 63 } : GState), ({ Mode := 1, Last := 4, Need := 8 } : GState)] : Nat) : Int)))) (obs := []) 11 (by kernel_rfl) rfl (fun hg => is_pl (by kernel_rfl)) (by kernel_rfl) (impK (fun hh => hh) (impK (fun hh => hh) (impZ))) (by kernel_rfl) rfl ?_
  refine specP (s' := f15_s44 r15 r16 r17 r18 r19 r20 r21 r22 r23 r24 r25 r26 r27) 12 (by kernel_rfl) (pick_or (t := (((List.length r26 : Nat) : Int) != ((List.length [({ Mode := 0, Last := 0, Need := 63 } : GState), ({ Mode := 0, Last := 1, Need := 63 } : GState), ({ Mode := 1, Last := 0, Need := 8 } : GState), ({ Mode := 1, Last := 1, Need := 8 } : GState), ({ Mode := 1, Last := 3, Need := 63 } : GState), ({ Mode := 0, Last := 4, Need := 63 } : GState), ({ Mode := 1, Last := 4, Need := 8 } : GState)] : Nat) : Int))) (x := true) (y := (((List.length r27 : Nat) : Int) != ((List.length [({ Mode := 0, Last := 0, Need := 63 } : GState), ({ Mode := 0, Last := 1, Need := 63 } : GState), ({ Mode := 1, Last := 0, Need := 8 } : GState), ({ Mode := 1, Last := 1, Need := 8 } : GState), ({ Mode := 1, Last := 3, Need := 63 } : GState), ({ Mode := 0, Last := 4, Need := 63 } : GState), ({ Mode := 1, Last := 4, Need := 8 } : GState)] : Nat) : Int)))) (by kernel_rfl) rfl ?_
  refine at_end 12 (by kernel_rfl) ?_
  refine q_seq sh_refl ?_
  rcases ite_some H with ⟨hc26, H⟩ | ⟨hc26, H⟩
  · refine at_condT ((((List.length r26 : Nat) : Int) != ((List.length [({ Mode := 0, Last := 0, Need := 63 } : GState), ({ Mode := 0, Last := 1, Need := 63 } : GState), ({ Mode := 1, Last := 0, Need := 8 } : GState), ({ Mode := 1, Last := 1, Need := 8 } : GState), ({ Mode := 1, Last := 3, Need := 63 } : GState), ({ Mode := 0, Last := 4, Need := 63 } : GState), ({ Mode := 1, Last := 4, Need := 8 } : GState)] : Nat) : Int)) || (((List.length r27 : Nat) : Int) != ((List.length [({ Mode := 0, Last := 0, Need := 63 } : GState), ({ Mode := 0, Last := 1, Need := 63 } : GState), ({ Mode := 1, Last := 0, Need := 8 } : GState), ({ Mode := 1, Last := 1, Need := 8 } : GState), ({ Mode := 1, Last := 3, Need := 63 } : GState), ({ Mode := 0, Last := 4, Need := 63 } : GState), ({ Mode := 1, Last := 4, Need := 8 } : GState)] : Nat) : Int))) (p0 := [1,1,1,1,1,1,1,1,1,1,0,1,0]) (p1 := [1,1,1,1,1,1,1,1,1,1,0,1,1]) (by kernel_rfl) (by kernel_rfl) hc26 ?_
    refine at_seq (p0 := [1,1,1,1,1,1,1,1,1,1,0,1,0,0]) (p1 := [1,1,1,1,1,1,1,1,1,1,0,1,0,1]) (by kernel_rfl) ?_
    refine at_region (by kernel_rfl) sh_refl ?_
    refine chunk (s' := f15_s45 r15 r16 r17 r18 r19 r20 r21 r22 r23 r24 r25 r26 r27) 1 1 (by kernel_rfl) rfl ?_
    refine at_end 1 (by kernel_rfl) ?_
    refine q_seq sh_refl ?_
    refine at_ret (by kernel_rfl) ?_
    refine q_seqR ?_
    have hz := Option.some.inj H
    subst hz
    exact post_ret (ret1 (v := .d (.bool false)) (r := .d (.bool false)) [] (by kernel_rfl) (outA_d (outV_d)) (by kernel_rfl) (by decide))
  · refine at_condF ((((List.length r26 : Nat) : Int) != ((List.length [({ Mode := 0, Last := 0, Need := 63 } : GState), ({ Mode := 0, Last := 1, Need := 63 } : GState), ({ Mode := 1, Last := 0, Need := 8 } : GState), ({ Mode := 1, Last := 1, Need := 8 } : GState), ({ Mode := 1, Last := 3, Need := 63 } : GState), ({ Mode := 0, Last := 4, Need := 63 } : GState), ({ Mode := 1, Last := 4, Need := 8 } : GState)] : Nat) : Int)) || (((List.length r27 : Nat) : Int) != ((List.length [({ Mode := 0, Last := 0, Need := 63 } : GState), ({ Mode := 0, Last := 1, Need := 63 } : GState), ({ Mode := 1, Last := 0, Need := 8 } : GState), ({ Mode := 1, Last := 1, Need := 8 } : GState), ({ Mode := 1, Last := 3, Need := 63 } : GState), ({ Mode := 0, Last := 4, Need := 63 } : GState), ({ Mode := 1, Last := 4, Need := 8 } : GState)] : Nat) : Int))) (p0 := [1,1,1,1,1,1,1,1,1,1,0,1,0]) (p1 := [1,1,1,1,1,1,1,1,1,1,0,1,1]) (by kernel_rfl) (by kernel_rfl) hc26 ?_
    refine at_skip (by kernel_rfl) ?_
    refine q_seq sh_refl ?_
    refine at_seq (p0 := [1,1,1,1,1,1,1,1,1,1,1,0]) (p1 := [1,1,1,1,1,1,1,1,1,1,1,1]) (by kernel_rfl) ?_
    refine at_seq (p0 := [1,1,1,1,1,1,1,1,1,1,1,0,0]) (p1 := [1,1,1,1,1,1,1,1,1,1,1,0,1]) (by kernel_rfl) ?_
    refine at_region (by kernel_rfl) sh_refl ?_
    refine chunk (s' := f15_s46 r15 r16 r17 r18 r19 r20 r21 r22 r23 r24 r25 r26 r27) 1 1 (by kernel_rfl) rfl ?_
    refine at_end 1 (by kernel_rfl) ?_
    refine q_seq sh_refl ?_
    refine at_block 0 (p0 := [1,1,1,1,1,1,1,1,1,1,1,0,1,0]) (by kernel_rfl) ?_
    obtain ⟨y10, h68, H⟩ := bind_some H
    rcases y10 with y11 | y12
    · refine at_loop (p0 := [1,1,1,1,1,1,1,1,1,1,1,0,1,0,0]) (fun (x : Int) => f15_s47 r15 r16 r17 r18 r20 r21 r22 r23 r24 r25 r26 r27 x) (f15_L1_E r15 r16 r17 r18 r20 r21 r22 r23 r24 r25 r26 r27) (by kernel_rfl) h68 (sh_gc [1,2,3,5,7,8,9,10,11,12,13,14] (by kernel_rfl)) (fun x z => f15_L1_ok x z) ?_
      intro e s hE9
      obtain ⟨rfl, hE9⟩ := hE9
      refine q_blockH ?_
      refine q_seq (s' := f15_s48 r15 r16 r17 r18 r20 r21 r22 r23 r24 r25 r26) (hE9) ?_
      refine at_seq (p0 := [1,1,1,1,1,1,1,1,1,1,1,1,0]) (p1 := [1,1,1,1,1,1,1,1,1,1,1,1,1]) (by kernel_rfl) ?_
      refine at_region (by kernel_rfl) sh_refl ?_
      refine chunk (s' := f15_s64 r15 r16 r17 r18 r20 r21 r22 r23 r24 r25 r26) 4 4 (by kernel_rfl) rfl ?_
      refine specG (g := r20.2) (gs := [r20.2, r20.2]) (s' := f15_s65 r15 r16 r17 r18 r20 r21 r22 r23 r24 r25 r26) (v := .d (.bool ((r20.1.Mode == 1) && ((r20.1.Last == 0) && ((r20.1.Need == 8) && true))))) (obs := []) 5 (by kernel_rfl) rfl (fun hg => is_pl (by kernel_rfl)) (by kernel_rfl) (impK (fun hh => hh) (impK (fun hh => hh) (impZ))) (by kernel_rfl) rfl ?_
      refine specP (s' := f15_s66 r15 r16 r17 r18 r20 r21 r22 r23 r24 r25 r26) 6 (by kernel_rfl) (pick_and (t := r20.2) (x := ((r20.1.Mode == 1) && ((r20.1.Last == 0) && ((r20.1.Need == 8) && true)))) (y := false)) (by kernel_rfl) rfl ?_
      refine chunk (s' := f15_s67 r15 r16 r17 r18 r20 r21 r22 r23 r24 r25 r26) 2 8 (by kernel_rfl) rfl ?_
      refine specG (g := (r20.2 && ((r20.1.Mode == 1) && ((r20.1.Last == 0) && ((r20.1.Need == 8) && true))))) (gs := [(r20.2 && ((r20.1.Mode == 1) && ((r20.1.Last == 0) && ((r20.1.Need == 8) && true))))]) (s' := f15_s68 r15 r16 r17 r18 r20 r21 r22 r23 r24 r25 r26) (v := .d (.bool (!r21.2))) (obs := []) 9 (by kernel_rfl) rfl (fun hg => is_pl (by kernel_rfl)) (by kernel_rfl) (impK (fun hh => hh) (impZ)) (by kernel_rfl) rfl ?_
      refine specP (s' := f15_s69 r15 r16 r17 r18 r20 r21 r22 r23 r24 r25 r26) 10 (by kernel_rfl) (pick_and (t := (r20.2 && ((r20.1.Mode == 1) && ((r20.1.Last == 0) && ((r20.1.Need == 8) && true))))) (x := (!r21.2)) (y := false)) (by kernel_rfl) rfl ?_
      refine chunk (s' := f15_s70 r15 r16 r17 r18 r20 r21 r22 r23 r24 r25 r26) 2 12 (by kernel_rfl) rfl ?_
      refine specG (g := ((r20.2 && ((r20.1.Mode == 1) && ((r20.1.Last == 0) && ((r20.1.Need == 8) && true)))) && (!r21.2))) (gs := [((r20.2 && ((r20.1.Mode == 1) && ((r20.1.Last == 0) && ((r20.1.Need == 8) && true)))) && (!r21.2))]) (s' := f15_s71 r15 r16 r17 r18 r20 r21 r22 r23 r24 r25 r26) (v := .d (.bool (!r22.2))) (obs := []) 13 (by kernel_rfl) rfl (fun hg => is_pl (by kernel_rfl)) (by kernel_rfl) (impK (fun hh => hh) (impZ)) (by kernel_rfl) rfl ?_
      refine specP (s' := f15_s72 r15 r16 r17 r18 r20 r21 r22 r23 r24 r25 r26) 14 (by kernel_rfl) (pick_and (t := ((r20.2 && ((r20.1.Mode == 1) && ((r20.1.Last == 0) && ((r20.1.Need == 8) && true)))) && (!r21.2))) (x := (!r22.2)) (y := false)) (by kernel_rfl) rfl ?_
      refine chunk (s' := f15_s73 r15 r16 r17 r18 r20 r21 r22 r23 r24 r25 r26) 1 15 (by kernel_rfl) rfl ?_
      obtain ⟨r28, h69, H⟩ := bind_some H
      refine callG (g := (((r20.2 && ((r20.1.Mode == 1) && ((r20.1.Last == 0) && ((r20.1.Need == 8) && true)))) && (!r21.2)) && (!r22.2))) (gs := []) (s' := f15_s74 r15 r16 r17 r18 r20 r21 r22 r23 r24 r25 r26 r28) (f := 31) (xs := []) (ys := []) (ks := []) (obl := []) (r := .agg [.d (.int .i64 r28.Mode), .d (.int .i64 r28.Last), .d (.int .u8 r28.Need)]) (ls := []) 16 false (by kernel_rfl) (by kernel_rfl) (leZ) rfl (fun hg => FAutomaton_Start_ok (gimp h69 hg)) (Or.inl rfl) (by kernel_rfl) (impZ) rfl (by kernel_rfl) rfl ?_
      refine chunk (s' := f15_s75 r15 r16 r17 r18 r20 r21 r22 r23 r24 r25 r26 r28) 1 17 (by kernel_rfl) rfl ?_
      refine specG (g := (((r20.2 && ((r20.1.Mode == 1) && ((r20.1.Last == 0) && ((r20.1.Need == 8) && true)))) && (!r21.2)) && (!r22.2))) (gs := [(((r20.2 && ((r20.1.Mode == 1) && ((r20.1.Last == 0) && ((r20.1.Need == 8) && true)))) && (!r21.2)) && (!r22.2)), (((r20.2 && ((r20.1.Mode == 1) && ((r20.1.Last == 0) && ((r20.1.Need == 8) && true)))) && (!r21.2)) && (!r22.2))]) (s' := f15_s76 r15 r16 r17 r18 r20 r21 r22 r23 r24 r25 r26 r28) (v := .d (.bool ((r28.Mode == 0) && ((r28.Last == 0) && ((r28.Need == 63) && true))))) (obs := []) 18 (by kernel_rfl) rfl (fun hg => is_pl (by kernel_rfl)) (by kernel_rfl) (impK (fun hh => hh) (impK (fun hh => hh) (impZ))) (by kernel_rfl) rfl ?_
      refine specP (s' := f15_s77 r15 r16 r17 r18 r20 r21 r22 r23 r24 r25 r26 r28) 19 (by kernel_rfl) (pick_and (t := (((r20.2 && ((r20.1.Mode == 1) && ((r20.1.Last == 0) && ((r20.1.Need == 8) && true)))) && (!r21.2)) && (!r22.2))) (x := ((r28.Mode == 0) && ((r28.Last == 0) && ((r28.Need == 63) && true)))) (y := false)) (by kernel_rfl) rfl ?_
      refine chunk (s' := f15_s78 r15 r16 r17 r18 r20 r21 r22 r23 r24 r25 r26 r28) 1 20 (by kernel_rfl) rfl ?_
      refine at_end 20 (by kernel_rfl) ?_
      refine q_seq sh_refl ?_
      refine at_seq (p0 := [1,1,1,1,1,1,1,1,1,1,1,1,1,0]) (p1 := [1,1,1,1,1,1,1,1,1,1,1,1,1,1]) (by kernel_rfl) ?_
      refine at_region (by kernel_rfl) sh_refl ?_
      refine chunk (s' := f15_s79 r15 r16 r17 r18 r20 r21 r22 r23 r24 r25 r26 r28) 4 4 (by kernel_rfl) rfl ?_
      refine specG (g := r23.Ok) (gs := [r23.Ok]) (s' := f15_s80 r15 r16 r17 r18 r20 r21 r22 r23 r24 r25 r26 r28) (v := .d (.str r23.Text)) (obs := []) 5 (by kernel_rfl) rfl (fun hg => is_pl (by kernel_rfl)) (by kernel_rfl) (impK (fun hh => hh) (impZ)) (by kernel_rfl) rfl ?_
      refine specG (g := r23.Ok) (gs := [r23.Ok]) (s' := f15_s81 r15 r16 r17 r18 r20 r21 r22 r23 r24 r25 r26 r28) (v := .d (.bool (r23.Text == [49,32,97]))) (obs := []) 6 (by kernel_rfl) rfl (fun hg => is_pl (by kernel_rfl)) (by kernel_rfl) (impK (fun hh => hh) (impZ)) (by kernel_rfl) rfl ?_
      refine specP (s' := f15_s82 r15 r16 r17 r18 r20 r21 r22 r23 r24 r25 r26 r28) 7 (by kernel_rfl) (pick_and (t := r23.Ok) (x := (r23.Text == [49,32,97])) (y := false)) (by kernel_rfl) rfl ?_
      refine chunk (s' := f15_s83 r15 r16 r17 r18 r20 r21 r22 r23 r24 r25 r26 r28) 2 9 (by kernel_rfl) rfl ?_
      refine specG (g := (r23.Ok && (r23.Text == [49,32,97]))) (gs := [(r23.Ok && (r23.Text == [49,32,97]))]) (s' := f15_s84 r15 r16 r17 r18 r20 r21 r22 r23 r24 r25 r26 r28) (v := .d (.sl (List.map eU8 r23.Cells))) (obs := []) 10 (by kernel_rfl) rfl (fun hg => is_pl (by kernel_rfl)) (by kernel_rfl) (impK (fun hh => hh) (impZ)) (by kernel_rfl) rfl ?_
      refine chunk (s' := f15_s85 r15 r16 r17 r18 r20 r21 r22 r23 r24 r25 r26 r28) 1 11 (by kernel_rfl) rfl ?_
      obtain ⟨r29, h70, H⟩ := bind_some H
      refine callG (g := (r23.Ok && (r23.Text == [49,32,97]))) (gs := [(r23.Ok && (r23.Text == [49,32,97])), (r23.Ok && (r23.Text == [49,32,97]))]) (s' := f15_s86 r15 r16 r17 r18 r20 r21 r22 r23 r24 r25 r26 r28 r29) (f := 49) (xs := [.d (.sl (List.map eU8 r23.Cells)), .d (.sl (List.take (List.length [60,1,0,1]) (List.drop 0 (List.map eU8 [60,1,0,1]))))]) (ys := [.d (.sl (List.map eU8 r23.Cells)), .d (.sl (List.map eU8 [60,1,0,1]))]) (ks := [5]) (obl := [(0 + List.length [60,1,0,1], List.length (List.map eU8 [60,1,0,1]))]) (r := .d (.bool r29)) (ls := []) 12 false (by kernel_rfl) (by kernel_rfl) (leK (by simp) (leZ)) (consE rfl (consE takeE rfl)) (fun hg => FSixdotref02_SameCells_ok (gimp h70 hg)) (Or.inr (by simp [flatR, flatT, flatA, flatC, D.flat, true_and])) (by kernel_rfl) (impK (fun hh => hh) (impK (fun hh => hh) (impZ))) rfl (by kernel_rfl) rfl ?_
      refine specP (s' := f15_s87 r15 r16 r17 r18 r20 r21 r22 r23 r24 r25 r26 r28 r29) 13 (by kernel_rfl) (pick_and (t := (r23.Ok && (r23.Text == [49,32,97]))) (x := r29) (y := false)) (by kernel_rfl) rfl ?_
      refine chunk (s' := f15_s88 r15 r16 r17 r18 r20 r21 r22 r23 r24 r25 r26 r28 r29) 2 15 (by kernel_rfl) rfl ?_
      refine specG (g := ((r23.Ok && (r23.Text == [49,32,97])) && r29)) (gs := [((r23.Ok && (r23.Text == [49,32,97])) && r29)]) (s' := f15_s89 r15 r16 r17 r18 r20 r21 r22 r23 r24 r25 r26 r28 r29) (v := .d (.int .i64 r23.At)) (obs := []) 16 (by kernel_rfl) rfl (fun hg => is_pl (by kernel_rfl)) (by kernel_rfl) (impK (fun hh => hh) (impZ)) (by kernel_rfl) rfl ?_
      refine specG (g := ((r23.Ok && (r23.Text == [49,32,97])) && r29)) (gs := [((r23.Ok && (r23.Text == [49,32,97])) && r29)]) (s' := f15_s90 r15 r16 r17 r18 r20 r21 r22 r23 r24 r25 r26 r28 r29) (v := .d (.bool (r23.At == 4))) (obs := []) 17 (by kernel_rfl) rfl (fun hg => is_pl (by kernel_rfl)) (by kernel_rfl) (impK (fun hh => hh) (impZ)) (by kernel_rfl) rfl ?_
      refine specP (s' := f15_s91 r15 r16 r17 r18 r20 r21 r22 r23 r24 r25 r26 r28 r29) 18 (by kernel_rfl) (pick_and (t := ((r23.Ok && (r23.Text == [49,32,97])) && r29)) (x := (r23.At == 4)) (y := false)) (by kernel_rfl) rfl ?_
      refine chunk (s' := f15_s92 r15 r16 r17 r18 r20 r21 r22 r23 r24 r25 r26 r28 r29) 2 20 (by kernel_rfl) rfl ?_
      refine specG (g := (((r23.Ok && (r23.Text == [49,32,97])) && r29) && (r23.At == 4))) (gs := [(((r23.Ok && (r23.Text == [49,32,97])) && r29) && (r23.At == 4))]) (s' := f15_s93 r15 r16 r17 r18 r20 r21 r22 r23 r24 r25 r26 r28 r29) (v := .d (.int .i64 r24.At)) (obs := []) 21 (by kernel_rfl) rfl (fun hg => is_pl (by kernel_rfl)) (by kernel_rfl) (impK (fun hh => hh) (impZ)) (by kernel_rfl) rfl ?_
      refine specG (g := (((r23.Ok && (r23.Text == [49,32,97])) && r29) && (r23.At == 4))) (gs := [(((r23.Ok && (r23.Text == [49,32,97])) && r29) && (r23.At == 4))]) (s' := f15_s94 r15 r16 r17 r18 r20 r21 r22 r23 r24 r25 r26 r28 r29) (v := .d (.bool (r24.At == 1))) (obs := []) 22 (by kernel_rfl) rfl (fun hg => is_pl (by kernel_rfl)) (by kernel_rfl) (impK (fun hh => hh) (impZ)) (by kernel_rfl) rfl ?_
      refine specP (s' := f15_s95 r15 r16 r17 r18 r20 r21 r22 r23 r24 r25 r26 r28 r29) 23 (by kernel_rfl) (pick_and (t := (((r23.Ok && (r23.Text == [49,32,97])) && r29) && (r23.At == 4))) (x := (r24.At == 1)) (y := false)) (by kernel_rfl) rfl ?_
      refine chunk (s' := f15_s96 r15 r16 r17 r18 r20 r21 r22 r23 r24 r25 r26 r28 r29) 2 25 (by kernel_rfl) rfl ?_
      refine specG (g := ((((r23.Ok && (r23.Text == [49,32,97])) && r29) && (r23.At == 4)) && (r24.At == 1))) (gs := [((((r23.Ok && (r23.Text == [49,32,97])) && r29) && (r23.At == 4)) && (r24.At == 1))]) (s' := f15_s97 r15 r16 r17 r18 r20 r21 r22 r23 r24 r25 r26 r28 r29) (v := .d (.bool r24.Ok)) (obs := []) 26 (by kernel_rfl) rfl (fun hg => is_pl (by kernel_rfl)) (by kernel_rfl) (impK (fun hh => hh) (impZ)) (by kernel_rfl) rfl ?_
      refine specG (g := ((((r23.Ok && (r23.Text == [49,32,97])) && r29) && (r23.At == 4)) && (r24.At == 1))) (gs := [((((r23.Ok && (r23.Text == [49,32,97])) && r29) && (r23.At == 4)) && (r24.At == 1))]) (s' := f15_s98 r15 r16 r17 r18 r20 r21 r22 r23 r24 r25 r26 r28 r29) (v := .d (.bool (!r24.Ok))) (obs := []) 27 (by kernel_rfl) rfl (fun hg => is_pl (by kernel_rfl)) (by kernel_rfl) (impK (fun hh => hh) (impZ)) (by kernel_rfl) rfl ?_
      refine specP (s' := f15_s99 r15 r16 r17 r18 r20 r21 r22 r23 r24 r25 r26 r28 r29) 28 (by kernel_rfl) (pick_and (t := ((((r23.Ok && (r23.Text == [49,32,97])) && r29) && (r23.At == 4)) && (r24.At == 1))) (x := (!r24.Ok)) (y := false)) (by kernel_rfl) rfl ?_
      refine chunk (s' := f15_s100 r15 r16 r17 r18 r20 r21 r22 r23 r24 r25 r26 r28 r29) 2 30 (by kernel_rfl) rfl ?_
      refine specG (g := (((((r23.Ok && (r23.Text == [49,32,97])) && r29) && (r23.At == 4)) && (r24.At == 1)) && (!r24.Ok))) (gs := [(((((r23.Ok && (r23.Text == [49,32,97])) && r29) && (r23.At == 4)) && (r24.At == 1)) && (!r24.Ok))]) (s' := f15_s101 r15 r16 r17 r18 r20 r21 r22 r23 r24 r25 r26 r28 r29) (v := .d (.int .i64 r25.At)) (obs := []) 31 (by kernel_rfl) rfl (fun hg => is_pl (by kernel_rfl)) (by kernel_rfl) (impK (fun hh => hh) (impZ)) (by kernel_rfl) rfl ?_
      refine specG (g := (((((r23.Ok && (r23.Text == [49,32,97])) && r29) && (r23.At == 4)) && (r24.At == 1)) && (!r24.Ok))) (gs := [(((((r23.Ok && (r23.Text == [49,32,97])) && r29) && (r23.At == 4)) && (r24.At == 1)) && (!r24.Ok))]) (s' := f15_s102 r15 r16 r17 r18 r20 r21 r22 r23 r24 r25 r26 r28 r29) (v := .d (.bool (r25.At == 1))) (obs := []) 32 (by kernel_rfl) rfl (fun hg => is_pl (by kernel_rfl)) (by kernel_rfl) (impK (fun hh => hh) (impZ)) (by kernel_rfl) rfl ?_
      refine specP (s' := f15_s103 r15 r16 r17 r18 r20 r21 r22 r23 r24 r25 r26 r28 r29) 33 (by kernel_rfl) (pick_and (t := (((((r23.Ok && (r23.Text == [49,32,97])) && r29) && (r23.At == 4)) && (r24.At == 1)) && (!r24.Ok))) (x := (r25.At == 1)) (y := false)) (by kernel_rfl) rfl ?_
      refine chunk (s' := f15_s104 r15 r16 r17 r18 r20 r21 r22 r23 r24 r25 r26 r28 r29) 2 35 (by kernel_rfl) rfl ?_
      refine specG (g := ((((((r23.Ok && (r23.Text == [49,32,97])) && r29) && (r23.At == 4)) && (r24.At == 1)) && (!r24.Ok)) && (r25.At == 1))) (gs := [((((((r23.Ok && (r23.Text == [49,32,97])) && r29) && (r23.At == 4)) && (r24.At == 1)) && (!r24.Ok)) && (r25.At == 1))]) (s' := f15_s105 r15 r16 r17 r18 r20 r21 r22 r23 r24 r25 r26 r28 r29) (v := .d (.bool r25.Ok)) (obs := []) 36 (by kernel_rfl) rfl (fun hg => is_pl (by kernel_rfl)) (by kernel_rfl) (impK (fun hh => hh) (impZ)) (by kernel_rfl) rfl ?_
      refine specG (g := ((((((r23.Ok && (r23.Text == [49,32,97])) && r29) && (r23.At == 4)) && (r24.At == 1)) && (!r24.Ok)) && (r25.At == 1))) (gs := [((((((r23.Ok && (r23.Text == [49,32,97])) && r29) && (r23.At == 4)) && (r24.At == 1)) && (!r24.Ok)) && (r25.At == 1))]) (s' := f15_s106 r15 r16 r17 r18 r20 r21 r22 r23 r24 r25 r26 r28 r29) (v := .d (.bool (!r25.Ok))) (obs := []) 37 (by kernel_rfl) rfl (fun hg => is_pl (by kernel_rfl)) (by kernel_rfl) (impK (fun hh => hh) (impZ)) (by kernel_rfl) rfl ?_
      refine specP (s' := f15_s107 r15 r16 r17 r18 r20 r21 r22 r23 r24 r25 r26 r28 r29) 38 (by kernel_rfl) (pick_and (t := ((((((r23.Ok && (r23.Text == [49,32,97])) && r29) && (r23.At == 4)) && (r24.At == 1)) && (!r24.Ok)) && (r25.At == 1))) (x := (!r25.Ok)) (y := false)) (by kernel_rfl) rfl ?_
      refine chunk (s' := f15_s108 r15 r16 r17 r18 r20 r21 r22 r23 r24 r25 r26 r28 r29) 1 39 (by kernel_rfl) rfl ?_
      refine at_end 39 (by kernel_rfl) ?_
      refine q_seq sh_refl ?_
      refine at_seq (p0 := [1,1,1,1,1,1,1,1,1,1,1,1,1,1,0]) (p1 := [1,1,1,1,1,1,1,1,1,1,1,1,1,1,1]) (by kernel_rfl) ?_
      refine at_region (by kernel_rfl) sh_refl ?_
      refine chunk (s' := f15_s109 r15 r16 r17 r18 r20 r21 r22 r23 r24 r25 r26 r28 r29) 3 3 (by kernel_rfl) rfl ?_
      refine specP (s' := f15_s110 r15 r16 r17 r18 r20 r21 r22 r23 r24 r25 r26 r28 r29) 4 (by kernel_rfl) (pick_and (t := ((((r20.2 && ((r20.1.Mode == 1) && ((r20.1.Last == 0) && ((r20.1.Need == 8) && true)))) && (!r21.2)) && (!r22.2)) && ((r28.Mode == 0) && ((r28.Last == 0) && ((r28.Need == 63) && true))))) (x := (((((((r23.Ok && (r23.Text == [49,32,97])) && r29) && (r23.At == 4)) && (r24.At == 1)) && (!r24.Ok)) && (r25.At == 1)) && (!r25.Ok))) (y := false)) (by kernel_rfl) rfl ?_
      refine chunk (s' := f15_s111 r15 r16 r17 r18 r20 r21 r22 r23 r24 r25 r26 r28 r29) 3 7 (by kernel_rfl) rfl ?_
      obtain ⟨x19, h71, H⟩ := bind_some H
      refine specG (g := (((((r20.2 && ((r20.1.Mode == 1) && ((r20.1.Last == 0) && ((r20.1.Need == 8) && true)))) && (!r21.2)) && (!r22.2)) && ((r28.Mode == 0) && ((r28.Last == 0) && ((r28.Need == 63) && true)))) && (((((((r23.Ok && (r23.Text == [49,32,97])) && r29) && (r23.At == 4)) && (r24.At == 1)) && (!r24.Ok)) && (r25.At == 1)) && (!r25.Ok)))) (gs := [(((((r20.2 && ((r20.1.Mode == 1) && ((r20.1.Last == 0) && ((r20.1.Need == 8) && true)))) && (!r21.2)) && (!r22.2)) && ((r28.Mode == 0) && ((r28.Last == 0) && ((r28.Need == 63) && true)))) && (((((((r23.Ok && (r23.Text == [49,32,97])) && r29) && (r23.At == 4)) && (r24.At == 1)) && (!r24.Ok)) && (r25.At == 1)) && (!r25.Ok)))]) (s' := f15_s112 r15 r16 r17 r18 r20 r21 r22 r23 r24 r25 r26 r28 r29 x19) (v := .dptr (eGState x19) 0) (obs := []) 8 (by kernel_rfl) (by kernel_rfl) (fun hg => is_idxD (enc := eGState) (esz := 3) (eb := 24) (ez := [.int .i64 0, .int .i64 0, .int .u8 0]) (gimp h71 hg) (by kernel_rfl)) (by kernel_rfl) (impK (fun hh => hh) (impZ)) (by kernel_rfl) rfl ?_
      refine specG (g := (((((r20.2 && ((r20.1.Mode == 1) && ((r20.1.Last == 0) && ((r20.1.Need == 8) && true)))) && (!r21.2)) && (!r22.2)) && ((r28.Mode == 0) && ((r28.Last == 0) && ((r28.Need == 63) && true)))) && (((((((r23.Ok && (r23.Text == [49,32,97])) && r29) && (r23.At == 4)) && (r24.At == 1)) && (!r24.Ok)) && (r25.At == 1)) && (!r25.Ok)))) (gs := [(((((r20.2 && ((r20.1.Mode == 1) && ((r20.1.Last == 0) && ((r20.1.Need == 8) && true)))) && (!r21.2)) && (!r22.2)) && ((r28.Mode == 0) && ((r28.Last == 0) && ((r28.Need == 63) && true)))) && (((((((r23.Ok && (r23.Text == [49,32,97])) && r29) && (r23.At == 4)) && (r24.At == 1)) && (!r24.Ok)) && (r25.At == 1)) && (!r25.Ok)))]) (s' := f15_s113 r15 r16 r17 r18 r20 r21 r22 r23 r24 r25 r26 r28 r29 x19) (v := .agg [.d (.int .i64 x19.Mode), .d (.int .i64 x19.Last), .d (.int .u8 x19.Need)]) (obs := []) 9 (by kernel_rfl) rfl (fun hg => is_pl (by kernel_rfl)) (by kernel_rfl) (impK (fun hh => hh) (impZ)) (by kernel_rfl) rfl ?_
      obtain ⟨r30, h72, H⟩ := bind_some H
      refine callG (g := (((((r20.2 && ((r20.1.Mode == 1) && ((r20.1.Last == 0) && ((r20.1.Need == 8) && true)))) && (!r21.2)) && (!r22.2)) && ((r28.Mode == 0) && ((r28.Last == 0) && ((r28.Need == 63) && true)))) && (((((((r23.Ok && (r23.Text == [49,32,97])) && r29) && (r23.At == 4)) && (r24.At == 1)) && (!r24.Ok)) && (r25.At == 1)) && (!r25.Ok)))) (gs := [(((((r20.2 && ((r20.1.Mode == 1) && ((r20.1.Last == 0) && ((r20.1.Need == 8) && true)))) && (!r21.2)) && (!r22.2)) && ((r28.Mode == 0) && ((r28.Last == 0) && ((r28.Need == 63) && true)))) && (((((((r23.Ok && (r23.Text == [49,32,97])) && r29) && (r23.At == 4)) && (r24.At == 1)) && (!r24.Ok)) && (r25.At == 1)) && (!r25.Ok))), (((((r20.2 && ((r20.1.Mode == 1) && ((r20.1.Last == 0) && ((r20.1.Need == 8) && true)))) && (!r21.2)) && (!r22.2)) && ((r28.Mode == 0) && ((r28.Last == 0) && ((r28.Need == 63) && true)))) && (((((((r23.Ok && (r23.Text == [49,32,97])) && r29) && (r23.At == 4)) && (r24.At == 1)) && (!r24.Ok)) && (r25.At == 1)) && (!r25.Ok)))]) (s' := f15_s114 r15 r16 r17 r18 r20 r21 r22 r23 r24 r25 r26 r28 r29 x19 r30) (f := 19) (xs := [.agg [.d (.int .i64 2), .d (.int .u8 3), .d (.sl (List.map eGRule [r15, r16, r17, r18]))], .agg [.d (.int .i64 x19.Mode), .d (.int .i64 x19.Last), .d (.int .u8 x19.Need)]]) (ys := [.agg [.d (.int .i64 2), .d (.int .u8 3), .d (.sl (List.map eGRule [r15, r16, r17, r18]))], .agg [.d (.int .i64 x19.Mode), .d (.int .i64 x19.Last), .d (.int .u8 x19.Need)]]) (ks := []) (obl := []) (r := .d (.bool r30)) (ls := []) 10 false (by kernel_rfl) (by kernel_rfl) (leZ) rfl (fun hg => FAutomaton_Accepts_ok (gimp h72 hg)) (Or.inl rfl) (by kernel_rfl) (impK (fun hh => hh) (impK (fun hh => hh) (impZ))) rfl (by kernel_rfl) rfl ?_
      refine specP (s' := f15_s115 r15 r16 r17 r18 r20 r21 r22 r23 r24 r25 r26 r28 r29 x19 r30) 11 (by kernel_rfl) (pick_and (t := (((((r20.2 && ((r20.1.Mode == 1) && ((r20.1.Last == 0) && ((r20.1.Need == 8) && true)))) && (!r21.2)) && (!r22.2)) && ((r28.Mode == 0) && ((r28.Last == 0) && ((r28.Need == 63) && true)))) && (((((((r23.Ok && (r23.Text == [49,32,97])) && r29) && (r23.At == 4)) && (r24.At == 1)) && (!r24.Ok)) && (r25.At == 1)) && (!r25.Ok)))) (x := r30) (y := false)) (by kernel_rfl) rfl ?_
      refine chunk (s' := f15_s116 r15 r16 r17 r18 r20 r21 r22 r23 r24 r25 r26 r28 r29 x19 r30) 3 14 (by kernel_rfl) rfl ?_
      obtain ⟨r31, h73, H⟩ := bind_some H
      refine callG (g := ((((((r20.2 && ((r20.1.Mode == 1) && ((r20.1.Last == 0) && ((r20.1.Need == 8) && true)))) && (!r21.2)) && (!r22.2)) && ((r28.Mode == 0) && ((r28.Last == 0) && ((r28.Need == 63) && true)))) && (((((((r23.Ok && (r23.Text == [49,32,97])) && r29) && (r23.At == 4)) && (r24.At == 1)) && (!r24.Ok)) && (r25.At == 1)) && (!r25.Ok))) && r30)) (gs := [((((((r20.2 && ((r20.1.Mode == 1) && ((r20.1.Last == 0) && ((r20.1.Need == 8) && true)))) && (!r21.2)) && (!r22.2)) && ((r28.Mode == 0) && ((r28.Last == 0) && ((r28.Need == 63) && true)))) && (((((((r23.Ok && (r23.Text == [49,32,97])) && r29) && (r23.At == 4)) && (r24.At == 1)) && (!r24.Ok)) && (r25.At == 1)) && (!r25.Ok))) && r30), ((((((r20.2 && ((r20.1.Mode == 1) && ((r20.1.Last == 0) && ((r20.1.Need == 8) && true)))) && (!r21.2)) && (!r22.2)) && ((r28.Mode == 0) && ((r28.Last == 0) && ((r28.Need == 63) && true)))) && (((((((r23.Ok && (r23.Text == [49,32,97])) && r29) && (r23.At == 4)) && (r24.At == 1)) && (!r24.Ok)) && (r25.At == 1)) && (!r25.Ok))) && r30)]) (s' := f15_s117 r15 r16 r17 r18 r20 r21 r22 r23 r24 r25 r26 r28 r29 x19 r30 r31) (f := 19) (xs := [.agg [.d (.int .i64 2), .d (.int .u8 3), .d (.sl (List.map eGRule [r15, r16, r17, r18]))], .agg [.d (.int .i64 r20.1.Mode), .d (.int .i64 r20.1.Last), .d (.int .u8 r20.1.Need)]]) (ys := [.agg [.d (.int .i64 2), .d (.int .u8 3), .d (.sl (List.map eGRule [r15, r16, r17, r18]))], .agg [.d (.int .i64 r20.1.Mode), .d (.int .i64 r20.1.Last), .d (.int .u8 r20.1.Need)]]) (ks := []) (obl := []) (r := .d (.bool r31)) (ls := []) 15 false (by kernel_rfl) (by kernel_rfl) (leZ) rfl (fun hg => FAutomaton_Accepts_ok (gimp h73 hg)) (Or.inl rfl) (by kernel_rfl) (impK (fun hh => hh) (impK (fun hh => hh) (impZ))) rfl (by kernel_rfl) rfl ?_
      refine specG (g := ((((((r20.2 && ((r20.1.Mode == 1) && ((r20.1.Last == 0) && ((r20.1.Need == 8) && true)))) && (!r21.2)) && (!r22.2)) && ((r28.Mode == 0) && ((r28.Last == 0) && ((r28.Need == 63) && true)))) && (((((((r23.Ok && (r23.Text == [49,32,97])) && r29) && (r23.At == 4)) && (r24.At == 1)) && (!r24.Ok)) && (r25.At == 1)) && (!r25.Ok))) && r30)) (gs := [((((((r20.2 && ((r20.1.Mode == 1) && ((r20.1.Last == 0) && ((r20.1.Need == 8) && true)))) && (!r21.2)) && (!r22.2)) && ((r28.Mode == 0) && ((r28.Last == 0) && ((r28.Need == 63) && true)))) && (((((((r23.Ok && (r23.Text == [49,32,97])) && r29) && (r23.At == 4)) && (r24.At == 1)) && (!r24.Ok)) && (r25.At == 1)) && (!r25.Ok))) && r30)]) (s' := f15_s118 r15 r16 r17 r18 r20 r21 r22 r23 r24 r25 r26 r28 r29 x19 r30 r31) (v := .d (.bool (!r31))) (obs := []) 16 (by kernel_rfl) rfl (fun hg => is_pl (by kernel_rfl)) (by kernel_rfl) (impK (fun hh => hh) (impZ)) (by kernel_rfl) rfl ?_
      refine specP (s' := f15_s119 r15 r16 r17 r18 r20 r21 r22 r23 r24 r25 r26 r28 r29 x19 r30 r31) 17 (by kernel_rfl) (pick_and (t := ((((((r20.2 && ((r20.1.Mode == 1) && ((r20.1.Last == 0) && ((r20.1.Need == 8) && true)))) && (!r21.2)) && (!r22.2)) && ((r28.Mode == 0) && ((r28.Last == 0) && ((r28.Need == 63) && true)))) && (((((((r23.Ok && (r23.Text == [49,32,97])) && r29) && (r23.At == 4)) && (r24.At == 1)) && (!r24.Ok)) && (r25.At == 1)) && (!r25.Ok))) && r30)) (x := (!r31)) (y := false)) (by kernel_rfl) rfl ?_
      refine chunk (s' := f15_s120 r15 r16 r17 r18 r20 r21 r22 r23 r24 r25 r26 r28 r29 x19 r30 r31) 3 20 (by kernel_rfl) rfl ?_
      obtain ⟨r32, h74, H⟩ := bind_some H
      refine callG (g := (((((((r20.2 && ((r20.1.Mode == 1) && ((r20.1.Last == 0) && ((r20.1.Need == 8) && true)))) && (!r21.2)) && (!r22.2)) && ((r28.Mode == 0) && ((r28.Last == 0) && ((r28.Need == 63) && true)))) && (((((((r23.Ok && (r23.Text == [49,32,97])) && r29) && (r23.At == 4)) && (r24.At == 1)) && (!r24.Ok)) && (r25.At == 1)) && (!r25.Ok))) && r30) && (!r31))) (gs := [(((((((r20.2 && ((r20.1.Mode == 1) && ((r20.1.Last == 0) && ((r20.1.Need == 8) && true)))) && (!r21.2)) && (!r22.2)) && ((r28.Mode == 0) && ((r28.Last == 0) && ((r28.Need == 63) && true)))) && (((((((r23.Ok && (r23.Text == [49,32,97])) && r29) && (r23.At == 4)) && (r24.At == 1)) && (!r24.Ok)) && (r25.At == 1)) && (!r25.Ok))) && r30) && (!r31)), (((((((r20.2 && ((r20.1.Mode == 1) && ((r20.1.Last == 0) && ((r20.1.Need == 8) && true)))) && (!r21.2)) && (!r22.2)) && ((r28.Mode == 0) && ((r28.Last == 0) && ((r28.Need == 63) && true)))) && (((((((r23.Ok && (r23.Text == [49,32,97])) && r29) && (r23.At == 4)) && (r24.At == 1)) && (!r24.Ok)) && (r25.At == 1)) && (!r25.Ok))) && r30) && (!r31))]) (s' := f15_s121 r15 r16 r17 r18 r20 r21 r22 r23 r24 r25 r26 r28 r29 x19 r30 r31 r32) (f := 19) (xs := [.agg [.d (.int .i64 2), .d (.int .u8 3), .d (.sl (List.map eGRule [r15, r16, r17, r18]))], .agg [.d (.int .i64 2), .d (.int .i64 0), .d (.int .u8 63)]]) (ys := [.agg [.d (.int .i64 2), .d (.int .u8 3), .d (.sl (List.map eGRule [r15, r16, r17, r18]))], .agg [.d (.int .i64 2), .d (.int .i64 0), .d (.int .u8 63)]]) (ks := []) (obl := []) (r := .d (.bool r32)) (ls := []) 21 false (by kernel_rfl) (by kernel_rfl) (leZ) rfl (fun hg => FAutomaton_Accepts_ok (gimp h74 hg)) (Or.inl rfl) (by kernel_rfl) (impK (fun hh => hh) (impK (fun hh => hh) (impZ))) rfl (by kernel_rfl) rfl ?_
      refine specG (g := (((((((r20.2 && ((r20.1.Mode == 1) && ((r20.1.Last == 0) && ((r20.1.Need == 8) && true)))) && (!r21.2)) && (!r22.2)) && ((r28.Mode == 0) && ((r28.Last == 0) && ((r28.Need == 63) && true)))) && (((((((r23.Ok && (r23.Text == [49,32,97])) && r29) && (r23.At == 4)) && (r24.At == 1)) && (!r24.Ok)) && (r25.At == 1)) && (!r25.Ok))) && r30) && (!r31))) (gs := [(((((((r20.2 && ((r20.1.Mode == 1) && ((r20.1.Last == 0) && ((r20.1.Need == 8) && true)))) && (!r21.2)) && (!r22.2)) && ((r28.Mode == 0) && ((r28.Last == 0) && ((r28.Need == 63) && true)))) && (((((((r23.Ok && (r23.Text == [49,32,97])) && r29) && (r23.At == 4)) && (r24.At == 1)) && (!r24.Ok)) && (r25.At == 1)) && (!r25.Ok))) && r30) && (!r31))]) (s' := f15_s122 r15 r16 r17 r18 r20 r21 r22 r23 r24 r25 r26 r28 r29 x19 r30 r31 r32) (v := .d (.bool (!r32))) (obs := []) 22 (by kernel_rfl) rfl (fun hg => is_pl (by kernel_rfl)) (by kernel_rfl) (impK (fun hh => hh) (impZ)) (by kernel_rfl) rfl ?_
      refine specP (s' := f15_s123 r15 r16 r17 r18 r20 r21 r22 r23 r24 r25 r26 r28 r29 x19 r30 r31 r32) 23 (by kernel_rfl) (pick_and (t := (((((((r20.2 && ((r20.1.Mode == 1) && ((r20.1.Last == 0) && ((r20.1.Need == 8) && true)))) && (!r21.2)) && (!r22.2)) && ((r28.Mode == 0) && ((r28.Last == 0) && ((r28.Need == 63) && true)))) && (((((((r23.Ok && (r23.Text == [49,32,97])) && r29) && (r23.At == 4)) && (r24.At == 1)) && (!r24.Ok)) && (r25.At == 1)) && (!r25.Ok))) && r30) && (!r31))) (x := (!r32)) (y := false)) (by kernel_rfl) rfl ?_
      refine chunk (s' := f15_s124 r15 r16 r17 r18 r20 r21 r22 r23 r24 r25 r26 r28 r29 x19 r30 r31 r32) 1 24 (by kernel_rfl) rfl ?_
      refine at_end 24 (by kernel_rfl) ?_
      refine q_seq sh_refl ?_
      refine at_ret (by kernel_rfl) ?_
      have hz := Option.some.inj H
      subst hz
      exact post_ret (ret1 (v := .d (.bool ((((((((r20.2 && ((r20.1.Mode == 1) && ((r20.1.Last == 0) && ((r20.1.Need == 8) && true)))) && (!r21.2)) && (!r22.2)) && ((r28.Mode == 0) && ((r28.Last == 0) && ((r28.Need == 63) && true)))) && (((((((r23.Ok && (r23.Text == [49,32,97])) && r29) && (r23.At == 4)) && (r24.At == 1)) && (!r24.Ok)) && (r25.At == 1)) && (!r25.Ok))) && r30) && (!r31)) && (!r32)))) (r := .d (.bool ((((((((r20.2 && ((r20.1.Mode == 1) && ((r20.1.Last == 0) && ((r20.1.Need == 8) && true)))) && (!r21.2)) && (!r22.2)) && ((r28.Mode == 0) && ((r28.Last == 0) && ((r28.Need == 63) && true)))) && (((((((r23.Ok && (r23.Text == [49,32,97])) && r29) && (r23.At == 4)) && (r24.At == 1)) && (!r24.Ok)) && (r25.At == 1)) && (!r25.Ok))) && r30) && (!r31)) && (!r32)))) [] (by kernel_rfl) (outA_d (outV_d)) (by kernel_rfl) (by decide))
    · refine at_loop (p0 := [1,1,1,1,1,1,1,1,1,1,1,0,1,0,0]) (fun (x : Int) => f15_s47 r15 r16 r17 r18 r20 r21 r22 r23 r24 r25 r26 r27 x) (f15_L1_E r15 r16 r17 r18 r20 r21 r22 r23 r24 r25 r26 r27) (by kernel_rfl) h68 (sh_gc [1,2,3,5,7,8,9,10,11,12,13,14] (by kernel_rfl)) (fun x z => f15_L1_ok x z) ?_
      intro e s hE10
      obtain ⟨rfl, hE10⟩ := hE10
      refine q_blockR ?_
      refine q_seqR ?_
      have hz := Option.some.inj H
      subst hz
      exact post_ret hE10
end
end Go.AI
end
section
namespace Go.AI
open Go.Proofs
set_option maxRecDepth 10000
section
variable (p0_ : (List UInt8)) (p1_ : (List Int)) (p2_ : (Arr2 Int))
def f68_s1 : St := ⟨(0, .d (.str p0_)) :: (1, .d (.sl (List.map eU8 p1_))) :: (2, .agg [.d (.int .i64 p2_.a0), .d (.int .i64 p2_.a1)]) :: [], []⟩
def f68_s2 : St := po (f68_s1 p0_ p1_ p2_) [(6, .ptr 1 0), (5, .ptr 0 0)] fun _ => [some (.box [.d (.int .i64 p2_.a0), .d (.int .i64 p2_.a1)]), some (.box [.d (.str []), .d (.nil), .d (.int .u8 0), .d (.int .u8 0), .d (.int .i64 0), .d (.int .i64 0)])]
def f68_s3 : St := po (f68_s2 p0_ p1_ p2_) [(13, .agg [.d (.str p0_), .d (.sl (List.map eU8 p1_)), .d (.int .u8 63), .d (.int .u8 63), .d (.int .i64 p2_.a0), .d (.int .i64 p2_.a1)]), (12, .d (.int .i64 p2_.a1)), (11, .ptr 0 1), (10, .d (.int .i64 p2_.a0)), (9, .ptr 0 0), (8, .d (.sl (List.map eU8 p1_))), (7, .d (.str p0_))] fun o => o.set 1 (some (.box [.d (.str p0_), .d (.sl (List.map eU8 p1_)), .d (.int .u8 63), .d (.int .u8 63), .d (.int .i64 p2_.a0), .d (.int .i64 p2_.a1)]))
theorem FSixdotref02_simple_ok {n : Nat} {p0_ : (List UInt8)} {p1_ : (List Int)} {p2_ : (Arr2 Int)} {z : GRule} (H : FSixdotref02_simple n p0_ p1_ p2_ = some z) : CallOK Try.prog 68 [.d (.str p0_), .d (.sl (List.map eU8 p1_)), .agg [.d (.int .i64 p2_.a0), .d (.int .i64 p2_.a1)]] (.agg [.d (.str z.Print), .d (.sl (List.map eU8 z.Cells)), .d (.int .u8 z.Left), .d (.int .u8 z.Right), .d (.int .i64 z.From), .d (.int .i64 z.To)]) := by
  dsimp only [FSixdotref02_simple] at H
  refine fn_ok (Γ := cx 14) (s := f68_s1 p0_ p1_ p2_) follows (cxOK 14) Try.func68 (by kernel_rfl) (by kernel_rfl) (by kernel_rfl) (by kernel_rfl) (by kernel_rfl) (by kernel_rfl) ?_
  refine at_seq (p0 := [0]) (p1 := [1]) (by kernel_rfl) ?_
  refine at_region (by kernel_rfl) sh_refl ?_
  refine chunk (s' := f68_s2 p0_ p1_ p2_) 2 2 (by kernel_rfl) rfl ?_
  refine at_end 2 (by kernel_rfl) ?_
  refine q_seq sh_refl ?_
  refine at_seq (p0 := [1,0]) (p1 := [1,1]) (by kernel_rfl) ?_
  refine at_region (by kernel_rfl) sh_refl ?_
  refine chunk (s' := f68_s3 p0_ p1_ p2_) 8 8 (by kernel_rfl) rfl ?_
  refine at_end 8 (by kernel_rfl) ?_
  refine q_seq sh_refl ?_
  refine at_ret (by kernel_rfl) ?_
  have hz := Option.some.inj H
  subst hz
  exact post_ret (ret1 (v := .agg [.d (.str p0_), .d (.sl (List.map eU8 p1_)), .d (.int .u8 63), .d (.int .u8 63), .d (.int .i64 p2_.a0), .d (.int .i64 p2_.a1)]) (r := .agg [.d (.str (({ Print := p0_, Cells := p1_, Left := 63, Right := 63, From := p2_.a0, To := p2_.a1 } : GRule).Print)), .d (.sl (List.map eU8 (({ Print := p0_, Cells := p1_, Left := 63, Right := 63, From := p2_.a0, To := p2_.a1 } : GRule).Cells))), .d (.int .u8 (({ Print := p0_, Cells := p1_, Left := 63, Right := 63, From := p2_.a0, To := p2_.a1 } : GRule).Left)), .d (.int .u8 (({ Print := p0_, Cells := p1_, Left := 63, Right := 63, From := p2_.a0, To := p2_.a1 } : GRule).Right)), .d (.int .i64 (({ Print := p0_, Cells := p1_, Left := 63, Right := 63, From := p2_.a0, To := p2_.a1 } : GRule).From)), .d (.int .i64 (({ Print := p0_, Cells := p1_, Left := 63, Right := 63, From := p2_.a0, To := p2_.a1 } : GRule).To))]) [] (by kernel_rfl) (outA_agg (outC_cons (outV_d) (outC_cons (outV_d) (outC_cons (outV_d) (outC_cons (outV_d) (outC_cons (outV_d) (outC_cons (outV_d) (outC_nil)))))))) (by kernel_rfl) (by decide))
end
def f66_s0 : St := ⟨[], []⟩
def f66_s1  : St := po (f66_s0) [(0, .d (.nil))] fun _ => []
def f66_s2  : St := po (f66_s1) [(1, .ptr 0 0), (2, .agg [.d (.int .i64 0), .d (.int .i64 0)])] fun _ => [some (.box [.d (.int .i64 0), .d (.int .i64 0)])]
def f66_s3  : St := pe (f66_s2) [(3, .d (.sl (List.map eU8 [1])))]
def f66_s4  : St := pe (f66_s3) [(4, .agg [.d (.int .i64 0), .d (.int .i64 0)])]
section
variable (r33 : GRule)
def f66_s5 : St := pe (f66_s4) [(5, .agg [.d (.str r33.Print), .d (.sl (List.map eU8 r33.Cells)), .d (.int .u8 r33.Left), .d (.int .u8 r33.Right), .d (.int .i64 r33.From), .d (.int .i64 r33.To)])]
def f66_s6 : St := pe (f66_s5 r33) [(6, .d (.sl (List.map eU8 [3])))]
def f66_s7 : St := pe (f66_s6 r33) [(7, .agg [.d (.int .i64 0), .d (.int .i64 0)])]
variable (r34 : GRule)
def f66_s8 : St := pe (f66_s7 r33) [(8, .agg [.d (.str r34.Print), .d (.sl (List.map eU8 r34.Cells)), .d (.int .u8 r34.Left), .d (.int .u8 r34.Right), .d (.int .i64 r34.From), .d (.int .i64 r34.To)])]
def f66_s9 : St := pe (f66_s8 r33 r34) [(9, .d (.sl (List.map eU8 [9])))]
def f66_s10 : St := pe (f66_s9 r33 r34) [(10, .agg [.d (.int .i64 0), .d (.int .i64 0)])]
variable (r35 : GRule)
def f66_s11 : St := pe (f66_s10 r33 r34) [(11, .agg [.d (.str r35.Print), .d (.sl (List.map eU8 r35.Cells)), .d (.int .u8 r35.Left), .d (.int .u8 r35.Right), .d (.int .i64 r35.From), .d (.int .i64 r35.To)])]
def f66_s12 : St := pe (f66_s11 r33 r34 r35) [(12, .d (.sl (List.map eU8 [0])))]
def f66_s13 : St := pe (f66_s12 r33 r34 r35) [(13, .agg [.d (.int .i64 0), .d (.int .i64 0)])]
variable (r36 : GRule)
def f66_s14 : St := pe (f66_s13 r33 r34 r35) [(14, .agg [.d (.str r36.Print), .d (.sl (List.map eU8 r36.Cells)), .d (.int .u8 r36.Left), .d (.int .u8 r36.Right), .d (.int .i64 r36.From), .d (.int .i64 r36.To)])]
def f66_s15 : St := po (f66_s14 r33 r34 r35 r36) [(0, .osl 1 6 0 (List.length [r33, r34, r35, r36])), (15, .osl 1 6 0 (List.length [r33, r34, r35, r36]))] fun o => o ++ [some (.arr 6 (List.map eGRule [r33, r34, r35, r36]))]
theorem FSixdotref02_letters_ok {n : Nat}  {z : (List GRule)} (H : FSixdotref02_letters n = some z) : CallOK Try.prog 66 [] (.own 6 (List.map eGRule z)) := by
  dsimp only [FSixdotref02_letters] at H
  refine fn_ok (Γ := cx 16) (s := f66_s0) follows (cxOK 16) Try.func66 (by kernel_rfl) (by kernel_rfl) (by kernel_rfl) (by kernel_rfl) (by kernel_rfl) (by kernel_rfl) ?_
  refine at_seq (p0 := [0]) (p1 := [1]) (by kernel_rfl) ?_
  refine at_region (by kernel_rfl) sh_refl ?_
  refine chunk (s' := f66_s1) 1 1 (by kernel_rfl) rfl ?_
  refine at_end 1 (by kernel_rfl) ?_
  refine q_seq sh_refl ?_
  refine at_seq (p0 := [1,0]) (p1 := [1,1]) (by kernel_rfl) ?_
  refine at_region (by kernel_rfl) sh_refl ?_
  refine chunk (s' := f66_s2) 3 3 (by kernel_rfl) rfl ?_
  refine at_end 3 (by kernel_rfl) ?_
  refine q_seq sh_refl ?_
  refine at_seq (p0 := [1,1,0]) (p1 := [1,1,1]) (by kernel_rfl) ?_
  refine at_region (by kernel_rfl) sh_refl ?_
  refine specF (s' := f66_s3) 1 (List.map eU8 [1]) (by kernel_rfl) (by kernel_rfl) rfl ?_
  refine chunk (s' := f66_s4) 1 2 (by kernel_rfl) rfl ?_
  obtain ⟨r33, h75, H⟩ := bind_some H
  refine callS (s' := f66_s5 r33) (f := 68) (xs := [.d (.str [97]), .d (.sl (List.map eU8 [1])), .agg [.d (.int .i64 0), .d (.int .i64 0)]]) (ys := [.d (.str [97]), .d (.sl (List.map eU8 [1])), .agg [.d (.int .i64 0), .d (.int .i64 0)]]) (ks := []) (obl := []) (r := .agg [.d (.str r33.Print), .d (.sl (List.map eU8 r33.Cells)), .d (.int .u8 r33.Left), .d (.int .u8 r33.Right), .d (.int .i64 r33.From), .d (.int .i64 r33.To)]) (ls := []) 3 false (by kernel_rfl) (leZ) rfl (FSixdotref02_simple_ok h75) (Or.inl rfl) rfl (by kernel_rfl) rfl ?_
  refine specF (s' := f66_s6 r33) 4 (List.map eU8 [3]) (by kernel_rfl) (by kernel_rfl) rfl ?_
  refine chunk (s' := f66_s7 r33) 1 5 (by kernel_rfl) rfl ?_
  obtain ⟨r34, h76, H⟩ := bind_some H
  refine callS (s' := f66_s8 r33 r34) (f := 68) (xs := [.d (.str [98]), .d (.sl (List.map eU8 [3])), .agg [.d (.int .i64 0), .d (.int .i64 0)]]) (ys := [.d (.str [98]), .d (.sl (List.map eU8 [3])), .agg [.d (.int .i64 0), .d (.int .i64 0)]]) (ks := []) (obl := []) (r := .agg [.d (.str r34.Print), .d (.sl (List.map eU8 r34.Cells)), .d (.int .u8 r34.Left), .d (.int .u8 r34.Right), .d (.int .i64 r34.From), .d (.int .i64 r34.To)]) (ls := []) 6 false (by kernel_rfl) (leZ) rfl (FSixdotref02_simple_ok h76) (Or.inl rfl) rfl (by kernel_rfl) rfl ?_
  refine specF (s' := f66_s9 r33 r34) 7 (List.map eU8 [9]) (by kernel_rfl) (by kernel_rfl) rfl ?_
  refine chunk (s' := f66_s10 r33 r34) 1 8 (by kernel_rfl) rfl ?_
  obtain ⟨r35, h77, H⟩ := bind_some H
  refine callS (s' := f66_s11 r33 r34 r35) (f := 68) (xs := [.d (.str [99]), .d (.sl (List.map eU8 [9])), .agg [.d (.int .i64 0), .d (.int .i64 0)]]) (ys := [.d (.str [99]), .d (.sl (List.map eU8 [9])), .agg [.d (.int .i64 0), .d (.int .i64 0)]]) (ks := []) (obl := []) (r := .agg [.d (.str r35.Print), .d (.sl (List.map eU8 r35.Cells)), .d (.int .u8 r35.Left), .d (.int .u8 r35.Right), .d (.int .i64 r35.From), .d (.int .i64 r35.To)]) (ls := []) 9 false (by kernel_rfl) (leZ) rfl (FSixdotref02_simple_ok h77) (Or.inl rfl) rfl (by kernel_rfl) rfl ?_
  refine specF (s' := f66_s12 r33 r34 r35) 10 (List.map eU8 [0]) (by kernel_rfl) (by kernel_rfl) rfl ?_
  refine chunk (s' := f66_s13 r33 r34 r35) 1 11 (by kernel_rfl) rfl ?_
  obtain ⟨r36, h78, H⟩ := bind_some H
  refine callS (s' := f66_s14 r33 r34 r35 r36) (f := 68) (xs := [.d (.str [32]), .d (.sl (List.map eU8 [0])), .agg [.d (.int .i64 0), .d (.int .i64 0)]]) (ys := [.d (.str [32]), .d (.sl (List.map eU8 [0])), .agg [.d (.int .i64 0), .d (.int .i64 0)]]) (ks := []) (obl := []) (r := .agg [.d (.str r36.Print), .d (.sl (List.map eU8 r36.Cells)), .d (.int .u8 r36.Left), .d (.int .u8 r36.Right), .d (.int .i64 r36.From), .d (.int .i64 r36.To)]) (ls := []) 12 false (by kernel_rfl) (leZ) rfl (FSixdotref02_simple_ok h78) (Or.inl rfl) rfl (by kernel_rfl) rfl ?_
  refine chunk (s' := f66_s15 r33 r34 r35 r36) 2 14 (by kernel_rfl) rfl ?_
  refine at_end 14 (by kernel_rfl) ?_
  refine q_seq sh_refl ?_
  refine at_ret (by kernel_rfl) ?_
  have hz := Option.some.inj H
  subst hz
  exact post_ret (ret1 (v := .osl 1 6 0 (List.length [r33, r34, r35, r36])) (r := .own 6 (List.map eGRule [r33, r34, r35, r36])) [1] (by kernel_rfl) (outA_o (outV_own (by kernel_rfl))) (by kernel_rfl) (by decide))
end
section
variable (p0_ : Int) (p1_ : Int) (p2_ : (Arr2 Int))
def f67_s1 : St := ⟨(0, .d (.int .u8 p0_)) :: (1, .d (.int .i64 p1_)) :: (2, .agg [.d (.int .i64 p2_.a0), .d (.int .i64 p2_.a1)]) :: [], []⟩
def f67_s2 : St := po (f67_s1 p0_ p1_ p2_) [(6, .ptr 1 0), (5, .ptr 0 0)] fun _ => [some (.box [.d (.int .i64 p2_.a0), .d (.int .i64 p2_.a1)]), some (.box [.d (.str []), .d (.nil), .d (.int .u8 0), .d (.int .u8 0), .d (.int .i64 0), .d (.int .i64 0)])]
def f67_s3 : St := pe (f67_s2 p0_ p1_ p2_) [(8, .d (.int .u8 p0_))]
def f67_s4 : St := pe (f67_s3 p0_ p1_ p2_) [(9, .d (.sl (List.map eU8 [p0_])))]
def f67_s5 : St := pe (f67_s4 p0_ p1_ p2_) [(10, .agg [.d (.int .i64 p2_.a0), .d (.int .i64 p2_.a1)])]
variable (r37 : GRule)
def f67_s6 : St := pe (f67_s5 p0_ p1_ p2_) [(11, .agg [.d (.str r37.Print), .d (.sl (List.map eU8 r37.Cells)), .d (.int .u8 r37.Left), .d (.int .u8 r37.Right), .d (.int .i64 r37.From), .d (.int .i64 r37.To)])]
def f67_s7 : St := po (f67_s6 p0_ p1_ p2_ r37) [(7, .ptr 2 0)] fun o => o ++ [some (.box [.d (.str r37.Print), .d (.sl (List.map eU8 r37.Cells)), .d (.int .u8 r37.Left), .d (.int .u8 r37.Right), .d (.int .i64 r37.From), .d (.int .i64 r37.To)])]
def f67_s8 : St := pe (f67_s7 p0_ p1_ p2_ r37) [(12, .d (.int .i64 p1_))]
def f67_s9 : St := pe (f67_s8 p0_ p1_ p2_ r37) [(13, .d (.int .u8 (ishl .u8 1 p1_)))]
def f67_s10 : St := po (f67_s9 p0_ p1_ p2_ r37) [(14, .ptr 2 3)] fun o => o.set 2 (some (.box [.d (.str r37.Print), .d (.sl (List.map eU8 r37.Cells)), .d (.int .u8 r37.Left), .d (.int .u8 (ishl .u8 1 p1_)), .d (.int .i64 r37.From), .d (.int .i64 r37.To)]))
def f67_s11 : St := po (f67_s10 p0_ p1_ p2_ r37) [(15, .agg [.d (.str r37.Print), .d (.sl (List.map eU8 r37.Cells)), .d (.int .u8 r37.Left), .d (.int .u8 (ishl .u8 1 p1_)), .d (.int .i64 r37.From), .d (.int .i64 r37.To)])] fun o => o.set 1 (some (.box [.d (.str r37.Print), .d (.sl (List.map eU8 r37.Cells)), .d (.int .u8 r37.Left), .d (.int .u8 (ishl .u8 1 p1_)), .d (.int .i64 r37.From), .d (.int .i64 r37.To)]))
theorem FSixdotref02_indicator_ok {n : Nat} {p0_ : Int} {p1_ : Int} {p2_ : (Arr2 Int)} {z : GRule} (H : FSixdotref02_indicator n p0_ p1_ p2_ = some z) : CallOK Try.prog 67 [.d (.int .u8 p0_), .d (.int .i64 p1_), .agg [.d (.int .i64 p2_.a0), .d (.int .i64 p2_.a1)]] (.agg [.d (.str z.Print), .d (.sl (List.map eU8 z.Cells)), .d (.int .u8 z.Left), .d (.int .u8 z.Right), .d (.int .i64 z.From), .d (.int .i64 z.To)]) := by
  dsimp only [FSixdotref02_indicator] at H
  refine fn_ok (Γ := cx 16) (s := f67_s1 p0_ p1_ p2_) follows (cxOK 16) Try.func67 (by kernel_rfl) (by kernel_rfl) (by kernel_rfl) (by kernel_rfl) (by kernel_rfl) (by kernel_rfl) ?_
  refine at_seq (p0 := [0]) (p1 := [1]) (by kernel_rfl) ?_
  refine at_region (by kernel_rfl) sh_refl ?_
  refine chunk (s' := f67_s2 p0_ p1_ p2_) 2 2 (by kernel_rfl) rfl ?_
  refine at_end 2 (by kernel_rfl) ?_
  refine q_seq sh_refl ?_
  refine at_seq (p0 := [1,0]) (p1 := [1,1]) (by kernel_rfl) ?_
  refine at_region (by kernel_rfl) sh_refl ?_
  refine chunk (s' := f67_s3 p0_ p1_ p2_) 1 1 (by kernel_rfl) rfl ?_
  refine specF (s' := f67_s4 p0_ p1_ p2_) 2 (List.map eU8 [p0_]) (by kernel_rfl) (by kernel_rfl) rfl ?_
  refine chunk (s' := f67_s5 p0_ p1_ p2_) 1 3 (by kernel_rfl) rfl ?_
  obtain ⟨r37, h79, H⟩ := bind_some H
  refine callS (s' := f67_s6 p0_ p1_ p2_ r37) (f := 68) (xs := [.d (.str []), .d (.sl (List.map eU8 [p0_])), .agg [.d (.int .i64 p2_.a0), .d (.int .i64 p2_.a1)]]) (ys := [.d (.str []), .d (.sl (List.map eU8 [p0_])), .agg [.d (.int .i64 p2_.a0), .d (.int .i64 p2_.a1)]]) (ks := []) (obl := []) (r := .agg [.d (.str r37.Print), .d (.sl (List.map eU8 r37.Cells)), .d (.int .u8 r37.Left), .d (.int .u8 r37.Right), .d (.int .i64 r37.From), .d (.int .i64 r37.To)]) (ls := []) 4 false (by kernel_rfl) (leZ) rfl (FSixdotref02_simple_ok h79) (Or.inl rfl) rfl (by kernel_rfl) rfl ?_
  refine chunk (s' := f67_s7 p0_ p1_ p2_ r37) 2 6 (by kernel_rfl) rfl ?_
  refine at_end 6 (by kernel_rfl) ?_
  refine q_seq sh_refl ?_
  refine at_seq (p0 := [1,1,0]) (p1 := [1,1,1]) (by kernel_rfl) ?_
  refine at_region (by kernel_rfl) sh_refl ?_
  refine chunk (s' := f67_s8 p0_ p1_ p2_ r37) 1 1 (by kernel_rfl) rfl ?_
  obtain ⟨u2, h80, H⟩ := bind_some H
  refine spec (s' := f67_s9 p0_ p1_ p2_ r37) (v := .d (.int .u8 (ishl .u8 1 p1_))) (obs := []) (rm := []) (upd := none) 2 (by kernel_rfl) (is_ob (v := .d (.int .u8 (ishl .u8 1 p1_))) (guard_ge h80)) (by kernel_rfl) rfl ?_
  refine chunk (s' := f67_s10 p0_ p1_ p2_ r37) 2 4 (by kernel_rfl) rfl ?_
  refine at_end 4 (by kernel_rfl) ?_
  refine q_seq sh_refl ?_
  refine at_seq (p0 := [1,1,1,0]) (p1 := [1,1,1,1]) (by kernel_rfl) ?_
  refine at_region (by kernel_rfl) sh_refl ?_
  refine chunk (s' := f67_s11 p0_ p1_ p2_ r37) 2 2 (by kernel_rfl) rfl ?_
  refine at_end 2 (by kernel_rfl) ?_
  refine q_seq sh_refl ?_
  refine at_ret (by kernel_rfl) ?_
  have hz := Option.some.inj H
  subst hz
  exact post_ret (ret1 (v := .agg [.d (.str r37.Print), .d (.sl (List.map eU8 r37.Cells)), .d (.int .u8 r37.Left), .d (.int .u8 (ishl .u8 1 p1_)), .d (.int .i64 r37.From), .d (.int .i64 r37.To)]) (r := .agg [.d (.str (({ Print := r37.Print, Cells := r37.Cells, Left := r37.Left, Right := ishl .u8 1 p1_, From := r37.From, To := r37.To } : GRule).Print)), .d (.sl (List.map eU8 (({ Print := r37.Print, Cells := r37.Cells, Left := r37.Left, Right := ishl .u8 1 p1_, From := r37.From, To := r37.To } : GRule).Cells))), .d (.int .u8 (({ Print := r37.Print, Cells := r37.Cells, Left := r37.Left, Right := ishl .u8 1 p1_, From := r37.From, To := r37.To } : GRule).Left)), .d (.int .u8 (({ Print := r37.Print, Cells := r37.Cells, Left := r37.Left, Right := ishl .u8 1 p1_, From := r37.From, To := r37.To } : GRule).Right)), .d (.int .i64 (({ Print := r37.Print, Cells := r37.Cells, Left := r37.Left, Right := ishl .u8 1 p1_, From := r37.From, To := r37.To } : GRule).From)), .d (.int .i64 (({ Print := r37.Print, Cells := r37.Cells, Left := r37.Left, Right := ishl .u8 1 p1_, From := r37.From, To := r37.To } : GRule).To))]) [] (by kernel_rfl) (outA_agg (outC_cons (outV_d) (outC_cons (outV_d) (outC_cons (outV_d) (outC_cons (outV_d) (outC_cons (outV_d) (outC_cons (outV_d) (outC_nil)))))))) (by kernel_rfl) (by decide))
end
section
variable (p0_ : Int)
def f50_s1 : St := ⟨(0, .d (.int .u8 p0_)) :: [], []⟩
def f50_s2 : St := po (f50_s1 p0_) [(2, .ptr 0 0)] fun _ => [some (.box [.d (.int .i64 0), .d (.int .u8 0), .d (.nil)])]
variable (r38 : (List GRule))
def f50_s3 : St := po (f50_s2 p0_) [(10, .osl 1 6 0 (List.length r38))] fun o => o ++ [some (.arr 6 (List.map eGRule r38))]
def f50_s4 : St := po (f50_s3 p0_ r38) [(3, .osl 1 6 0 (List.length r38)), (7, .ptr 5 0), (6, .ptr 4 0), (5, .ptr 3 0), (4, .ptr 2 0), (14, .agg [.d (.int .i64 1), .d (.int .i64 0)]), (13, .agg [.d (.int .i64 1), .d (.int .i64 1)]), (12, .agg [.d (.int .i64 0), .d (.int .i64 1)]), (11, .agg [.d (.int .i64 0), .d (.int .i64 0)])] fun o => o ++ [some (.box [.d (.int .i64 0), .d (.int .i64 0)]), some (.box [.d (.int .i64 0), .d (.int .i64 1)]), some (.box [.d (.int .i64 1), .d (.int .i64 1)]), some (.box [.d (.int .i64 1), .d (.int .i64 0)])]
variable (l_1 : (List GRule))
def f50_s5 : St := ⟨(2, .ptr 0 0) :: (3, .osl 1 6 0 (List.length l_1)) :: [], [some (.box [.d (.int .i64 0), .d (.int .u8 0), .osl 2 6 0 (List.length ([] : List GRule))]), some (.arr 6 (List.map eGRule l_1)), some (.arr 6 (List.map eGRule ([] : List GRule)))]⟩
def f50_s6 : St := po (f50_s5 l_1) [(120, .agg [.d (.int .i64 1), .d (.int .u8 1), .osl 1 6 0 (List.length l_1)]), (119, .osl 1 6 0 (List.length l_1))] fun o => o.set 0 (some (.box [.d (.int .i64 1), .d (.int .u8 1), .osl 1 6 0 (List.length l_1)]))
def f50_s7 : St := pe (f50_s4 p0_ r38) [(16, .d (.int .u8 (irem p0_ 8))), (15, .d (.int .u8 p0_))]
def f50_s8 : St := pe (f50_s7 p0_ r38) [(17, .d (.bool ((irem p0_ 8) == 1))), (18, .d (.bool ((irem p0_ 8) == 1)))]
def f50_s9 : St := pe (f50_s8 p0_ r38) [(20, .agg [.d (.int .i64 0), .d (.int .i64 1)]), (19, .osl 1 6 0 (List.length r38))]
variable (r39 : GRule)
def f50_s10 : St := pe (f50_s9 p0_ r38) [(21, .agg [.d (.str r39.Print), .d (.sl (List.map eU8 r39.Cells)), .d (.int .u8 r39.Left), .d (.int .u8 r39.Right), .d (.int .i64 r39.From), .d (.int .i64 r39.To)])]
def f50_s11 : St := pe (f50_s10 p0_ r38 r39) [(22, .d (.sl (List.map eU8 [1])))]
def f50_s12 : St := pe (f50_s11 p0_ r38 r39) [(23, .agg [.d (.int .i64 1), .d (.int .i64 1)])]
variable (r40 : GRule)
def f50_s13 : St := pe (f50_s12 p0_ r38 r39) [(24, .agg [.d (.str r40.Print), .d (.sl (List.map eU8 r40.Cells)), .d (.int .u8 r40.Left), .d (.int .u8 r40.Right), .d (.int .i64 r40.From), .d (.int .i64 r40.To)])]
def f50_s14 : St := pe (f50_s13 p0_ r38 r39 r40) [(25, .d (.sl (List.map eU8 [3])))]
def f50_s15 : St := pe (f50_s14 p0_ r38 r39 r40) [(26, .agg [.d (.int .i64 1), .d (.int .i64 1)])]
variable (r41 : GRule)
def f50_s16 : St := pe (f50_s15 p0_ r38 r39 r40) [(27, .agg [.d (.str r41.Print), .d (.sl (List.map eU8 r41.Cells)), .d (.int .u8 r41.Left), .d (.int .u8 r41.Right), .d (.int .i64 r41.From), .d (.int .i64 r41.To)])]
def f50_s17 : St := pe (f50_s16 p0_ r38 r39 r40 r41) [(28, .d (.sl (List.map eU8 [0])))]
def f50_s18 : St := pe (f50_s17 p0_ r38 r39 r40 r41) [(29, .agg [.d (.int .i64 1), .d (.int .i64 0)])]
variable (r42 : GRule)
def f50_s19 : St := pe (f50_s18 p0_ r38 r39 r40 r41) [(30, .agg [.d (.str r42.Print), .d (.sl (List.map eU8 r42.Cells)), .d (.int .u8 r42.Left), .d (.int .u8 r42.Right), .d (.int .i64 r42.From), .d (.int .i64 r42.To)])]
def f50_s20 : St := po (f50_s19 p0_ r38 r39 r40 r41 r42) [(31, .osl 6 6 0 (List.length [r39, r40, r41, r42]))] fun o => o ++ [some (.arr 6 (List.map eGRule [r39, r40, r41, r42]))]
variable (l12 : (List GRule))
def f50_s21 : St := po (f50_s20 p0_ r38 r39 r40 r41 r42) [(32, .osl 7 6 0 (List.length l12))] fun o => o.set 1 none ++ [some (.arr 6 (List.map eGRule l12))]
def f50_s22 : St := pe (f50_s21 p0_ r38 r39 r40 r41 r42 l12) [(3, .osl 7 6 0 (List.length l12))]
def f50_s23 : St := po (f50_s22 p0_ r38 r39 r40 r41 r42 l12) [(34, .agg [.d (.int .i64 2), .d (.int .u8 3), .osl 7 6 0 (List.length l12)]), (33, .osl 7 6 0 (List.length l12))] fun o => o.set 0 (some (.box [.d (.int .i64 2), .d (.int .u8 3), .osl 7 6 0 (List.length l12)]))
def f50_s24 : St := pe (f50_s8 p0_ r38) [(35, .d (.bool ((irem p0_ 8) == 2))), (36, .d (.bool ((irem p0_ 8) == 2)))]
def f50_s25 : St := pe (f50_s24 p0_ r38) [(38, .agg [.d (.int .i64 0), .d (.int .i64 1)]), (37, .osl 1 6 0 (List.length r38))]
variable (r43 : GRule)
def f50_s26 : St := pe (f50_s25 p0_ r38) [(39, .agg [.d (.str r43.Print), .d (.sl (List.map eU8 r43.Cells)), .d (.int .u8 r43.Left), .d (.int .u8 r43.Right), .d (.int .i64 r43.From), .d (.int .i64 r43.To)])]
def f50_s27 : St := pe (f50_s26 p0_ r38 r43) [(40, .d (.sl (List.map eU8 [1])))]
def f50_s28 : St := pe (f50_s27 p0_ r38 r43) [(41, .agg [.d (.int .i64 1), .d (.int .i64 0)])]
variable (r44 : GRule)
def f50_s29 : St := pe (f50_s28 p0_ r38 r43) [(42, .agg [.d (.str r44.Print), .d (.sl (List.map eU8 r44.Cells)), .d (.int .u8 r44.Left), .d (.int .u8 r44.Right), .d (.int .i64 r44.From), .d (.int .i64 r44.To)])]
def f50_s30 : St := pe (f50_s29 p0_ r38 r43 r44) [(43, .d (.sl (List.map eU8 [3])))]
def f50_s31 : St := pe (f50_s30 p0_ r38 r43 r44) [(44, .agg [.d (.int .i64 1), .d (.int .i64 0)])]
variable (r45 : GRule)
def f50_s32 : St := pe (f50_s31 p0_ r38 r43 r44) [(45, .agg [.d (.str r45.Print), .d (.sl (List.map eU8 r45.Cells)), .d (.int .u8 r45.Left), .d (.int .u8 r45.Right), .d (.int .i64 r45.From), .d (.int .i64 r45.To)])]
def f50_s33 : St := po (f50_s32 p0_ r38 r43 r44 r45) [(46, .osl 6 6 0 (List.length [r43, r44, r45]))] fun o => o ++ [some (.arr 6 (List.map eGRule [r43, r44, r45]))]
variable (l13 : (List GRule))
def f50_s34 : St := po (f50_s33 p0_ r38 r43 r44 r45) [(47, .osl 7 6 0 (List.length l13))] fun o => o.set 1 none ++ [some (.arr 6 (List.map eGRule l13))]
def f50_s35 : St := pe (f50_s34 p0_ r38 r43 r44 r45 l13) [(3, .osl 7 6 0 (List.length l13))]
def f50_s36 : St := po (f50_s35 p0_ r38 r43 r44 r45 l13) [(49, .agg [.d (.int .i64 2), .d (.int .u8 1), .osl 7 6 0 (List.length l13)]), (48, .osl 7 6 0 (List.length l13))] fun o => o.set 0 (some (.box [.d (.int .i64 2), .d (.int .u8 1), .osl 7 6 0 (List.length l13)]))
def f50_s37 : St := pe (f50_s24 p0_ r38) [(50, .d (.bool ((irem p0_ 8) == 3))), (51, .d (.bool ((irem p0_ 8) == 3)))]
def f50_s38 : St := pe (f50_s37 p0_ r38) [(52, .osl 1 6 0 (List.length r38))]
def f50_s39 : St := pe (f50_s38 p0_ r38) [(53, .d (.sl (List.map eU8 [7])))]
def f50_s40 : St := pe (f50_s39 p0_ r38) [(54, .agg [.d (.int .i64 0), .d (.int .i64 0)])]
variable (r46 : GRule)
def f50_s41 : St := pe (f50_s40 p0_ r38) [(55, .agg [.d (.str r46.Print), .d (.sl (List.map eU8 r46.Cells)), .d (.int .u8 r46.Left), .d (.int .u8 r46.Right), .d (.int .i64 r46.From), .d (.int .i64 r46.To)])]
def f50_s42 : St := pe (f50_s41 p0_ r38 r46) [(56, .d (.sl (List.map eU8 [15])))]
def f50_s43 : St := pe (f50_s42 p0_ r38 r46) [(57, .agg [.d (.int .i64 0), .d (.int .i64 0)])]
variable (r47 : GRule)
def f50_s44 : St := pe (f50_s43 p0_ r38 r46) [(58, .agg [.d (.str r47.Print), .d (.sl (List.map eU8 r47.Cells)), .d (.int .u8 r47.Left), .d (.int .u8 r47.Right), .d (.int .i64 r47.From), .d (.int .i64 r47.To)])]
def f50_s45 : St := pe (f50_s44 p0_ r38 r46 r47) [(59, .d (.sl (List.map eU8 [4,4])))]
def f50_s46 : St := pe (f50_s45 p0_ r38 r46 r47) [(60, .agg [.d (.int .i64 0), .d (.int .i64 0)])]
variable (r48 : GRule)
def f50_s47 : St := pe (f50_s46 p0_ r38 r46 r47) [(61, .agg [.d (.str r48.Print), .d (.sl (List.map eU8 r48.Cells)), .d (.int .u8 r48.Left), .d (.int .u8 r48.Right), .d (.int .i64 r48.From), .d (.int .i64 r48.To)])]
def f50_s48 : St := po (f50_s47 p0_ r38 r46 r47 r48) [(62, .osl 6 6 0 (List.length [r46, r47, r48]))] fun o => o ++ [some (.arr 6 (List.map eGRule [r46, r47, r48]))]
variable (l14 : (List GRule))
def f50_s49 : St := po (f50_s48 p0_ r38 r46 r47 r48) [(63, .osl 7 6 0 (List.length l14))] fun o => o.set 1 none ++ [some (.arr 6 (List.map eGRule l14))]
def f50_s50 : St := pe (f50_s49 p0_ r38 r46 r47 r48 l14) [(3, .osl 7 6 0 (List.length l14))]
def f50_s51 : St := pe (f50_s37 p0_ r38) [(64, .d (.bool ((irem p0_ 8) == 4))), (65, .d (.bool ((irem p0_ 8) == 4)))]
def f50_s52 : St := pe (f50_s51 p0_ r38) [(66, .osl 1 6 0 (List.length r38))]
def f50_s53 : St := pe (f50_s52 p0_ r38) [(67, .d (.sl (List.map eU8 [1,3])))]
def f50_s54 : St := pe (f50_s53 p0_ r38) [(68, .agg [.d (.int .i64 0), .d (.int .i64 0)])]
variable (r49 : GRule)
def f50_s55 : St := pe (f50_s54 p0_ r38) [(69, .agg [.d (.str r49.Print), .d (.sl (List.map eU8 r49.Cells)), .d (.int .u8 r49.Left), .d (.int .u8 r49.Right), .d (.int .i64 r49.From), .d (.int .i64 r49.To)])]
def f50_s56 : St := po (f50_s55 p0_ r38 r49) [(70, .osl 6 6 0 (List.length [r49]))] fun o => o ++ [some (.arr 6 (List.map eGRule [r49]))]
variable (l15 : (List GRule))
def f50_s57 : St := po (f50_s56 p0_ r38 r49) [(71, .osl 7 6 0 (List.length l15))] fun o => o.set 1 none ++ [some (.arr 6 (List.map eGRule l15))]
def f50_s58 : St := pe (f50_s57 p0_ r38 r49 l15) [(3, .osl 7 6 0 (List.length l15))]
def f50_s59 : St := pe (f50_s51 p0_ r38) [(72, .d (.bool ((irem p0_ 8) == 5))), (73, .d (.bool ((irem p0_ 8) == 5)))]
def f50_s60 : St := pe (f50_s59 p0_ r38) [(74, .d (.sl (List.map eU8 [44])))]
def f50_s61 : St := pe (f50_s60 p0_ r38) [(75, .agg [.d (.int .i64 0), .d (.int .i64 0)])]
variable (r50 : GRule)
def f50_s62 : St := pe (f50_s61 p0_ r38) [(76, .agg [.d (.str r50.Print), .d (.sl (List.map eU8 r50.Cells)), .d (.int .u8 r50.Left), .d (.int .u8 r50.Right), .d (.int .i64 r50.From), .d (.int .i64 r50.To)])]
def f50_s63 : St := pe (f50_s62 p0_ r38 r50) [(77, .d (.sl (List.map eU8 [44])))]
def f50_s64 : St := pe (f50_s63 p0_ r38 r50) [(78, .agg [.d (.int .i64 0), .d (.int .i64 0)])]
variable (r51 : GRule)
def f50_s65 : St := pe (f50_s64 p0_ r38 r50) [(79, .agg [.d (.str r51.Print), .d (.sl (List.map eU8 r51.Cells)), .d (.int .u8 r51.Left), .d (.int .u8 r51.Right), .d (.int .i64 r51.From), .d (.int .i64 r51.To)])]
def f50_s66 : St := po (f50_s65 p0_ r38 r50 r51) [(9, .ptr 7 0), (8, .ptr 6 0)] fun o => o ++ [some (.box [.d (.str r50.Print), .d (.sl (List.map eU8 r50.Cells)), .d (.int .u8 r50.Left), .d (.int .u8 r50.Right), .d (.int .i64 r50.From), .d (.int .i64 r50.To)]), some (.box [.d (.str r51.Print), .d (.sl (List.map eU8 r51.Cells)), .d (.int .u8 r51.Left), .d (.int .u8 r51.Right), .d (.int .i64 r51.From), .d (.int .i64 r51.To)])]
def f50_s67 : St := po (f50_s66 p0_ r38 r50 r51) [(81, .ptr 7 2), (80, .ptr 6 2)] fun o => (o.set 6 (some (.box [.d (.str r50.Print), .d (.sl (List.map eU8 r50.Cells)), .d (.int .u8 17), .d (.int .u8 r50.Right), .d (.int .i64 r50.From), .d (.int .i64 r50.To)]))).set 7 (some (.box [.d (.str r51.Print), .d (.sl (List.map eU8 r51.Cells)), .d (.int .u8 2), .d (.int .u8 r51.Right), .d (.int .i64 r51.From), .d (.int .i64 r51.To)]))
def f50_s68 : St := pe (f50_s67 p0_ r38 r50 r51) [(84, .agg [.d (.str r51.Print), .d (.sl (List.map eU8 r51.Cells)), .d (.int .u8 2), .d (.int .u8 r51.Right), .d (.int .i64 r51.From), .d (.int .i64 r51.To)]), (83, .agg [.d (.str r50.Print), .d (.sl (List.map eU8 r50.Cells)), .d (.int .u8 17), .d (.int .u8 r50.Right), .d (.int .i64 r50.From), .d (.int .i64 r50.To)]), (82, .osl 1 6 0 (List.length r38))]
def f50_s69 : St := pe (f50_s68 p0_ r38 r50 r51) [(85, .d (.sl (List.map eU8 [36])))]
def f50_s70 : St := pe (f50_s69 p0_ r38 r50 r51) [(86, .agg [.d (.int .i64 0), .d (.int .i64 0)])]
variable (r52 : GRule)
def f50_s71 : St := pe (f50_s70 p0_ r38 r50 r51) [(87, .agg [.d (.str r52.Print), .d (.sl (List.map eU8 r52.Cells)), .d (.int .u8 r52.Left), .d (.int .u8 r52.Right), .d (.int .i64 r52.From), .d (.int .i64 r52.To)])]
def f50_s72 : St := po (f50_s71 p0_ r38 r50 r51 r52) [(88, .osl 8 6 0 (List.length [({ Print := r50.Print, Cells := r50.Cells, Left := 17, Right := r50.Right, From := r50.From, To := r50.To } : GRule), ({ Print := r51.Print, Cells := r51.Cells, Left := 2, Right := r51.Right, From := r51.From, To := r51.To } : GRule), r52]))] fun o => o ++ [some (.arr 6 (List.map eGRule [({ Print := r50.Print, Cells := r50.Cells, Left := 17, Right := r50.Right, From := r50.From, To := r50.To } : GRule), ({ Print := r51.Print, Cells := r51.Cells, Left := 2, Right := r51.Right, From := r51.From, To := r51.To } : GRule), r52]))]
variable (l16 : (List GRule))
def f50_s73 : St := po (f50_s72 p0_ r38 r50 r51 r52) [(89, .osl 9 6 0 (List.length l16))] fun o => o.set 1 none ++ [some (.arr 6 (List.map eGRule l16))]
def f50_s74 : St := pe (f50_s73 p0_ r38 r50 r51 r52 l16) [(3, .osl 9 6 0 (List.length l16))]
def f50_s75 : St := pe (f50_s59 p0_ r38) [(90, .d (.bool ((irem p0_ 8) == 6))), (91, .d (.bool ((irem p0_ 8) == 6)))]
def f50_s76 : St := pe (f50_s75 p0_ r38) [(93, .agg [.d (.int .i64 0), .d (.int .i64 1)]), (92, .osl 1 6 0 (List.length r38))]
variable (r53 : GRule)
def f50_s77 : St := pe (f50_s76 p0_ r38) [(94, .agg [.d (.str r53.Print), .d (.sl (List.map eU8 r53.Cells)), .d (.int .u8 r53.Left), .d (.int .u8 r53.Right), .d (.int .i64 r53.From), .d (.int .i64 r53.To)])]
def f50_s78 : St := pe (f50_s77 p0_ r38 r53) [(95, .d (.sl (List.map eU8 [1])))]
def f50_s79 : St := pe (f50_s78 p0_ r38 r53) [(96, .agg [.d (.int .i64 1), .d (.int .i64 0)])]
variable (r54 : GRule)
def f50_s80 : St := pe (f50_s79 p0_ r38 r53) [(97, .agg [.d (.str r54.Print), .d (.sl (List.map eU8 r54.Cells)), .d (.int .u8 r54.Left), .d (.int .u8 r54.Right), .d (.int .i64 r54.From), .d (.int .i64 r54.To)])]
def f50_s81 : St := pe (f50_s80 p0_ r38 r53 r54) [(98, .d (.sl (List.map eU8 [3])))]
def f50_s82 : St := pe (f50_s81 p0_ r38 r53 r54) [(99, .agg [.d (.int .i64 1), .d (.int .i64 0)])]
variable (r55 : GRule)
def f50_s83 : St := pe (f50_s82 p0_ r38 r53 r54) [(100, .agg [.d (.str r55.Print), .d (.sl (List.map eU8 r55.Cells)), .d (.int .u8 r55.Left), .d (.int .u8 r55.Right), .d (.int .i64 r55.From), .d (.int .i64 r55.To)])]
def f50_s84 : St := po (f50_s83 p0_ r38 r53 r54 r55) [(101, .osl 6 6 0 (List.length [r53, r54, r55]))] fun o => o ++ [some (.arr 6 (List.map eGRule [r53, r54, r55]))]
variable (l17 : (List GRule))
def f50_s85 : St := po (f50_s84 p0_ r38 r53 r54 r55) [(102, .osl 7 6 0 (List.length l17))] fun o => o.set 1 none ++ [some (.arr 6 (List.map eGRule l17))]
def f50_s86 : St := pe (f50_s85 p0_ r38 r53 r54 r55 l17) [(3, .osl 7 6 0 (List.length l17))]
def f50_s87 : St := po (f50_s86 p0_ r38 r53 r54 r55 l17) [(104, .agg [.d (.int .i64 2), .d (.int .u8 1), .osl 7 6 0 (List.length l17)]), (103, .osl 7 6 0 (List.length l17))] fun o => o.set 0 (some (.box [.d (.int .i64 2), .d (.int .u8 1), .osl 7 6 0 (List.length l17)]))
def f50_s88 : St := pe (f50_s75 p0_ r38) [(105, .d (.bool ((irem p0_ 8) == 7))), (106, .d (.bool ((irem p0_ 8) == 7)))]
def f50_s89 : St := pe (f50_s88 p0_ r38) [(107, .osl 1 6 0 (List.length r38))]
def f50_s90 : St := pe (f50_s89 p0_ r38) [(108, .d (.sl (List.map eU8 [1,5])))]
def f50_s91 : St := pe (f50_s90 p0_ r38) [(109, .agg [.d (.int .i64 0), .d (.int .i64 0)])]
variable (r56 : GRule)
def f50_s92 : St := pe (f50_s91 p0_ r38) [(110, .agg [.d (.str r56.Print), .d (.sl (List.map eU8 r56.Cells)), .d (.int .u8 r56.Left), .d (.int .u8 r56.Right), .d (.int .i64 r56.From), .d (.int .i64 r56.To)])]
def f50_s93 : St := pe (f50_s92 p0_ r38 r56) [(111, .d (.sl (List.map eU8 [5,5])))]
def f50_s94 : St := pe (f50_s93 p0_ r38 r56) [(112, .agg [.d (.int .i64 0), .d (.int .i64 0)])]
variable (r57 : GRule)
def f50_s95 : St := pe (f50_s94 p0_ r38 r56) [(113, .agg [.d (.str r57.Print), .d (.sl (List.map eU8 r57.Cells)), .d (.int .u8 r57.Left), .d (.int .u8 r57.Right), .d (.int .i64 r57.From), .d (.int .i64 r57.To)])]
def f50_s96 : St := pe (f50_s95 p0_ r38 r56 r57) [(114, .d (.sl (List.map eU8 [5,9])))]
def f50_s97 : St := pe (f50_s96 p0_ r38 r56 r57) [(115, .agg [.d (.int .i64 0), .d (.int .i64 0)])]
variable (r58 : GRule)
def f50_s98 : St := pe (f50_s97 p0_ r38 r56 r57) [(116, .agg [.d (.str r58.Print), .d (.sl (List.map eU8 r58.Cells)), .d (.int .u8 r58.Left), .d (.int .u8 r58.Right), .d (.int .i64 r58.From), .d (.int .i64 r58.To)])]
def f50_s99 : St := po (f50_s98 p0_ r38 r56 r57 r58) [(117, .osl 6 6 0 (List.length [r56, r57, r58]))] fun o => o ++ [some (.arr 6 (List.map eGRule [r56, r57, r58]))]
variable (l18 : (List GRule))
def f50_s100 : St := po (f50_s99 p0_ r38 r56 r57 r58) [(118, .osl 7 6 0 (List.length l18))] fun o => o.set 1 none ++ [some (.arr 6 (List.map eGRule l18))]
def f50_s101 : St := pe (f50_s100 p0_ r38 r56 r57 r58 l18) [(3, .osl 7 6 0 (List.length l18))]
theorem FSixdotref02_Base_ok {n : Nat} {p0_ : Int} {z : GTable} (H : FSixdotref02_Base n p0_ = some z) : CallOK Try.prog 50 [.d (.int .u8 p0_)] (.agg [.d (.int .i64 z.Modes), .d (.int .u8 z.Accept), .own 6 (List.map eGRule z.Rules)]) := by
  dsimp only [FSixdotref02_Base] at H
  refine fn_ok (Γ := cx 121) (s := f50_s1 p0_) follows (cxOK 121) Try.func50 (by kernel_rfl) (by kernel_rfl) (by kernel_rfl) (by kernel_rfl) (by kernel_rfl) (by kernel_rfl) ?_
  refine at_seq (p0 := [0]) (p1 := [1]) (by kernel_rfl) ?_
  refine at_region (by kernel_rfl) sh_refl ?_
  refine chunk (s' := f50_s2 p0_) 1 1 (by kernel_rfl) rfl ?_
  refine at_end 1 (by kernel_rfl) ?_
  refine q_seq sh_refl ?_
  refine at_seq (p0 := [1,0]) (p1 := [1,1]) (by kernel_rfl) ?_
  refine at_region (by kernel_rfl) sh_refl ?_
  obtain ⟨r38, h81, H⟩ := bind_some H
  refine callS (s' := f50_s3 p0_ r38) (f := 66) (xs := []) (ys := []) (ks := []) (obl := []) (r := .own 6 (List.map eGRule r38)) (ls := [List.length r38]) 1 true (by kernel_rfl) (leZ) rfl (FSixdotref02_letters_ok h81) (Or.inl rfl) (by simp only [lensR, lensT, lensA, lensC, List.length_map, List.nil_append, List.append_nil, List.cons_append]) (by kernel_rfl) rfl ?_
  refine chunk (s' := f50_s4 p0_ r38) 13 14 (by kernel_rfl) rfl ?_
  refine at_end 14 (by kernel_rfl) ?_
  refine q_seq sh_refl ?_
  refine at_seqJ (p0 := [1,1,0]) (p1 := [1,1,1]) (fun (x : (List GRule)) => f50_s5 x) (fun (x : (List GRule)) => f50_J1 n x) z (by kernel_rfl) ?_ (fun hf50_J1 => ?_)
  · intro l_1 H
    dsimp only [f50_J1] at H
    refine at_seq (p0 := [1,1,1,0]) (p1 := [1,1,1,1]) (by kernel_rfl) ?_
    refine at_region (by kernel_rfl) sh_refl ?_
    refine chunk (s' := f50_s6 l_1) 3 3 (by kernel_rfl) rfl ?_
    refine at_end 3 (by kernel_rfl) ?_
    refine q_seq sh_refl ?_
    refine at_ret (by kernel_rfl) ?_
    have hz := Option.some.inj H
    subst hz
    exact post_ret (ret1 (v := .agg [.d (.int .i64 1), .d (.int .u8 1), .osl 1 6 0 (List.length l_1)]) (r := .agg [.d (.int .i64 (({ Modes := 1, Accept := 1, Rules := l_1 } : GTable).Modes)), .d (.int .u8 (({ Modes := 1, Accept := 1, Rules := l_1 } : GTable).Accept)), .own 6 (List.map eGRule (({ Modes := 1, Accept := 1, Rules := l_1 } : GTable).Rules))]) [1] (by kernel_rfl) (outA_agg (outC_cons (outV_d) (outC_cons (outV_d) (outC_cons (outV_own (by kernel_rfl)) (outC_nil))))) (by kernel_rfl) (by decide))
  refine at_seq (p0 := [1,1,0,0]) (p1 := [1,1,0,1]) (by kernel_rfl) ?_
  refine at_region (by kernel_rfl) sh_refl ?_
  refine chunk (s' := f50_s7 p0_ r38) 2 2 (by kernel_rfl) rfl ?_
  refine at_end 2 (by kernel_rfl) ?_
  refine q_seq sh_refl ?_
  refine at_block 0 (p0 := [1,1,0,1,0]) (by kernel_rfl) ?_
  refine at_seq (p0 := [1,1,0,1,0,0]) (p1 := [1,1,0,1,0,1]) (by kernel_rfl) ?_
  refine at_region (by kernel_rfl) sh_refl ?_
  refine chunk (s' := f50_s8 p0_ r38) 2 2 (by kernel_rfl) rfl ?_
  refine at_end 2 (by kernel_rfl) ?_
  refine q_seq sh_refl ?_
  rcases ite_some H with ⟨hc33, H⟩ | ⟨hc33, H⟩
  · refine at_condT ((irem p0_ 8) == 1) (p0 := [1,1,0,1,0,1,0]) (p1 := [1,1,0,1,0,1,1]) (by kernel_rfl) (by kernel_rfl) hc33 ?_
    refine at_seq (p0 := [1,1,0,1,0,1,0,0]) (p1 := [1,1,0,1,0,1,0,1]) (by kernel_rfl) ?_
    refine at_region (by kernel_rfl) sh_refl ?_
    refine chunk (s' := f50_s9 p0_ r38) 2 2 (by kernel_rfl) rfl ?_
    obtain ⟨r39, h82, H⟩ := bind_some H
    refine callS (s' := f50_s10 p0_ r38 r39) (f := 67) (xs := [.d (.int .u8 60), .d (.int .i64 3), .agg [.d (.int .i64 0), .d (.int .i64 1)]]) (ys := [.d (.int .u8 60), .d (.int .i64 3), .agg [.d (.int .i64 0), .d (.int .i64 1)]]) (ks := []) (obl := []) (r := .agg [.d (.str r39.Print), .d (.sl (List.map eU8 r39.Cells)), .d (.int .u8 r39.Left), .d (.int .u8 r39.Right), .d (.int .i64 r39.From), .d (.int .i64 r39.To)]) (ls := []) 3 false (by kernel_rfl) (leZ) rfl (FSixdotref02_indicator_ok h82) (Or.inl rfl) rfl (by kernel_rfl) rfl ?_
    refine specF (s' := f50_s11 p0_ r38 r39) 4 (List.map eU8 [1]) (by kernel_rfl) (by kernel_rfl) rfl ?_
    refine chunk (s' := f50_s12 p0_ r38 r39) 1 5 (by kernel_rfl) rfl ?_
    obtain ⟨r40, h83, H⟩ := bind_some H
    refine callS (s' := f50_s13 p0_ r38 r39 r40) (f := 68) (xs := [.d (.str [49]), .d (.sl (List.map eU8 [1])), .agg [.d (.int .i64 1), .d (.int .i64 1)]]) (ys := [.d (.str [49]), .d (.sl (List.map eU8 [1])), .agg [.d (.int .i64 1), .d (.int .i64 1)]]) (ks := []) (obl := []) (r := .agg [.d (.str r40.Print), .d (.sl (List.map eU8 r40.Cells)), .d (.int .u8 r40.Left), .d (.int .u8 r40.Right), .d (.int .i64 r40.From), .d (.int .i64 r40.To)]) (ls := []) 6 false (by kernel_rfl) (leZ) rfl (FSixdotref02_simple_ok h83) (Or.inl rfl) rfl (by kernel_rfl) rfl ?_
    refine specF (s' := f50_s14 p0_ r38 r39 r40) 7 (List.map eU8 [3]) (by kernel_rfl) (by kernel_rfl) rfl ?_
    refine chunk (s' := f50_s15 p0_ r38 r39 r40) 1 8 (by kernel_rfl) rfl ?_
    obtain ⟨r41, h84, H⟩ := bind_some H
    refine callS (s' := f50_s16 p0_ r38 r39 r40 r41) (f := 68) (xs := [.d (.str [50]), .d (.sl (List.map eU8 [3])), .agg [.d (.int .i64 1), .d (.int .i64 1)]]) (ys := [.d (.str [50]), .d (.sl (List.map eU8 [3])), .agg [.d (.int .i64 1), .d (.int .i64 1)]]) (ks := []) (obl := []) (r := .agg [.d (.str r41.Print), .d (.sl (List.map eU8 r41.Cells)), .d (.int .u8 r41.Left), .d (.int .u8 r41.Right), .d (.int .i64 r41.From), .d (.int .i64 r41.To)]) (ls := []) 9 false (by kernel_rfl) (leZ) rfl (FSixdotref02_simple_ok h84) (Or.inl rfl) rfl (by kernel_rfl) rfl ?_
    refine specF (s' := f50_s17 p0_ r38 r39 r40 r41) 10 (List.map eU8 [0]) (by kernel_rfl) (by kernel_rfl) rfl ?_
    refine chunk (s' := f50_s18 p0_ r38 r39 r40 r41) 1 11 (by kernel_rfl) rfl ?_
    obtain ⟨r42, h85, H⟩ := bind_some H
    refine callS (s' := f50_s19 p0_ r38 r39 r40 r41 r42) (f := 68) (xs := [.d (.str [32]), .d (.sl (List.map eU8 [0])), .agg [.d (.int .i64 1), .d (.int .i64 0)]]) (ys := [.d (.str [32]), .d (.sl (List.map eU8 [0])), .agg [.d (.int .i64 1), .d (.int .i64 0)]]) (ks := []) (obl := []) (r := .agg [.d (.str r42.Print), .d (.sl (List.map eU8 r42.Cells)), .d (.int .u8 r42.Left), .d (.int .u8 r42.Right), .d (.int .i64 r42.From), .d (.int .i64 r42.To)]) (ls := []) 12 false (by kernel_rfl) (leZ) rfl (FSixdotref02_simple_ok h85) (Or.inl rfl) rfl (by kernel_rfl) rfl ?_
    refine chunk (s' := f50_s20 p0_ r38 r39 r40 r41 r42) 1 13 (by kernel_rfl) rfl ?_
    obtain ⟨l12, h86, H⟩ := bind_some H
    refine spec (s' := f50_s21 p0_ r38 r39 r40 r41 r42 l12) (v := .osl 7 6 0 (List.length l12)) (obs := [.arr 6 (List.map eGRule l12)]) (rm := [1]) (upd := none) 14 (by kernel_rfl) (is_app (enc := eGRule) (objs := (f50_s20 p0_ r38 r39 r40 r41 r42).objs) (esz := 6) (eb := 64) (ob := 0 + List.length [r39, r40, r41, r42] ≤ List.length (List.map eGRule [r39, r40, r41, r42])) (k := 1) (by kernel_rfl) take_all (fun _ => rfl) (by simp) h86) (by kernel_rfl) rfl ?_
    refine chunk (s' := f50_s22 p0_ r38 r39 r40 r41 r42 l12) 1 15 (by kernel_rfl) rfl ?_
    refine at_end 15 (by kernel_rfl) ?_
    refine q_seq sh_refl ?_
    refine at_seq (p0 := [1,1,0,1,0,1,0,1,0]) (p1 := [1,1,0,1,0,1,0,1,1]) (by kernel_rfl) ?_
    refine at_region (by kernel_rfl) sh_refl ?_
    refine chunk (s' := f50_s23 p0_ r38 r39 r40 r41 r42 l12) 3 3 (by kernel_rfl) rfl ?_
    refine at_end 3 (by kernel_rfl) ?_
    refine q_seq sh_refl ?_
    refine at_ret (by kernel_rfl) ?_
    refine q_blockR ?_
    refine q_seqR ?_
    have hz := Option.some.inj H
    subst hz
    exact post_ret (ret1 (v := .agg [.d (.int .i64 2), .d (.int .u8 3), .osl 7 6 0 (List.length l12)]) (r := .agg [.d (.int .i64 (({ Modes := 2, Accept := 3, Rules := l12 } : GTable).Modes)), .d (.int .u8 (({ Modes := 2, Accept := 3, Rules := l12 } : GTable).Accept)), .own 6 (List.map eGRule (({ Modes := 2, Accept := 3, Rules := l12 } : GTable).Rules))]) [7] (by kernel_rfl) (outA_agg (outC_cons (outV_d) (outC_cons (outV_d) (outC_cons (outV_own (by kernel_rfl)) (outC_nil))))) (by kernel_rfl) (by decide))
  · refine at_condF ((irem p0_ 8) == 1) (p0 := [1,1,0,1,0,1,0]) (p1 := [1,1,0,1,0,1,1]) (by kernel_rfl) (by kernel_rfl) hc33 ?_
    refine at_seq (p0 := [1,1,0,1,0,1,1,0]) (p1 := [1,1,0,1,0,1,1,1]) (by kernel_rfl) ?_
    refine at_region (by kernel_rfl) sh_refl ?_
    refine chunk (s' := f50_s24 p0_ r38) 2 2 (by kernel_rfl) rfl ?_
    refine at_end 2 (by kernel_rfl) ?_
    refine q_seq sh_refl ?_
    rcases ite_some H with ⟨hc32, H⟩ | ⟨hc32, H⟩
    · refine at_condT ((irem p0_ 8) == 2) (p0 := [1,1,0,1,0,1,1,1,0]) (p1 := [1,1,0,1,0,1,1,1,1]) (by kernel_rfl) (by kernel_rfl) hc32 ?_
      refine at_seq (p0 := [1,1,0,1,0,1,1,1,0,0]) (p1 := [1,1,0,1,0,1,1,1,0,1]) (by kernel_rfl) ?_
      refine at_region (by kernel_rfl) sh_refl ?_
      refine chunk (s' := f50_s25 p0_ r38) 2 2 (by kernel_rfl) rfl ?_
      obtain ⟨r43, h87, H⟩ := bind_some H
      refine callS (s' := f50_s26 p0_ r38 r43) (f := 67) (xs := [.d (.int .u8 32), .d (.int .i64 2), .agg [.d (.int .i64 0), .d (.int .i64 1)]]) (ys := [.d (.int .u8 32), .d (.int .i64 2), .agg [.d (.int .i64 0), .d (.int .i64 1)]]) (ks := []) (obl := []) (r := .agg [.d (.str r43.Print), .d (.sl (List.map eU8 r43.Cells)), .d (.int .u8 r43.Left), .d (.int .u8 r43.Right), .d (.int .i64 r43.From), .d (.int .i64 r43.To)]) (ls := []) 3 false (by kernel_rfl) (leZ) rfl (FSixdotref02_indicator_ok h87) (Or.inl rfl) rfl (by kernel_rfl) rfl ?_
      refine specF (s' := f50_s27 p0_ r38 r43) 4 (List.map eU8 [1]) (by kernel_rfl) (by kernel_rfl) rfl ?_
      refine chunk (s' := f50_s28 p0_ r38 r43) 1 5 (by kernel_rfl) rfl ?_
      obtain ⟨r44, h88, H⟩ := bind_some H
      refine callS (s' := f50_s29 p0_ r38 r43 r44) (f := 68) (xs := [.d (.str [65]), .d (.sl (List.map eU8 [1])), .agg [.d (.int .i64 1), .d (.int .i64 0)]]) (ys := [.d (.str [65]), .d (.sl (List.map eU8 [1])), .agg [.d (.int .i64 1), .d (.int .i64 0)]]) (ks := []) (obl := []) (r := .agg [.d (.str r44.Print), .d (.sl (List.map eU8 r44.Cells)), .d (.int .u8 r44.Left), .d (.int .u8 r44.Right), .d (.int .i64 r44.From), .d (.int .i64 r44.To)]) (ls := []) 6 false (by kernel_rfl) (leZ) rfl (FSixdotref02_simple_ok h88) (Or.inl rfl) rfl (by kernel_rfl) rfl ?_
      refine specF (s' := f50_s30 p0_ r38 r43 r44) 7 (List.map eU8 [3]) (by kernel_rfl) (by kernel_rfl) rfl ?_
      refine chunk (s' := f50_s31 p0_ r38 r43 r44) 1 8 (by kernel_rfl) rfl ?_
      obtain ⟨r45, h89, H⟩ := bind_some H
      refine callS (s' := f50_s32 p0_ r38 r43 r44 r45) (f := 68) (xs := [.d (.str [66]), .d (.sl (List.map eU8 [3])), .agg [.d (.int .i64 1), .d (.int .i64 0)]]) (ys := [.d (.str [66]), .d (.sl (List.map eU8 [3])), .agg [.d (.int .i64 1), .d (.int .i64 0)]]) (ks := []) (obl := []) (r := .agg [.d (.str r45.Print), .d (.sl (List.map eU8 r45.Cells)), .d (.int .u8 r45.Left), .d (.int .u8 r45.Right), .d (.int .i64 r45.From), .d (.int .i64 r45.To)]) (ls := []) 9 false (by kernel_rfl) (leZ) rfl (FSixdotref02_simple_ok h89) (Or.inl rfl) rfl (by kernel_rfl) rfl ?_
      refine chunk (s' := f50_s33 p0_ r38 r43 r44 r45) 1 10 (by kernel_rfl) rfl ?_
      obtain ⟨l13, h90, H⟩ := bind_some H
      refine spec (s' := f50_s34 p0_ r38 r43 r44 r45 l13) (v := .osl 7 6 0 (List.length l13)) (obs := [.arr 6 (List.map eGRule l13)]) (rm := [1]) (upd := none) 11 (by kernel_rfl) (is_app (enc := eGRule) (objs := (f50_s33 p0_ r38 r43 r44 r45).objs) (esz := 6) (eb := 64) (ob := 0 + List.length [r43, r44, r45] ≤ List.length (List.map eGRule [r43, r44, r45])) (k := 1) (by kernel_rfl) take_all (fun _ => rfl) (by simp) h90) (by kernel_rfl) rfl ?_
      refine chunk (s' := f50_s35 p0_ r38 r43 r44 r45 l13) 1 12 (by kernel_rfl) rfl ?_
      refine at_end 12 (by kernel_rfl) ?_
      refine q_seq sh_refl ?_
      refine at_seq (p0 := [1,1,0,1,0,1,1,1,0,1,0]) (p1 := [1,1,0,1,0,1,1,1,0,1,1]) (by kernel_rfl) ?_
      refine at_region (by kernel_rfl) sh_refl ?_
      refine chunk (s' := f50_s36 p0_ r38 r43 r44 r45 l13) 3 3 (by kernel_rfl) rfl ?_
      refine at_end 3 (by kernel_rfl) ?_
      refine q_seq sh_refl ?_
      refine at_ret (by kernel_rfl) ?_
      refine q_blockR ?_
      refine q_seqR ?_
      have hz := Option.some.inj H
      subst hz
      exact post_ret (ret1 (v := .agg [.d (.int .i64 2), .d (.int .u8 1), .osl 7 6 0 (List.length l13)]) (r := .agg [.d (.int .i64 (({ Modes := 2, Accept := 1, Rules := l13 } : GTable).Modes)), .d (.int .u8 (({ Modes := 2, Accept := 1, Rules := l13 } : GTable).Accept)), .own 6 (List.map eGRule (({ Modes := 2, Accept := 1, Rules := l13 } : GTable).Rules))]) [7] (by kernel_rfl) (outA_agg (outC_cons (outV_d) (outC_cons (outV_d) (outC_cons (outV_own (by kernel_rfl)) (outC_nil))))) (by kernel_rfl) (by decide))
    · refine at_condF ((irem p0_ 8) == 2) (p0 := [1,1,0,1,0,1,1,1,0]) (p1 := [1,1,0,1,0,1,1,1,1]) (by kernel_rfl) (by kernel_rfl) hc32 ?_
      refine at_seq (p0 := [1,1,0,1,0,1,1,1,1,0]) (p1 := [1,1,0,1,0,1,1,1,1,1]) (by kernel_rfl) ?_
      refine at_region (by kernel_rfl) sh_refl ?_
      refine chunk (s' := f50_s37 p0_ r38) 2 2 (by kernel_rfl) rfl ?_
      refine at_end 2 (by kernel_rfl) ?_
      refine q_seq sh_refl ?_
      rcases ite_some H with ⟨hc31, H⟩ | ⟨hc31, H⟩
      · refine at_condT ((irem p0_ 8) == 3) (p0 := [1,1,0,1,0,1,1,1,1,1,0]) (p1 := [1,1,0,1,0,1,1,1,1,1,1]) (by kernel_rfl) (by kernel_rfl) hc31 ?_
        refine at_region (by kernel_rfl) sh_refl ?_
        refine chunk (s' := f50_s38 p0_ r38) 1 1 (by kernel_rfl) rfl ?_
        refine specF (s' := f50_s39 p0_ r38) 2 (List.map eU8 [7]) (by kernel_rfl) (by kernel_rfl) rfl ?_
        refine chunk (s' := f50_s40 p0_ r38) 1 3 (by kernel_rfl) rfl ?_
        obtain ⟨r46, h91, H⟩ := bind_some H
        refine callS (s' := f50_s41 p0_ r38 r46) (f := 68) (xs := [.d (.str [97,98]), .d (.sl (List.map eU8 [7])), .agg [.d (.int .i64 0), .d (.int .i64 0)]]) (ys := [.d (.str [97,98]), .d (.sl (List.map eU8 [7])), .agg [.d (.int .i64 0), .d (.int .i64 0)]]) (ks := []) (obl := []) (r := .agg [.d (.str r46.Print), .d (.sl (List.map eU8 r46.Cells)), .d (.int .u8 r46.Left), .d (.int .u8 r46.Right), .d (.int .i64 r46.From), .d (.int .i64 r46.To)]) (ls := []) 4 false (by kernel_rfl) (leZ) rfl (FSixdotref02_simple_ok h91) (Or.inl rfl) rfl (by kernel_rfl) rfl ?_
        refine specF (s' := f50_s42 p0_ r38 r46) 5 (List.map eU8 [15]) (by kernel_rfl) (by kernel_rfl) rfl ?_
        refine chunk (s' := f50_s43 p0_ r38 r46) 1 6 (by kernel_rfl) rfl ?_
        obtain ⟨r47, h92, H⟩ := bind_some H
        refine callS (s' := f50_s44 p0_ r38 r46 r47) (f := 68) (xs := [.d (.str [97,98,99]), .d (.sl (List.map eU8 [15])), .agg [.d (.int .i64 0), .d (.int .i64 0)]]) (ys := [.d (.str [97,98,99]), .d (.sl (List.map eU8 [15])), .agg [.d (.int .i64 0), .d (.int .i64 0)]]) (ks := []) (obl := []) (r := .agg [.d (.str r47.Print), .d (.sl (List.map eU8 r47.Cells)), .d (.int .u8 r47.Left), .d (.int .u8 r47.Right), .d (.int .i64 r47.From), .d (.int .i64 r47.To)]) (ls := []) 7 false (by kernel_rfl) (leZ) rfl (FSixdotref02_simple_ok h92) (Or.inl rfl) rfl (by kernel_rfl) rfl ?_
        refine specF (s' := f50_s45 p0_ r38 r46 r47) 8 (List.map eU8 [4,4]) (by kernel_rfl) (by kernel_rfl) rfl ?_
        refine chunk (s' := f50_s46 p0_ r38 r46 r47) 1 9 (by kernel_rfl) rfl ?_
        obtain ⟨r48, h93, H⟩ := bind_some H
        refine callS (s' := f50_s47 p0_ r38 r46 r47 r48) (f := 68) (xs := [.d (.str [99,97]), .d (.sl (List.map eU8 [4,4])), .agg [.d (.int .i64 0), .d (.int .i64 0)]]) (ys := [.d (.str [99,97]), .d (.sl (List.map eU8 [4,4])), .agg [.d (.int .i64 0), .d (.int .i64 0)]]) (ks := []) (obl := []) (r := .agg [.d (.str r48.Print), .d (.sl (List.map eU8 r48.Cells)), .d (.int .u8 r48.Left), .d (.int .u8 r48.Right), .d (.int .i64 r48.From), .d (.int .i64 r48.To)]) (ls := []) 10 false (by kernel_rfl) (leZ) rfl (FSixdotref02_simple_ok h93) (Or.inl rfl) rfl (by kernel_rfl) rfl ?_
        refine chunk (s' := f50_s48 p0_ r38 r46 r47 r48) 1 11 (by kernel_rfl) rfl ?_
        obtain ⟨l14, h94, H⟩ := bind_some H
        refine spec (s' := f50_s49 p0_ r38 r46 r47 r48 l14) (v := .osl 7 6 0 (List.length l14)) (obs := [.arr 6 (List.map eGRule l14)]) (rm := [1]) (upd := none) 12 (by kernel_rfl) (is_app (enc := eGRule) (objs := (f50_s48 p0_ r38 r46 r47 r48).objs) (esz := 6) (eb := 64) (ob := 0 + List.length [r46, r47, r48] ≤ List.length (List.map eGRule [r46, r47, r48])) (k := 1) (by kernel_rfl) take_all (fun _ => rfl) (by simp) h94) (by kernel_rfl) rfl ?_
        refine chunk (s' := f50_s50 p0_ r38 r46 r47 r48 l14) 1 13 (by kernel_rfl) rfl ?_
        refine at_end 13 (by kernel_rfl) ?_
        refine q_blockN ?_
        exact q_seq (Shift.trans (sh_nilc 0 2 6 (by kernel_rfl)) (sh_gc [2,3] (by kernel_rfl))) (hf50_J1 l14 H)
      · refine at_condF ((irem p0_ 8) == 3) (p0 := [1,1,0,1,0,1,1,1,1,1,0]) (p1 := [1,1,0,1,0,1,1,1,1,1,1]) (by kernel_rfl) (by kernel_rfl) hc31 ?_
        refine at_seq (p0 := [1,1,0,1,0,1,1,1,1,1,1,0]) (p1 := [1,1,0,1,0,1,1,1,1,1,1,1]) (by kernel_rfl) ?_
        refine at_region (by kernel_rfl) sh_refl ?_
        refine chunk (s' := f50_s51 p0_ r38) 2 2 (by kernel_rfl) rfl ?_
        refine at_end 2 (by kernel_rfl) ?_
        refine q_seq sh_refl ?_
        rcases ite_some H with ⟨hc30, H⟩ | ⟨hc30, H⟩
        · refine at_condT ((irem p0_ 8) == 4) (p0 := [1,1,0,1,0,1,1,1,1,1,1,1,0]) (p1 := [1,1,0,1,0,1,1,1,1,1,1,1,1]) (by kernel_rfl) (by kernel_rfl) hc30 ?_
          refine at_region (by kernel_rfl) sh_refl ?_
          refine chunk (s' := f50_s52 p0_ r38) 1 1 (by kernel_rfl) rfl ?_
          refine specF (s' := f50_s53 p0_ r38) 2 (List.map eU8 [1,3]) (by kernel_rfl) (by kernel_rfl) rfl ?_
          refine chunk (s' := f50_s54 p0_ r38) 1 3 (by kernel_rfl) rfl ?_
          obtain ⟨r49, h95, H⟩ := bind_some H
          refine callS (s' := f50_s55 p0_ r38 r49) (f := 68) (xs := [.d (.str [45]), .d (.sl (List.map eU8 [1,3])), .agg [.d (.int .i64 0), .d (.int .i64 0)]]) (ys := [.d (.str [45]), .d (.sl (List.map eU8 [1,3])), .agg [.d (.int .i64 0), .d (.int .i64 0)]]) (ks := []) (obl := []) (r := .agg [.d (.str r49.Print), .d (.sl (List.map eU8 r49.Cells)), .d (.int .u8 r49.Left), .d (.int .u8 r49.Right), .d (.int .i64 r49.From), .d (.int .i64 r49.To)]) (ls := []) 4 false (by kernel_rfl) (leZ) rfl (FSixdotref02_simple_ok h95) (Or.inl rfl) rfl (by kernel_rfl) rfl ?_
          refine chunk (s' := f50_s56 p0_ r38 r49) 1 5 (by kernel_rfl) rfl ?_
          obtain ⟨l15, h96, H⟩ := bind_some H
          refine spec (s' := f50_s57 p0_ r38 r49 l15) (v := .osl 7 6 0 (List.length l15)) (obs := [.arr 6 (List.map eGRule l15)]) (rm := [1]) (upd := none) 6 (by kernel_rfl) (is_app (enc := eGRule) (objs := (f50_s56 p0_ r38 r49).objs) (esz := 6) (eb := 64) (ob := 0 + List.length [r49] ≤ List.length (List.map eGRule [r49])) (k := 1) (by kernel_rfl) take_all (fun _ => rfl) (by simp) h96) (by kernel_rfl) rfl ?_
          refine chunk (s' := f50_s58 p0_ r38 r49 l15) 1 7 (by kernel_rfl) rfl ?_
          refine at_end 7 (by kernel_rfl) ?_
          refine q_blockN ?_
          exact q_seq (Shift.trans (sh_nilc 0 2 6 (by kernel_rfl)) (sh_gc [2,3] (by kernel_rfl))) (hf50_J1 l15 H)
        · refine at_condF ((irem p0_ 8) == 4) (p0 := [1,1,0,1,0,1,1,1,1,1,1,1,0]) (p1 := [1,1,0,1,0,1,1,1,1,1,1,1,1]) (by kernel_rfl) (by kernel_rfl) hc30 ?_
          refine at_seq (p0 := [1,1,0,1,0,1,1,1,1,1,1,1,1,0]) (p1 := [1,1,0,1,0,1,1,1,1,1,1,1,1,1]) (by kernel_rfl) ?_
          refine at_region (by kernel_rfl) sh_refl ?_
          refine chunk (s' := f50_s59 p0_ r38) 2 2 (by kernel_rfl) rfl ?_
          refine at_end 2 (by kernel_rfl) ?_
          refine q_seq sh_refl ?_
          rcases ite_some H with ⟨hc29, H⟩ | ⟨hc29, H⟩
          · refine at_condT ((irem p0_ 8) == 5) (p0 := [1,1,0,1,0,1,1,1,1,1,1,1,1,1,0]) (p1 := [1,1,0,1,0,1,1,1,1,1,1,1,1,1,1]) (by kernel_rfl) (by kernel_rfl) hc29 ?_
            refine at_seq (p0 := [1,1,0,1,0,1,1,1,1,1,1,1,1,1,0,0]) (p1 := [1,1,0,1,0,1,1,1,1,1,1,1,1,1,0,1]) (by kernel_rfl) ?_
            refine at_region (by kernel_rfl) sh_refl ?_
            refine specF (s' := f50_s60 p0_ r38) 1 (List.map eU8 [44]) (by kernel_rfl) (by kernel_rfl) rfl ?_
            refine chunk (s' := f50_s61 p0_ r38) 1 2 (by kernel_rfl) rfl ?_
            obtain ⟨r50, h97, H⟩ := bind_some H
            refine callS (s' := f50_s62 p0_ r38 r50) (f := 68) (xs := [.d (.str [98]), .d (.sl (List.map eU8 [44])), .agg [.d (.int .i64 0), .d (.int .i64 0)]]) (ys := [.d (.str [98]), .d (.sl (List.map eU8 [44])), .agg [.d (.int .i64 0), .d (.int .i64 0)]]) (ks := []) (obl := []) (r := .agg [.d (.str r50.Print), .d (.sl (List.map eU8 r50.Cells)), .d (.int .u8 r50.Left), .d (.int .u8 r50.Right), .d (.int .i64 r50.From), .d (.int .i64 r50.To)]) (ls := []) 3 false (by kernel_rfl) (leZ) rfl (FSixdotref02_simple_ok h97) (Or.inl rfl) rfl (by kernel_rfl) rfl ?_
            refine specF (s' := f50_s63 p0_ r38 r50) 4 (List.map eU8 [44]) (by kernel_rfl) (by kernel_rfl) rfl ?_
            refine chunk (s' := f50_s64 p0_ r38 r50) 1 5 (by kernel_rfl) rfl ?_
            obtain ⟨r51, h98, H⟩ := bind_some H
            refine callS (s' := f50_s65 p0_ r38 r50 r51) (f := 68) (xs := [.d (.str [99,97,98]), .d (.sl (List.map eU8 [44])), .agg [.d (.int .i64 0), .d (.int .i64 0)]]) (ys := [.d (.str [99,97,98]), .d (.sl (List.map eU8 [44])), .agg [.d (.int .i64 0), .d (.int .i64 0)]]) (ks := []) (obl := []) (r := .agg [.d (.str r51.Print), .d (.sl (List.map eU8 r51.Cells)), .d (.int .u8 r51.Left), .d (.int .u8 r51.Right), .d (.int .i64 r51.From), .d (.int .i64 r51.To)]) (ls := []) 6 false (by kernel_rfl) (leZ) rfl (FSixdotref02_simple_ok h98) (Or.inl rfl) rfl (by kernel_rfl) rfl ?_
            refine chunk (s' := f50_s66 p0_ r38 r50 r51) 4 10 (by kernel_rfl) rfl ?_
            refine at_end 10 (by kernel_rfl) ?_
            refine q_seq sh_refl ?_
            refine at_seq (p0 := [1,1,0,1,0,1,1,1,1,1,1,1,1,1,0,1,0]) (p1 := [1,1,0,1,0,1,1,1,1,1,1,1,1,1,0,1,1]) (by kernel_rfl) ?_
            refine at_region (by kernel_rfl) sh_refl ?_
            refine chunk (s' := f50_s67 p0_ r38 r50 r51) 4 4 (by kernel_rfl) rfl ?_
            refine at_end 4 (by kernel_rfl) ?_
            refine q_seq sh_refl ?_
            refine at_region (by kernel_rfl) sh_refl ?_
            refine chunk (s' := f50_s68 p0_ r38 r50 r51) 3 3 (by kernel_rfl) rfl ?_
            refine specF (s' := f50_s69 p0_ r38 r50 r51) 4 (List.map eU8 [36]) (by kernel_rfl) (by kernel_rfl) rfl ?_
            refine chunk (s' := f50_s70 p0_ r38 r50 r51) 1 5 (by kernel_rfl) rfl ?_
            obtain ⟨r52, h99, H⟩ := bind_some H
            refine callS (s' := f50_s71 p0_ r38 r50 r51 r52) (f := 68) (xs := [.d (.str [45]), .d (.sl (List.map eU8 [36])), .agg [.d (.int .i64 0), .d (.int .i64 0)]]) (ys := [.d (.str [45]), .d (.sl (List.map eU8 [36])), .agg [.d (.int .i64 0), .d (.int .i64 0)]]) (ks := []) (obl := []) (r := .agg [.d (.str r52.Print), .d (.sl (List.map eU8 r52.Cells)), .d (.int .u8 r52.Left), .d (.int .u8 r52.Right), .d (.int .i64 r52.From), .d (.int .i64 r52.To)]) (ls := []) 6 false (by kernel_rfl) (leZ) rfl (FSixdotref02_simple_ok h99) (Or.inl rfl) rfl (by kernel_rfl) rfl ?_
            refine chunk (s' := f50_s72 p0_ r38 r50 r51 r52) 1 7 (by kernel_rfl) rfl ?_
            obtain ⟨l16, h100, H⟩ := bind_some H
            refine spec (s' := f50_s73 p0_ r38 r50 r51 r52 l16) (v := .osl 9 6 0 (List.length l16)) (obs := [.arr 6 (List.map eGRule l16)]) (rm := [1]) (upd := none) 8 (by kernel_rfl) (is_app (enc := eGRule) (objs := (f50_s72 p0_ r38 r50 r51 r52).objs) (esz := 6) (eb := 64) (ob := 0 + List.length [({ Print := r50.Print, Cells := r50.Cells, Left := 17, Right := r50.Right, From := r50.From, To := r50.To } : GRule), ({ Print := r51.Print, Cells := r51.Cells, Left := 2, Right := r51.Right, From := r51.From, To := r51.To } : GRule), r52] ≤ List.length (List.map eGRule [({ Print := r50.Print, Cells := r50.Cells, Left := 17, Right := r50.Right, From := r50.From, To := r50.To } : GRule), ({ Print := r51.Print, Cells := r51.Cells, Left := 2, Right := r51.Right, From := r51.From, To := r51.To } : GRule), r52])) (k := 1) (by kernel_rfl) take_all (fun _ => rfl) (by simp) h100) (by kernel_rfl) rfl ?_
            refine chunk (s' := f50_s74 p0_ r38 r50 r51 r52 l16) 1 9 (by kernel_rfl) rfl ?_
            refine at_end 9 (by kernel_rfl) ?_
            refine q_blockN ?_
            exact q_seq (Shift.trans (sh_nilc 0 2 6 (by kernel_rfl)) (sh_gc [2,3] (by kernel_rfl))) (hf50_J1 l16 H)
          · refine at_condF ((irem p0_ 8) == 5) (p0 := [1,1,0,1,0,1,1,1,1,1,1,1,1,1,0]) (p1 := [1,1,0,1,0,1,1,1,1,1,1,1,1,1,1]) (by kernel_rfl) (by kernel_rfl) hc29 ?_
            refine at_seq (p0 := [1,1,0,1,0,1,1,1,1,1,1,1,1,1,1,0]) (p1 := [1,1,0,1,0,1,1,1,1,1,1,1,1,1,1,1]) (by kernel_rfl) ?_
            refine at_region (by kernel_rfl) sh_refl ?_
            refine chunk (s' := f50_s75 p0_ r38) 2 2 (by kernel_rfl) rfl ?_
            refine at_end 2 (by kernel_rfl) ?_
            refine q_seq sh_refl ?_
            rcases ite_some H with ⟨hc28, H⟩ | ⟨hc28, H⟩
            · refine at_condT ((irem p0_ 8) == 6) (p0 := [1,1,0,1,0,1,1,1,1,1,1,1,1,1,1,1,0]) (p1 := [1,1,0,1,0,1,1,1,1,1,1,1,1,1,1,1,1]) (by kernel_rfl) (by kernel_rfl) hc28 ?_
              refine at_seq (p0 := [1,1,0,1,0,1,1,1,1,1,1,1,1,1,1,1,0,0]) (p1 := [1,1,0,1,0,1,1,1,1,1,1,1,1,1,1,1,0,1]) (by kernel_rfl) ?_
              refine at_region (by kernel_rfl) sh_refl ?_
              refine chunk (s' := f50_s76 p0_ r38) 2 2 (by kernel_rfl) rfl ?_
              obtain ⟨r53, h101, H⟩ := bind_some H
              refine callS (s' := f50_s77 p0_ r38 r53) (f := 67) (xs := [.d (.int .u8 40), .d (.int .i64 1), .agg [.d (.int .i64 0), .d (.int .i64 1)]]) (ys := [.d (.int .u8 40), .d (.int .i64 1), .agg [.d (.int .i64 0), .d (.int .i64 1)]]) (ks := []) (obl := []) (r := .agg [.d (.str r53.Print), .d (.sl (List.map eU8 r53.Cells)), .d (.int .u8 r53.Left), .d (.int .u8 r53.Right), .d (.int .i64 r53.From), .d (.int .i64 r53.To)]) (ls := []) 3 false (by kernel_rfl) (leZ) rfl (FSixdotref02_indicator_ok h101) (Or.inl rfl) rfl (by kernel_rfl) rfl ?_
              refine specF (s' := f50_s78 p0_ r38 r53) 4 (List.map eU8 [1]) (by kernel_rfl) (by kernel_rfl) rfl ?_
              refine chunk (s' := f50_s79 p0_ r38 r53) 1 5 (by kernel_rfl) rfl ?_
              obtain ⟨r54, h102, H⟩ := bind_some H
              refine callS (s' := f50_s80 p0_ r38 r53 r54) (f := 68) (xs := [.d (.str [225]), .d (.sl (List.map eU8 [1])), .agg [.d (.int .i64 1), .d (.int .i64 0)]]) (ys := [.d (.str [225]), .d (.sl (List.map eU8 [1])), .agg [.d (.int .i64 1), .d (.int .i64 0)]]) (ks := []) (obl := []) (r := .agg [.d (.str r54.Print), .d (.sl (List.map eU8 r54.Cells)), .d (.int .u8 r54.Left), .d (.int .u8 r54.Right), .d (.int .i64 r54.From), .d (.int .i64 r54.To)]) (ls := []) 6 false (by kernel_rfl) (leZ) rfl (FSixdotref02_simple_ok h102) (Or.inl rfl) rfl (by kernel_rfl) rfl ?_
              refine specF (s' := f50_s81 p0_ r38 r53 r54) 7 (List.map eU8 [3]) (by kernel_rfl) (by kernel_rfl) rfl ?_
              refine chunk (s' := f50_s82 p0_ r38 r53 r54) 1 8 (by kernel_rfl) rfl ?_
              obtain ⟨r55, h103, H⟩ := bind_some H
              refine callS (s' := f50_s83 p0_ r38 r53 r54 r55) (f := 68) (xs := [.d (.str [226]), .d (.sl (List.map eU8 [3])), .agg [.d (.int .i64 1), .d (.int .i64 0)]]) (ys := [.d (.str [226]), .d (.sl (List.map eU8 [3])), .agg [.d (.int .i64 1), .d (.int .i64 0)]]) (ks := []) (obl := []) (r := .agg [.d (.str r55.Print), .d (.sl (List.map eU8 r55.Cells)), .d (.int .u8 r55.Left), .d (.int .u8 r55.Right), .d (.int .i64 r55.From), .d (.int .i64 r55.To)]) (ls := []) 9 false (by kernel_rfl) (leZ) rfl (FSixdotref02_simple_ok h103) (Or.inl rfl) rfl (by kernel_rfl) rfl ?_
              refine chunk (s' := f50_s84 p0_ r38 r53 r54 r55) 1 10 (by kernel_rfl) rfl ?_
              obtain ⟨l17, h104, H⟩ := bind_some H
              refine spec (s' := f50_s85 p0_ r38 r53 r54 r55 l17) (v := .osl 7 6 0 (List.length l17)) (obs := [.arr 6 (List.map eGRule l17)]) (rm := [1]) (upd := none) 11 (by kernel_rfl) (is_app (enc := eGRule) (objs := (f50_s84 p0_ r38 r53 r54 r55).objs) (esz := 6) (eb := 64) (ob := 0 + List.length [r53, r54, r55] ≤ List.length (List.map eGRule [r53, r54, r55])) (k := 1) (by kernel_rfl) take_all (fun _ => rfl) (by simp) h104) (by kernel_rfl) rfl ?_
              refine chunk (s' := f50_s86 p0_ r38 r53 r54 r55 l17) 1 12 (by kernel_rfl) rfl ?_
              refine at_end 12 (by kernel_rfl) ?_
              refine q_seq sh_refl ?_
              refine at_seq (p0 := [1,1,0,1,0,1,1,1,1,1,1,1,1,1,1,1,0,1,0]) (p1 := [1,1,0,1,0,1,1,1,1,1,1,1,1,1,1,1,0,1,1]) (by kernel_rfl) ?_
              refine at_region (by kernel_rfl) sh_refl ?_
              refine chunk (s' := f50_s87 p0_ r38 r53 r54 r55 l17) 3 3 (by kernel_rfl) rfl ?_
              refine at_end 3 (by kernel_rfl) ?_
              refine q_seq sh_refl ?_
              refine at_ret (by kernel_rfl) ?_
              refine q_blockR ?_
              refine q_seqR ?_
              have hz := Option.some.inj H
              subst hz
              exact post_ret (ret1 (v := .agg [.d (.int .i64 2), .d (.int .u8 1), .osl 7 6 0 (List.length l17)]) (r := .agg [.d (.int .i64 (({ Modes := 2, Accept := 1, Rules := l17 } : GTable).Modes)), .d (.int .u8 (({ Modes := 2, Accept := 1, Rules := l17 } : GTable).Accept)), .own 6 (List.map eGRule (({ Modes := 2, Accept := 1, Rules := l17 } : GTable).Rules))]) [7] (by kernel_rfl) (outA_agg (outC_cons (outV_d) (outC_cons (outV_d) (outC_cons (outV_own (by kernel_rfl)) (outC_nil))))) (by kernel_rfl) (by decide))
            · refine at_condF ((irem p0_ 8) == 6) (p0 := [1,1,0,1,0,1,1,1,1,1,1,1,1,1,1,1,0]) (p1 := [1,1,0,1,0,1,1,1,1,1,1,1,1,1,1,1,1]) (by kernel_rfl) (by kernel_rfl) hc28 ?_
              refine at_seq (p0 := [1,1,0,1,0,1,1,1,1,1,1,1,1,1,1,1,1,0]) (p1 := [1,1,0,1,0,1,1,1,1,1,1,1,1,1,1,1,1,1]) (by kernel_rfl) ?_
              refine at_region (by kernel_rfl) sh_refl ?_
              refine chunk (s' := f50_s88 p0_ r38) 2 2 (by kernel_rfl) rfl ?_
              refine at_end 2 (by kernel_rfl) ?_
              refine q_seq sh_refl ?_
              rcases ite_some H with ⟨hc27, H⟩ | ⟨hc27, H⟩
              · refine at_condT ((irem p0_ 8) == 7) (p0 := [1,1,0,1,0,1,1,1,1,1,1,1,1,1,1,1,1,1,0]) (p1 := [1,1,0,1,0,1,1,1,1,1,1,1,1,1,1,1,1,1,1]) (by kernel_rfl) (by kernel_rfl) hc27 ?_
                refine at_region (by kernel_rfl) sh_refl ?_
                refine chunk (s' := f50_s89 p0_ r38) 1 1 (by kernel_rfl) rfl ?_
                refine specF (s' := f50_s90 p0_ r38) 2 (List.map eU8 [1,5]) (by kernel_rfl) (by kernel_rfl) rfl ?_
                refine chunk (s' := f50_s91 p0_ r38) 1 3 (by kernel_rfl) rfl ?_
                obtain ⟨r56, h105, H⟩ := bind_some H
                refine callS (s' := f50_s92 p0_ r38 r56) (f := 68) (xs := [.d (.str [45]), .d (.sl (List.map eU8 [1,5])), .agg [.d (.int .i64 0), .d (.int .i64 0)]]) (ys := [.d (.str [45]), .d (.sl (List.map eU8 [1,5])), .agg [.d (.int .i64 0), .d (.int .i64 0)]]) (ks := []) (obl := []) (r := .agg [.d (.str r56.Print), .d (.sl (List.map eU8 r56.Cells)), .d (.int .u8 r56.Left), .d (.int .u8 r56.Right), .d (.int .i64 r56.From), .d (.int .i64 r56.To)]) (ls := []) 4 false (by kernel_rfl) (leZ) rfl (FSixdotref02_simple_ok h105) (Or.inl rfl) rfl (by kernel_rfl) rfl ?_
                refine specF (s' := f50_s93 p0_ r38 r56) 5 (List.map eU8 [5,5]) (by kernel_rfl) (by kernel_rfl) rfl ?_
                refine chunk (s' := f50_s94 p0_ r38 r56) 1 6 (by kernel_rfl) rfl ?_
                obtain ⟨r57, h106, H⟩ := bind_some H
                refine callS (s' := f50_s95 p0_ r38 r56 r57) (f := 68) (xs := [.d (.str [49]), .d (.sl (List.map eU8 [5,5])), .agg [.d (.int .i64 0), .d (.int .i64 0)]]) (ys := [.d (.str [49]), .d (.sl (List.map eU8 [5,5])), .agg [.d (.int .i64 0), .d (.int .i64 0)]]) (ks := []) (obl := []) (r := .agg [.d (.str r57.Print), .d (.sl (List.map eU8 r57.Cells)), .d (.int .u8 r57.Left), .d (.int .u8 r57.Right), .d (.int .i64 r57.From), .d (.int .i64 r57.To)]) (ls := []) 7 false (by kernel_rfl) (leZ) rfl (FSixdotref02_simple_ok h106) (Or.inl rfl) rfl (by kernel_rfl) rfl ?_
                refine specF (s' := f50_s96 p0_ r38 r56 r57) 8 (List.map eU8 [5,9]) (by kernel_rfl) (by kernel_rfl) rfl ?_
                refine chunk (s' := f50_s97 p0_ r38 r56 r57) 1 9 (by kernel_rfl) rfl ?_
                obtain ⟨r58, h107, H⟩ := bind_some H
                refine callS (s' := f50_s98 p0_ r38 r56 r57 r58) (f := 68) (xs := [.d (.str [50]), .d (.sl (List.map eU8 [5,9])), .agg [.d (.int .i64 0), .d (.int .i64 0)]]) (ys := [.d (.str [50]), .d (.sl (List.map eU8 [5,9])), .agg [.d (.int .i64 0), .d (.int .i64 0)]]) (ks := []) (obl := []) (r := .agg [.d (.str r58.Print), .d (.sl (List.map eU8 r58.Cells)), .d (.int .u8 r58.Left), .d (.int .u8 r58.Right), .d (.int .i64 r58.From), .d (.int .i64 r58.To)]) (ls := []) 10 false (by kernel_rfl) (leZ) rfl (FSixdotref02_simple_ok h107) (Or.inl rfl) rfl (by kernel_rfl) rfl ?_
                refine chunk (s' := f50_s99 p0_ r38 r56 r57 r58) 1 11 (by kernel_rfl) rfl ?_
                obtain ⟨l18, h108, H⟩ := bind_some H
                refine spec (s' := f50_s100 p0_ r38 r56 r57 r58 l18) (v := .osl 7 6 0 (List.length l18)) (obs := [.arr 6 (List.map eGRule l18)]) (rm := [1]) (upd := none) 12 (by kernel_rfl) (is_app (enc := eGRule) (objs := (f50_s99 p0_ r38 r56 r57 r58).objs) (esz := 6) (eb := 64) (ob := 0 + List.length [r56, r57, r58] ≤ List.length (List.map eGRule [r56, r57, r58])) (k := 1) (by kernel_rfl) take_all (fun _ => rfl) (by simp) h108) (by kernel_rfl) rfl ?_
                refine chunk (s' := f50_s101 p0_ r38 r56 r57 r58 l18) 1 13 (by kernel_rfl) rfl ?_
                refine at_end 13 (by kernel_rfl) ?_
                refine q_blockN ?_
                exact q_seq (Shift.trans (sh_nilc 0 2 6 (by kernel_rfl)) (sh_gc [2,3] (by kernel_rfl))) (hf50_J1 l18 H)
              · refine at_condF ((irem p0_ 8) == 7) (p0 := [1,1,0,1,0,1,1,1,1,1,1,1,1,1,1,1,1,1,0]) (p1 := [1,1,0,1,0,1,1,1,1,1,1,1,1,1,1,1,1,1,1]) (by kernel_rfl) (by kernel_rfl) hc27 ?_
                refine at_skip (by kernel_rfl) ?_
                refine q_blockN ?_
                exact q_seq (Shift.trans (sh_nilc 0 2 6 (by kernel_rfl)) (sh_gc [2,3] (by kernel_rfl))) (hf50_J1 r38 H)
end
end Go.AI
end
