/- Part 5 of 6 of the proof: lemmas about the model and the program's functions, with no condition beyond those that each states. -/
import Derived.Test.YtjbjbkidckbalaaSD
section
namespace Go.AI
open Go.Proofs
set_option maxRecDepth 10000
section
variable (p0_ : GRawRule) (p1_ : Int)
def f37_s1 : St := ⟨(0, .agg [.d (.sl (List.map eU8 p0_.P)), .d (.sl (List.map eU8 p0_.C)), .d (.int .u8 p0_.L), .d (.int .u8 p0_.R), .d (.int .u8 p0_.W.a0), .d (.int .u8 p0_.W.a1)]) :: (1, .d (.int .i64 p1_)) :: [], []⟩
def f37_s2 : St := po (f37_s1 p0_ p1_) [(4, .ptr 1 0), (2, .ptr 0 0)] fun _ => [some (.box [.d (.sl (List.map eU8 p0_.P)), .d (.sl (List.map eU8 p0_.C)), .d (.int .u8 p0_.L), .d (.int .u8 p0_.R), .d (.int .u8 p0_.W.a0), .d (.int .u8 p0_.W.a1)]), some (.box [.d (.str []), .d (.nil), .d (.int .u8 0), .d (.int .u8 0), .d (.int .i64 0), .d (.int .i64 0)])]
def f37_s3 : St := po (f37_s2 p0_ p1_) [(6, .osl 2 1 0 (List.length [63,63,2,8,17,62,4,1])), (5, .d (.str [97,98,99,65,66,49,50,45,46])), (12, .osl 2 1 0 (List.length [63,63,2,8,17,62,4,1]))] fun o => o ++ [some (.arr 1 (List.map eU8 [63,63,2,8,17,62,4,1]))]
def f37_s4 : St := pe (f37_s3 p0_ p1_) [(16, .d (.int .u8 (irem p0_.L 8))), (15, .d (.int .u8 p0_.L)), (14, .ptr 0 2), (13, .osl 2 1 0 (List.length [63,63,2,8,17,62,4,1]))]
def f37_s5 : St := pe (f37_s4 p0_ p1_) [(17, .eptr 2 1 (0 + Int.toNat (irem p0_.L 8)) 0)]
variable (x20 : Int)
def f37_s6 : St := pe (f37_s5 p0_ p1_) [(18, .d (.int .u8 x20))]
def f37_s7 : St := pe (f37_s6 p0_ p1_ x20) [(22, .d (.int .u8 (irem p0_.R 8))), (21, .d (.int .u8 p0_.R)), (20, .ptr 0 3), (19, .osl 2 1 0 (List.length [63,63,2,8,17,62,4,1]))]
def f37_s8 : St := pe (f37_s7 p0_ p1_ x20) [(23, .eptr 2 1 (0 + Int.toNat (irem p0_.R 8)) 0)]
variable (x21 : Int)
def f37_s9 : St := pe (f37_s8 p0_ p1_ x20) [(24, .d (.int .u8 x21))]
def f37_s10 : St := pe (f37_s9 p0_ p1_ x20 x21) [(29, .d (.int .i64 p1_)), (28, .d (.int .i64 (IntKind.i64.wrap p0_.W.a0))), (27, .d (.int .u8 p0_.W.a0)), (26, .ptr 0 4), (25, .ptr 0 4)]
def f37_s11 : St := pe (f37_s10 p0_ p1_ x20 x21) [(30, .d (.int .i64 (irem (IntKind.i64.wrap p0_.W.a0) p1_)))]
def f37_s12 : St := pe (f37_s11 p0_ p1_ x20 x21) [(35, .d (.int .i64 p1_)), (34, .d (.int .i64 (IntKind.i64.wrap p0_.W.a1))), (33, .d (.int .u8 p0_.W.a1)), (32, .ptr 0 5), (31, .ptr 0 4)]
def f37_s13 : St := pe (f37_s12 p0_ p1_ x20 x21) [(36, .d (.int .i64 (irem (IntKind.i64.wrap p0_.W.a1) p1_)))]
def f37_s14 : St := po (f37_s13 p0_ p1_ x20 x21) [(7, .ptr 3 0), (37, .agg [.d (.str []), .d (.nil), .d (.int .u8 x20), .d (.int .u8 x21), .d (.int .i64 (irem (IntKind.i64.wrap p0_.W.a0) p1_)), .d (.int .i64 (irem (IntKind.i64.wrap p0_.W.a1) p1_))])] fun o => o ++ [some (.box [.d (.str []), .d (.nil), .d (.int .u8 x20), .d (.int .u8 x21), .d (.int .i64 (irem (IntKind.i64.wrap p0_.W.a0) p1_)), .d (.int .i64 (irem (IntKind.i64.wrap p0_.W.a1) p1_))])]
def f37_s15 : St := pe (f37_s14 p0_ p1_ x20 x21) [(8, .d (.int .i64 0))]
variable (out_1 : (List UInt8)) (i_3 : Int)
def f37_s16 : St := ⟨(2, .ptr 0 0) :: (4, .ptr 1 0) :: (5, .d (.str [97,98,99,65,66,49,50,45,46])) :: (7, .ptr 2 0) :: (8, .d (.int .i64 i_3)) :: [], [some (.box [.d (.sl (List.map eU8 p0_.P)), .d (.sl (List.map eU8 p0_.C)), .d (.int .u8 p0_.L), .d (.int .u8 p0_.R), .d (.int .u8 p0_.W.a0), .d (.int .u8 p0_.W.a1)]), some (.box [.d (.str []), .osl 3 1 0 (List.length ([] : List Int)), .d (.int .u8 0), .d (.int .u8 0), .d (.int .i64 0), .d (.int .i64 0)]), some (.box [.d (.str out_1), .osl 4 1 0 (List.length ([] : List Int)), .d (.int .u8 x20), .d (.int .u8 x21), .d (.int .i64 (irem (IntKind.i64.wrap p0_.W.a0) p1_)), .d (.int .i64 (irem (IntKind.i64.wrap p0_.W.a1) p1_))]), some (.arr 1 (List.map eU8 ([] : List Int))), some (.arr 1 (List.map eU8 ([] : List Int)))]⟩
variable (out_2 : (List UInt8))
def f37_s17 : St := ⟨(2, .ptr 0 0) :: (4, .ptr 1 0) :: (7, .ptr 2 0) :: [], [some (.box [.d (.sl (List.map eU8 p0_.P)), .d (.sl (List.map eU8 p0_.C)), .d (.int .u8 p0_.L), .d (.int .u8 p0_.R), .d (.int .u8 p0_.W.a0), .d (.int .u8 p0_.W.a1)]), some (.box [.d (.str []), .osl 3 1 0 (List.length ([] : List Int)), .d (.int .u8 0), .d (.int .u8 0), .d (.int .i64 0), .d (.int .i64 0)]), some (.box [.d (.str out_2), .osl 4 1 0 (List.length ([] : List Int)), .d (.int .u8 x20), .d (.int .u8 x21), .d (.int .i64 (irem (IntKind.i64.wrap p0_.W.a0) p1_)), .d (.int .i64 (irem (IntKind.i64.wrap p0_.W.a1) p1_))]), some (.arr 1 (List.map eU8 ([] : List Int))), some (.arr 1 (List.map eU8 ([] : List Int)))]⟩
def f37_s18 : St := pe (f37_s16 p0_ p1_ x20 x21 out_1 i_3) [(40, .d (.sl (List.map eU8 p0_.P))), (39, .ptr 0 0), (38, .d (.int .i64 i_3))]
def f37_s19 : St := pe (f37_s18 p0_ p1_ x20 x21 out_1 i_3) [(41, .d (.int .i64 ((List.length p0_.P : Nat) : Int)))]
def f37_s20 : St := pe (f37_s19 p0_ p1_ x20 x21 out_1 i_3) [(44, .gv (decide (i_3 < ((List.length p0_.P : Nat) : Int))) (.d (.int .i64 i_3))), (43, .d (.bool (decide (i_3 < ((List.length p0_.P : Nat) : Int))))), (42, .d (.bool (decide (i_3 < ((List.length p0_.P : Nat) : Int)))))]
def f37_s21 : St := pe (f37_s20 p0_ p1_ x20 x21 out_1 i_3) [(45, .gv (decide (i_3 < ((List.length p0_.P : Nat) : Int))) (.d (.bool (decide (i_3 < 3)))))]
def f37_s22 : St := pe (f37_s21 p0_ p1_ x20 x21 out_1 i_3) [(46, .d (.bool ((decide (i_3 < ((List.length p0_.P : Nat) : Int))) && (decide (i_3 < 3)))))]
def f37_s23 : St := pe (f37_s22 p0_ p1_ x20 x21 out_1 i_3) [(51, .d (.int .i64 i_3)), (50, .d (.sl (List.map eU8 p0_.P))), (49, .ptr 0 0)]
variable (x22 : Int)
def f37_s24 : St := pe (f37_s23 p0_ p1_ x20 x21 out_1 i_3) [(52, .dptr (eU8 x22) 0)]
def f37_s25 : St := pe (f37_s24 p0_ p1_ x20 x21 out_1 i_3 x22) [(9, .d (.int .i64 (IntKind.i64.wrap (irem x22 9)))), (55, .d (.int .i64 (IntKind.i64.wrap (irem x22 9)))), (54, .d (.int .u8 (irem x22 9))), (53, .d (.int .u8 x22))]
def f37_s26 : St := pe (f37_s25 p0_ p1_ x20 x21 out_1 i_3 x22) [(61, .d (.int .i64 (iadd .i64 (IntKind.i64.wrap (irem x22 9)) 1))), (60, .d (.int .i64 (IntKind.i64.wrap (irem x22 9)))), (59, .d (.int .i64 (IntKind.i64.wrap (irem x22 9)))), (58, .d (.str [97,98,99,65,66,49,50,45,46])), (57, .d (.str out_1)), (56, .ptr 2 0)]
variable (s2 : (List UInt8))
def f37_s27 : St := pe (f37_s26 p0_ p1_ x20 x21 out_1 i_3 x22) [(62, .d (.str s2))]
variable (s3 : (List UInt8))
def f37_s28 : St := pe (f37_s27 p0_ p1_ x20 x21 out_1 i_3 x22 s2) [(63, .d (.str s3))]
def f37_s29 : St := po (f37_s28 p0_ p1_ x20 x21 out_1 i_3 x22 s2 s3) [(64, .ptr 2 0)] fun o => o.set 2 (some (.box [.d (.str s3), .osl 4 1 0 (List.length ([] : List Int)), .d (.int .u8 x20), .d (.int .u8 x21), .d (.int .i64 (irem (IntKind.i64.wrap p0_.W.a0) p1_)), .d (.int .i64 (irem (IntKind.i64.wrap p0_.W.a1) p1_))]))
def f37_s30 : St := pe (f37_s29 p0_ p1_ x20 x21 out_1 i_3 x22 s2 s3) [(8, .d (.int .i64 (iadd .i64 i_3 1))), (48, .d (.int .i64 (iadd .i64 i_3 1))), (47, .d (.int .i64 i_3))]
def f37_L1_E (p0_ : GRawRule) (p1_ : Int) (x20 : Int) (x21 : Int) : (List UInt8) → Ex → St → Prop := fun (y : (List UInt8)) e s => e = Ex.exit 0 ∧ Shift s (f37_s17 p0_ p1_ x20 x21 y)
theorem f37_L1_ok {n : Nat} {p0_ : GRawRule} {p1_ : Int} {x20 : Int} {x21 : Int} (x : ((List UInt8) × Int)) (z : (((List UInt8) × Int) ⊕ (List UInt8))) (H : f37_L1 n p0_ p1_ x20 x21 x.1 x.2 = some z) : wpA (cx 101) (nav [1,1,1,0,1,0,0] (bodyOf Try.f37)) (roundQ (fun (x : ((List UInt8) × Int)) => f37_s16 p0_ p1_ x20 x21 x.1 x.2) (f37_L1_E p0_ p1_ x20 x21) z) (f37_s16 p0_ p1_ x20 x21 x.1 x.2) := by
  obtain ⟨out_1, i_3⟩ := x
  dsimp only [f37_L1] at H
  refine at_seq (p0 := [1,1,1,0,1,0,0,0]) (p1 := [1,1,1,0,1,0,0,1]) (by kernel_rfl) ?_
  refine at_seq (p0 := [1,1,1,0,1,0,0,0,0]) (p1 := [1,1,1,0,1,0,0,0,1]) (by kernel_rfl) ?_
  refine at_region (by kernel_rfl) sh_refl ?_
  refine chunk (s' := f37_s18 p0_ p1_ x20 x21 out_1 i_3) 3 3 (by kernel_rfl) rfl ?_
  refine spec (s' := f37_s19 p0_ p1_ x20 x21 out_1 i_3) (v := .d (.int .i64 ((List.length p0_.P : Nat) : Int))) (obs := []) (rm := []) (upd := none) 4 (by kernel_rfl) (is_len (enc := eU8) (esz := 1) (eb := 1) (ez := [.int .u8 0]) (xs := p0_.P)) (by kernel_rfl) rfl ?_
  refine chunk (s' := f37_s20 p0_ p1_ x20 x21 out_1 i_3) 3 7 (by kernel_rfl) rfl ?_
  refine specG (g := decide (i_3 < ((List.length p0_.P : Nat) : Int))) (gs := [decide (i_3 < ((List.length p0_.P : Nat) : Int))]) (s' := f37_s21 p0_ p1_ x20 x21 out_1 i_3) (v := .d (.bool (decide (i_3 < 3)))) (obs := []) 8 (by kernel_rfl) rfl (fun hg => is_pl (by kernel_rfl)) (by kernel_rfl) (impK (fun hh => hh) (impZ)) (by kernel_rfl) rfl ?_
  refine specP (s' := f37_s22 p0_ p1_ x20 x21 out_1 i_3) 9 (by kernel_rfl) (pick_and (t := decide (i_3 < ((List.length p0_.P : Nat) : Int))) (x := decide (i_3 < 3)) (y := false)) (by kernel_rfl) rfl ?_
  refine at_end 9 (by kernel_rfl) ?_
  refine q_seq sh_refl ?_
  rcases ite_some H with ⟨hc34, H⟩ | ⟨hc34, H⟩
  · refine at_condT ((decide (i_3 < ((List.length p0_.P : Nat) : Int))) && (decide (i_3 < 3))) (p0 := [1,1,1,0,1,0,0,0,1,0]) (p1 := [1,1,1,0,1,0,0,0,1,1]) (by kernel_rfl) (by kernel_rfl) hc34 ?_
    refine at_skip (by kernel_rfl) ?_
    refine q_seq sh_refl ?_
    refine at_seq (p0 := [1,1,1,0,1,0,0,1,0]) (p1 := [1,1,1,0,1,0,0,1,1]) (by kernel_rfl) ?_
    refine at_block 1 (p0 := [1,1,1,0,1,0,0,1,0,0]) (by kernel_rfl) ?_
    refine at_seq (p0 := [1,1,1,0,1,0,0,1,0,0,0]) (p1 := [1,1,1,0,1,0,0,1,0,0,1]) (by kernel_rfl) ?_
    refine at_region (by kernel_rfl) sh_refl ?_
    refine chunk (s' := f37_s23 p0_ p1_ x20 x21 out_1 i_3) 3 3 (by kernel_rfl) rfl ?_
    obtain ⟨x22, h113, H⟩ := bind_some H
    refine spec (s' := f37_s24 p0_ p1_ x20 x21 out_1 i_3 x22) (v := .dptr (eU8 x22) 0) (obs := []) (rm := []) (upd := none) 4 (by kernel_rfl) (is_idxD (enc := eU8) (esz := 1) (eb := 1) (ez := [.int .u8 0]) h113 (by kernel_rfl)) (by kernel_rfl) rfl ?_
    refine chunk (s' := f37_s25 p0_ p1_ x20 x21 out_1 i_3 x22) 4 8 (by kernel_rfl) rfl ?_
    refine at_end 8 (by kernel_rfl) ?_
    refine q_seq sh_refl ?_
    refine at_region (by kernel_rfl) sh_refl ?_
    refine chunk (s' := f37_s26 p0_ p1_ x20 x21 out_1 i_3 x22) 6 6 (by kernel_rfl) rfl ?_
    obtain ⟨s2, h114, H⟩ := bind_some H
    refine spec (s' := f37_s27 p0_ p1_ x20 x21 out_1 i_3 x22 s2) (v := .d (.str s2)) (obs := []) (rm := []) (upd := none) 7 (by kernel_rfl) (is_ssub h114) (by kernel_rfl) rfl ?_
    obtain ⟨s3, h115, H⟩ := bind_some H
    refine spec (s' := f37_s28 p0_ p1_ x20 x21 out_1 i_3 x22 s2 s3) (v := .d (.str s3)) (obs := []) (rm := []) (upd := none) 8 (by kernel_rfl) (is_cat h115) (by kernel_rfl) rfl ?_
    refine chunk (s' := f37_s29 p0_ p1_ x20 x21 out_1 i_3 x22 s2 s3) 2 10 (by kernel_rfl) rfl ?_
    refine at_end 10 (by kernel_rfl) ?_
    refine q_blockN ?_
    refine q_seq sh_refl ?_
    refine at_region (by kernel_rfl) sh_refl ?_
    refine chunk (s' := f37_s30 p0_ p1_ x20 x21 out_1 i_3 x22 s2 s3) 3 3 (by kernel_rfl) rfl ?_
    refine at_end 3 (by kernel_rfl) ?_
    have hz := Option.some.inj H
    subst hz
    exact round_go (sh_gc [2,4,5,7,8] (by kernel_rfl))
  · refine at_condF ((decide (i_3 < ((List.length p0_.P : Nat) : Int))) && (decide (i_3 < 3))) (p0 := [1,1,1,0,1,0,0,0,1,0]) (p1 := [1,1,1,0,1,0,0,0,1,1]) (by kernel_rfl) (by kernel_rfl) hc34 ?_
    refine at_exit 0 (by kernel_rfl) ?_
    refine q_seqX ?_
    have hz := Option.some.inj H
    subst hz
    exact round_exit ⟨rfl, sh_gc [2,4,7] (by kernel_rfl)⟩
variable (y13 : (List UInt8))
def f37_s31 : St := po (f37_s17 p0_ p1_ x20 x21 y13) [(10, .osl 5 1 0 (List.length [1,3,9,5,7,32,44,60])), (65, .osl 5 1 0 (List.length [1,3,9,5,7,32,44,60]))] fun o => o ++ [some (.arr 1 (List.map eU8 [1,3,9,5,7,32,44,60]))]
def f37_s32 : St := pe (f37_s31 p0_ p1_ x20 x21 y13) [(70, .d (.int .u8 (irem (iquo .u8 p0_.L 8) 8))), (69, .d (.int .u8 (iquo .u8 p0_.L 8))), (68, .d (.int .u8 p0_.L)), (67, .ptr 0 2), (66, .osl 5 1 0 (List.length [1,3,9,5,7,32,44,60]))]
def f37_s33 : St := pe (f37_s32 p0_ p1_ x20 x21 y13) [(71, .eptr 5 1 (0 + Int.toNat (irem (iquo .u8 p0_.L 8) 8)) 0)]
variable (x23 : Int)
def f37_s34 : St := pe (f37_s33 p0_ p1_ x20 x21 y13) [(72, .d (.int .u8 x23))]
def f37_s35 : St := po (f37_s34 p0_ p1_ x20 x21 y13 x23) [(74, .ptr 2 1), (73, .osl 6 1 0 (List.length [x23]))] fun o => o.set 2 (some (.box [.d (.str y13), .osl 6 1 0 (List.length [x23]), .d (.int .u8 x20), .d (.int .u8 x21), .d (.int .i64 (irem (IntKind.i64.wrap p0_.W.a0) p1_)), .d (.int .i64 (irem (IntKind.i64.wrap p0_.W.a1) p1_))])) ++ [some (.arr 1 (List.map eU8 [x23]))]
def f37_s36 : St := pe (f37_s35 p0_ p1_ x20 x21 y13 x23) [(11, .d (.int .i64 0))]
variable (out_3 : (List Int)) (i_4 : Int)
def f37_s37 : St := ⟨(2, .ptr 0 0) :: (4, .ptr 1 0) :: (7, .ptr 2 0) :: (10, .osl 3 1 0 (List.length [1,3,9,5,7,32,44,60])) :: (11, .d (.int .i64 i_4)) :: [], [some (.box [.d (.sl (List.map eU8 p0_.P)), .d (.sl (List.map eU8 p0_.C)), .d (.int .u8 p0_.L), .d (.int .u8 p0_.R), .d (.int .u8 p0_.W.a0), .d (.int .u8 p0_.W.a1)]), some (.box [.d (.str []), .osl 4 1 0 (List.length ([] : List Int)), .d (.int .u8 0), .d (.int .u8 0), .d (.int .i64 0), .d (.int .i64 0)]), some (.box [.d (.str y13), .osl 5 1 0 (List.length out_3), .d (.int .u8 x20), .d (.int .u8 x21), .d (.int .i64 (irem (IntKind.i64.wrap p0_.W.a0) p1_)), .d (.int .i64 (irem (IntKind.i64.wrap p0_.W.a1) p1_))]), some (.arr 1 (List.map eU8 [1,3,9,5,7,32,44,60])), some (.arr 1 (List.map eU8 ([] : List Int))), some (.arr 1 (List.map eU8 out_3))]⟩
variable (out_4 : (List Int))
def f37_s38 : St := ⟨(4, .ptr 0 0) :: (7, .ptr 1 0) :: [], [some (.box [.d (.str []), .osl 2 1 0 (List.length ([] : List Int)), .d (.int .u8 0), .d (.int .u8 0), .d (.int .i64 0), .d (.int .i64 0)]), some (.box [.d (.str y13), .osl 3 1 0 (List.length out_4), .d (.int .u8 x20), .d (.int .u8 x21), .d (.int .i64 (irem (IntKind.i64.wrap p0_.W.a0) p1_)), .d (.int .i64 (irem (IntKind.i64.wrap p0_.W.a1) p1_))]), some (.arr 1 (List.map eU8 ([] : List Int))), some (.arr 1 (List.map eU8 out_4))]⟩
def f37_s39 : St := pe (f37_s37 p0_ p1_ x20 x21 y13 out_3 i_4) [(77, .d (.sl (List.map eU8 p0_.C))), (76, .ptr 0 1), (75, .d (.int .i64 i_4))]
def f37_s40 : St := pe (f37_s39 p0_ p1_ x20 x21 y13 out_3 i_4) [(78, .d (.int .i64 ((List.length p0_.C : Nat) : Int)))]
def f37_s41 : St := pe (f37_s40 p0_ p1_ x20 x21 y13 out_3 i_4) [(81, .gv (decide (i_4 < ((List.length p0_.C : Nat) : Int))) (.d (.int .i64 i_4))), (80, .d (.bool (decide (i_4 < ((List.length p0_.C : Nat) : Int))))), (79, .d (.bool (decide (i_4 < ((List.length p0_.C : Nat) : Int)))))]
def f37_s42 : St := pe (f37_s41 p0_ p1_ x20 x21 y13 out_3 i_4) [(82, .gv (decide (i_4 < ((List.length p0_.C : Nat) : Int))) (.d (.bool (decide (i_4 < 2)))))]
def f37_s43 : St := pe (f37_s42 p0_ p1_ x20 x21 y13 out_3 i_4) [(83, .d (.bool ((decide (i_4 < ((List.length p0_.C : Nat) : Int))) && (decide (i_4 < 2)))))]
def f37_s44 : St := pe (f37_s43 p0_ p1_ x20 x21 y13 out_3 i_4) [(91, .d (.int .i64 i_4)), (90, .d (.sl (List.map eU8 p0_.C))), (89, .ptr 0 1), (88, .osl 3 1 0 (List.length [1,3,9,5,7,32,44,60])), (87, .osl 5 1 0 (List.length out_3)), (86, .ptr 2 1)]
variable (x24 : Int)
def f37_s45 : St := pe (f37_s44 p0_ p1_ x20 x21 y13 out_3 i_4) [(92, .dptr (eU8 x24) 0)]
def f37_s46 : St := pe (f37_s45 p0_ p1_ x20 x21 y13 out_3 i_4 x24) [(94, .d (.int .u8 (irem x24 8))), (93, .d (.int .u8 x24))]
def f37_s47 : St := pe (f37_s46 p0_ p1_ x20 x21 y13 out_3 i_4 x24) [(95, .eptr 3 1 (0 + Int.toNat (irem x24 8)) 0)]
variable (x25 : Int)
def f37_s48 : St := pe (f37_s47 p0_ p1_ x20 x21 y13 out_3 i_4 x24) [(96, .d (.int .u8 x25))]
def f37_s49 : St := po (f37_s48 p0_ p1_ x20 x21 y13 out_3 i_4 x24 x25) [(97, .osl 6 1 0 (List.length [x25]))] fun o => o ++ [some (.arr 1 (List.map eU8 [x25]))]
variable (l19 : (List Int))
def f37_s50 : St := po (f37_s49 p0_ p1_ x20 x21 y13 out_3 i_4 x24 x25) [(98, .osl 7 1 0 (List.length l19))] fun o => o.set 5 none ++ [some (.arr 1 (List.map eU8 l19))]
def f37_s51 : St := po (f37_s50 p0_ p1_ x20 x21 y13 out_3 i_4 x24 x25 l19) [(99, .ptr 2 1)] fun o => o.set 2 (some (.box [.d (.str y13), .osl 7 1 0 (List.length l19), .d (.int .u8 x20), .d (.int .u8 x21), .d (.int .i64 (irem (IntKind.i64.wrap p0_.W.a0) p1_)), .d (.int .i64 (irem (IntKind.i64.wrap p0_.W.a1) p1_))]))
def f37_s52 : St := pe (f37_s51 p0_ p1_ x20 x21 y13 out_3 i_4 x24 x25 l19) [(11, .d (.int .i64 (iadd .i64 i_4 1))), (85, .d (.int .i64 (iadd .i64 i_4 1))), (84, .d (.int .i64 i_4))]
def f37_L2_E (p0_ : GRawRule) (p1_ : Int) (x20 : Int) (x21 : Int) (y13 : (List UInt8)) : (List Int) → Ex → St → Prop := fun (y : (List Int)) e s => e = Ex.exit 2 ∧ Shift s (f37_s38 p0_ p1_ x20 x21 y13 y)
theorem f37_L2_ok {n : Nat} {p0_ : GRawRule} {p1_ : Int} {x20 : Int} {x21 : Int} {y13 : (List UInt8)} (x : ((List Int) × Int)) (z : (((List Int) × Int) ⊕ (List Int))) (H : f37_L2 n p0_ p1_ x20 x21 y13 x.1 x.2 = some z) : wpA (cx 101) (nav [1,1,1,1,1,1,0,1,0,0] (bodyOf Try.f37)) (roundQ (fun (x : ((List Int) × Int)) => f37_s37 p0_ p1_ x20 x21 y13 x.1 x.2) (f37_L2_E p0_ p1_ x20 x21 y13) z) (f37_s37 p0_ p1_ x20 x21 y13 x.1 x.2) := by
  obtain ⟨out_3, i_4⟩ := x
  dsimp only [f37_L2] at H
  refine at_seq (p0 := [1,1,1,1,1,1,0,1,0,0,0]) (p1 := [1,1,1,1,1,1,0,1,0,0,1]) (by kernel_rfl) ?_
  refine at_seq (p0 := [1,1,1,1,1,1,0,1,0,0,0,0]) (p1 := [1,1,1,1,1,1,0,1,0,0,0,1]) (by kernel_rfl) ?_
  refine at_region (by kernel_rfl) sh_refl ?_
  refine chunk (s' := f37_s39 p0_ p1_ x20 x21 y13 out_3 i_4) 3 3 (by kernel_rfl) rfl ?_
  refine spec (s' := f37_s40 p0_ p1_ x20 x21 y13 out_3 i_4) (v := .d (.int .i64 ((List.length p0_.C : Nat) : Int))) (obs := []) (rm := []) (upd := none) 4 (by kernel_rfl) (is_len (enc := eU8) (esz := 1) (eb := 1) (ez := [.int .u8 0]) (xs := p0_.C)) (by kernel_rfl) rfl ?_
  refine chunk (s' := f37_s41 p0_ p1_ x20 x21 y13 out_3 i_4) 3 7 (by kernel_rfl) rfl ?_
  refine specG (g := decide (i_4 < ((List.length p0_.C : Nat) : Int))) (gs := [decide (i_4 < ((List.length p0_.C : Nat) : Int))]) (s' := f37_s42 p0_ p1_ x20 x21 y13 out_3 i_4) (v := .d (.bool (decide (i_4 < 2)))) (obs := []) 8 (by kernel_rfl) rfl (fun hg => is_pl (by kernel_rfl)) (by kernel_rfl) (impK (fun hh => hh) (impZ)) (by kernel_rfl) rfl ?_
  refine specP (s' := f37_s43 p0_ p1_ x20 x21 y13 out_3 i_4) 9 (by kernel_rfl) (pick_and (t := decide (i_4 < ((List.length p0_.C : Nat) : Int))) (x := decide (i_4 < 2)) (y := false)) (by kernel_rfl) rfl ?_
  refine at_end 9 (by kernel_rfl) ?_
  refine q_seq sh_refl ?_
  rcases ite_some H with ⟨hc35, H⟩ | ⟨hc35, H⟩
  · refine at_condT ((decide (i_4 < ((List.length p0_.C : Nat) : Int))) && (decide (i_4 < 2))) (p0 := [1,1,1,1,1,1,0,1,0,0,0,1,0]) (p1 := [1,1,1,1,1,1,0,1,0,0,0,1,1]) (by kernel_rfl) (by kernel_rfl) hc35 ?_
    refine at_skip (by kernel_rfl) ?_
    refine q_seq sh_refl ?_
    refine at_seq (p0 := [1,1,1,1,1,1,0,1,0,0,1,0]) (p1 := [1,1,1,1,1,1,0,1,0,0,1,1]) (by kernel_rfl) ?_
    refine at_block 3 (p0 := [1,1,1,1,1,1,0,1,0,0,1,0,0]) (by kernel_rfl) ?_
    refine at_region (by kernel_rfl) sh_refl ?_
    refine chunk (s' := f37_s44 p0_ p1_ x20 x21 y13 out_3 i_4) 6 6 (by kernel_rfl) rfl ?_
    obtain ⟨x24, h118, H⟩ := bind_some H
    refine spec (s' := f37_s45 p0_ p1_ x20 x21 y13 out_3 i_4 x24) (v := .dptr (eU8 x24) 0) (obs := []) (rm := []) (upd := none) 7 (by kernel_rfl) (is_idxD (enc := eU8) (esz := 1) (eb := 1) (ez := [.int .u8 0]) h118 (by kernel_rfl)) (by kernel_rfl) rfl ?_
    refine chunk (s' := f37_s46 p0_ p1_ x20 x21 y13 out_3 i_4 x24) 2 9 (by kernel_rfl) rfl ?_
    obtain ⟨x25, h119, H⟩ := bind_some H
    refine spec (s' := f37_s47 p0_ p1_ x20 x21 y13 out_3 i_4 x24) (v := .eptr 3 1 (0 + Int.toNat (irem x24 8)) 0) (obs := []) (rm := []) (upd := none) 10 (by kernel_rfl) (is_idxO (k := 3) (esz := 1) (eb := 1) (ez := [.int .u8 0]) h119) (by kernel_rfl) rfl ?_
    refine spec (s' := f37_s48 p0_ p1_ x20 x21 y13 out_3 i_4 x24 x25) (v := .d (.int .u8 x25)) (obs := []) (rm := []) (upd := none) 11 (by kernel_rfl) (is_ldA (enc := eU8) (objs := (f37_s47 p0_ p1_ x20 x21 y13 out_3 i_4 x24).objs) (i := (irem x24 8)) (k := 3) (sz := 1) (off := 0) (t := ty 64) (v := .d (.int .u8 x25)) (by kernel_rfl) h119 (by kernel_rfl) (by kernel_rfl)) (by kernel_rfl) rfl ?_
    refine chunk (s' := f37_s49 p0_ p1_ x20 x21 y13 out_3 i_4 x24 x25) 1 12 (by kernel_rfl) rfl ?_
    obtain ⟨l19, h120, H⟩ := bind_some H
    refine spec (s' := f37_s50 p0_ p1_ x20 x21 y13 out_3 i_4 x24 x25 l19) (v := .osl 7 1 0 (List.length l19)) (obs := [.arr 1 (List.map eU8 l19)]) (rm := [5]) (upd := none) 13 (by kernel_rfl) (is_app (enc := eU8) (objs := (f37_s49 p0_ p1_ x20 x21 y13 out_3 i_4 x24 x25).objs) (esz := 1) (eb := 1) (ob := 0 + List.length [x25] ≤ List.length (List.map eU8 [x25])) (k := 5) (by kernel_rfl) take_all (fun _ => rfl) (by simp) h120) (by kernel_rfl) rfl ?_
    refine chunk (s' := f37_s51 p0_ p1_ x20 x21 y13 out_3 i_4 x24 x25 l19) 2 15 (by kernel_rfl) rfl ?_
    refine at_end 15 (by kernel_rfl) ?_
    refine q_blockN ?_
    refine q_seq sh_refl ?_
    refine at_region (by kernel_rfl) sh_refl ?_
    refine chunk (s' := f37_s52 p0_ p1_ x20 x21 y13 out_3 i_4 x24 x25 l19) 3 3 (by kernel_rfl) rfl ?_
    refine at_end 3 (by kernel_rfl) ?_
    have hz := Option.some.inj H
    subst hz
    exact round_go (sh_gc [2,4,7,10,11] (by kernel_rfl))
  · refine at_condF ((decide (i_4 < ((List.length p0_.C : Nat) : Int))) && (decide (i_4 < 2))) (p0 := [1,1,1,1,1,1,0,1,0,0,0,1,0]) (p1 := [1,1,1,1,1,1,0,1,0,0,0,1,1]) (by kernel_rfl) (by kernel_rfl) hc35 ?_
    refine at_exit 2 (by kernel_rfl) ?_
    refine q_seqX ?_
    have hz := Option.some.inj H
    subst hz
    exact round_exit ⟨rfl, sh_gc [4,7] (by kernel_rfl)⟩
variable (y14 : (List Int))
def f37_s53 : St := po (f37_s38 p0_ p1_ x20 x21 y13 y14) [(100, .agg [.d (.str y13), .osl 3 1 0 (List.length y14), .d (.int .u8 x20), .d (.int .u8 x21), .d (.int .i64 (irem (IntKind.i64.wrap p0_.W.a0) p1_)), .d (.int .i64 (irem (IntKind.i64.wrap p0_.W.a1) p1_))])] fun o => o.set 0 (some (.box [.d (.str y13), .osl 3 1 0 (List.length y14), .d (.int .u8 x20), .d (.int .u8 x21), .d (.int .i64 (irem (IntKind.i64.wrap p0_.W.a0) p1_)), .d (.int .i64 (irem (IntKind.i64.wrap p0_.W.a1) p1_))]))
theorem FSixdotref02_Rule_ok {n : Nat} {p0_ : GRawRule} {p1_ : Int} {z : GRule} (H : FSixdotref02_Rule n p0_ p1_ = some z) : CallOK Try.prog 37 [.agg [.d (.sl (List.map eU8 p0_.P)), .d (.sl (List.map eU8 p0_.C)), .d (.int .u8 p0_.L), .d (.int .u8 p0_.R), .d (.int .u8 p0_.W.a0), .d (.int .u8 p0_.W.a1)], .d (.int .i64 p1_)] (.agg [.d (.str z.Print), .own 1 (List.map eU8 z.Cells), .d (.int .u8 z.Left), .d (.int .u8 z.Right), .d (.int .i64 z.From), .d (.int .i64 z.To)]) := by
  dsimp only [FSixdotref02_Rule] at H
  refine fn_ok (Γ := cx 101) (s := f37_s1 p0_ p1_) follows (cxOK 101) Try.func37 (by kernel_rfl) (by kernel_rfl) (by kernel_rfl) (by kernel_rfl) (by kernel_rfl) (by kernel_rfl) ?_
  refine at_seq (p0 := [0]) (p1 := [1]) (by kernel_rfl) ?_
  refine at_region (by kernel_rfl) sh_refl ?_
  refine chunk (s' := f37_s2 p0_ p1_) 2 2 (by kernel_rfl) rfl ?_
  refine at_end 2 (by kernel_rfl) ?_
  refine q_seq sh_refl ?_
  refine at_seq (p0 := [1,0]) (p1 := [1,1]) (by kernel_rfl) ?_
  refine at_region (by kernel_rfl) sh_refl ?_
  refine chunk (s' := f37_s3 p0_ p1_) 3 3 (by kernel_rfl) rfl ?_
  refine at_end 3 (by kernel_rfl) ?_
  refine q_seq sh_refl ?_
  refine at_seq (p0 := [1,1,0]) (p1 := [1,1,1]) (by kernel_rfl) ?_
  refine at_region (by kernel_rfl) sh_refl ?_
  refine chunk (s' := f37_s4 p0_ p1_) 4 4 (by kernel_rfl) rfl ?_
  obtain ⟨x20, h109, H⟩ := bind_some H
  refine spec (s' := f37_s5 p0_ p1_) (v := .eptr 2 1 (0 + Int.toNat (irem p0_.L 8)) 0) (obs := []) (rm := []) (upd := none) 5 (by kernel_rfl) (is_idxO (k := 2) (esz := 1) (eb := 1) (ez := [.int .u8 0]) h109) (by kernel_rfl) rfl ?_
  refine spec (s' := f37_s6 p0_ p1_ x20) (v := .d (.int .u8 x20)) (obs := []) (rm := []) (upd := none) 6 (by kernel_rfl) (is_ldA (enc := eU8) (objs := (f37_s5 p0_ p1_).objs) (i := (irem p0_.L 8)) (k := 2) (sz := 1) (off := 0) (t := ty 5) (v := .d (.int .u8 x20)) (by kernel_rfl) h109 (by kernel_rfl) (by kernel_rfl)) (by kernel_rfl) rfl ?_
  refine chunk (s' := f37_s7 p0_ p1_ x20) 4 10 (by kernel_rfl) rfl ?_
  obtain ⟨x21, h110, H⟩ := bind_some H
  refine spec (s' := f37_s8 p0_ p1_ x20) (v := .eptr 2 1 (0 + Int.toNat (irem p0_.R 8)) 0) (obs := []) (rm := []) (upd := none) 11 (by kernel_rfl) (is_idxO (k := 2) (esz := 1) (eb := 1) (ez := [.int .u8 0]) h110) (by kernel_rfl) rfl ?_
  refine spec (s' := f37_s9 p0_ p1_ x20 x21) (v := .d (.int .u8 x21)) (obs := []) (rm := []) (upd := none) 12 (by kernel_rfl) (is_ldA (enc := eU8) (objs := (f37_s8 p0_ p1_ x20).objs) (i := (irem p0_.R 8)) (k := 2) (sz := 1) (off := 0) (t := ty 5) (v := .d (.int .u8 x21)) (by kernel_rfl) h110 (by kernel_rfl) (by kernel_rfl)) (by kernel_rfl) rfl ?_
  refine chunk (s' := f37_s10 p0_ p1_ x20 x21) 5 17 (by kernel_rfl) rfl ?_
  obtain ⟨u3, h111, H⟩ := bind_some H
  refine spec (s' := f37_s11 p0_ p1_ x20 x21) (v := .d (.int .i64 (irem (IntKind.i64.wrap p0_.W.a0) p1_))) (obs := []) (rm := []) (upd := none) 18 (by kernel_rfl) (is_ob (v := .d (.int .i64 (irem (IntKind.i64.wrap p0_.W.a0) p1_))) (guard_nz h111)) (by kernel_rfl) rfl ?_
  refine chunk (s' := f37_s12 p0_ p1_ x20 x21) 5 23 (by kernel_rfl) rfl ?_
  obtain ⟨u4, h112, H⟩ := bind_some H
  refine spec (s' := f37_s13 p0_ p1_ x20 x21) (v := .d (.int .i64 (irem (IntKind.i64.wrap p0_.W.a1) p1_))) (obs := []) (rm := []) (upd := none) 24 (by kernel_rfl) (is_ob (v := .d (.int .i64 (irem (IntKind.i64.wrap p0_.W.a1) p1_))) (guard_nz h112)) (by kernel_rfl) rfl ?_
  refine chunk (s' := f37_s14 p0_ p1_ x20 x21) 3 27 (by kernel_rfl) rfl ?_
  refine at_end 27 (by kernel_rfl) ?_
  refine q_seq sh_refl ?_
  refine at_seq (p0 := [1,1,1,0]) (p1 := [1,1,1,1]) (by kernel_rfl) ?_
  refine at_seq (p0 := [1,1,1,0,0]) (p1 := [1,1,1,0,1]) (by kernel_rfl) ?_
  refine at_region (by kernel_rfl) sh_refl ?_
  refine chunk (s' := f37_s15 p0_ p1_ x20 x21) 1 1 (by kernel_rfl) rfl ?_
  refine at_end 1 (by kernel_rfl) ?_
  refine q_seq sh_refl ?_
  refine at_block 0 (p0 := [1,1,1,0,1,0]) (by kernel_rfl) ?_
  obtain ⟨y13, h116, H⟩ := bind_some H
  refine at_loop (p0 := [1,1,1,0,1,0,0]) (fun (x : ((List UInt8) × Int)) => f37_s16 p0_ p1_ x20 x21 x.1 x.2) (f37_L1_E p0_ p1_ x20 x21) (by kernel_rfl) h116 (Shift.trans (Shift.trans (sh_nilc 1 1 1 (by kernel_rfl)) (sh_nilc 3 1 1 (by kernel_rfl))) (sh_gc [2,4,5,7,8] (by kernel_rfl))) (fun x z => f37_L1_ok x z) ?_
  intro e s hE11
  obtain ⟨rfl, hE11⟩ := hE11
  refine q_blockH ?_
  refine q_seq (s' := f37_s17 p0_ p1_ x20 x21 y13) (hE11) ?_
  refine at_seq (p0 := [1,1,1,1,0]) (p1 := [1,1,1,1,1]) (by kernel_rfl) ?_
  refine at_region (by kernel_rfl) sh_refl ?_
  refine chunk (s' := f37_s31 p0_ p1_ x20 x21 y13) 2 2 (by kernel_rfl) rfl ?_
  refine at_end 2 (by kernel_rfl) ?_
  refine q_seq sh_refl ?_
  refine at_seq (p0 := [1,1,1,1,1,0]) (p1 := [1,1,1,1,1,1]) (by kernel_rfl) ?_
  refine at_region (by kernel_rfl) sh_refl ?_
  refine chunk (s' := f37_s32 p0_ p1_ x20 x21 y13) 5 5 (by kernel_rfl) rfl ?_
  obtain ⟨x23, h117, H⟩ := bind_some H
  refine spec (s' := f37_s33 p0_ p1_ x20 x21 y13) (v := .eptr 5 1 (0 + Int.toNat (irem (iquo .u8 p0_.L 8) 8)) 0) (obs := []) (rm := []) (upd := none) 6 (by kernel_rfl) (is_idxO (k := 5) (esz := 1) (eb := 1) (ez := [.int .u8 0]) h117) (by kernel_rfl) rfl ?_
  refine spec (s' := f37_s34 p0_ p1_ x20 x21 y13 x23) (v := .d (.int .u8 x23)) (obs := []) (rm := []) (upd := none) 7 (by kernel_rfl) (is_ldA (enc := eU8) (objs := (f37_s33 p0_ p1_ x20 x21 y13).objs) (i := (irem (iquo .u8 p0_.L 8) 8)) (k := 5) (sz := 1) (off := 0) (t := ty 64) (v := .d (.int .u8 x23)) (by kernel_rfl) h117 (by kernel_rfl) (by kernel_rfl)) (by kernel_rfl) rfl ?_
  refine chunk (s' := f37_s35 p0_ p1_ x20 x21 y13 x23) 3 10 (by kernel_rfl) rfl ?_
  refine at_end 10 (by kernel_rfl) ?_
  refine q_seq sh_refl ?_
  refine at_seq (p0 := [1,1,1,1,1,1,0]) (p1 := [1,1,1,1,1,1,1]) (by kernel_rfl) ?_
  refine at_seq (p0 := [1,1,1,1,1,1,0,0]) (p1 := [1,1,1,1,1,1,0,1]) (by kernel_rfl) ?_
  refine at_region (by kernel_rfl) sh_refl ?_
  refine chunk (s' := f37_s36 p0_ p1_ x20 x21 y13 x23) 1 1 (by kernel_rfl) rfl ?_
  refine at_end 1 (by kernel_rfl) ?_
  refine q_seq sh_refl ?_
  refine at_block 2 (p0 := [1,1,1,1,1,1,0,1,0]) (by kernel_rfl) ?_
  obtain ⟨y14, h121, H⟩ := bind_some H
  refine at_loop (p0 := [1,1,1,1,1,1,0,1,0,0]) (fun (x : ((List Int) × Int)) => f37_s37 p0_ p1_ x20 x21 y13 x.1 x.2) (f37_L2_E p0_ p1_ x20 x21 y13) (by kernel_rfl) h121 (sh_gc [2,4,7,10,11] (by kernel_rfl)) (fun x z => f37_L2_ok x z) ?_
  intro e s hE12
  obtain ⟨rfl, hE12⟩ := hE12
  refine q_blockH ?_
  refine q_seq (s' := f37_s38 p0_ p1_ x20 x21 y13 y14) (hE12) ?_
  refine at_seq (p0 := [1,1,1,1,1,1,1,0]) (p1 := [1,1,1,1,1,1,1,1]) (by kernel_rfl) ?_
  refine at_region (by kernel_rfl) sh_refl ?_
  refine chunk (s' := f37_s53 p0_ p1_ x20 x21 y13 y14) 2 2 (by kernel_rfl) rfl ?_
  refine at_end 2 (by kernel_rfl) ?_
  refine q_seq sh_refl ?_
  refine at_ret (by kernel_rfl) ?_
  have hz := Option.some.inj H
  subst hz
  exact post_ret (ret1 (v := .agg [.d (.str y13), .osl 3 1 0 (List.length y14), .d (.int .u8 x20), .d (.int .u8 x21), .d (.int .i64 (irem (IntKind.i64.wrap p0_.W.a0) p1_)), .d (.int .i64 (irem (IntKind.i64.wrap p0_.W.a1) p1_))]) (r := .agg [.d (.str (({ Print := y13, Cells := y14, Left := x20, Right := x21, From := irem (IntKind.i64.wrap p0_.W.a0) p1_, To := irem (IntKind.i64.wrap p0_.W.a1) p1_ } : GRule).Print)), .own 1 (List.map eU8 (({ Print := y13, Cells := y14, Left := x20, Right := x21, From := irem (IntKind.i64.wrap p0_.W.a0) p1_, To := irem (IntKind.i64.wrap p0_.W.a1) p1_ } : GRule).Cells)), .d (.int .u8 (({ Print := y13, Cells := y14, Left := x20, Right := x21, From := irem (IntKind.i64.wrap p0_.W.a0) p1_, To := irem (IntKind.i64.wrap p0_.W.a1) p1_ } : GRule).Left)), .d (.int .u8 (({ Print := y13, Cells := y14, Left := x20, Right := x21, From := irem (IntKind.i64.wrap p0_.W.a0) p1_, To := irem (IntKind.i64.wrap p0_.W.a1) p1_ } : GRule).Right)), .d (.int .i64 (({ Print := y13, Cells := y14, Left := x20, Right := x21, From := irem (IntKind.i64.wrap p0_.W.a0) p1_, To := irem (IntKind.i64.wrap p0_.W.a1) p1_ } : GRule).From)), .d (.int .i64 (({ Print := y13, Cells := y14, Left := x20, Right := x21, From := irem (IntKind.i64.wrap p0_.W.a0) p1_, To := irem (IntKind.i64.wrap p0_.W.a1) p1_ } : GRule).To))]) [3] (by kernel_rfl) (outA_agg (outC_cons (outV_d) (outC_cons (outV_own (by kernel_rfl)) (outC_cons (outV_d) (outC_cons (outV_d) (outC_cons (outV_d) (outC_cons (outV_d) (outC_nil)))))))) (by kernel_rfl) (by decide))
end
section
variable (p0_ : Int)
def f69_s1 : St := ⟨(0, .d (.int .u8 p0_)) :: [], []⟩
def f69_s2 : St := po (f69_s1 p0_) [(2, .d (.bool false))] fun _ => []
def f69_s3 : St := po (f69_s2 p0_) [(7, .gv (decide (iand .u8 p0_ 127 ≥ 32)) (.d (.int .u8 p0_))), (6, .d (.bool (decide (iand .u8 p0_ 127 ≥ 32)))), (5, .d (.bool (decide (iand .u8 p0_ 127 ≥ 32)))), (4, .d (.int .u8 (iand .u8 p0_ 127))), (3, .d (.int .u8 p0_))] fun _ => []
def f69_s4 : St := po (f69_s3 p0_) [(8, .gv (decide (iand .u8 p0_ 127 ≥ 32)) (.d (.int .u8 (iand .u8 p0_ 127))))] fun _ => []
def f69_s5 : St := po (f69_s4 p0_) [(9, .gv (decide (iand .u8 p0_ 127 ≥ 32)) (.d (.bool (decide (iand .u8 p0_ 127 ≤ 126)))))] fun _ => []
def f69_s6 : St := po (f69_s5 p0_) [(10, .d (.bool ((decide (iand .u8 p0_ 127 ≥ 32)) && (decide (iand .u8 p0_ 127 ≤ 126)))))] fun _ => []
def f69_s7 : St := po (f69_s6 p0_) [(2, .d (.bool ((decide (iand .u8 p0_ 127 ≥ 32)) && (decide (iand .u8 p0_ 127 ≤ 126)))))] fun _ => []
theorem FSixdotref02_Character_ok {n : Nat} {p0_ : Int} {z : Bool} (H : FSixdotref02_Character n p0_ = some z) : CallOK Try.prog 69 [.d (.int .u8 p0_)] (.d (.bool z)) := by
  dsimp only [FSixdotref02_Character] at H
  refine fn_ok (Γ := cx 11) (s := f69_s1 p0_) follows (cxOK 11) Try.func69 (by kernel_rfl) (by kernel_rfl) (by kernel_rfl) (by kernel_rfl) (by kernel_rfl) (by kernel_rfl) ?_
  refine at_seq (p0 := [0]) (p1 := [1]) (by kernel_rfl) ?_
  refine at_region (by kernel_rfl) sh_refl ?_
  refine chunk (s' := f69_s2 p0_) 1 1 (by kernel_rfl) rfl ?_
  refine at_end 1 (by kernel_rfl) ?_
  refine q_seq sh_refl ?_
  refine at_seq (p0 := [1,0]) (p1 := [1,1]) (by kernel_rfl) ?_
  refine at_region (by kernel_rfl) sh_refl ?_
  refine chunk (s' := f69_s3 p0_) 5 5 (by kernel_rfl) rfl ?_
  refine specG (g := decide (iand .u8 p0_ 127 ≥ 32)) (gs := [decide (iand .u8 p0_ 127 ≥ 32)]) (s' := f69_s4 p0_) (v := .d (.int .u8 (iand .u8 p0_ 127))) (obs := []) 6 (by kernel_rfl) rfl (fun hg => is_pl (by kernel_rfl)) (by kernel_rfl) (impK (fun hh => hh) (impZ)) (by kernel_rfl) rfl ?_
  refine specG (g := decide (iand .u8 p0_ 127 ≥ 32)) (gs := [decide (iand .u8 p0_ 127 ≥ 32)]) (s' := f69_s5 p0_) (v := .d (.bool (decide (iand .u8 p0_ 127 ≤ 126)))) (obs := []) 7 (by kernel_rfl) rfl (fun hg => is_pl (by kernel_rfl)) (by kernel_rfl) (impK (fun hh => hh) (impZ)) (by kernel_rfl) rfl ?_
  refine specP (s' := f69_s6 p0_) 8 (by kernel_rfl) (pick_and (t := decide (iand .u8 p0_ 127 ≥ 32)) (x := decide (iand .u8 p0_ 127 ≤ 126)) (y := false)) (by kernel_rfl) rfl ?_
  refine chunk (s' := f69_s7 p0_) 1 9 (by kernel_rfl) rfl ?_
  refine at_end 9 (by kernel_rfl) ?_
  refine q_seq sh_refl ?_
  refine at_ret (by kernel_rfl) ?_
  have hz := Option.some.inj H
  subst hz
  exact post_ret (ret1 (v := .d (.bool ((decide (iand .u8 p0_ 127 ≥ 32)) && (decide (iand .u8 p0_ 127 ≤ 126))))) (r := .d (.bool ((decide (iand .u8 p0_ 127 ≥ 32)) && (decide (iand .u8 p0_ 127 ≤ 126))))) [] (by kernel_rfl) (outA_d (outV_d)) (by kernel_rfl) (by decide))
end
section
variable (p0_ : (List UInt8))
def f56_s1 : St := ⟨(0, .d (.str p0_)) :: [], []⟩
def f56_s2 : St := po (f56_s1 p0_) [(3, .d (.int .i64 0)), (2, .d (.int .i64 0))] fun _ => []
def f56_s3 : St := po (f56_s2 p0_) [(4, .d (.int .i64 0))] fun _ => []
variable (i_5 : Int)
def f56_s4 : St := ⟨(0, .d (.str p0_)) :: (4, .d (.int .i64 i_5)) :: [], []⟩
def f56_s5 : St := ⟨(0, .d (.str p0_)) :: [], []⟩
def f56_s6 : St := po (f56_s4 p0_ i_5) [(8, .d (.bool (decide (i_5 < ((List.length p0_ : Nat) : Int))))), (7, .d (.int .i64 ((List.length p0_ : Nat) : Int))), (6, .d (.str p0_)), (5, .d (.int .i64 i_5))] fun _ => []
def f56_s7 : St := po (f56_s6 p0_ i_5) [(12, .d (.int .i64 i_5)), (11, .d (.str p0_))] fun _ => []
variable (b3 : Int)
def f56_s8 : St := po (f56_s7 p0_ i_5) [(13, .d (.int .u8 b3))] fun _ => []
variable (r59 : Bool)
def f56_s9 : St := po (f56_s8 p0_ i_5 b3) [(14, .d (.bool r59))] fun _ => []
def f56_s10 : St := po (f56_s9 p0_ i_5 b3 r59) [(15, .d (.bool (!r59)))] fun _ => []
def f56_s11 : St := po (f56_s10 p0_ i_5 b3 r59) [(3, .d (.int .i64 60)), (2, .d (.int .i64 i_5)), (16, .d (.int .i64 i_5))] fun _ => []
def f56_s12 : St := po (f56_s10 p0_ i_5 b3 r59) [(4, .d (.int .i64 (iadd .i64 i_5 1))), (10, .d (.int .i64 (iadd .i64 i_5 1))), (9, .d (.int .i64 i_5))] fun _ => []
def f56_L1_E (p0_ : (List UInt8)) : (Unit ⊕ (Int × Int)) → Ex → St → Prop := fun y => Sum.casesOn y (fun (y : Unit) e s => e = Ex.exit 0 ∧ Shift s (f56_s5 p0_)) (fun (y : (Int × Int)) e s => e = Ex.ret ∧ retA ty (Try.f56).results.toList (.tup [.d (.int .i64 y.1), .d (.int .i64 y.2)]) s)
theorem f56_L1_ok {n : Nat} {p0_ : (List UInt8)} (x : Int) (z : (Int ⊕ (Unit ⊕ (Int × Int)))) (H : f56_L1 n p0_ x = some z) : wpA (cx 19) (nav [1,0,1,0,0] (bodyOf Try.f56)) (roundQ (fun (x : Int) => f56_s4 p0_ x) (f56_L1_E p0_) z) (f56_s4 p0_ x) := by
  revert H
  generalize x = i_5
  intro H
  dsimp only [f56_L1] at H
  refine at_seq (p0 := [1,0,1,0,0,0]) (p1 := [1,0,1,0,0,1]) (by kernel_rfl) ?_
  refine at_seq (p0 := [1,0,1,0,0,0,0]) (p1 := [1,0,1,0,0,0,1]) (by kernel_rfl) ?_
  refine at_region (by kernel_rfl) sh_refl ?_
  refine chunk (s' := f56_s6 p0_ i_5) 4 4 (by kernel_rfl) rfl ?_
  refine at_end 4 (by kernel_rfl) ?_
  refine q_seq sh_refl ?_
  rcases ite_some H with ⟨hc37, H⟩ | ⟨hc37, H⟩
  · refine at_condT (decide (i_5 < ((List.length p0_ : Nat) : Int))) (p0 := [1,0,1,0,0,0,1,0]) (p1 := [1,0,1,0,0,0,1,1]) (by kernel_rfl) (by kernel_rfl) hc37 ?_
    refine at_skip (by kernel_rfl) ?_
    refine q_seq sh_refl ?_
    refine at_seq (p0 := [1,0,1,0,0,1,0]) (p1 := [1,0,1,0,0,1,1]) (by kernel_rfl) ?_
    refine at_block 1 (p0 := [1,0,1,0,0,1,0,0]) (by kernel_rfl) ?_
    refine at_seq (p0 := [1,0,1,0,0,1,0,0,0]) (p1 := [1,0,1,0,0,1,0,0,1]) (by kernel_rfl) ?_
    refine at_region (by kernel_rfl) sh_refl ?_
    refine chunk (s' := f56_s7 p0_ i_5) 2 2 (by kernel_rfl) rfl ?_
    obtain ⟨b3, h122, H⟩ := bind_some H
    refine spec (s' := f56_s8 p0_ i_5 b3) (v := .d (.int .u8 b3)) (obs := []) (rm := []) (upd := none) 3 (by kernel_rfl) (is_sidx h122) (by kernel_rfl) rfl ?_
    obtain ⟨r59, h123, H⟩ := bind_some H
    refine callS (s' := f56_s9 p0_ i_5 b3 r59) (f := 69) (xs := [.d (.int .u8 b3)]) (ys := [.d (.int .u8 b3)]) (ks := []) (obl := []) (r := .d (.bool r59)) (ls := []) 4 false (by kernel_rfl) (leZ) rfl (FSixdotref02_Character_ok h123) (Or.inl rfl) rfl (by kernel_rfl) rfl ?_
    refine chunk (s' := f56_s10 p0_ i_5 b3 r59) 1 5 (by kernel_rfl) rfl ?_
    refine at_end 5 (by kernel_rfl) ?_
    refine q_seq sh_refl ?_
    rcases ite_some H with ⟨hc36, H⟩ | ⟨hc36, H⟩
    · refine at_condT (!r59) (p0 := [1,0,1,0,0,1,0,0,1,0]) (p1 := [1,0,1,0,0,1,0,0,1,1]) (by kernel_rfl) (by kernel_rfl) hc36 ?_
      refine at_seq (p0 := [1,0,1,0,0,1,0,0,1,0,0]) (p1 := [1,0,1,0,0,1,0,0,1,0,1]) (by kernel_rfl) ?_
      refine at_region (by kernel_rfl) sh_refl ?_
      refine chunk (s' := f56_s11 p0_ i_5 b3 r59) 3 3 (by kernel_rfl) rfl ?_
      refine at_end 3 (by kernel_rfl) ?_
      refine q_seq sh_refl ?_
      refine at_ret (by kernel_rfl) ?_
      refine q_blockR ?_
      refine q_seqR ?_
      have hz := Option.some.inj H
      subst hz
      exact round_ret ⟨rfl, retT (vs := [.d (.int .i64 i_5), .d (.int .i64 60)]) (l := [.d (.int .i64 i_5), .d (.int .i64 60)]) (by kernel_rfl) rfl (outT_cons (outA_d (outV_d)) (outT_cons (outA_d (outV_d)) (outT_nil))) [] (by kernel_rfl) (by decide)⟩
    · refine at_condF (!r59) (p0 := [1,0,1,0,0,1,0,0,1,0]) (p1 := [1,0,1,0,0,1,0,0,1,1]) (by kernel_rfl) (by kernel_rfl) hc36 ?_
      refine at_skip (by kernel_rfl) ?_
      refine q_blockN ?_
      refine q_seq sh_refl ?_
      refine at_region (by kernel_rfl) sh_refl ?_
      refine chunk (s' := f56_s12 p0_ i_5 b3 r59) 3 3 (by kernel_rfl) rfl ?_
      refine at_end 3 (by kernel_rfl) ?_
      have hz := Option.some.inj H
      subst hz
      exact round_go (sh_gc [0,4] (by kernel_rfl))
  · refine at_condF (decide (i_5 < ((List.length p0_ : Nat) : Int))) (p0 := [1,0,1,0,0,0,1,0]) (p1 := [1,0,1,0,0,0,1,1]) (by kernel_rfl) (by kernel_rfl) hc37 ?_
    refine at_exit 0 (by kernel_rfl) ?_
    refine q_seqX ?_
    have hz := Option.some.inj H
    subst hz
    exact round_exit ⟨rfl, sh_gc [0] (by kernel_rfl)⟩
def f56_s13 : St := po (f56_s5 p0_) [(3, .d (.int .i64 0)), (2, .d (.int .i64 ((List.length p0_ : Nat) : Int))), (18, .d (.int .i64 ((List.length p0_ : Nat) : Int))), (17, .d (.str p0_))] fun _ => []
theorem FSixdotref02_Text_ok {n : Nat} {p0_ : (List UInt8)} {z : (Int × Int)} (H : FSixdotref02_Text n p0_ = some z) : CallOK Try.prog 56 [.d (.str p0_)] (.tup [.d (.int .i64 z.1), .d (.int .i64 z.2)]) := by
  dsimp only [FSixdotref02_Text] at H
  refine fn_ok (Γ := cx 19) (s := f56_s1 p0_) follows (cxOK 19) Try.func56 (by kernel_rfl) (by kernel_rfl) (by kernel_rfl) (by kernel_rfl) (by kernel_rfl) (by kernel_rfl) ?_
  refine at_seq (p0 := [0]) (p1 := [1]) (by kernel_rfl) ?_
  refine at_region (by kernel_rfl) sh_refl ?_
  refine chunk (s' := f56_s2 p0_) 2 2 (by kernel_rfl) rfl ?_
  refine at_end 2 (by kernel_rfl) ?_
  refine q_seq sh_refl ?_
  refine at_seq (p0 := [1,0]) (p1 := [1,1]) (by kernel_rfl) ?_
  refine at_seq (p0 := [1,0,0]) (p1 := [1,0,1]) (by kernel_rfl) ?_
  refine at_region (by kernel_rfl) sh_refl ?_
  refine chunk (s' := f56_s3 p0_) 1 1 (by kernel_rfl) rfl ?_
  refine at_end 1 (by kernel_rfl) ?_
  refine q_seq sh_refl ?_
  refine at_block 0 (p0 := [1,0,1,0]) (by kernel_rfl) ?_
  obtain ⟨y15, h124, H⟩ := bind_some H
  rcases y15 with y16 | y17
  · refine at_loop (p0 := [1,0,1,0,0]) (fun (x : Int) => f56_s4 p0_ x) (f56_L1_E p0_) (by kernel_rfl) h124 (sh_gc [0,4] (by kernel_rfl)) (fun x z => f56_L1_ok x z) ?_
    intro e s hE13
    obtain ⟨rfl, hE13⟩ := hE13
    refine q_blockH ?_
    refine q_seq (s' := f56_s5 p0_) (hE13) ?_
    refine at_seq (p0 := [1,1,0]) (p1 := [1,1,1]) (by kernel_rfl) ?_
    refine at_region (by kernel_rfl) sh_refl ?_
    refine chunk (s' := f56_s13 p0_) 4 4 (by kernel_rfl) rfl ?_
    refine at_end 4 (by kernel_rfl) ?_
    refine q_seq sh_refl ?_
    refine at_ret (by kernel_rfl) ?_
    have hz := Option.some.inj H
    subst hz
    exact post_ret (retT (vs := [.d (.int .i64 ((List.length p0_ : Nat) : Int)), .d (.int .i64 0)]) (l := [.d (.int .i64 ((List.length p0_ : Nat) : Int)), .d (.int .i64 0)]) (by kernel_rfl) rfl (outT_cons (outA_d (outV_d)) (outT_cons (outA_d (outV_d)) (outT_nil))) [] (by kernel_rfl) (by decide))
  · refine at_loop (p0 := [1,0,1,0,0]) (fun (x : Int) => f56_s4 p0_ x) (f56_L1_E p0_) (by kernel_rfl) h124 (sh_gc [0,4] (by kernel_rfl)) (fun x z => f56_L1_ok x z) ?_
    intro e s hE14
    obtain ⟨rfl, hE14⟩ := hE14
    refine q_blockR ?_
    refine q_seqR ?_
    have hz := Option.some.inj H
    subst hz
    exact post_ret hE14
end
section
variable (p0_ : (List UInt8))
def f36_s1 : St := ⟨(0, .d (.str p0_)) :: [], []⟩
def f36_s2 : St := po (f36_s1 p0_) [(2, .d (.bool false))] fun _ => []
def f36_s3 : St := po (f36_s2 p0_) [(6, .d (.str p0_))] fun _ => []
variable (r60 : (Int × Int))
def f36_s4 : St := po (f36_s3 p0_) [(7, .tup [.d (.int .i64 r60.1), .d (.int .i64 r60.2)])] fun _ => []
def f36_s5 : St := po (f36_s4 p0_ r60) [(4, .d (.int .i64 r60.2)), (3, .d (.int .i64 r60.1)), (9, .d (.int .i64 r60.2)), (8, .d (.int .i64 r60.1)), (5, .tup [.d (.int .i64 r60.1), .d (.int .i64 r60.2)])] fun _ => []
def f36_s6 : St := po (f36_s5 p0_ r60) [(2, .d (.bool (r60.2 == 0))), (11, .d (.bool (r60.2 == 0))), (10, .d (.int .i64 r60.2))] fun _ => []
theorem FSixdotref02_IsText_ok {n : Nat} {p0_ : (List UInt8)} {z : Bool} (H : FSixdotref02_IsText n p0_ = some z) : CallOK Try.prog 36 [.d (.str p0_)] (.d (.bool z)) := by
  dsimp only [FSixdotref02_IsText] at H
  refine fn_ok (Γ := cx 12) (s := f36_s1 p0_) follows (cxOK 12) Try.func36 (by kernel_rfl) (by kernel_rfl) (by kernel_rfl) (by kernel_rfl) (by kernel_rfl) (by kernel_rfl) ?_
  refine at_seq (p0 := [0]) (p1 := [1]) (by kernel_rfl) ?_
  refine at_region (by kernel_rfl) sh_refl ?_
  refine chunk (s' := f36_s2 p0_) 1 1 (by kernel_rfl) rfl ?_
  refine at_end 1 (by kernel_rfl) ?_
  refine q_seq sh_refl ?_
  refine at_seq (p0 := [1,0]) (p1 := [1,1]) (by kernel_rfl) ?_
  refine at_region (by kernel_rfl) sh_refl ?_
  refine chunk (s' := f36_s3 p0_) 1 1 (by kernel_rfl) rfl ?_
  obtain ⟨r60, h125, H⟩ := bind_some H
  refine callS (s' := f36_s4 p0_ r60) (f := 56) (xs := [.d (.str p0_)]) (ys := [.d (.str p0_)]) (ks := []) (obl := []) (r := .tup [.d (.int .i64 r60.1), .d (.int .i64 r60.2)]) (ls := []) 2 false (by kernel_rfl) (leZ) rfl (FSixdotref02_Text_ok h125) (Or.inl rfl) rfl (by kernel_rfl) rfl ?_
  refine chunk (s' := f36_s5 p0_ r60) 5 7 (by kernel_rfl) rfl ?_
  refine at_end 7 (by kernel_rfl) ?_
  refine q_seq sh_refl ?_
  refine at_seq (p0 := [1,1,0]) (p1 := [1,1,1]) (by kernel_rfl) ?_
  refine at_region (by kernel_rfl) sh_refl ?_
  refine chunk (s' := f36_s6 p0_ r60) 3 3 (by kernel_rfl) rfl ?_
  refine at_end 3 (by kernel_rfl) ?_
  refine q_seq sh_refl ?_
  refine at_ret (by kernel_rfl) ?_
  have hz := Option.some.inj H
  subst hz
  exact post_ret (ret1 (v := .d (.bool (r60.2 == 0))) (r := .d (.bool (r60.2 == 0))) [] (by kernel_rfl) (outA_d (outV_d)) (by kernel_rfl) (by decide))
end
section
variable (p0_ : Int)
def f35_s1 : St := ⟨(0, .d (.int .u8 p0_)) :: [], []⟩
def f35_s2 : St := po (f35_s1 p0_) [(2, .d (.bool false))] fun _ => []
def f35_s3 : St := po (f35_s2 p0_) [(2, .d (.bool ((iand .u8 p0_ 127) == 32))), (5, .d (.bool ((iand .u8 p0_ 127) == 32))), (4, .d (.int .u8 (iand .u8 p0_ 127))), (3, .d (.int .u8 p0_))] fun _ => []
theorem FSixdotref02_Space_ok {n : Nat} {p0_ : Int} {z : Bool} (H : FSixdotref02_Space n p0_ = some z) : CallOK Try.prog 35 [.d (.int .u8 p0_)] (.d (.bool z)) := by
  dsimp only [FSixdotref02_Space] at H
  refine fn_ok (Γ := cx 6) (s := f35_s1 p0_) follows (cxOK 6) Try.func35 (by kernel_rfl) (by kernel_rfl) (by kernel_rfl) (by kernel_rfl) (by kernel_rfl) (by kernel_rfl) ?_
  refine at_seq (p0 := [0]) (p1 := [1]) (by kernel_rfl) ?_
  refine at_region (by kernel_rfl) sh_refl ?_
  refine chunk (s' := f35_s2 p0_) 1 1 (by kernel_rfl) rfl ?_
  refine at_end 1 (by kernel_rfl) ?_
  refine q_seq sh_refl ?_
  refine at_seq (p0 := [1,0]) (p1 := [1,1]) (by kernel_rfl) ?_
  refine at_region (by kernel_rfl) sh_refl ?_
  refine chunk (s' := f35_s3 p0_) 4 4 (by kernel_rfl) rfl ?_
  refine at_end 4 (by kernel_rfl) ?_
  refine q_seq sh_refl ?_
  refine at_ret (by kernel_rfl) ?_
  have hz := Option.some.inj H
  subst hz
  exact post_ret (ret1 (v := .d (.bool ((iand .u8 p0_ 127) == 32))) (r := .d (.bool ((iand .u8 p0_ 127) == 32))) [] (by kernel_rfl) (outA_d (outV_d)) (by kernel_rfl) (by decide))
end
end Go.AI
end
section
namespace Go.AI
open Go.Proofs
set_option maxRecDepth 10000
section
variable (p0_ : GRule) (p1_ : Int)
def f70_s1 : St := ⟨(0, .agg [.d (.str p0_.Print), .d (.sl (List.map eU8 p0_.Cells)), .d (.int .u8 p0_.Left), .d (.int .u8 p0_.Right), .d (.int .i64 p0_.From), .d (.int .i64 p0_.To)]) :: (1, .d (.int .i64 p1_)) :: [], []⟩
def f70_s2 : St := po (f70_s1 p0_ p1_) [(4, .d (.bool false)), (2, .ptr 0 0)] fun _ => [some (.box [.d (.str p0_.Print), .d (.sl (List.map eU8 p0_.Cells)), .d (.int .u8 p0_.Left), .d (.int .u8 p0_.Right), .d (.int .i64 p0_.From), .d (.int .i64 p0_.To)])]
def f70_s3 : St := pe (f70_s2 p0_ p1_) [(10, .d (.str p0_.Print)), (9, .ptr 0 0)]
variable (r61 : Bool)
def f70_s4 : St := pe (f70_s3 p0_ p1_) [(11, .d (.bool r61))]
def f70_s5 : St := pe (f70_s4 p0_ p1_ r61) [(14, .gv (!(!r61)) (.ptr 0 0)), (13, .d (.bool (!r61))), (12, .d (.bool (!r61)))]
def f70_s6 : St := pe (f70_s5 p0_ p1_ r61) [(15, .gv (!(!r61)) (.d (.str p0_.Print)))]
def f70_s7 : St := pe (f70_s6 p0_ p1_ r61) [(16, .gv (!(!r61)) (.d (.int .i64 ((List.length p0_.Print : Nat) : Int))))]
def f70_s8 : St := pe (f70_s7 p0_ p1_ r61) [(17, .gv (!(!r61)) (.d (.bool (decide (((List.length p0_.Print : Nat) : Int) > 4)))))]
def f70_s9 : St := pe (f70_s8 p0_ p1_ r61) [(18, .d (.bool ((!r61) || (decide (((List.length p0_.Print : Nat) : Int) > 4)))))]
def f70_s10 : St := pe (f70_s9 p0_ p1_ r61) [(20, .gv (!((!r61) || (decide (((List.length p0_.Print : Nat) : Int) > 4)))) (.ptr 0 1)), (19, .d (.bool ((!r61) || (decide (((List.length p0_.Print : Nat) : Int) > 4)))))]
def f70_s11 : St := pe (f70_s10 p0_ p1_ r61) [(21, .gv (!((!r61) || (decide (((List.length p0_.Print : Nat) : Int) > 4)))) (.d (.sl (List.map eU8 p0_.Cells))))]
def f70_s12 : St := pe (f70_s11 p0_ p1_ r61) [(22, .gv (!((!r61) || (decide (((List.length p0_.Print : Nat) : Int) > 4)))) (.d (.int .i64 ((List.length p0_.Cells : Nat) : Int))))]
def f70_s13 : St := pe (f70_s12 p0_ p1_ r61) [(23, .gv (!((!r61) || (decide (((List.length p0_.Print : Nat) : Int) > 4)))) (.d (.bool (decide (((List.length p0_.Cells : Nat) : Int) < 1)))))]
def f70_s14 : St := pe (f70_s13 p0_ p1_ r61) [(24, .d (.bool (((!r61) || (decide (((List.length p0_.Print : Nat) : Int) > 4))) || (decide (((List.length p0_.Cells : Nat) : Int) < 1)))))]
def f70_s15 : St := pe (f70_s14 p0_ p1_ r61) [(26, .gv (!(((!r61) || (decide (((List.length p0_.Print : Nat) : Int) > 4))) || (decide (((List.length p0_.Cells : Nat) : Int) < 1)))) (.ptr 0 1)), (25, .d (.bool (((!r61) || (decide (((List.length p0_.Print : Nat) : Int) > 4))) || (decide (((List.length p0_.Cells : Nat) : Int) < 1)))))]
def f70_s16 : St := pe (f70_s15 p0_ p1_ r61) [(27, .gv (!(((!r61) || (decide (((List.length p0_.Print : Nat) : Int) > 4))) || (decide (((List.length p0_.Cells : Nat) : Int) < 1)))) (.d (.sl (List.map eU8 p0_.Cells))))]
def f70_s17 : St := pe (f70_s16 p0_ p1_ r61) [(28, .gv (!(((!r61) || (decide (((List.length p0_.Print : Nat) : Int) > 4))) || (decide (((List.length p0_.Cells : Nat) : Int) < 1)))) (.d (.int .i64 ((List.length p0_.Cells : Nat) : Int))))]
def f70_s18 : St := pe (f70_s17 p0_ p1_ r61) [(29, .gv (!(((!r61) || (decide (((List.length p0_.Print : Nat) : Int) > 4))) || (decide (((List.length p0_.Cells : Nat) : Int) < 1)))) (.d (.bool (decide (((List.length p0_.Cells : Nat) : Int) > 4)))))]
def f70_s19 : St := pe (f70_s18 p0_ p1_ r61) [(30, .d (.bool ((((!r61) || (decide (((List.length p0_.Print : Nat) : Int) > 4))) || (decide (((List.length p0_.Cells : Nat) : Int) < 1))) || (decide (((List.length p0_.Cells : Nat) : Int) > 4)))))]
def f70_s20 : St := pe (f70_s19 p0_ p1_ r61) [(4, .d (.bool false))]
def f70_s21 : St := pe (f70_s19 p0_ p1_ r61) [(35, .gv (!(decide (p0_.Left < 1))) (.ptr 0 2)), (34, .d (.bool (decide (p0_.Left < 1)))), (33, .d (.bool (decide (p0_.Left < 1)))), (32, .d (.int .u8 p0_.Left)), (31, .ptr 0 2)]
def f70_s22 : St := pe (f70_s21 p0_ p1_ r61) [(36, .gv (!(decide (p0_.Left < 1))) (.d (.int .u8 p0_.Left)))]
def f70_s23 : St := pe (f70_s22 p0_ p1_ r61) [(37, .gv (!(decide (p0_.Left < 1))) (.d (.bool (decide (p0_.Left > 63)))))]
def f70_s24 : St := pe (f70_s23 p0_ p1_ r61) [(38, .d (.bool ((decide (p0_.Left < 1)) || (decide (p0_.Left > 63)))))]
def f70_s25 : St := pe (f70_s24 p0_ p1_ r61) [(40, .gv (!((decide (p0_.Left < 1)) || (decide (p0_.Left > 63)))) (.ptr 0 3)), (39, .d (.bool ((decide (p0_.Left < 1)) || (decide (p0_.Left > 63)))))]
def f70_s26 : St := pe (f70_s25 p0_ p1_ r61) [(41, .gv (!((decide (p0_.Left < 1)) || (decide (p0_.Left > 63)))) (.d (.int .u8 p0_.Right)))]
def f70_s27 : St := pe (f70_s26 p0_ p1_ r61) [(42, .gv (!((decide (p0_.Left < 1)) || (decide (p0_.Left > 63)))) (.d (.bool (decide (p0_.Right < 1)))))]
def f70_s28 : St := pe (f70_s27 p0_ p1_ r61) [(43, .d (.bool (((decide (p0_.Left < 1)) || (decide (p0_.Left > 63))) || (decide (p0_.Right < 1)))))]
def f70_s29 : St := pe (f70_s28 p0_ p1_ r61) [(45, .gv (!(((decide (p0_.Left < 1)) || (decide (p0_.Left > 63))) || (decide (p0_.Right < 1)))) (.ptr 0 3)), (44, .d (.bool (((decide (p0_.Left < 1)) || (decide (p0_.Left > 63))) || (decide (p0_.Right < 1)))))]
def f70_s30 : St := pe (f70_s29 p0_ p1_ r61) [(46, .gv (!(((decide (p0_.Left < 1)) || (decide (p0_.Left > 63))) || (decide (p0_.Right < 1)))) (.d (.int .u8 p0_.Right)))]
def f70_s31 : St := pe (f70_s30 p0_ p1_ r61) [(47, .gv (!(((decide (p0_.Left < 1)) || (decide (p0_.Left > 63))) || (decide (p0_.Right < 1)))) (.d (.bool (decide (p0_.Right > 63)))))]
def f70_s32 : St := pe (f70_s31 p0_ p1_ r61) [(48, .d (.bool ((((decide (p0_.Left < 1)) || (decide (p0_.Left > 63))) || (decide (p0_.Right < 1))) || (decide (p0_.Right > 63)))))]
def f70_s33 : St := pe (f70_s32 p0_ p1_ r61) [(50, .gv (!((((decide (p0_.Left < 1)) || (decide (p0_.Left > 63))) || (decide (p0_.Right < 1))) || (decide (p0_.Right > 63)))) (.ptr 0 4)), (49, .d (.bool ((((decide (p0_.Left < 1)) || (decide (p0_.Left > 63))) || (decide (p0_.Right < 1))) || (decide (p0_.Right > 63)))))]
def f70_s34 : St := pe (f70_s33 p0_ p1_ r61) [(51, .gv (!((((decide (p0_.Left < 1)) || (decide (p0_.Left > 63))) || (decide (p0_.Right < 1))) || (decide (p0_.Right > 63)))) (.d (.int .i64 p0_.From)))]
def f70_s35 : St := pe (f70_s34 p0_ p1_ r61) [(52, .gv (!((((decide (p0_.Left < 1)) || (decide (p0_.Left > 63))) || (decide (p0_.Right < 1))) || (decide (p0_.Right > 63)))) (.d (.bool (decide (p0_.From < 0)))))]
def f70_s36 : St := pe (f70_s35 p0_ p1_ r61) [(53, .d (.bool (((((decide (p0_.Left < 1)) || (decide (p0_.Left > 63))) || (decide (p0_.Right < 1))) || (decide (p0_.Right > 63))) || (decide (p0_.From < 0)))))]
def f70_s37 : St := pe (f70_s36 p0_ p1_ r61) [(55, .gv (!(((((decide (p0_.Left < 1)) || (decide (p0_.Left > 63))) || (decide (p0_.Right < 1))) || (decide (p0_.Right > 63))) || (decide (p0_.From < 0)))) (.ptr 0 4)), (54, .d (.bool (((((decide (p0_.Left < 1)) || (decide (p0_.Left > 63))) || (decide (p0_.Right < 1))) || (decide (p0_.Right > 63))) || (decide (p0_.From < 0)))))]
def f70_s38 : St := pe (f70_s37 p0_ p1_ r61) [(56, .gv (!(((((decide (p0_.Left < 1)) || (decide (p0_.Left > 63))) || (decide (p0_.Right < 1))) || (decide (p0_.Right > 63))) || (decide (p0_.From < 0)))) (.d (.int .i64 p0_.From)))]
def f70_s39 : St := pe (f70_s38 p0_ p1_ r61) [(57, .gv (!(((((decide (p0_.Left < 1)) || (decide (p0_.Left > 63))) || (decide (p0_.Right < 1))) || (decide (p0_.Right > 63))) || (decide (p0_.From < 0)))) (.d (.int .i64 p1_)))]
def f70_s40 : St := pe (f70_s39 p0_ p1_ r61) [(58, .gv (!(((((decide (p0_.Left < 1)) || (decide (p0_.Left > 63))) || (decide (p0_.Right < 1))) || (decide (p0_.Right > 63))) || (decide (p0_.From < 0)))) (.d (.bool (decide (p0_.From ≥ p1_)))))]
def f70_s41 : St := pe (f70_s40 p0_ p1_ r61) [(59, .d (.bool ((((((decide (p0_.Left < 1)) || (decide (p0_.Left > 63))) || (decide (p0_.Right < 1))) || (decide (p0_.Right > 63))) || (decide (p0_.From < 0))) || (decide (p0_.From ≥ p1_)))))]
def f70_s42 : St := pe (f70_s41 p0_ p1_ r61) [(61, .gv (!((((((decide (p0_.Left < 1)) || (decide (p0_.Left > 63))) || (decide (p0_.Right < 1))) || (decide (p0_.Right > 63))) || (decide (p0_.From < 0))) || (decide (p0_.From ≥ p1_)))) (.ptr 0 5)), (60, .d (.bool ((((((decide (p0_.Left < 1)) || (decide (p0_.Left > 63))) || (decide (p0_.Right < 1))) || (decide (p0_.Right > 63))) || (decide (p0_.From < 0))) || (decide (p0_.From ≥ p1_)))))]
def f70_s43 : St := pe (f70_s42 p0_ p1_ r61) [(62, .gv (!((((((decide (p0_.Left < 1)) || (decide (p0_.Left > 63))) || (decide (p0_.Right < 1))) || (decide (p0_.Right > 63))) || (decide (p0_.From < 0))) || (decide (p0_.From ≥ p1_)))) (.d (.int .i64 p0_.To)))]
def f70_s44 : St := pe (f70_s43 p0_ p1_ r61) [(63, .gv (!((((((decide (p0_.Left < 1)) || (decide (p0_.Left > 63))) || (decide (p0_.Right < 1))) || (decide (p0_.Right > 63))) || (decide (p0_.From < 0))) || (decide (p0_.From ≥ p1_)))) (.d (.bool (decide (p0_.To < 0)))))]
def f70_s45 : St := pe (f70_s44 p0_ p1_ r61) [(64, .d (.bool (((((((decide (p0_.Left < 1)) || (decide (p0_.Left > 63))) || (decide (p0_.Right < 1))) || (decide (p0_.Right > 63))) || (decide (p0_.From < 0))) || (decide (p0_.From ≥ p1_))) || (decide (p0_.To < 0)))))]
def f70_s46 : St := pe (f70_s45 p0_ p1_ r61) [(66, .gv (!(((((((decide (p0_.Left < 1)) || (decide (p0_.Left > 63))) || (decide (p0_.Right < 1))) || (decide (p0_.Right > 63))) || (decide (p0_.From < 0))) || (decide (p0_.From ≥ p1_))) || (decide (p0_.To < 0)))) (.ptr 0 5)), (65, .d (.bool (((((((decide (p0_.Left < 1)) || (decide (p0_.Left > 63))) || (decide (p0_.Right < 1))) || (decide (p0_.Right > 63))) || (decide (p0_.From < 0))) || (decide (p0_.From ≥ p1_))) || (decide (p0_.To < 0)))))]
def f70_s47 : St := pe (f70_s46 p0_ p1_ r61) [(67, .gv (!(((((((decide (p0_.Left < 1)) || (decide (p0_.Left > 63))) || (decide (p0_.Right < 1))) || (decide (p0_.Right > 63))) || (decide (p0_.From < 0))) || (decide (p0_.From ≥ p1_))) || (decide (p0_.To < 0)))) (.d (.int .i64 p0_.To)))]
def f70_s48 : St := pe (f70_s47 p0_ p1_ r61) [(68, .gv (!(((((((decide (p0_.Left < 1)) || (decide (p0_.Left > 63))) || (decide (p0_.Right < 1))) || (decide (p0_.Right > 63))) || (decide (p0_.From < 0))) || (decide (p0_.From ≥ p1_))) || (decide (p0_.To < 0)))) (.d (.int .i64 p1_)))]
def f70_s49 : St := pe (f70_s48 p0_ p1_ r61) [(69, .gv (!(((((((decide (p0_.Left < 1)) || (decide (p0_.Left > 63))) || (decide (p0_.Right < 1))) || (decide (p0_.Right > 63))) || (decide (p0_.From < 0))) || (decide (p0_.From ≥ p1_))) || (decide (p0_.To < 0)))) (.d (.bool (decide (p0_.To ≥ p1_)))))]
def f70_s50 : St := pe (f70_s49 p0_ p1_ r61) [(70, .d (.bool ((((((((decide (p0_.Left < 1)) || (decide (p0_.Left > 63))) || (decide (p0_.Right < 1))) || (decide (p0_.Right > 63))) || (decide (p0_.From < 0))) || (decide (p0_.From ≥ p1_))) || (decide (p0_.To < 0))) || (decide (p0_.To ≥ p1_)))))]
def f70_s51 : St := pe (f70_s50 p0_ p1_ r61) [(4, .d (.bool false))]
def f70_s52 : St := pe (f70_s50 p0_ p1_ r61) [(6, .d (.bool false)), (5, .d (.bool false))]
def f70_s53 : St := pe (f70_s52 p0_ p1_ r61) [(7, .d (.int .i64 0))]
variable (space_1 : Bool) (i_6 : Int)
def f70_s54 : St := ⟨(2, .ptr 0 0) :: (5, .d (.bool space_1)) :: (6, .d (.bool false)) :: (7, .d (.int .i64 i_6)) :: [], [some (.box [.d (.str p0_.Print), .d (.sl (List.map eU8 p0_.Cells)), .d (.int .u8 p0_.Left), .d (.int .u8 p0_.Right), .d (.int .i64 p0_.From), .d (.int .i64 p0_.To)])]⟩
variable (space_2 : Bool)
def f70_s55 : St := ⟨(2, .ptr 0 0) :: (5, .d (.bool space_2)) :: (6, .d (.bool false)) :: [], [some (.box [.d (.str p0_.Print), .d (.sl (List.map eU8 p0_.Cells)), .d (.int .u8 p0_.Left), .d (.int .u8 p0_.Right), .d (.int .i64 p0_.From), .d (.int .i64 p0_.To)])]⟩
def f70_s56 : St := pe (f70_s54 p0_ space_1 i_6) [(75, .d (.bool (decide (i_6 < ((List.length p0_.Print : Nat) : Int))))), (74, .d (.int .i64 ((List.length p0_.Print : Nat) : Int))), (73, .d (.str p0_.Print)), (72, .ptr 0 0), (71, .d (.int .i64 i_6))]
def f70_s57 : St := pe (f70_s56 p0_ space_1 i_6) [(80, .gv (!space_1) (.ptr 0 0)), (79, .d (.bool space_1)), (78, .d (.bool space_1))]
def f70_s58 : St := pe (f70_s57 p0_ space_1 i_6) [(81, .gv (!space_1) (.d (.str p0_.Print)))]
def f70_s59 : St := pe (f70_s58 p0_ space_1 i_6) [(82, .gv (!space_1) (.d (.int .i64 i_6)))]
variable (b4 : Int)
def f70_s60 : St := pe (f70_s59 p0_ space_1 i_6) [(83, .gv (!space_1) (.d (.int .u8 b4)))]
variable (r62 : Bool)
def f70_s61 : St := pe (f70_s60 p0_ space_1 i_6 b4) [(84, .gv (!space_1) (.d (.bool r62)))]
def f70_s62 : St := pe (f70_s61 p0_ space_1 i_6 b4 r62) [(85, .d (.bool (space_1 || r62)))]
def f70_s63 : St := pe (f70_s62 p0_ space_1 i_6 b4 r62) [(5, .d (.bool (space_1 || r62)))]
def f70_s64 : St := pe (f70_s63 p0_ space_1 i_6 b4 r62) [(7, .d (.int .i64 (iadd .i64 i_6 1))), (77, .d (.int .i64 (iadd .i64 i_6 1))), (76, .d (.int .i64 i_6))]
def f70_L1_E (p0_ : GRule) : Bool → Ex → St → Prop := fun (y : Bool) e s => e = Ex.exit 0 ∧ Shift s (f70_s55 p0_ y)
theorem f70_L1_ok {n : Nat} {p0_ : GRule} (x : (Bool × Int)) (z : ((Bool × Int) ⊕ Bool)) (H : f70_L1 n p0_ x.1 x.2 = some z) : wpA (cx 125) (nav [1,1,1,1,0,1,0,0] (bodyOf Try.f70)) (roundQ (fun (x : (Bool × Int)) => f70_s54 p0_ x.1 x.2) (f70_L1_E p0_) z) (f70_s54 p0_ x.1 x.2) := by
  obtain ⟨space_1, i_6⟩ := x
  dsimp only [f70_L1] at H
  refine at_seq (p0 := [1,1,1,1,0,1,0,0,0]) (p1 := [1,1,1,1,0,1,0,0,1]) (by kernel_rfl) ?_
  refine at_seq (p0 := [1,1,1,1,0,1,0,0,0,0]) (p1 := [1,1,1,1,0,1,0,0,0,1]) (by kernel_rfl) ?_
  refine at_region (by kernel_rfl) sh_refl ?_
  refine chunk (s' := f70_s56 p0_ space_1 i_6) 5 5 (by kernel_rfl) rfl ?_
  refine at_end 5 (by kernel_rfl) ?_
  refine q_seq sh_refl ?_
  rcases ite_some H with ⟨hc38, H⟩ | ⟨hc38, H⟩
  · refine at_condT (decide (i_6 < ((List.length p0_.Print : Nat) : Int))) (p0 := [1,1,1,1,0,1,0,0,0,1,0]) (p1 := [1,1,1,1,0,1,0,0,0,1,1]) (by kernel_rfl) (by kernel_rfl) hc38 ?_
    refine at_skip (by kernel_rfl) ?_
    refine q_seq sh_refl ?_
    refine at_seq (p0 := [1,1,1,1,0,1,0,0,1,0]) (p1 := [1,1,1,1,0,1,0,0,1,1]) (by kernel_rfl) ?_
    refine at_block 1 (p0 := [1,1,1,1,0,1,0,0,1,0,0]) (by kernel_rfl) ?_
    refine at_region (by kernel_rfl) sh_refl ?_
    refine chunk (s' := f70_s57 p0_ space_1 i_6) 3 3 (by kernel_rfl) rfl ?_
    refine specG (g := (!space_1)) (gs := [(!space_1)]) (s' := f70_s58 p0_ space_1 i_6) (v := .d (.str p0_.Print)) (obs := []) 4 (by kernel_rfl) rfl (fun hg => is_pl (by kernel_rfl)) (by kernel_rfl) (impK (fun hh => hh) (impZ)) (by kernel_rfl) rfl ?_
    refine chunk (s' := f70_s59 p0_ space_1 i_6) 1 5 (by kernel_rfl) rfl ?_
    obtain ⟨b4, h127, H⟩ := bind_some H
    refine specG (g := (!space_1)) (gs := [(!space_1), (!space_1)]) (s' := f70_s60 p0_ space_1 i_6 b4) (v := .d (.int .u8 b4)) (obs := []) 6 (by kernel_rfl) (by kernel_rfl) (fun hg => is_sidx (gimp h127 hg)) (by kernel_rfl) (impK (fun hh => hh) (impK (fun hh => hh) (impZ))) (by kernel_rfl) rfl ?_
    obtain ⟨r62, h128, H⟩ := bind_some H
    refine callG (g := (!space_1)) (gs := [(!space_1)]) (s' := f70_s61 p0_ space_1 i_6 b4 r62) (f := 35) (xs := [.d (.int .u8 b4)]) (ys := [.d (.int .u8 b4)]) (ks := []) (obl := []) (r := .d (.bool r62)) (ls := []) 7 false (by kernel_rfl) (by kernel_rfl) (leZ) rfl (fun hg => FSixdotref02_Space_ok (gimp h128 hg)) (Or.inl rfl) (by kernel_rfl) (impK (fun hh => hh) (impZ)) rfl (by kernel_rfl) rfl ?_
    refine specP (s' := f70_s62 p0_ space_1 i_6 b4 r62) 8 (by kernel_rfl) (pick_or (t := space_1) (x := true) (y := r62)) (by kernel_rfl) rfl ?_
    refine chunk (s' := f70_s63 p0_ space_1 i_6 b4 r62) 1 9 (by kernel_rfl) rfl ?_
    refine at_end 9 (by kernel_rfl) ?_
    refine q_blockN ?_
    refine q_seq sh_refl ?_
    refine at_region (by kernel_rfl) sh_refl ?_
    refine chunk (s' := f70_s64 p0_ space_1 i_6 b4 r62) 3 3 (by kernel_rfl) rfl ?_
    refine at_end 3 (by kernel_rfl) ?_
    have hz := Option.some.inj H
    subst hz
    exact round_go (sh_gc [2,5,6,7] (by kernel_rfl))
  · refine at_condF (decide (i_6 < ((List.length p0_.Print : Nat) : Int))) (p0 := [1,1,1,1,0,1,0,0,0,1,0]) (p1 := [1,1,1,1,0,1,0,0,0,1,1]) (by kernel_rfl) (by kernel_rfl) hc38 ?_
    refine at_exit 0 (by kernel_rfl) ?_
    refine q_seqX ?_
    have hz := Option.some.inj H
    subst hz
    exact round_exit ⟨rfl, sh_gc [2,5,6] (by kernel_rfl)⟩
variable (y18 : Bool)
def f70_s65 : St := pe (f70_s55 p0_ y18) [(8, .d (.int .i64 0))]
variable (blank_1 : Bool) (i_7 : Int)
def f70_s66 : St := ⟨(2, .ptr 0 0) :: (5, .d (.bool y18)) :: (6, .d (.bool blank_1)) :: (8, .d (.int .i64 i_7)) :: [], [some (.box [.d (.str p0_.Print), .d (.sl (List.map eU8 p0_.Cells)), .d (.int .u8 p0_.Left), .d (.int .u8 p0_.Right), .d (.int .i64 p0_.From), .d (.int .i64 p0_.To)])]⟩
variable (blank_2 : Bool)
def f70_s67 : St := ⟨(2, .ptr 0 0) :: (5, .d (.bool y18)) :: (6, .d (.bool blank_2)) :: [], [some (.box [.d (.str p0_.Print), .d (.sl (List.map eU8 p0_.Cells)), .d (.int .u8 p0_.Left), .d (.int .u8 p0_.Right), .d (.int .i64 p0_.From), .d (.int .i64 p0_.To)])]⟩
def f70_s68 : St := pe (f70_s66 p0_ y18 blank_1 i_7) [(88, .d (.sl (List.map eU8 p0_.Cells))), (87, .ptr 0 1), (86, .d (.int .i64 i_7))]
def f70_s69 : St := pe (f70_s68 p0_ y18 blank_1 i_7) [(89, .d (.int .i64 ((List.length p0_.Cells : Nat) : Int)))]
def f70_s70 : St := pe (f70_s69 p0_ y18 blank_1 i_7) [(90, .d (.bool (decide (i_7 < ((List.length p0_.Cells : Nat) : Int)))))]
def f70_s71 : St := pe (f70_s70 p0_ y18 blank_1 i_7) [(95, .d (.int .i64 i_7)), (94, .d (.sl (List.map eU8 p0_.Cells))), (93, .ptr 0 1)]
variable (x26 : Int)
def f70_s72 : St := pe (f70_s71 p0_ y18 blank_1 i_7) [(96, .dptr (eU8 x26) 0)]
def f70_s73 : St := pe (f70_s72 p0_ y18 blank_1 i_7 x26) [(98, .d (.bool (decide (x26 ≥ 63)))), (97, .d (.int .u8 x26))]
def f70_s74 : St := pe (f70_s73 p0_ y18 blank_1 i_7 x26) [(4, .d (.bool false))]
def f70_s75 : St := pe (f70_s73 p0_ y18 blank_1 i_7 x26) [(101, .gv (!blank_1) (.ptr 0 1)), (100, .d (.bool blank_1)), (99, .d (.bool blank_1))]
def f70_s76 : St := pe (f70_s75 p0_ y18 blank_1 i_7 x26) [(102, .gv (!blank_1) (.d (.sl (List.map eU8 p0_.Cells))))]
def f70_s77 : St := pe (f70_s76 p0_ y18 blank_1 i_7 x26) [(103, .gv (!blank_1) (.d (.int .i64 i_7)))]
variable (x27 : Int)
def f70_s78 : St := pe (f70_s77 p0_ y18 blank_1 i_7 x26) [(104, .gv (!blank_1) (.dptr (eU8 x27) 0))]
def f70_s79 : St := pe (f70_s78 p0_ y18 blank_1 i_7 x26 x27) [(105, .gv (!blank_1) (.d (.int .u8 x27)))]
def f70_s80 : St := pe (f70_s79 p0_ y18 blank_1 i_7 x26 x27) [(106, .gv (!blank_1) (.d (.bool (x27 == 0))))]
def f70_s81 : St := pe (f70_s80 p0_ y18 blank_1 i_7 x26 x27) [(107, .d (.bool (blank_1 || (x27 == 0))))]
def f70_s82 : St := pe (f70_s81 p0_ y18 blank_1 i_7 x26 x27) [(6, .d (.bool (blank_1 || (x27 == 0))))]
def f70_s83 : St := pe (f70_s82 p0_ y18 blank_1 i_7 x26 x27) [(8, .d (.int .i64 (iadd .i64 i_7 1))), (92, .d (.int .i64 (iadd .i64 i_7 1))), (91, .d (.int .i64 i_7))]
def f70_L2_E (p0_ : GRule) (y18 : Bool) : (Bool ⊕ Bool) → Ex → St → Prop := fun y => Sum.casesOn y (fun (y : Bool) e s => e = Ex.exit 2 ∧ Shift s (f70_s67 p0_ y18 y)) (fun (y : Bool) e s => e = Ex.ret ∧ retA ty (Try.f70).results.toList (.d (.bool y)) s)
theorem f70_L2_ok {n : Nat} {p0_ : GRule} {y18 : Bool} (x : (Bool × Int)) (z : ((Bool × Int) ⊕ (Bool ⊕ Bool))) (H : f70_L2 n p0_ y18 x.1 x.2 = some z) : wpA (cx 125) (nav [1,1,1,1,1,0,1,0,0] (bodyOf Try.f70)) (roundQ (fun (x : (Bool × Int)) => f70_s66 p0_ y18 x.1 x.2) (f70_L2_E p0_ y18) z) (f70_s66 p0_ y18 x.1 x.2) := by
  obtain ⟨blank_1, i_7⟩ := x
  dsimp only [f70_L2] at H
  refine at_seq (p0 := [1,1,1,1,1,0,1,0,0,0]) (p1 := [1,1,1,1,1,0,1,0,0,1]) (by kernel_rfl) ?_
  refine at_seq (p0 := [1,1,1,1,1,0,1,0,0,0,0]) (p1 := [1,1,1,1,1,0,1,0,0,0,1]) (by kernel_rfl) ?_
  refine at_region (by kernel_rfl) sh_refl ?_
  refine chunk (s' := f70_s68 p0_ y18 blank_1 i_7) 3 3 (by kernel_rfl) rfl ?_
  refine spec (s' := f70_s69 p0_ y18 blank_1 i_7) (v := .d (.int .i64 ((List.length p0_.Cells : Nat) : Int))) (obs := []) (rm := []) (upd := none) 4 (by kernel_rfl) (is_len (enc := eU8) (esz := 1) (eb := 1) (ez := [.int .u8 0]) (xs := p0_.Cells)) (by kernel_rfl) rfl ?_
  refine chunk (s' := f70_s70 p0_ y18 blank_1 i_7) 1 5 (by kernel_rfl) rfl ?_
  refine at_end 5 (by kernel_rfl) ?_
  refine q_seq sh_refl ?_
  rcases ite_some H with ⟨hc40, H⟩ | ⟨hc40, H⟩
  · refine at_condT (decide (i_7 < ((List.length p0_.Cells : Nat) : Int))) (p0 := [1,1,1,1,1,0,1,0,0,0,1,0]) (p1 := [1,1,1,1,1,0,1,0,0,0,1,1]) (by kernel_rfl) (by kernel_rfl) hc40 ?_
    refine at_skip (by kernel_rfl) ?_
    refine q_seq sh_refl ?_
    refine at_seq (p0 := [1,1,1,1,1,0,1,0,0,1,0]) (p1 := [1,1,1,1,1,0,1,0,0,1,1]) (by kernel_rfl) ?_
    refine at_block 3 (p0 := [1,1,1,1,1,0,1,0,0,1,0,0]) (by kernel_rfl) ?_
    refine at_seq (p0 := [1,1,1,1,1,0,1,0,0,1,0,0,0]) (p1 := [1,1,1,1,1,0,1,0,0,1,0,0,1]) (by kernel_rfl) ?_
    refine at_seq (p0 := [1,1,1,1,1,0,1,0,0,1,0,0,0,0]) (p1 := [1,1,1,1,1,0,1,0,0,1,0,0,0,1]) (by kernel_rfl) ?_
    refine at_region (by kernel_rfl) sh_refl ?_
    refine chunk (s' := f70_s71 p0_ y18 blank_1 i_7) 3 3 (by kernel_rfl) rfl ?_
    obtain ⟨x26, h130, H⟩ := bind_some H
    refine spec (s' := f70_s72 p0_ y18 blank_1 i_7 x26) (v := .dptr (eU8 x26) 0) (obs := []) (rm := []) (upd := none) 4 (by kernel_rfl) (is_idxD (enc := eU8) (esz := 1) (eb := 1) (ez := [.int .u8 0]) h130 (by kernel_rfl)) (by kernel_rfl) rfl ?_
    refine chunk (s' := f70_s73 p0_ y18 blank_1 i_7 x26) 2 6 (by kernel_rfl) rfl ?_
    refine at_end 6 (by kernel_rfl) ?_
    refine q_seq sh_refl ?_
    rcases ite_some H with ⟨hc39, H⟩ | ⟨hc39, H⟩
    · refine at_condT (decide (x26 ≥ 63)) (p0 := [1,1,1,1,1,0,1,0,0,1,0,0,0,1,0]) (p1 := [1,1,1,1,1,0,1,0,0,1,0,0,0,1,1]) (by kernel_rfl) (by kernel_rfl) hc39 ?_
      refine at_seq (p0 := [1,1,1,1,1,0,1,0,0,1,0,0,0,1,0,0]) (p1 := [1,1,1,1,1,0,1,0,0,1,0,0,0,1,0,1]) (by kernel_rfl) ?_
      refine at_region (by kernel_rfl) sh_refl ?_
      refine chunk (s' := f70_s74 p0_ y18 blank_1 i_7 x26) 1 1 (by kernel_rfl) rfl ?_
      refine at_end 1 (by kernel_rfl) ?_
      refine q_seq sh_refl ?_
      refine at_ret (by kernel_rfl) ?_
      refine q_seqR ?_
      refine q_blockR ?_
      refine q_seqR ?_
      have hz := Option.some.inj H
      subst hz
      exact round_ret ⟨rfl, ret1 (v := .d (.bool false)) (r := .d (.bool false)) [] (by kernel_rfl) (outA_d (outV_d)) (by kernel_rfl) (by decide)⟩
    · refine at_condF (decide (x26 ≥ 63)) (p0 := [1,1,1,1,1,0,1,0,0,1,0,0,0,1,0]) (p1 := [1,1,1,1,1,0,1,0,0,1,0,0,0,1,1]) (by kernel_rfl) (by kernel_rfl) hc39 ?_
      refine at_skip (by kernel_rfl) ?_
      refine q_seq sh_refl ?_
      refine at_region (by kernel_rfl) sh_refl ?_
      refine chunk (s' := f70_s75 p0_ y18 blank_1 i_7 x26) 3 3 (by kernel_rfl) rfl ?_
      refine specG (g := (!blank_1)) (gs := [(!blank_1)]) (s' := f70_s76 p0_ y18 blank_1 i_7 x26) (v := .d (.sl (List.map eU8 p0_.Cells))) (obs := []) 4 (by kernel_rfl) rfl (fun hg => is_pl (by kernel_rfl)) (by kernel_rfl) (impK (fun hh => hh) (impZ)) (by kernel_rfl) rfl ?_
      refine chunk (s' := f70_s77 p0_ y18 blank_1 i_7 x26) 1 5 (by kernel_rfl) rfl ?_
      obtain ⟨x27, h131, H⟩ := bind_some H
      refine specG (g := (!blank_1)) (gs := [(!blank_1), (!blank_1)]) (s' := f70_s78 p0_ y18 blank_1 i_7 x26 x27) (v := .dptr (eU8 x27) 0) (obs := []) 6 (by kernel_rfl) (by kernel_rfl) (fun hg => is_idxD (enc := eU8) (esz := 1) (eb := 1) (ez := [.int .u8 0]) (gimp h131 hg) (by kernel_rfl)) (by kernel_rfl) (impK (fun hh => hh) (impK (fun hh => hh) (impZ))) (by kernel_rfl) rfl ?_
      refine specG (g := (!blank_1)) (gs := [(!blank_1)]) (s' := f70_s79 p0_ y18 blank_1 i_7 x26 x27) (v := .d (.int .u8 x27)) (obs := []) 7 (by kernel_rfl) rfl (fun hg => is_pl (by kernel_rfl)) (by kernel_rfl) (impK (fun hh => hh) (impZ)) (by kernel_rfl) rfl ?_
      refine specG (g := (!blank_1)) (gs := [(!blank_1)]) (s' := f70_s80 p0_ y18 blank_1 i_7 x26 x27) (v := .d (.bool (x27 == 0))) (obs := []) 8 (by kernel_rfl) rfl (fun hg => is_pl (by kernel_rfl)) (by kernel_rfl) (impK (fun hh => hh) (impZ)) (by kernel_rfl) rfl ?_
      refine specP (s' := f70_s81 p0_ y18 blank_1 i_7 x26 x27) 9 (by kernel_rfl) (pick_or (t := blank_1) (x := true) (y := (x27 == 0))) (by kernel_rfl) rfl ?_
      refine chunk (s' := f70_s82 p0_ y18 blank_1 i_7 x26 x27) 1 10 (by kernel_rfl) rfl ?_
      refine at_end 10 (by kernel_rfl) ?_
      refine q_blockN ?_
      refine q_seq sh_refl ?_
      refine at_region (by kernel_rfl) sh_refl ?_
      refine chunk (s' := f70_s83 p0_ y18 blank_1 i_7 x26 x27) 3 3 (by kernel_rfl) rfl ?_
      refine at_end 3 (by kernel_rfl) ?_
      have hz := Option.some.inj H
      subst hz
      exact round_go (sh_gc [2,5,6,8] (by kernel_rfl))
  · refine at_condF (decide (i_7 < ((List.length p0_.Cells : Nat) : Int))) (p0 := [1,1,1,1,1,0,1,0,0,0,1,0]) (p1 := [1,1,1,1,1,0,1,0,0,0,1,1]) (by kernel_rfl) (by kernel_rfl) hc40 ?_
    refine at_exit 2 (by kernel_rfl) ?_
    refine q_seqX ?_
    have hz := Option.some.inj H
    subst hz
    exact round_exit ⟨rfl, sh_gc [2,5,6] (by kernel_rfl)⟩
variable (y20 : Bool)
def f70_s84 : St := pe (f70_s67 p0_ y18 y20) [(109, .d (.bool (!y18))), (108, .d (.bool y18))]
def f70_s85 : St := pe (f70_s84 p0_ y18 y20) [(4, .d (.bool (!y20))), (111, .d (.bool (!y20))), (110, .d (.bool y20))]
def f70_s86 : St := pe (f70_s84 p0_ y18 y20) [(117, .gv (((List.length p0_.Print : Nat) : Int) == 1) (.ptr 0 1)), (116, .d (.bool (((List.length p0_.Print : Nat) : Int) == 1))), (115, .d (.bool (((List.length p0_.Print : Nat) : Int) == 1))), (114, .d (.int .i64 ((List.length p0_.Print : Nat) : Int))), (113, .d (.str p0_.Print)), (112, .ptr 0 0)]
def f70_s87 : St := pe (f70_s86 p0_ y18 y20) [(118, .gv (((List.length p0_.Print : Nat) : Int) == 1) (.d (.sl (List.map eU8 p0_.Cells))))]
def f70_s88 : St := pe (f70_s87 p0_ y18 y20) [(119, .gv (((List.length p0_.Print : Nat) : Int) == 1) (.d (.int .i64 ((List.length p0_.Cells : Nat) : Int))))]
def f70_s89 : St := pe (f70_s88 p0_ y18 y20) [(120, .gv (((List.length p0_.Print : Nat) : Int) == 1) (.d (.bool (((List.length p0_.Cells : Nat) : Int) == 1))))]
def f70_s90 : St := pe (f70_s89 p0_ y18 y20) [(121, .d (.bool ((((List.length p0_.Print : Nat) : Int) == 1) && (((List.length p0_.Cells : Nat) : Int) == 1))))]
def f70_s91 : St := pe (f70_s90 p0_ y18 y20) [(123, .gv ((((List.length p0_.Print : Nat) : Int) == 1) && (((List.length p0_.Cells : Nat) : Int) == 1)) (.d (.bool y20))), (122, .d (.bool ((((List.length p0_.Print : Nat) : Int) == 1) && (((List.length p0_.Cells : Nat) : Int) == 1))))]
def f70_s92 : St := pe (f70_s91 p0_ y18 y20) [(124, .d (.bool (((((List.length p0_.Print : Nat) : Int) == 1) && (((List.length p0_.Cells : Nat) : Int) == 1)) && y20)))]
def f70_s93 : St := pe (f70_s92 p0_ y18 y20) [(4, .d (.bool (((((List.length p0_.Print : Nat) : Int) == 1) && (((List.length p0_.Cells : Nat) : Int) == 1)) && y20)))]
theorem FSixdotref02_Sound_ok {n : Nat} {p0_ : GRule} {p1_ : Int} {z : Bool} (H : FSixdotref02_Sound n p0_ p1_ = some z) : CallOK Try.prog 70 [.agg [.d (.str p0_.Print), .d (.sl (List.map eU8 p0_.Cells)), .d (.int .u8 p0_.Left), .d (.int .u8 p0_.Right), .d (.int .i64 p0_.From), .d (.int .i64 p0_.To)], .d (.int .i64 p1_)] (.d (.bool z)) := by
  dsimp only [FSixdotref02_Sound] at H
  refine fn_ok (Γ := cx 125) (s := f70_s1 p0_ p1_) follows (cxOK 125) Try.func70 (by kernel_rfl) (by kernel_rfl) (by kernel_rfl) (by kernel_rfl) (by kernel_rfl) (by kernel_rfl) ?_
  refine at_seq (p0 := [0]) (p1 := [1]) (by kernel_rfl) ?_
  refine at_region (by kernel_rfl) sh_refl ?_
  refine chunk (s' := f70_s2 p0_ p1_) 2 2 (by kernel_rfl) rfl ?_
  refine at_end 2 (by kernel_rfl) ?_
  refine q_seq sh_refl ?_
  refine at_seq (p0 := [1,0]) (p1 := [1,1]) (by kernel_rfl) ?_
  refine at_seq (p0 := [1,0,0]) (p1 := [1,0,1]) (by kernel_rfl) ?_
  refine at_region (by kernel_rfl) sh_refl ?_
  refine chunk (s' := f70_s3 p0_ p1_) 2 2 (by kernel_rfl) rfl ?_
  obtain ⟨r61, h126, H⟩ := bind_some H
  refine callS (s' := f70_s4 p0_ p1_ r61) (f := 36) (xs := [.d (.str p0_.Print)]) (ys := [.d (.str p0_.Print)]) (ks := []) (obl := []) (r := .d (.bool r61)) (ls := []) 3 false (by kernel_rfl) (leZ) rfl (FSixdotref02_IsText_ok h126) (Or.inl rfl) rfl (by kernel_rfl) rfl ?_
  refine chunk (s' := f70_s5 p0_ p1_ r61) 3 6 (by kernel_rfl) rfl ?_
  refine specG (g := (!(!r61))) (gs := [(!(!r61))]) (s' := f70_s6 p0_ p1_ r61) (v := .d (.str p0_.Print)) (obs := []) 7 (by kernel_rfl) rfl (fun hg => is_pl (by kernel_rfl)) (by kernel_rfl) (impK (fun hh => hh) (impZ)) (by kernel_rfl) rfl ?_
  refine specG (g := (!(!r61))) (gs := [(!(!r61))]) (s' := f70_s7 p0_ p1_ r61) (v := .d (.int .i64 ((List.length p0_.Print : Nat) : Int))) (obs := []) 8 (by kernel_rfl) rfl (fun hg => is_pl (by kernel_rfl)) (by kernel_rfl) (impK (fun hh => hh) (impZ)) (by kernel_rfl) rfl ?_
  refine specG (g := (!(!r61))) (gs := [(!(!r61))]) (s' := f70_s8 p0_ p1_ r61) (v := .d (.bool (decide (((List.length p0_.Print : Nat) : Int) > 4)))) (obs := []) 9 (by kernel_rfl) rfl (fun hg => is_pl (by kernel_rfl)) (by kernel_rfl) (impK (fun hh => hh) (impZ)) (by kernel_rfl) rfl ?_
  refine specP (s' := f70_s9 p0_ p1_ r61) 10 (by kernel_rfl) (pick_or (t := (!r61)) (x := true) (y := decide (((List.length p0_.Print : Nat) : Int) > 4))) (by kernel_rfl) rfl ?_
  refine chunk (s' := f70_s10 p0_ p1_ r61) 2 12 (by kernel_rfl) rfl ?_
  refine specG (g := (!((!r61) || (decide (((List.length p0_.Print : Nat) : Int) > 4))))) (gs := [(!((!r61) || (decide (((List.length p0_.Print : Nat) : Int) > 4))))]) (s' := f70_s11 p0_ p1_ r61) (v := .d (.sl (List.map eU8 p0_.Cells))) (obs := []) 13 (by kernel_rfl) rfl (fun hg => is_pl (by kernel_rfl)) (by kernel_rfl) (impK (fun hh => hh) (impZ)) (by kernel_rfl) rfl ?_
  refine specG (g := (!((!r61) || (decide (((List.length p0_.Print : Nat) : Int) > 4))))) (gs := [(!((!r61) || (decide (((List.length p0_.Print : Nat) : Int) > 4))))]) (s' := f70_s12 p0_ p1_ r61) (v := .d (.int .i64 ((List.length p0_.Cells : Nat) : Int))) (obs := []) 14 (by kernel_rfl) (by kernel_rfl) (fun hg => is_len (enc := eU8) (esz := 1) (eb := 1) (ez := [.int .u8 0]) (xs := p0_.Cells)) (by kernel_rfl) (impK (fun hh => hh) (impZ)) (by kernel_rfl) rfl ?_
  refine specG (g := (!((!r61) || (decide (((List.length p0_.Print : Nat) : Int) > 4))))) (gs := [(!((!r61) || (decide (((List.length p0_.Print : Nat) : Int) > 4))))]) (s' := f70_s13 p0_ p1_ r61) (v := .d (.bool (decide (((List.length p0_.Cells : Nat) : Int) < 1)))) (obs := []) 15 (by kernel_rfl) rfl (fun hg => is_pl (by kernel_rfl)) (by kernel_rfl) (impK (fun hh => hh) (impZ)) (by kernel_rfl) rfl ?_
  refine specP (s' := f70_s14 p0_ p1_ r61) 16 (by kernel_rfl) (pick_or (t := ((!r61) || (decide (((List.length p0_.Print : Nat) : Int) > 4)))) (x := true) (y := decide (((List.length p0_.Cells : Nat) : Int) < 1))) (by kernel_rfl) rfl ?_
  refine chunk (s' := f70_s15 p0_ p1_ r61) 2 18 (by kernel_rfl) rfl ?_
  refine specG (g := (!(((!r61) || (decide (((List.length p0_.Print : Nat) : Int) > 4))) || (decide (((List.length p0_.Cells : Nat) : Int) < 1))))) (gs := [(!(((!r61) || (decide (((List.length p0_.Print : Nat) : Int) > 4))) || (decide (((List.length p0_.Cells : Nat) : Int) < 1))))]) (s' := f70_s16 p0_ p1_ r61) (v := .d (.sl (List.map eU8 p0_.Cells))) (obs := []) 19 (by kernel_rfl) rfl (fun hg => is_pl (by kernel_rfl)) (by kernel_rfl) (impK (fun hh => hh) (impZ)) (by kernel_rfl) rfl ?_
  refine specG (g := (!(((!r61) || (decide (((List.length p0_.Print : Nat) : Int) > 4))) || (decide (((List.length p0_.Cells : Nat) : Int) < 1))))) (gs := [(!(((!r61) || (decide (((List.length p0_.Print : Nat) : Int) > 4))) || (decide (((List.length p0_.Cells : Nat) : Int) < 1))))]) (s' := f70_s17 p0_ p1_ r61) (v := .d (.int .i64 ((List.length p0_.Cells : Nat) : Int))) (obs := []) 20 (by kernel_rfl) (by kernel_rfl) (fun hg => is_len (enc := eU8) (esz := 1) (eb := 1) (ez := [.int .u8 0]) (xs := p0_.Cells)) (by kernel_rfl) (impK (fun hh => hh) (impZ)) (by kernel_rfl) rfl ?_
  refine specG (g := (!(((!r61) || (decide (((List.length p0_.Print : Nat) : Int) > 4))) || (decide (((List.length p0_.Cells : Nat) : Int) < 1))))) (gs := [(!(((!r61) || (decide (((List.length p0_.Print : Nat) : Int) > 4))) || (decide (((List.length p0_.Cells : Nat) : Int) < 1))))]) (s' := f70_s18 p0_ p1_ r61) (v := .d (.bool (decide (((List.length p0_.Cells : Nat) : Int) > 4)))) (obs := []) 21 (by kernel_rfl) rfl (fun hg => is_pl (by kernel_rfl)) (by kernel_rfl) (impK (fun hh => hh) (impZ)) (by kernel_rfl) rfl ?_
  refine specP (s' := f70_s19 p0_ p1_ r61) 22 (by kernel_rfl) (pick_or (t := (((!r61) || (decide (((List.length p0_.Print : Nat) : Int) > 4))) || (decide (((List.length p0_.Cells : Nat) : Int) < 1)))) (x := true) (y := decide (((List.length p0_.Cells : Nat) : Int) > 4))) (by kernel_rfl) rfl ?_
  refine at_end 22 (by kernel_rfl) ?_
  refine q_seq sh_refl ?_
  rcases ite_some H with ⟨hc43, H⟩ | ⟨hc43, H⟩
  · refine at_condT ((((!r61) || (decide (((List.length p0_.Print : Nat) : Int) > 4))) || (decide (((List.length p0_.Cells : Nat) : Int) < 1))) || (decide (((List.length p0_.Cells : Nat) : Int) > 4))) (p0 := [1,0,1,0]) (p1 := [1,0,1,1]) (by kernel_rfl) (by kernel_rfl) hc43 ?_
    refine at_seq (p0 := [1,0,1,0,0]) (p1 := [1,0,1,0,1]) (by kernel_rfl) ?_
    refine at_region (by kernel_rfl) sh_refl ?_
    refine chunk (s' := f70_s20 p0_ p1_ r61) 1 1 (by kernel_rfl) rfl ?_
    refine at_end 1 (by kernel_rfl) ?_
    refine q_seq sh_refl ?_
    refine at_ret (by kernel_rfl) ?_
    refine q_seqR ?_
    have hz := Option.some.inj H
    subst hz
    exact post_ret (ret1 (v := .d (.bool false)) (r := .d (.bool false)) [] (by kernel_rfl) (outA_d (outV_d)) (by kernel_rfl) (by decide))
  · refine at_condF ((((!r61) || (decide (((List.length p0_.Print : Nat) : Int) > 4))) || (decide (((List.length p0_.Cells : Nat) : Int) < 1))) || (decide (((List.length p0_.Cells : Nat) : Int) > 4))) (p0 := [1,0,1,0]) (p1 := [1,0,1,1]) (by kernel_rfl) (by kernel_rfl) hc43 ?_
    refine at_skip (by kernel_rfl) ?_
    refine q_seq sh_refl ?_
    refine at_seq (p0 := [1,1,0]) (p1 := [1,1,1]) (by kernel_rfl) ?_
    refine at_seq (p0 := [1,1,0,0]) (p1 := [1,1,0,1]) (by kernel_rfl) ?_
    refine at_region (by kernel_rfl) sh_refl ?_
    refine chunk (s' := f70_s21 p0_ p1_ r61) 5 5 (by kernel_rfl) rfl ?_
    refine specG (g := (!(decide (p0_.Left < 1)))) (gs := [(!(decide (p0_.Left < 1)))]) (s' := f70_s22 p0_ p1_ r61) (v := .d (.int .u8 p0_.Left)) (obs := []) 6 (by kernel_rfl) rfl (fun hg => is_pl (by kernel_rfl)) (by kernel_rfl) (impK (fun hh => hh) (impZ)) (by kernel_rfl) rfl ?_
    refine specG (g := (!(decide (p0_.Left < 1)))) (gs := [(!(decide (p0_.Left < 1)))]) (s' := f70_s23 p0_ p1_ r61) (v := .d (.bool (decide (p0_.Left > 63)))) (obs := []) 7 (by kernel_rfl) rfl (fun hg => is_pl (by kernel_rfl)) (by kernel_rfl) (impK (fun hh => hh) (impZ)) (by kernel_rfl) rfl ?_
    refine specP (s' := f70_s24 p0_ p1_ r61) 8 (by kernel_rfl) (pick_or (t := decide (p0_.Left < 1)) (x := true) (y := decide (p0_.Left > 63))) (by kernel_rfl) rfl ?_
    refine chunk (s' := f70_s25 p0_ p1_ r61) 2 10 (by kernel_rfl) rfl ?_
    refine specG (g := (!((decide (p0_.Left < 1)) || (decide (p0_.Left > 63))))) (gs := [(!((decide (p0_.Left < 1)) || (decide (p0_.Left > 63))))]) (s' := f70_s26 p0_ p1_ r61) (v := .d (.int .u8 p0_.Right)) (obs := []) 11 (by kernel_rfl) rfl (fun hg => is_pl (by kernel_rfl)) (by kernel_rfl) (impK (fun hh => hh) (impZ)) (by kernel_rfl) rfl ?_
    refine specG (g := (!((decide (p0_.Left < 1)) || (decide (p0_.Left > 63))))) (gs := [(!((decide (p0_.Left < 1)) || (decide (p0_.Left > 63))))]) (s' := f70_s27 p0_ p1_ r61) (v := .d (.bool (decide (p0_.Right < 1)))) (obs := []) 12 (by kernel_rfl) rfl (fun hg => is_pl (by kernel_rfl)) (by kernel_rfl) (impK (fun hh => hh) (impZ)) (by kernel_rfl) rfl ?_
    refine specP (s' := f70_s28 p0_ p1_ r61) 13 (by kernel_rfl) (pick_or (t := ((decide (p0_.Left < 1)) || (decide (p0_.Left > 63)))) (x := true) (y := decide (p0_.Right < 1))) (by kernel_rfl) rfl ?_
    refine chunk (s' := f70_s29 p0_ p1_ r61) 2 15 (by kernel_rfl) rfl ?_
    refine specG (g := (!(((decide (p0_.Left < 1)) || (decide (p0_.Left > 63))) || (decide (p0_.Right < 1))))) (gs := [(!(((decide (p0_.Left < 1)) || (decide (p0_.Left > 63))) || (decide (p0_.Right < 1))))]) (s' := f70_s30 p0_ p1_ r61) (v := .d (.int .u8 p0_.Right)) (obs := []) 16 (by kernel_rfl) rfl (fun hg => is_pl (by kernel_rfl)) (by kernel_rfl) (impK (fun hh => hh) (impZ)) (by kernel_rfl) rfl ?_
    refine specG (g := (!(((decide (p0_.Left < 1)) || (decide (p0_.Left > 63))) || (decide (p0_.Right < 1))))) (gs := [(!(((decide (p0_.Left < 1)) || (decide (p0_.Left > 63))) || (decide (p0_.Right < 1))))]) (s' := f70_s31 p0_ p1_ r61) (v := .d (.bool (decide (p0_.Right > 63)))) (obs := []) 17 (by kernel_rfl) rfl (fun hg => is_pl (by kernel_rfl)) (by kernel_rfl) (impK (fun hh => hh) (impZ)) (by kernel_rfl) rfl ?_
    refine specP (s' := f70_s32 p0_ p1_ r61) 18 (by kernel_rfl) (pick_or (t := (((decide (p0_.Left < 1)) || (decide (p0_.Left > 63))) || (decide (p0_.Right < 1)))) (x := true) (y := decide (p0_.Right > 63))) (by kernel_rfl) rfl ?_
    refine chunk (s' := f70_s33 p0_ p1_ r61) 2 20 (by kernel_rfl) rfl ?_
    refine specG (g := (!((((decide (p0_.Left < 1)) || (decide (p0_.Left > 63))) || (decide (p0_.Right < 1))) || (decide (p0_.Right > 63))))) (gs := [(!((((decide (p0_.Left < 1)) || (decide (p0_.Left > 63))) || (decide (p0_.Right < 1))) || (decide (p0_.Right > 63))))]) (s' := f70_s34 p0_ p1_ r61) (v := .d (.int .i64 p0_.From)) (obs := []) 21 (by kernel_rfl) rfl (fun hg => is_pl (by kernel_rfl)) (by kernel_rfl) (impK (fun hh => hh) (impZ)) (by kernel_rfl) rfl ?_
    refine specG (g := (!((((decide (p0_.Left < 1)) || (decide (p0_.Left > 63))) || (decide (p0_.Right < 1))) || (decide (p0_.Right > 63))))) (gs := [(!((((decide (p0_.Left < 1)) || (decide (p0_.Left > 63))) || (decide (p0_.Right < 1))) || (decide (p0_.Right > 63))))]) (s' := f70_s35 p0_ p1_ r61) (v := .d (.bool (decide (p0_.From < 0)))) (obs := []) 22 (by kernel_rfl) rfl (fun hg => is_pl (by kernel_rfl)) (by kernel_rfl) (impK (fun hh => hh) (impZ)) (by kernel_rfl) rfl ?_
    refine specP (s' := f70_s36 p0_ p1_ r61) 23 (by kernel_rfl) (pick_or (t := ((((decide (p0_.Left < 1)) || (decide (p0_.Left > 63))) || (decide (p0_.Right < 1))) || (decide (p0_.Right > 63)))) (x := true) (y := decide (p0_.From < 0))) (by kernel_rfl) rfl ?_
    refine chunk (s' := f70_s37 p0_ p1_ r61) 2 25 (by kernel_rfl) rfl ?_
    refine specG (g := (!(((((decide (p0_.Left < 1)) || (decide (p0_.Left > 63))) || (decide (p0_.Right < 1))) || (decide (p0_.Right > 63))) || (decide (p0_.From < 0))))) (gs := [(!(((((decide (p0_.Left < 1)) || (decide (p0_.Left > 63))) || (decide (p0_.Right < 1))) || (decide (p0_.Right > 63))) || (decide (p0_.From < 0))))]) (s' := f70_s38 p0_ p1_ r61) (v := .d (.int .i64 p0_.From)) (obs := []) 26 (by kernel_rfl) rfl (fun hg => is_pl (by kernel_rfl)) (by kernel_rfl) (impK (fun hh => hh) (impZ)) (by kernel_rfl) rfl ?_
    refine chunk (s' := f70_s39 p0_ p1_ r61) 1 27 (by kernel_rfl) rfl ?_
    refine specG (g := (!(((((decide (p0_.Left < 1)) || (decide (p0_.Left > 63))) || (decide (p0_.Right < 1))) || (decide (p0_.Right > 63))) || (decide (p0_.From < 0))))) (gs := [(!(((((decide (p0_.Left < 1)) || (decide (p0_.Left > 63))) || (decide (p0_.Right < 1))) || (decide (p0_.Right > 63))) || (decide (p0_.From < 0)))), (!(((((decide (p0_.Left < 1)) || (decide (p0_.Left > 63))) || (decide (p0_.Right < 1))) || (decide (p0_.Right > 63))) || (decide (p0_.From < 0))))]) (s' := f70_s40 p0_ p1_ r61) (v := .d (.bool (decide (p0_.From ≥ p1_)))) (obs := []) 28 (by kernel_rfl) rfl (fun hg => is_pl (by kernel_rfl)) (by kernel_rfl) (impK (fun hh => hh) (impK (fun hh => hh) (impZ))) (by kernel_rfl) rfl ?_
    refine specP (s' := f70_s41 p0_ p1_ r61) 29 (by kernel_rfl) (pick_or (t := (((((decide (p0_.Left < 1)) || (decide (p0_.Left > 63))) || (decide (p0_.Right < 1))) || (decide (p0_.Right > 63))) || (decide (p0_.From < 0)))) (x := true) (y := decide (p0_.From ≥ p1_))) (by kernel_rfl) rfl ?_
    refine chunk (s' := f70_s42 p0_ p1_ r61) 2 31 (by kernel_rfl) rfl ?_
    refine specG (g := (!((((((decide (p0_.Left < 1)) || (decide (p0_.Left > 63))) || (decide (p0_.Right < 1))) || (decide (p0_.Right > 63))) || (decide (p0_.From < 0))) || (decide (p0_.From ≥ p1_))))) (gs := [(!((((((decide (p0_.Left < 1)) || (decide (p0_.Left > 63))) || (decide (p0_.Right < 1))) || (decide (p0_.Right > 63))) || (decide (p0_.From < 0))) || (decide (p0_.From ≥ p1_))))]) (s' := f70_s43 p0_ p1_ r61) (v := .d (.int .i64 p0_.To)) (obs := []) 32 (by kernel_rfl) rfl (fun hg => is_pl (by kernel_rfl)) (by kernel_rfl) (impK (fun hh => hh) (impZ)) (by kernel_rfl) rfl ?_
    refine specG (g := (!((((((decide (p0_.Left < 1)) || (decide (p0_.Left > 63))) || (decide (p0_.Right < 1))) || (decide (p0_.Right > 63))) || (decide (p0_.From < 0))) || (decide (p0_.From ≥ p1_))))) (gs := [(!((((((decide (p0_.Left < 1)) || (decide (p0_.Left > 63))) || (decide (p0_.Right < 1))) || (decide (p0_.Right > 63))) || (decide (p0_.From < 0))) || (decide (p0_.From ≥ p1_))))]) (s' := f70_s44 p0_ p1_ r61) (v := .d (.bool (decide (p0_.To < 0)))) (obs := []) 33 (by kernel_rfl) rfl (fun hg => is_pl (by kernel_rfl)) (by kernel_rfl) (impK (fun hh => hh) (impZ)) (by kernel_rfl) rfl ?_
    refine specP (s' := f70_s45 p0_ p1_ r61) 34 (by kernel_rfl) (pick_or (t := ((((((decide (p0_.Left < 1)) || (decide (p0_.Left > 63))) || (decide (p0_.Right < 1))) || (decide (p0_.Right > 63))) || (decide (p0_.From < 0))) || (decide (p0_.From ≥ p1_)))) (x := true) (y := decide (p0_.To < 0))) (by kernel_rfl) rfl ?_
    refine chunk (s' := f70_s46 p0_ p1_ r61) 2 36 (by kernel_rfl) rfl ?_
    refine specG (g := (!(((((((decide (p0_.Left < 1)) || (decide (p0_.Left > 63))) || (decide (p0_.Right < 1))) || (decide (p0_.Right > 63))) || (decide (p0_.From < 0))) || (decide (p0_.From ≥ p1_))) || (decide (p0_.To < 0))))) (gs := [(!(((((((decide (p0_.Left < 1)) || (decide (p0_.Left > 63))) || (decide (p0_.Right < 1))) || (decide (p0_.Right > 63))) || (decide (p0_.From < 0))) || (decide (p0_.From ≥ p1_))) || (decide (p0_.To < 0))))]) (s' := f70_s47 p0_ p1_ r61) (v := .d (.int .i64 p0_.To)) (obs := []) 37 (by kernel_rfl) rfl (fun hg => is_pl (by kernel_rfl)) (by kernel_rfl) (impK (fun hh => hh) (impZ)) (by kernel_rfl) rfl ?_
    refine chunk (s' := f70_s48 p0_ p1_ r61) 1 38 (by kernel_rfl) rfl ?_
    refine specG (g := (!(((((((decide (p0_.Left < 1)) || (decide (p0_.Left > 63))) || (decide (p0_.Right < 1))) || (decide (p0_.Right > 63))) || (decide (p0_.From < 0))) || (decide (p0_.From ≥ p1_))) || (decide (p0_.To < 0))))) (gs := [(!(((((((decide (p0_.Left < 1)) || (decide (p0_.Left > 63))) || (decide (p0_.Right < 1))) || (decide (p0_.Right > 63))) || (decide (p0_.From < 0))) || (decide (p0_.From ≥ p1_))) || (decide (p0_.To < 0)))), (!(((((((decide (p0_.Left < 1)) || (decide (p0_.Left > 63))) || (decide (p0_.Right < 1))) || (decide (p0_.Right > 63))) || (decide (p0_.From < 0))) || (decide (p0_.From ≥ p1_))) || (decide (p0_.To < 0))))]) (s' := f70_s49 p0_ p1_ r61) (v := .d (.bool (decide (p0_.To ≥ p1_)))) (obs := []) 39 (by kernel_rfl) rfl (fun hg => is_pl (by kernel_rfl)) (by kernel_rfl) (impK (fun hh => hh) (impK (fun hh => hh) (impZ))) (by kernel_rfl) rfl ?_
    refine specP (s' := f70_s50 p0_ p1_ r61) 40 (by kernel_rfl) (pick_or (t := (((((((decide (p0_.Left < 1)) || (decide (p0_.Left > 63))) || (decide (p0_.Right < 1))) || (decide (p0_.Right > 63))) || (decide (p0_.From < 0))) || (decide (p0_.From ≥ p1_))) || (decide (p0_.To < 0)))) (x := true) (y := decide (p0_.To ≥ p1_))) (by kernel_rfl) rfl ?_
    refine at_end 40 (by kernel_rfl) ?_
    refine q_seq sh_refl ?_
    rcases ite_some H with ⟨hc42, H⟩ | ⟨hc42, H⟩
    · refine at_condT ((((((((decide (p0_.Left < 1)) || (decide (p0_.Left > 63))) || (decide (p0_.Right < 1))) || (decide (p0_.Right > 63))) || (decide (p0_.From < 0))) || (decide (p0_.From ≥ p1_))) || (decide (p0_.To < 0))) || (decide (p0_.To ≥ p1_))) (p0 := [1,1,0,1,0]) (p1 := [1,1,0,1,1]) (by kernel_rfl) (by kernel_rfl) hc42 ?_
      refine at_seq (p0 := [1,1,0,1,0,0]) (p1 := [1,1,0,1,0,1]) (by kernel_rfl) ?_
      refine at_region (by kernel_rfl) sh_refl ?_
      refine chunk (s' := f70_s51 p0_ p1_ r61) 1 1 (by kernel_rfl) rfl ?_
      refine at_end 1 (by kernel_rfl) ?_
      refine q_seq sh_refl ?_
      refine at_ret (by kernel_rfl) ?_
      refine q_seqR ?_
      have hz := Option.some.inj H
      subst hz
      exact post_ret (ret1 (v := .d (.bool false)) (r := .d (.bool false)) [] (by kernel_rfl) (outA_d (outV_d)) (by kernel_rfl) (by decide))
    · refine at_condF ((((((((decide (p0_.Left < 1)) || (decide (p0_.Left > 63))) || (decide (p0_.Right < 1))) || (decide (p0_.Right > 63))) || (decide (p0_.From < 0))) || (decide (p0_.From ≥ p1_))) || (decide (p0_.To < 0))) || (decide (p0_.To ≥ p1_))) (p0 := [1,1,0,1,0]) (p1 := [1,1,0,1,1]) (by kernel_rfl) (by kernel_rfl) hc42 ?_
      refine at_skip (by kernel_rfl) ?_
      refine q_seq sh_refl ?_
      refine at_seq (p0 := [1,1,1,0]) (p1 := [1,1,1,1]) (by kernel_rfl) ?_
      refine at_region (by kernel_rfl) sh_refl ?_
      refine chunk (s' := f70_s52 p0_ p1_ r61) 2 2 (by kernel_rfl) rfl ?_
      refine at_end 2 (by kernel_rfl) ?_
      refine q_seq sh_refl ?_
      refine at_seq (p0 := [1,1,1,1,0]) (p1 := [1,1,1,1,1]) (by kernel_rfl) ?_
      refine at_seq (p0 := [1,1,1,1,0,0]) (p1 := [1,1,1,1,0,1]) (by kernel_rfl) ?_
      refine at_region (by kernel_rfl) sh_refl ?_
      refine chunk (s' := f70_s53 p0_ p1_ r61) 1 1 (by kernel_rfl) rfl ?_
      refine at_end 1 (by kernel_rfl) ?_
      refine q_seq sh_refl ?_
      refine at_block 0 (p0 := [1,1,1,1,0,1,0]) (by kernel_rfl) ?_
      obtain ⟨y18, h129, H⟩ := bind_some H
      refine at_loop (p0 := [1,1,1,1,0,1,0,0]) (fun (x : (Bool × Int)) => f70_s54 p0_ x.1 x.2) (f70_L1_E p0_) (by kernel_rfl) h129 (sh_gc [2,5,6,7] (by kernel_rfl)) (fun x z => f70_L1_ok x z) ?_
      intro e s hE15
      obtain ⟨rfl, hE15⟩ := hE15
      refine q_blockH ?_
      refine q_seq (s' := f70_s55 p0_ y18) (hE15) ?_
      refine at_seq (p0 := [1,1,1,1,1,0]) (p1 := [1,1,1,1,1,1]) (by kernel_rfl) ?_
      refine at_seq (p0 := [1,1,1,1,1,0,0]) (p1 := [1,1,1,1,1,0,1]) (by kernel_rfl) ?_
      refine at_region (by kernel_rfl) sh_refl ?_
      refine chunk (s' := f70_s65 p0_ y18) 1 1 (by kernel_rfl) rfl ?_
      refine at_end 1 (by kernel_rfl) ?_
      refine q_seq sh_refl ?_
      refine at_block 2 (p0 := [1,1,1,1,1,0,1,0]) (by kernel_rfl) ?_
      obtain ⟨y19, h132, H⟩ := bind_some H
      rcases y19 with y20 | y21
      · refine at_loop (p0 := [1,1,1,1,1,0,1,0,0]) (fun (x : (Bool × Int)) => f70_s66 p0_ y18 x.1 x.2) (f70_L2_E p0_ y18) (by kernel_rfl) h132 (sh_gc [2,5,6,8] (by kernel_rfl)) (fun x z => f70_L2_ok x z) ?_
        intro e s hE16
        obtain ⟨rfl, hE16⟩ := hE16
        refine q_blockH ?_
        refine q_seq (s' := f70_s67 p0_ y18 y20) (hE16) ?_
        refine at_seq (p0 := [1,1,1,1,1,1,0]) (p1 := [1,1,1,1,1,1,1]) (by kernel_rfl) ?_
        refine at_seq (p0 := [1,1,1,1,1,1,0,0]) (p1 := [1,1,1,1,1,1,0,1]) (by kernel_rfl) ?_
        refine at_region (by kernel_rfl) sh_refl ?_
        refine chunk (s' := f70_s84 p0_ y18 y20) 2 2 (by kernel_rfl) rfl ?_
        refine at_end 2 (by kernel_rfl) ?_
        refine q_seq sh_refl ?_
        rcases ite_some H with ⟨hc41, H⟩ | ⟨hc41, H⟩
        · refine at_condT (!y18) (p0 := [1,1,1,1,1,1,0,1,0]) (p1 := [1,1,1,1,1,1,0,1,1]) (by kernel_rfl) (by kernel_rfl) hc41 ?_
          refine at_seq (p0 := [1,1,1,1,1,1,0,1,0,0]) (p1 := [1,1,1,1,1,1,0,1,0,1]) (by kernel_rfl) ?_
          refine at_region (by kernel_rfl) sh_refl ?_
          refine chunk (s' := f70_s85 p0_ y18 y20) 3 3 (by kernel_rfl) rfl ?_
          refine at_end 3 (by kernel_rfl) ?_
          refine q_seq sh_refl ?_
          refine at_ret (by kernel_rfl) ?_
          refine q_seqR ?_
          have hz := Option.some.inj H
          subst hz
          exact post_ret (ret1 (v := .d (.bool (!y20))) (r := .d (.bool (!y20))) [] (by kernel_rfl) (outA_d (outV_d)) (by kernel_rfl) (by decide))
        · refine at_condF (!y18) (p0 := [1,1,1,1,1,1,0,1,0]) (p1 := [1,1,1,1,1,1,0,1,1]) (by kernel_rfl) (by kernel_rfl) hc41 ?_
          refine at_skip (by kernel_rfl) ?_
          refine q_seq sh_refl ?_
          refine at_seq (p0 := [1,1,1,1,1,1,1,0]) (p1 := [1,1,1,1,1,1,1,1]) (by kernel_rfl) ?_
          refine at_region (by kernel_rfl) sh_refl ?_
          refine chunk (s' := f70_s86 p0_ y18 y20) 6 6 (by kernel_rfl) rfl ?_
          refine specG (g := (((List.length p0_.Print : Nat) : Int) == 1)) (gs := [(((List.length p0_.Print : Nat) : Int) == 1)]) (s' := f70_s87 p0_ y18 y20) (v := .d (.sl (List.map eU8 p0_.Cells))) (obs := []) 7 (by kernel_rfl) rfl (fun hg => is_pl (by kernel_rfl)) (by kernel_rfl) (impK (fun hh => hh) (impZ)) (by kernel_rfl) rfl ?_
          refine specG (g := (((List.length p0_.Print : Nat) : Int) == 1)) (gs := [(((List.length p0_.Print : Nat) : Int) == 1)]) (s' := f70_s88 p0_ y18 y20) (v := .d (.int .i64 ((List.length p0_.Cells : Nat) : Int))) (obs := []) 8 (by kernel_rfl) (by kernel_rfl) (fun hg => is_len (enc := eU8) (esz := 1) (eb := 1) (ez := [.int .u8 0]) (xs := p0_.Cells)) (by kernel_rfl) (impK (fun hh => hh) (impZ)) (by kernel_rfl) rfl ?_
          refine specG (g := (((List.length p0_.Print : Nat) : Int) == 1)) (gs := [(((List.length p0_.Print : Nat) : Int) == 1)]) (s' := f70_s89 p0_ y18 y20) (v := .d (.bool (((List.length p0_.Cells : Nat) : Int) == 1))) (obs := []) 9 (by kernel_rfl) rfl (fun hg => is_pl (by kernel_rfl)) (by kernel_rfl) (impK (fun hh => hh) (impZ)) (by kernel_rfl) rfl ?_
          refine specP (s' := f70_s90 p0_ y18 y20) 10 (by kernel_rfl) (pick_and (t := (((List.length p0_.Print : Nat) : Int) == 1)) (x := (((List.length p0_.Cells : Nat) : Int) == 1)) (y := false)) (by kernel_rfl) rfl ?_
          refine chunk (s' := f70_s91 p0_ y18 y20) 2 12 (by kernel_rfl) rfl ?_
          refine specP (s' := f70_s92 p0_ y18 y20) 13 (by kernel_rfl) (pick_and (t := ((((List.length p0_.Print : Nat) : Int) == 1) && (((List.length p0_.Cells : Nat) : Int) == 1))) (x := y20) (y := false)) (by kernel_rfl) rfl ?_
          refine chunk (s' := f70_s93 p0_ y18 y20) 1 14 (by kernel_rfl) rfl ?_
          refine at_end 14 (by kernel_rfl) ?_
          refine q_seq sh_refl ?_
          refine at_ret (by kernel_rfl) ?_
          have hz := Option.some.inj H
          subst hz
          exact post_ret (ret1 (v := .d (.bool (((((List.length p0_.Print : Nat) : Int) == 1) && (((List.length p0_.Cells : Nat) : Int) == 1)) && y20))) (r := .d (.bool (((((List.length p0_.Print : Nat) : Int) == 1) && (((List.length p0_.Cells : Nat) : Int) == 1)) && y20))) [] (by kernel_rfl) (outA_d (outV_d)) (by kernel_rfl) (by decide))
      · refine at_loop (p0 := [1,1,1,1,1,0,1,0,0]) (fun (x : (Bool × Int)) => f70_s66 p0_ y18 x.1 x.2) (f70_L2_E p0_ y18) (by kernel_rfl) h132 (sh_gc [2,5,6,8] (by kernel_rfl)) (fun x z => f70_L2_ok x z) ?_
        intro e s hE17
        obtain ⟨rfl, hE17⟩ := hE17
        refine q_blockR ?_
        refine q_seqR ?_
        have hz := Option.some.inj H
        subst hz
        exact post_ret hE17
end
section
variable (p0_ : GRule) (p1_ : GRule)
def f71_s1 : St := ⟨(0, .agg [.d (.str p0_.Print), .d (.sl (List.map eU8 p0_.Cells)), .d (.int .u8 p0_.Left), .d (.int .u8 p0_.Right), .d (.int .i64 p0_.From), .d (.int .i64 p0_.To)]) :: (1, .agg [.d (.str p1_.Print), .d (.sl (List.map eU8 p1_.Cells)), .d (.int .u8 p1_.Left), .d (.int .u8 p1_.Right), .d (.int .i64 p1_.From), .d (.int .i64 p1_.To)]) :: [], []⟩
def f71_s2 : St := po (f71_s1 p0_ p1_) [(4, .d (.bool false)), (3, .ptr 1 0), (2, .ptr 0 0)] fun _ => [some (.box [.d (.str p0_.Print), .d (.sl (List.map eU8 p0_.Cells)), .d (.int .u8 p0_.Left), .d (.int .u8 p0_.Right), .d (.int .i64 p0_.From), .d (.int .i64 p0_.To)]), some (.box [.d (.str p1_.Print), .d (.sl (List.map eU8 p1_.Cells)), .d (.int .u8 p1_.Left), .d (.int .u8 p1_.Right), .d (.int .i64 p1_.From), .d (.int .i64 p1_.To)])]
def f71_s3 : St := pe (f71_s2 p0_ p1_) [(11, .gv (p0_.Print == p1_.Print) (.ptr 0 1)), (10, .d (.bool (p0_.Print == p1_.Print))), (9, .d (.bool (p0_.Print == p1_.Print))), (8, .d (.str p1_.Print)), (7, .ptr 1 0), (6, .d (.str p0_.Print)), (5, .ptr 0 0)]
def f71_s4 : St := pe (f71_s3 p0_ p1_) [(12, .gv (p0_.Print == p1_.Print) (.d (.sl (List.map eU8 p0_.Cells))))]
def f71_s5 : St := pe (f71_s4 p0_ p1_) [(13, .gv (p0_.Print == p1_.Print) (.ptr 1 1))]
def f71_s6 : St := pe (f71_s5 p0_ p1_) [(14, .gv (p0_.Print == p1_.Print) (.d (.sl (List.map eU8 p1_.Cells))))]
variable (r63 : Bool)
def f71_s7 : St := pe (f71_s6 p0_ p1_) [(15, .gv (p0_.Print == p1_.Print) (.d (.bool r63)))]
def f71_s8 : St := pe (f71_s7 p0_ p1_ r63) [(16, .d (.bool ((p0_.Print == p1_.Print) && r63)))]
def f71_s9 : St := pe (f71_s8 p0_ p1_ r63) [(18, .gv ((p0_.Print == p1_.Print) && r63) (.ptr 0 2)), (17, .d (.bool ((p0_.Print == p1_.Print) && r63)))]
def f71_s10 : St := pe (f71_s9 p0_ p1_ r63) [(19, .gv ((p0_.Print == p1_.Print) && r63) (.d (.int .u8 p0_.Left)))]
def f71_s11 : St := pe (f71_s10 p0_ p1_ r63) [(20, .gv ((p0_.Print == p1_.Print) && r63) (.ptr 1 2))]
def f71_s12 : St := pe (f71_s11 p0_ p1_ r63) [(21, .gv ((p0_.Print == p1_.Print) && r63) (.d (.int .u8 p1_.Left)))]
def f71_s13 : St := pe (f71_s12 p0_ p1_ r63) [(22, .gv ((p0_.Print == p1_.Print) && r63) (.d (.bool (p0_.Left == p1_.Left))))]
def f71_s14 : St := pe (f71_s13 p0_ p1_ r63) [(23, .d (.bool (((p0_.Print == p1_.Print) && r63) && (p0_.Left == p1_.Left))))]
def f71_s15 : St := pe (f71_s14 p0_ p1_ r63) [(25, .gv (((p0_.Print == p1_.Print) && r63) && (p0_.Left == p1_.Left)) (.ptr 0 3)), (24, .d (.bool (((p0_.Print == p1_.Print) && r63) && (p0_.Left == p1_.Left))))]
def f71_s16 : St := pe (f71_s15 p0_ p1_ r63) [(26, .gv (((p0_.Print == p1_.Print) && r63) && (p0_.Left == p1_.Left)) (.d (.int .u8 p0_.Right)))]
def f71_s17 : St := pe (f71_s16 p0_ p1_ r63) [(27, .gv (((p0_.Print == p1_.Print) && r63) && (p0_.Left == p1_.Left)) (.ptr 1 3))]
def f71_s18 : St := pe (f71_s17 p0_ p1_ r63) [(28, .gv (((p0_.Print == p1_.Print) && r63) && (p0_.Left == p1_.Left)) (.d (.int .u8 p1_.Right)))]
def f71_s19 : St := pe (f71_s18 p0_ p1_ r63) [(29, .gv (((p0_.Print == p1_.Print) && r63) && (p0_.Left == p1_.Left)) (.d (.bool (p0_.Right == p1_.Right))))]
def f71_s20 : St := pe (f71_s19 p0_ p1_ r63) [(30, .d (.bool ((((p0_.Print == p1_.Print) && r63) && (p0_.Left == p1_.Left)) && (p0_.Right == p1_.Right))))]
def f71_s21 : St := pe (f71_s20 p0_ p1_ r63) [(32, .gv ((((p0_.Print == p1_.Print) && r63) && (p0_.Left == p1_.Left)) && (p0_.Right == p1_.Right)) (.ptr 0 4)), (31, .d (.bool ((((p0_.Print == p1_.Print) && r63) && (p0_.Left == p1_.Left)) && (p0_.Right == p1_.Right))))]
def f71_s22 : St := pe (f71_s21 p0_ p1_ r63) [(33, .gv ((((p0_.Print == p1_.Print) && r63) && (p0_.Left == p1_.Left)) && (p0_.Right == p1_.Right)) (.d (.int .i64 p0_.From)))]
def f71_s23 : St := pe (f71_s22 p0_ p1_ r63) [(34, .gv ((((p0_.Print == p1_.Print) && r63) && (p0_.Left == p1_.Left)) && (p0_.Right == p1_.Right)) (.ptr 1 4))]
def f71_s24 : St := pe (f71_s23 p0_ p1_ r63) [(35, .gv ((((p0_.Print == p1_.Print) && r63) && (p0_.Left == p1_.Left)) && (p0_.Right == p1_.Right)) (.d (.int .i64 p1_.From)))]
def f71_s25 : St := pe (f71_s24 p0_ p1_ r63) [(36, .gv ((((p0_.Print == p1_.Print) && r63) && (p0_.Left == p1_.Left)) && (p0_.Right == p1_.Right)) (.d (.bool (p0_.From == p1_.From))))]
def f71_s26 : St := pe (f71_s25 p0_ p1_ r63) [(37, .d (.bool (((((p0_.Print == p1_.Print) && r63) && (p0_.Left == p1_.Left)) && (p0_.Right == p1_.Right)) && (p0_.From == p1_.From))))]
def f71_s27 : St := pe (f71_s26 p0_ p1_ r63) [(39, .gv (((((p0_.Print == p1_.Print) && r63) && (p0_.Left == p1_.Left)) && (p0_.Right == p1_.Right)) && (p0_.From == p1_.From)) (.ptr 0 5)), (38, .d (.bool (((((p0_.Print == p1_.Print) && r63) && (p0_.Left == p1_.Left)) && (p0_.Right == p1_.Right)) && (p0_.From == p1_.From))))]
def f71_s28 : St := pe (f71_s27 p0_ p1_ r63) [(40, .gv (((((p0_.Print == p1_.Print) && r63) && (p0_.Left == p1_.Left)) && (p0_.Right == p1_.Right)) && (p0_.From == p1_.From)) (.d (.int .i64 p0_.To)))]
def f71_s29 : St := pe (f71_s28 p0_ p1_ r63) [(41, .gv (((((p0_.Print == p1_.Print) && r63) && (p0_.Left == p1_.Left)) && (p0_.Right == p1_.Right)) && (p0_.From == p1_.From)) (.ptr 1 5))]
def f71_s30 : St := pe (f71_s29 p0_ p1_ r63) [(42, .gv (((((p0_.Print == p1_.Print) && r63) && (p0_.Left == p1_.Left)) && (p0_.Right == p1_.Right)) && (p0_.From == p1_.From)) (.d (.int .i64 p1_.To)))]
def f71_s31 : St := pe (f71_s30 p0_ p1_ r63) [(43, .gv (((((p0_.Print == p1_.Print) && r63) && (p0_.Left == p1_.Left)) && (p0_.Right == p1_.Right)) && (p0_.From == p1_.From)) (.d (.bool (p0_.To == p1_.To))))]
def f71_s32 : St := pe (f71_s31 p0_ p1_ r63) [(44, .d (.bool ((((((p0_.Print == p1_.Print) && r63) && (p0_.Left == p1_.Left)) && (p0_.Right == p1_.Right)) && (p0_.From == p1_.From)) && (p0_.To == p1_.To))))]
def f71_s33 : St := pe (f71_s32 p0_ p1_ r63) [(4, .d (.bool ((((((p0_.Print == p1_.Print) && r63) && (p0_.Left == p1_.Left)) && (p0_.Right == p1_.Right)) && (p0_.From == p1_.From)) && (p0_.To == p1_.To))))]
theorem FSixdotref02_SameRule_ok {n : Nat} {p0_ : GRule} {p1_ : GRule} {z : Bool} (H : FSixdotref02_SameRule n p0_ p1_ = some z) : CallOK Try.prog 71 [.agg [.d (.str p0_.Print), .d (.sl (List.map eU8 p0_.Cells)), .d (.int .u8 p0_.Left), .d (.int .u8 p0_.Right), .d (.int .i64 p0_.From), .d (.int .i64 p0_.To)], .agg [.d (.str p1_.Print), .d (.sl (List.map eU8 p1_.Cells)), .d (.int .u8 p1_.Left), .d (.int .u8 p1_.Right), .d (.int .i64 p1_.From), .d (.int .i64 p1_.To)]] (.d (.bool z)) := by
  dsimp only [FSixdotref02_SameRule] at H
  refine fn_ok (Γ := cx 45) (s := f71_s1 p0_ p1_) follows (cxOK 45) Try.func71 (by kernel_rfl) (by kernel_rfl) (by kernel_rfl) (by kernel_rfl) (by kernel_rfl) (by kernel_rfl) ?_
  refine at_seq (p0 := [0]) (p1 := [1]) (by kernel_rfl) ?_
  refine at_region (by kernel_rfl) sh_refl ?_
  refine chunk (s' := f71_s2 p0_ p1_) 3 3 (by kernel_rfl) rfl ?_
  refine at_end 3 (by kernel_rfl) ?_
  refine q_seq sh_refl ?_
  refine at_seq (p0 := [1,0]) (p1 := [1,1]) (by kernel_rfl) ?_
  refine at_region (by kernel_rfl) sh_refl ?_
  refine chunk (s' := f71_s3 p0_ p1_) 7 7 (by kernel_rfl) rfl ?_
  refine specG (g := (p0_.Print == p1_.Print)) (gs := [(p0_.Print == p1_.Print)]) (s' := f71_s4 p0_ p1_) (v := .d (.sl (List.map eU8 p0_.Cells))) (obs := []) 8 (by kernel_rfl) rfl (fun hg => is_pl (by kernel_rfl)) (by kernel_rfl) (impK (fun hh => hh) (impZ)) (by kernel_rfl) rfl ?_
  refine chunk (s' := f71_s5 p0_ p1_) 1 9 (by kernel_rfl) rfl ?_
  refine specG (g := (p0_.Print == p1_.Print)) (gs := [(p0_.Print == p1_.Print)]) (s' := f71_s6 p0_ p1_) (v := .d (.sl (List.map eU8 p1_.Cells))) (obs := []) 10 (by kernel_rfl) rfl (fun hg => is_pl (by kernel_rfl)) (by kernel_rfl) (impK (fun hh => hh) (impZ)) (by kernel_rfl) rfl ?_
  obtain ⟨r63, h133, H⟩ := bind_some H
  refine callG (g := (p0_.Print == p1_.Print)) (gs := [(p0_.Print == p1_.Print), (p0_.Print == p1_.Print)]) (s' := f71_s7 p0_ p1_ r63) (f := 49) (xs := [.d (.sl (List.map eU8 p0_.Cells)), .d (.sl (List.map eU8 p1_.Cells))]) (ys := [.d (.sl (List.map eU8 p0_.Cells)), .d (.sl (List.map eU8 p1_.Cells))]) (ks := []) (obl := []) (r := .d (.bool r63)) (ls := []) 11 false (by kernel_rfl) (by kernel_rfl) (leZ) rfl (fun hg => FSixdotref02_SameCells_ok (gimp h133 hg)) (Or.inl rfl) (by kernel_rfl) (impK (fun hh => hh) (impK (fun hh => hh) (impZ))) rfl (by kernel_rfl) rfl ?_
  refine specP (s' := f71_s8 p0_ p1_ r63) 12 (by kernel_rfl) (pick_and (t := (p0_.Print == p1_.Print)) (x := r63) (y := false)) (by kernel_rfl) rfl ?_
  refine chunk (s' := f71_s9 p0_ p1_ r63) 2 14 (by kernel_rfl) rfl ?_
  refine specG (g := ((p0_.Print == p1_.Print) && r63)) (gs := [((p0_.Print == p1_.Print) && r63)]) (s' := f71_s10 p0_ p1_ r63) (v := .d (.int .u8 p0_.Left)) (obs := []) 15 (by kernel_rfl) rfl (fun hg => is_pl (by kernel_rfl)) (by kernel_rfl) (impK (fun hh => hh) (impZ)) (by kernel_rfl) rfl ?_
  refine chunk (s' := f71_s11 p0_ p1_ r63) 1 16 (by kernel_rfl) rfl ?_
  refine specG (g := ((p0_.Print == p1_.Print) && r63)) (gs := [((p0_.Print == p1_.Print) && r63)]) (s' := f71_s12 p0_ p1_ r63) (v := .d (.int .u8 p1_.Left)) (obs := []) 17 (by kernel_rfl) rfl (fun hg => is_pl (by kernel_rfl)) (by kernel_rfl) (impK (fun hh => hh) (impZ)) (by kernel_rfl) rfl ?_
  refine specG (g := ((p0_.Print == p1_.Print) && r63)) (gs := [((p0_.Print == p1_.Print) && r63), ((p0_.Print == p1_.Print) && r63)]) (s' := f71_s13 p0_ p1_ r63) (v := .d (.bool (p0_.Left == p1_.Left))) (obs := []) 18 (by kernel_rfl) rfl (fun hg => is_pl (by kernel_rfl)) (by kernel_rfl) (impK (fun hh => hh) (impK (fun hh => hh) (impZ))) (by kernel_rfl) rfl ?_
  refine specP (s' := f71_s14 p0_ p1_ r63) 19 (by kernel_rfl) (pick_and (t := ((p0_.Print == p1_.Print) && r63)) (x := (p0_.Left == p1_.Left)) (y := false)) (by kernel_rfl) rfl ?_
  refine chunk (s' := f71_s15 p0_ p1_ r63) 2 21 (by kernel_rfl) rfl ?_
  refine specG (g := (((p0_.Print == p1_.Print) && r63) && (p0_.Left == p1_.Left))) (gs := [(((p0_.Print == p1_.Print) && r63) && (p0_.Left == p1_.Left))]) (s' := f71_s16 p0_ p1_ r63) (v := .d (.int .u8 p0_.Right)) (obs := []) 22 (by kernel_rfl) rfl (fun hg => is_pl (by kernel_rfl)) (by kernel_rfl) (impK (fun hh => hh) (impZ)) (by kernel_rfl) rfl ?_
  refine chunk (s' := f71_s17 p0_ p1_ r63) 1 23 (by kernel_rfl) rfl ?_
  refine specG (g := (((p0_.Print == p1_.Print) && r63) && (p0_.Left == p1_.Left))) (gs := [(((p0_.Print == p1_.Print) && r63) && (p0_.Left == p1_.Left))]) (s' := f71_s18 p0_ p1_ r63) (v := .d (.int .u8 p1_.Right)) (obs := []) 24 (by kernel_rfl) rfl (fun hg => is_pl (by kernel_rfl)) (by kernel_rfl) (impK (fun hh => hh) (impZ)) (by kernel_rfl) rfl ?_
  refine specG (g := (((p0_.Print == p1_.Print) && r63) && (p0_.Left == p1_.Left))) (gs := [(((p0_.Print == p1_.Print) && r63) && (p0_.Left == p1_.Left)), (((p0_.Print == p1_.Print) && r63) && (p0_.Left == p1_.Left))]) (s' := f71_s19 p0_ p1_ r63) (v := .d (.bool (p0_.Right == p1_.Right))) (obs := []) 25 (by kernel_rfl) rfl (fun hg => is_pl (by kernel_rfl)) (by kernel_rfl) (impK (fun hh => hh) (impK (fun hh => hh) (impZ))) (by kernel_rfl) rfl ?_
  refine specP (s' := f71_s20 p0_ p1_ r63) 26 (by kernel_rfl) (pick_and (t := (((p0_.Print == p1_.Print) && r63) && (p0_.Left == p1_.Left))) (x := (p0_.Right == p1_.Right)) (y := false)) (by kernel_rfl) rfl ?_
  refine chunk (s' := f71_s21 p0_ p1_ r63) 2 28 (by kernel_rfl) rfl ?_
  refine specG (g := ((((p0_.Print == p1_.Print) && r63) && (p0_.Left == p1_.Left)) && (p0_.Right == p1_.Right))) (gs := [((((p0_.Print == p1_.Print) && r63) && (p0_.Left == p1_.Left)) && (p0_.Right == p1_.Right))]) (s' := f71_s22 p0_ p1_ r63) (v := .d (.int .i64 p0_.From)) (obs := []) 29 (by kernel_rfl) rfl (fun hg => is_pl (by kernel_rfl)) (by kernel_rfl) (impK (fun hh => hh) (impZ)) (by kernel_rfl) rfl ?_
  refine chunk (s' := f71_s23 p0_ p1_ r63) 1 30 (by kernel_rfl) rfl ?_
  refine specG (g := ((((p0_.Print == p1_.Print) && r63) && (p0_.Left == p1_.Left)) && (p0_.Right == p1_.Right))) (gs := [((((p0_.Print == p1_.Print) && r63) && (p0_.Left == p1_.Left)) && (p0_.Right == p1_.Right))]) (s' := f71_s24 p0_ p1_ r63) (v := .d (.int .i64 p1_.From)) (obs := []) 31 (by kernel_rfl) rfl (fun hg => is_pl (by kernel_rfl)) (by kernel_rfl) (impK (fun hh => hh) (impZ)) (by kernel_rfl) rfl ?_
  refine specG (g := ((((p0_.Print == p1_.Print) && r63) && (p0_.Left == p1_.Left)) && (p0_.Right == p1_.Right))) (gs := [((((p0_.Print == p1_.Print) && r63) && (p0_.Left == p1_.Left)) && (p0_.Right == p1_.Right)), ((((p0_.Print == p1_.Print) && r63) && (p0_.Left == p1_.Left)) && (p0_.Right == p1_.Right))]) (s' := f71_s25 p0_ p1_ r63) (v := .d (.bool (p0_.From == p1_.From))) (obs := []) 32 (by kernel_rfl) rfl (fun hg => is_pl (by kernel_rfl)) (by kernel_rfl) (impK (fun hh => hh) (impK (fun hh => hh) (impZ))) (by kernel_rfl) rfl ?_
  refine specP (s' := f71_s26 p0_ p1_ r63) 33 (by kernel_rfl) (pick_and (t := ((((p0_.Print == p1_.Print) && r63) && (p0_.Left == p1_.Left)) && (p0_.Right == p1_.Right))) (x := (p0_.From == p1_.From)) (y := false)) (by kernel_rfl) rfl ?_
  refine chunk (s' := f71_s27 p0_ p1_ r63) 2 35 (by kernel_rfl) rfl ?_
  refine specG (g := (((((p0_.Print == p1_.Print) && r63) && (p0_.Left == p1_.Left)) && (p0_.Right == p1_.Right)) && (p0_.From == p1_.From))) (gs := [(((((p0_.Print == p1_.Print) && r63) && (p0_.Left == p1_.Left)) && (p0_.Right == p1_.Right)) && (p0_.From == p1_.From))]) (s' := f71_s28 p0_ p1_ r63) (v := .d (.int .i64 p0_.To)) (obs := []) 36 (by kernel_rfl) rfl (fun hg => is_pl (by kernel_rfl)) (by kernel_rfl) (impK (fun hh => hh) (impZ)) (by kernel_rfl) rfl ?_
  refine chunk (s' := f71_s29 p0_ p1_ r63) 1 37 (by kernel_rfl) rfl ?_
  refine specG (g := (((((p0_.Print == p1_.Print) && r63) && (p0_.Left == p1_.Left)) && (p0_.Right == p1_.Right)) && (p0_.From == p1_.From))) (gs := [(((((p0_.Print == p1_.Print) && r63) && (p0_.Left == p1_.Left)) && (p0_.Right == p1_.Right)) && (p0_.From == p1_.From))]) (s' := f71_s30 p0_ p1_ r63) (v := .d (.int .i64 p1_.To)) (obs := []) 38 (by kernel_rfl) rfl (fun hg => is_pl (by kernel_rfl)) (by kernel_rfl) (impK (fun hh => hh) (impZ)) (by kernel_rfl) rfl ?_
  refine specG (g := (((((p0_.Print == p1_.Print) && r63) && (p0_.Left == p1_.Left)) && (p0_.Right == p1_.Right)) && (p0_.From == p1_.From))) (gs := [(((((p0_.Print == p1_.Print) && r63) && (p0_.Left == p1_.Left)) && (p0_.Right == p1_.Right)) && (p0_.From == p1_.From)), (((((p0_.Print == p1_.Print) && r63) && (p0_.Left == p1_.Left)) && (p0_.Right == p1_.Right)) && (p0_.From == p1_.From))]) (s' := f71_s31 p0_ p1_ r63) (v := .d (.bool (p0_.To == p1_.To))) (obs := []) 39 (by kernel_rfl) rfl (fun hg => is_pl (by kernel_rfl)) (by kernel_rfl) (impK (fun hh => hh) (impK (fun hh => hh) (impZ))) (by kernel_rfl) rfl ?_
  refine specP (s' := f71_s32 p0_ p1_ r63) 40 (by kernel_rfl) (pick_and (t := (((((p0_.Print == p1_.Print) && r63) && (p0_.Left == p1_.Left)) && (p0_.Right == p1_.Right)) && (p0_.From == p1_.From))) (x := (p0_.To == p1_.To)) (y := false)) (by kernel_rfl) rfl ?_
  refine chunk (s' := f71_s33 p0_ p1_ r63) 1 41 (by kernel_rfl) rfl ?_
  refine at_end 41 (by kernel_rfl) ?_
  refine q_seq sh_refl ?_
  refine at_ret (by kernel_rfl) ?_
  have hz := Option.some.inj H
  subst hz
  exact post_ret (ret1 (v := .d (.bool ((((((p0_.Print == p1_.Print) && r63) && (p0_.Left == p1_.Left)) && (p0_.Right == p1_.Right)) && (p0_.From == p1_.From)) && (p0_.To == p1_.To)))) (r := .d (.bool ((((((p0_.Print == p1_.Print) && r63) && (p0_.Left == p1_.Left)) && (p0_.Right == p1_.Right)) && (p0_.From == p1_.From)) && (p0_.To == p1_.To)))) [] (by kernel_rfl) (outA_d (outV_d)) (by kernel_rfl) (by decide))
end
end Go.AI
end
section
namespace Go.AI
open Go.Proofs
set_option maxRecDepth 10000
section
variable (p0_ : GTable)
def f57_s1 : St := ⟨(0, .agg [.d (.int .i64 p0_.Modes), .d (.int .u8 p0_.Accept), .d (.sl (List.map eGRule p0_.Rules))]) :: [], []⟩
def f57_s2 : St := po (f57_s1 p0_) [(3, .d (.int .i64 0)), (2, .d (.int .i64 0)), (1, .ptr 0 0)] fun _ => [some (.box [.d (.int .i64 p0_.Modes), .d (.int .u8 p0_.Accept), .d (.sl (List.map eGRule p0_.Rules))])]
def f57_s3 : St := pe (f57_s2 p0_) [(10, .gv (!(decide (p0_.Modes < 1))) (.ptr 0 0)), (9, .d (.bool (decide (p0_.Modes < 1)))), (8, .d (.bool (decide (p0_.Modes < 1)))), (7, .d (.int .i64 p0_.Modes)), (6, .ptr 0 0)]
def f57_s4 : St := pe (f57_s3 p0_) [(11, .gv (!(decide (p0_.Modes < 1))) (.d (.int .i64 p0_.Modes)))]
def f57_s5 : St := pe (f57_s4 p0_) [(12, .gv (!(decide (p0_.Modes < 1))) (.d (.bool (decide (p0_.Modes > 8)))))]
def f57_s6 : St := pe (f57_s5 p0_) [(13, .d (.bool ((decide (p0_.Modes < 1)) || (decide (p0_.Modes > 8)))))]
def f57_s7 : St := pe (f57_s6 p0_) [(15, .gv (!((decide (p0_.Modes < 1)) || (decide (p0_.Modes > 8)))) (.ptr 0 1)), (14, .d (.bool ((decide (p0_.Modes < 1)) || (decide (p0_.Modes > 8)))))]
def f57_s8 : St := pe (f57_s7 p0_) [(16, .gv (!((decide (p0_.Modes < 1)) || (decide (p0_.Modes > 8)))) (.d (.int .u8 p0_.Accept)))]
def f57_s9 : St := pe (f57_s8 p0_) [(17, .gv (!((decide (p0_.Modes < 1)) || (decide (p0_.Modes > 8)))) (.d (.bool (p0_.Accept == 0))))]
def f57_s10 : St := pe (f57_s9 p0_) [(18, .d (.bool (((decide (p0_.Modes < 1)) || (decide (p0_.Modes > 8))) || (p0_.Accept == 0))))]
def f57_s11 : St := pe (f57_s10 p0_) [(20, .gv (!(((decide (p0_.Modes < 1)) || (decide (p0_.Modes > 8))) || (p0_.Accept == 0))) (.ptr 0 1)), (19, .d (.bool (((decide (p0_.Modes < 1)) || (decide (p0_.Modes > 8))) || (p0_.Accept == 0))))]
def f57_s12 : St := pe (f57_s11 p0_) [(21, .gv (!(((decide (p0_.Modes < 1)) || (decide (p0_.Modes > 8))) || (p0_.Accept == 0))) (.d (.int .u8 p0_.Accept)))]
def f57_s13 : St := pe (f57_s12 p0_) [(22, .gv (!(((decide (p0_.Modes < 1)) || (decide (p0_.Modes > 8))) || (p0_.Accept == 0))) (.d (.int .i64 (IntKind.i64.wrap p0_.Accept))))]
def f57_s14 : St := pe (f57_s13 p0_) [(23, .gv (!(((decide (p0_.Modes < 1)) || (decide (p0_.Modes > 8))) || (p0_.Accept == 0))) (.ptr 0 0))]
def f57_s15 : St := pe (f57_s14 p0_) [(24, .gv (!(((decide (p0_.Modes < 1)) || (decide (p0_.Modes > 8))) || (p0_.Accept == 0))) (.d (.int .i64 p0_.Modes)))]
def f57_s16 : St := pe (f57_s15 p0_) [(25, .gv (!(((decide (p0_.Modes < 1)) || (decide (p0_.Modes > 8))) || (p0_.Accept == 0))) (.d (.int .i64 (ishl .i64 1 p0_.Modes))))]
def f57_s17 : St := pe (f57_s16 p0_) [(26, .gv (!(((decide (p0_.Modes < 1)) || (decide (p0_.Modes > 8))) || (p0_.Accept == 0))) (.d (.bool (decide (IntKind.i64.wrap p0_.Accept ≥ ishl .i64 1 p0_.Modes)))))]
def f57_s18 : St := pe (f57_s17 p0_) [(27, .d (.bool ((((decide (p0_.Modes < 1)) || (decide (p0_.Modes > 8))) || (p0_.Accept == 0)) || (decide (IntKind.i64.wrap p0_.Accept ≥ ishl .i64 1 p0_.Modes)))))]
def f57_s19 : St := pe (f57_s18 p0_) [(29, .gv (!((((decide (p0_.Modes < 1)) || (decide (p0_.Modes > 8))) || (p0_.Accept == 0)) || (decide (IntKind.i64.wrap p0_.Accept ≥ ishl .i64 1 p0_.Modes)))) (.ptr 0 2)), (28, .d (.bool ((((decide (p0_.Modes < 1)) || (decide (p0_.Modes > 8))) || (p0_.Accept == 0)) || (decide (IntKind.i64.wrap p0_.Accept ≥ ishl .i64 1 p0_.Modes)))))]
def f57_s20 : St := pe (f57_s19 p0_) [(30, .gv (!((((decide (p0_.Modes < 1)) || (decide (p0_.Modes > 8))) || (p0_.Accept == 0)) || (decide (IntKind.i64.wrap p0_.Accept ≥ ishl .i64 1 p0_.Modes)))) (.d (.sl (List.map eGRule p0_.Rules))))]
def f57_s21 : St := pe (f57_s20 p0_) [(31, .gv (!((((decide (p0_.Modes < 1)) || (decide (p0_.Modes > 8))) || (p0_.Accept == 0)) || (decide (IntKind.i64.wrap p0_.Accept ≥ ishl .i64 1 p0_.Modes)))) (.d (.int .i64 ((List.length p0_.Rules : Nat) : Int))))]
def f57_s22 : St := pe (f57_s21 p0_) [(32, .gv (!((((decide (p0_.Modes < 1)) || (decide (p0_.Modes > 8))) || (p0_.Accept == 0)) || (decide (IntKind.i64.wrap p0_.Accept ≥ ishl .i64 1 p0_.Modes)))) (.d (.bool (decide (((List.length p0_.Rules : Nat) : Int) < 1)))))]
def f57_s23 : St := pe (f57_s22 p0_) [(33, .d (.bool (((((decide (p0_.Modes < 1)) || (decide (p0_.Modes > 8))) || (p0_.Accept == 0)) || (decide (IntKind.i64.wrap p0_.Accept ≥ ishl .i64 1 p0_.Modes))) || (decide (((List.length p0_.Rules : Nat) : Int) < 1)))))]
def f57_s24 : St := pe (f57_s23 p0_) [(35, .gv (!(((((decide (p0_.Modes < 1)) || (decide (p0_.Modes > 8))) || (p0_.Accept == 0)) || (decide (IntKind.i64.wrap p0_.Accept ≥ ishl .i64 1 p0_.Modes))) || (decide (((List.length p0_.Rules : Nat) : Int) < 1)))) (.ptr 0 2)), (34, .d (.bool (((((decide (p0_.Modes < 1)) || (decide (p0_.Modes > 8))) || (p0_.Accept == 0)) || (decide (IntKind.i64.wrap p0_.Accept ≥ ishl .i64 1 p0_.Modes))) || (decide (((List.length p0_.Rules : Nat) : Int) < 1)))))]
def f57_s25 : St := pe (f57_s24 p0_) [(36, .gv (!(((((decide (p0_.Modes < 1)) || (decide (p0_.Modes > 8))) || (p0_.Accept == 0)) || (decide (IntKind.i64.wrap p0_.Accept ≥ ishl .i64 1 p0_.Modes))) || (decide (((List.length p0_.Rules : Nat) : Int) < 1)))) (.d (.sl (List.map eGRule p0_.Rules))))]
def f57_s26 : St := pe (f57_s25 p0_) [(37, .gv (!(((((decide (p0_.Modes < 1)) || (decide (p0_.Modes > 8))) || (p0_.Accept == 0)) || (decide (IntKind.i64.wrap p0_.Accept ≥ ishl .i64 1 p0_.Modes))) || (decide (((List.length p0_.Rules : Nat) : Int) < 1)))) (.d (.int .i64 ((List.length p0_.Rules : Nat) : Int))))]
def f57_s27 : St := pe (f57_s26 p0_) [(38, .gv (!(((((decide (p0_.Modes < 1)) || (decide (p0_.Modes > 8))) || (p0_.Accept == 0)) || (decide (IntKind.i64.wrap p0_.Accept ≥ ishl .i64 1 p0_.Modes))) || (decide (((List.length p0_.Rules : Nat) : Int) < 1)))) (.d (.bool (decide (((List.length p0_.Rules : Nat) : Int) > 64)))))]
def f57_s28 : St := pe (f57_s27 p0_) [(39, .d (.bool ((((((decide (p0_.Modes < 1)) || (decide (p0_.Modes > 8))) || (p0_.Accept == 0)) || (decide (IntKind.i64.wrap p0_.Accept ≥ ishl .i64 1 p0_.Modes))) || (decide (((List.length p0_.Rules : Nat) : Int) < 1))) || (decide (((List.length p0_.Rules : Nat) : Int) > 64)))))]
def f57_s29 : St := pe (f57_s28 p0_) [(3, .d (.int .i64 1)), (2, .d (.int .i64 (-1)))]
def f57_s30 : St := pe (f57_s28 p0_) [(4, .d (.int .i64 0))]
variable (i_8 : Int)
def f57_s31 : St := ⟨(1, .ptr 0 0) :: (4, .d (.int .i64 i_8)) :: [], [some (.box [.d (.int .i64 p0_.Modes), .d (.int .u8 p0_.Accept), .d (.sl (List.map eGRule p0_.Rules))])]⟩
def f57_s32  : St := ⟨[], []⟩
def f57_s33 : St := pe (f57_s31 p0_ i_8) [(42, .d (.sl (List.map eGRule p0_.Rules))), (41, .ptr 0 2), (40, .d (.int .i64 i_8))]
def f57_s34 : St := pe (f57_s33 p0_ i_8) [(43, .d (.int .i64 ((List.length p0_.Rules : Nat) : Int)))]
def f57_s35 : St := pe (f57_s34 p0_ i_8) [(44, .d (.bool (decide (i_8 < ((List.length p0_.Rules : Nat) : Int)))))]
def f57_s36 : St := pe (f57_s35 p0_ i_8) [(49, .d (.int .i64 i_8)), (48, .d (.sl (List.map eGRule p0_.Rules))), (47, .ptr 0 2)]
variable (x28 : GRule)
def f57_s37 : St := pe (f57_s36 p0_ i_8) [(50, .dptr (eGRule x28) 0)]
def f57_s38 : St := pe (f57_s37 p0_ i_8 x28) [(53, .d (.int .i64 p0_.Modes)), (52, .ptr 0 0), (51, .agg [.d (.str x28.Print), .d (.sl (List.map eU8 x28.Cells)), .d (.int .u8 x28.Left), .d (.int .u8 x28.Right), .d (.int .i64 x28.From), .d (.int .i64 x28.To)])]
variable (r64 : Bool)
def f57_s39 : St := pe (f57_s38 p0_ i_8 x28) [(54, .d (.bool r64))]
def f57_s40 : St := pe (f57_s39 p0_ i_8 x28 r64) [(55, .d (.bool (!r64)))]
def f57_s41 : St := pe (f57_s40 p0_ i_8 x28 r64) [(3, .d (.int .i64 20)), (2, .d (.int .i64 i_8)), (56, .d (.int .i64 i_8))]
def f57_s42 : St := pe (f57_s40 p0_ i_8 x28 r64) [(5, .d (.int .i64 0))]
variable (k_2 : Int)
def f57_s43 : St := ⟨(1, .ptr 0 0) :: (4, .d (.int .i64 i_8)) :: (5, .d (.int .i64 k_2)) :: [], [some (.box [.d (.int .i64 p0_.Modes), .d (.int .u8 p0_.Accept), .d (.sl (List.map eGRule p0_.Rules))])]⟩
def f57_s44 : St := ⟨(1, .ptr 0 0) :: (4, .d (.int .i64 i_8)) :: [], [some (.box [.d (.int .i64 p0_.Modes), .d (.int .u8 p0_.Accept), .d (.sl (List.map eGRule p0_.Rules))])]⟩
def f57_s45 : St := pe (f57_s43 p0_ i_8 k_2) [(59, .d (.bool (decide (k_2 < i_8)))), (58, .d (.int .i64 i_8)), (57, .d (.int .i64 k_2))]
def f57_s46 : St := pe (f57_s45 p0_ i_8 k_2) [(64, .d (.int .i64 k_2)), (63, .d (.sl (List.map eGRule p0_.Rules))), (62, .ptr 0 2)]
variable (x29 : GRule)
def f57_s47 : St := pe (f57_s46 p0_ i_8 k_2) [(65, .dptr (eGRule x29) 0)]
def f57_s48 : St := pe (f57_s47 p0_ i_8 k_2 x29) [(69, .d (.int .i64 i_8)), (68, .d (.sl (List.map eGRule p0_.Rules))), (67, .ptr 0 2), (66, .agg [.d (.str x29.Print), .d (.sl (List.map eU8 x29.Cells)), .d (.int .u8 x29.Left), .d (.int .u8 x29.Right), .d (.int .i64 x29.From), .d (.int .i64 x29.To)])]
variable (x30 : GRule)
def f57_s49 : St := pe (f57_s48 p0_ i_8 k_2 x29) [(70, .dptr (eGRule x30) 0)]
def f57_s50 : St := pe (f57_s49 p0_ i_8 k_2 x29 x30) [(71, .agg [.d (.str x30.Print), .d (.sl (List.map eU8 x30.Cells)), .d (.int .u8 x30.Left), .d (.int .u8 x30.Right), .d (.int .i64 x30.From), .d (.int .i64 x30.To)])]
variable (r65 : Bool)
def f57_s51 : St := pe (f57_s50 p0_ i_8 k_2 x29 x30) [(72, .d (.bool r65))]
def f57_s52 : St := pe (f57_s51 p0_ i_8 k_2 x29 x30 r65) [(3, .d (.int .i64 20)), (2, .d (.int .i64 i_8)), (73, .d (.int .i64 i_8))]
def f57_s53 : St := pe (f57_s51 p0_ i_8 k_2 x29 x30 r65) [(5, .d (.int .i64 (iadd .i64 k_2 1))), (61, .d (.int .i64 (iadd .i64 k_2 1))), (60, .d (.int .i64 k_2))]
def f57_L2_E (p0_ : GTable) (i_8 : Int) : (Unit ⊕ (Int × Int)) → Ex → St → Prop := fun y => Sum.casesOn y (fun (y : Unit) e s => e = Ex.exit 2 ∧ Shift s (f57_s44 p0_ i_8)) (fun (y : (Int × Int)) e s => e = Ex.ret ∧ retA ty (Try.f57).results.toList (.tup [.d (.int .i64 y.1), .d (.int .i64 y.2)]) s)
theorem f57_L2_ok {n : Nat} {p0_ : GTable} {i_8 : Int} (x : Int) (z : (Int ⊕ (Unit ⊕ (Int × Int)))) (H : f57_L2 n p0_ i_8 x = some z) : wpA (cx 74) (nav [1,1,0,1,0,0,1,0,0,1,1,0,0] (bodyOf Try.f57)) (roundQ (fun (x : Int) => f57_s43 p0_ i_8 x) (f57_L2_E p0_ i_8) z) (f57_s43 p0_ i_8 x) := by
  revert H
  generalize x = k_2
  intro H
  dsimp only [f57_L2] at H
  refine at_seq (p0 := [1,1,0,1,0,0,1,0,0,1,1,0,0,0]) (p1 := [1,1,0,1,0,0,1,0,0,1,1,0,0,1]) (by kernel_rfl) ?_
  refine at_seq (p0 := [1,1,0,1,0,0,1,0,0,1,1,0,0,0,0]) (p1 := [1,1,0,1,0,0,1,0,0,1,1,0,0,0,1]) (by kernel_rfl) ?_
  refine at_region (by kernel_rfl) sh_refl ?_
  refine chunk (s' := f57_s45 p0_ i_8 k_2) 3 3 (by kernel_rfl) rfl ?_
  refine at_end 3 (by kernel_rfl) ?_
  refine q_seq sh_refl ?_
  rcases ite_some H with ⟨hc45, H⟩ | ⟨hc45, H⟩
  · refine at_condT (decide (k_2 < i_8)) (p0 := [1,1,0,1,0,0,1,0,0,1,1,0,0,0,1,0]) (p1 := [1,1,0,1,0,0,1,0,0,1,1,0,0,0,1,1]) (by kernel_rfl) (by kernel_rfl) hc45 ?_
    refine at_skip (by kernel_rfl) ?_
    refine q_seq sh_refl ?_
    refine at_seq (p0 := [1,1,0,1,0,0,1,0,0,1,1,0,0,1,0]) (p1 := [1,1,0,1,0,0,1,0,0,1,1,0,0,1,1]) (by kernel_rfl) ?_
    refine at_block 3 (p0 := [1,1,0,1,0,0,1,0,0,1,1,0,0,1,0,0]) (by kernel_rfl) ?_
    refine at_seq (p0 := [1,1,0,1,0,0,1,0,0,1,1,0,0,1,0,0,0]) (p1 := [1,1,0,1,0,0,1,0,0,1,1,0,0,1,0,0,1]) (by kernel_rfl) ?_
    refine at_region (by kernel_rfl) sh_refl ?_
    refine chunk (s' := f57_s46 p0_ i_8 k_2) 3 3 (by kernel_rfl) rfl ?_
    obtain ⟨x29, h137, H⟩ := bind_some H
    refine spec (s' := f57_s47 p0_ i_8 k_2 x29) (v := .dptr (eGRule x29) 0) (obs := []) (rm := []) (upd := none) 4 (by kernel_rfl) (is_idxD (enc := eGRule) (esz := 6) (eb := 64) (ez := [.str [], .nil, .int .u8 0, .int .u8 0, .int .i64 0, .int .i64 0]) h137 (by kernel_rfl)) (by kernel_rfl) rfl ?_
    refine chunk (s' := f57_s48 p0_ i_8 k_2 x29) 4 8 (by kernel_rfl) rfl ?_
    obtain ⟨x30, h138, H⟩ := bind_some H
    refine spec (s' := f57_s49 p0_ i_8 k_2 x29 x30) (v := .dptr (eGRule x30) 0) (obs := []) (rm := []) (upd := none) 9 (by kernel_rfl) (is_idxD (enc := eGRule) (esz := 6) (eb := 64) (ez := [.str [], .nil, .int .u8 0, .int .u8 0, .int .i64 0, .int .i64 0]) h138 (by kernel_rfl)) (by kernel_rfl) rfl ?_
    refine chunk (s' := f57_s50 p0_ i_8 k_2 x29 x30) 1 10 (by kernel_rfl) rfl ?_
    obtain ⟨r65, h139, H⟩ := bind_some H
    refine callS (s' := f57_s51 p0_ i_8 k_2 x29 x30 r65) (f := 71) (xs := [.agg [.d (.str x29.Print), .d (.sl (List.map eU8 x29.Cells)), .d (.int .u8 x29.Left), .d (.int .u8 x29.Right), .d (.int .i64 x29.From), .d (.int .i64 x29.To)], .agg [.d (.str x30.Print), .d (.sl (List.map eU8 x30.Cells)), .d (.int .u8 x30.Left), .d (.int .u8 x30.Right), .d (.int .i64 x30.From), .d (.int .i64 x30.To)]]) (ys := [.agg [.d (.str x29.Print), .d (.sl (List.map eU8 x29.Cells)), .d (.int .u8 x29.Left), .d (.int .u8 x29.Right), .d (.int .i64 x29.From), .d (.int .i64 x29.To)], .agg [.d (.str x30.Print), .d (.sl (List.map eU8 x30.Cells)), .d (.int .u8 x30.Left), .d (.int .u8 x30.Right), .d (.int .i64 x30.From), .d (.int .i64 x30.To)]]) (ks := []) (obl := []) (r := .d (.bool r65)) (ls := []) 11 false (by kernel_rfl) (leZ) rfl (FSixdotref02_SameRule_ok h139) (Or.inl rfl) rfl (by kernel_rfl) rfl ?_
    refine at_end 11 (by kernel_rfl) ?_
    refine q_seq sh_refl ?_
    rcases ite_some H with ⟨hc44, H⟩ | ⟨hc44, H⟩
    · refine at_condT r65 (p0 := [1,1,0,1,0,0,1,0,0,1,1,0,0,1,0,0,1,0]) (p1 := [1,1,0,1,0,0,1,0,0,1,1,0,0,1,0,0,1,1]) (by kernel_rfl) (by kernel_rfl) hc44 ?_
      refine at_seq (p0 := [1,1,0,1,0,0,1,0,0,1,1,0,0,1,0,0,1,0,0]) (p1 := [1,1,0,1,0,0,1,0,0,1,1,0,0,1,0,0,1,0,1]) (by kernel_rfl) ?_
      refine at_region (by kernel_rfl) sh_refl ?_
      refine chunk (s' := f57_s52 p0_ i_8 k_2 x29 x30 r65) 3 3 (by kernel_rfl) rfl ?_
      refine at_end 3 (by kernel_rfl) ?_
      refine q_seq sh_refl ?_
      refine at_ret (by kernel_rfl) ?_
      refine q_blockR ?_
      refine q_seqR ?_
      have hz := Option.some.inj H
      subst hz
      exact round_ret ⟨rfl, retT (vs := [.d (.int .i64 i_8), .d (.int .i64 20)]) (l := [.d (.int .i64 i_8), .d (.int .i64 20)]) (by kernel_rfl) rfl (outT_cons (outA_d (outV_d)) (outT_cons (outA_d (outV_d)) (outT_nil))) [] (by kernel_rfl) (by decide)⟩
    · refine at_condF r65 (p0 := [1,1,0,1,0,0,1,0,0,1,1,0,0,1,0,0,1,0]) (p1 := [1,1,0,1,0,0,1,0,0,1,1,0,0,1,0,0,1,1]) (by kernel_rfl) (by kernel_rfl) hc44 ?_
      refine at_skip (by kernel_rfl) ?_
      refine q_blockN ?_
      refine q_seq sh_refl ?_
      refine at_region (by kernel_rfl) sh_refl ?_
      refine chunk (s' := f57_s53 p0_ i_8 k_2 x29 x30 r65) 3 3 (by kernel_rfl) rfl ?_
      refine at_end 3 (by kernel_rfl) ?_
      have hz := Option.some.inj H
      subst hz
      exact round_go (sh_gc [1,4,5] (by kernel_rfl))
  · refine at_condF (decide (k_2 < i_8)) (p0 := [1,1,0,1,0,0,1,0,0,1,1,0,0,0,1,0]) (p1 := [1,1,0,1,0,0,1,0,0,1,1,0,0,0,1,1]) (by kernel_rfl) (by kernel_rfl) hc45 ?_
    refine at_exit 2 (by kernel_rfl) ?_
    refine q_seqX ?_
    have hz := Option.some.inj H
    subst hz
    exact round_exit ⟨rfl, sh_gc [1,4] (by kernel_rfl)⟩
def f57_s54 : St := pe (f57_s44 p0_ i_8) [(4, .d (.int .i64 (iadd .i64 i_8 1))), (46, .d (.int .i64 (iadd .i64 i_8 1))), (45, .d (.int .i64 i_8))]
def f57_L1_E (p0_ : GTable) : (Unit ⊕ (Int × Int)) → Ex → St → Prop := fun y => Sum.casesOn y (fun (y : Unit) e s => e = Ex.exit 0 ∧ Shift s (f57_s32)) (fun (y : (Int × Int)) e s => e = Ex.ret ∧ retA ty (Try.f57).results.toList (.tup [.d (.int .i64 y.1), .d (.int .i64 y.2)]) s)
theorem f57_L1_ok {n : Nat} {p0_ : GTable} (x : Int) (z : (Int ⊕ (Unit ⊕ (Int × Int)))) (H : f57_L1 n p0_ x = some z) : wpA (cx 74) (nav [1,1,0,1,0,0] (bodyOf Try.f57)) (roundQ (fun (x : Int) => f57_s31 p0_ x) (f57_L1_E p0_) z) (f57_s31 p0_ x) := by
  revert H
  generalize x = i_8
  intro H
  dsimp only [f57_L1] at H
  refine at_seq (p0 := [1,1,0,1,0,0,0]) (p1 := [1,1,0,1,0,0,1]) (by kernel_rfl) ?_
  refine at_seq (p0 := [1,1,0,1,0,0,0,0]) (p1 := [1,1,0,1,0,0,0,1]) (by kernel_rfl) ?_
  refine at_region (by kernel_rfl) sh_refl ?_
  refine chunk (s' := f57_s33 p0_ i_8) 3 3 (by kernel_rfl) rfl ?_
  refine spec (s' := f57_s34 p0_ i_8) (v := .d (.int .i64 ((List.length p0_.Rules : Nat) : Int))) (obs := []) (rm := []) (upd := none) 4 (by kernel_rfl) (is_len (enc := eGRule) (esz := 6) (eb := 64) (ez := [.str [], .nil, .int .u8 0, .int .u8 0, .int .i64 0, .int .i64 0]) (xs := p0_.Rules)) (by kernel_rfl) rfl ?_
  refine chunk (s' := f57_s35 p0_ i_8) 1 5 (by kernel_rfl) rfl ?_
  refine at_end 5 (by kernel_rfl) ?_
  refine q_seq sh_refl ?_
  rcases ite_some H with ⟨hc47, H⟩ | ⟨hc47, H⟩
  · refine at_condT (decide (i_8 < ((List.length p0_.Rules : Nat) : Int))) (p0 := [1,1,0,1,0,0,0,1,0]) (p1 := [1,1,0,1,0,0,0,1,1]) (by kernel_rfl) (by kernel_rfl) hc47 ?_
    refine at_skip (by kernel_rfl) ?_
    refine q_seq sh_refl ?_
    refine at_seq (p0 := [1,1,0,1,0,0,1,0]) (p1 := [1,1,0,1,0,0,1,1]) (by kernel_rfl) ?_
    refine at_block 1 (p0 := [1,1,0,1,0,0,1,0,0]) (by kernel_rfl) ?_
    refine at_seq (p0 := [1,1,0,1,0,0,1,0,0,0]) (p1 := [1,1,0,1,0,0,1,0,0,1]) (by kernel_rfl) ?_
    refine at_seq (p0 := [1,1,0,1,0,0,1,0,0,0,0]) (p1 := [1,1,0,1,0,0,1,0,0,0,1]) (by kernel_rfl) ?_
    refine at_region (by kernel_rfl) sh_refl ?_
    refine chunk (s' := f57_s36 p0_ i_8) 3 3 (by kernel_rfl) rfl ?_
    obtain ⟨x28, h135, H⟩ := bind_some H
    refine spec (s' := f57_s37 p0_ i_8 x28) (v := .dptr (eGRule x28) 0) (obs := []) (rm := []) (upd := none) 4 (by kernel_rfl) (is_idxD (enc := eGRule) (esz := 6) (eb := 64) (ez := [.str [], .nil, .int .u8 0, .int .u8 0, .int .i64 0, .int .i64 0]) h135 (by kernel_rfl)) (by kernel_rfl) rfl ?_
    refine chunk (s' := f57_s38 p0_ i_8 x28) 3 7 (by kernel_rfl) rfl ?_
    obtain ⟨r64, h136, H⟩ := bind_some H
    refine callS (s' := f57_s39 p0_ i_8 x28 r64) (f := 70) (xs := [.agg [.d (.str x28.Print), .d (.sl (List.map eU8 x28.Cells)), .d (.int .u8 x28.Left), .d (.int .u8 x28.Right), .d (.int .i64 x28.From), .d (.int .i64 x28.To)], .d (.int .i64 p0_.Modes)]) (ys := [.agg [.d (.str x28.Print), .d (.sl (List.map eU8 x28.Cells)), .d (.int .u8 x28.Left), .d (.int .u8 x28.Right), .d (.int .i64 x28.From), .d (.int .i64 x28.To)], .d (.int .i64 p0_.Modes)]) (ks := []) (obl := []) (r := .d (.bool r64)) (ls := []) 8 false (by kernel_rfl) (leZ) rfl (FSixdotref02_Sound_ok h136) (Or.inl rfl) rfl (by kernel_rfl) rfl ?_
    refine chunk (s' := f57_s40 p0_ i_8 x28 r64) 1 9 (by kernel_rfl) rfl ?_
    refine at_end 9 (by kernel_rfl) ?_
    refine q_seq sh_refl ?_
    rcases ite_some H with ⟨hc46, H⟩ | ⟨hc46, H⟩
    · refine at_condT (!r64) (p0 := [1,1,0,1,0,0,1,0,0,0,1,0]) (p1 := [1,1,0,1,0,0,1,0,0,0,1,1]) (by kernel_rfl) (by kernel_rfl) hc46 ?_
      refine at_seq (p0 := [1,1,0,1,0,0,1,0,0,0,1,0,0]) (p1 := [1,1,0,1,0,0,1,0,0,0,1,0,1]) (by kernel_rfl) ?_
      refine at_region (by kernel_rfl) sh_refl ?_
      refine chunk (s' := f57_s41 p0_ i_8 x28 r64) 3 3 (by kernel_rfl) rfl ?_
      refine at_end 3 (by kernel_rfl) ?_
      refine q_seq sh_refl ?_
      refine at_ret (by kernel_rfl) ?_
      refine q_seqR ?_
      refine q_blockR ?_
      refine q_seqR ?_
      have hz := Option.some.inj H
      subst hz
      exact round_ret ⟨rfl, retT (vs := [.d (.int .i64 i_8), .d (.int .i64 20)]) (l := [.d (.int .i64 i_8), .d (.int .i64 20)]) (by kernel_rfl) rfl (outT_cons (outA_d (outV_d)) (outT_cons (outA_d (outV_d)) (outT_nil))) [] (by kernel_rfl) (by decide)⟩
    · refine at_condF (!r64) (p0 := [1,1,0,1,0,0,1,0,0,0,1,0]) (p1 := [1,1,0,1,0,0,1,0,0,0,1,1]) (by kernel_rfl) (by kernel_rfl) hc46 ?_
      refine at_skip (by kernel_rfl) ?_
      refine q_seq sh_refl ?_
      refine at_seq (p0 := [1,1,0,1,0,0,1,0,0,1,0]) (p1 := [1,1,0,1,0,0,1,0,0,1,1]) (by kernel_rfl) ?_
      refine at_region (by kernel_rfl) sh_refl ?_
      refine chunk (s' := f57_s42 p0_ i_8 x28 r64) 1 1 (by kernel_rfl) rfl ?_
      refine at_end 1 (by kernel_rfl) ?_
      refine q_seq sh_refl ?_
      refine at_block 2 (p0 := [1,1,0,1,0,0,1,0,0,1,1,0]) (by kernel_rfl) ?_
      obtain ⟨y22, h140, H⟩ := bind_some H
      rcases y22 with y23 | y24
      · refine at_loop (p0 := [1,1,0,1,0,0,1,0,0,1,1,0,0]) (fun (x : Int) => f57_s43 p0_ i_8 x) (f57_L2_E p0_ i_8) (by kernel_rfl) h140 (sh_gc [1,4,5] (by kernel_rfl)) (fun x z => f57_L2_ok x z) ?_
        intro e s hE18
        obtain ⟨rfl, hE18⟩ := hE18
        refine q_blockH ?_
        refine q_blockN ?_
        refine q_seq (s' := f57_s44 p0_ i_8) (hE18) ?_
        refine at_region (by kernel_rfl) sh_refl ?_
        refine chunk (s' := f57_s54 p0_ i_8) 3 3 (by kernel_rfl) rfl ?_
        refine at_end 3 (by kernel_rfl) ?_
        have hz := Option.some.inj H
        subst hz
        exact round_go (sh_gc [1,4] (by kernel_rfl))
      · refine at_loop (p0 := [1,1,0,1,0,0,1,0,0,1,1,0,0]) (fun (x : Int) => f57_s43 p0_ i_8 x) (f57_L2_E p0_ i_8) (by kernel_rfl) h140 (sh_gc [1,4,5] (by kernel_rfl)) (fun x z => f57_L2_ok x z) ?_
        intro e s hE19
        obtain ⟨rfl, hE19⟩ := hE19
        refine q_blockR ?_
        refine q_blockR ?_
        refine q_seqR ?_
        have hz := Option.some.inj H
        subst hz
        exact round_ret ⟨rfl, hE19⟩
  · refine at_condF (decide (i_8 < ((List.length p0_.Rules : Nat) : Int))) (p0 := [1,1,0,1,0,0,0,1,0]) (p1 := [1,1,0,1,0,0,0,1,1]) (by kernel_rfl) (by kernel_rfl) hc47 ?_
    refine at_exit 0 (by kernel_rfl) ?_
    refine q_seqX ?_
    have hz := Option.some.inj H
    subst hz
    exact round_exit ⟨rfl, sh_gc [] (by kernel_rfl)⟩
def f57_s55  : St := po (f57_s32) [(3, .d (.int .i64 0)), (2, .d (.int .i64 0))] fun _ => []
theorem FSixdotref02_Check_ok {n : Nat} {p0_ : GTable} {z : (Int × Int)} (H : FSixdotref02_Check n p0_ = some z) : CallOK Try.prog 57 [.agg [.d (.int .i64 p0_.Modes), .d (.int .u8 p0_.Accept), .d (.sl (List.map eGRule p0_.Rules))]] (.tup [.d (.int .i64 z.1), .d (.int .i64 z.2)]) := by
  dsimp only [FSixdotref02_Check] at H
  refine fn_ok (Γ := cx 74) (s := f57_s1 p0_) follows (cxOK 74) Try.func57 (by kernel_rfl) (by kernel_rfl) (by kernel_rfl) (by kernel_rfl) (by kernel_rfl) (by kernel_rfl) ?_
  refine at_seq (p0 := [0]) (p1 := [1]) (by kernel_rfl) ?_
  refine at_region (by kernel_rfl) sh_refl ?_
  refine chunk (s' := f57_s2 p0_) 3 3 (by kernel_rfl) rfl ?_
  refine at_end 3 (by kernel_rfl) ?_
  refine q_seq sh_refl ?_
  refine at_seq (p0 := [1,0]) (p1 := [1,1]) (by kernel_rfl) ?_
  refine at_seq (p0 := [1,0,0]) (p1 := [1,0,1]) (by kernel_rfl) ?_
  refine at_region (by kernel_rfl) sh_refl ?_
  refine chunk (s' := f57_s3 p0_) 5 5 (by kernel_rfl) rfl ?_
  refine specG (g := (!(decide (p0_.Modes < 1)))) (gs := [(!(decide (p0_.Modes < 1)))]) (s' := f57_s4 p0_) (v := .d (.int .i64 p0_.Modes)) (obs := []) 6 (by kernel_rfl) rfl (fun hg => is_pl (by kernel_rfl)) (by kernel_rfl) (impK (fun hh => hh) (impZ)) (by kernel_rfl) rfl ?_
  refine specG (g := (!(decide (p0_.Modes < 1)))) (gs := [(!(decide (p0_.Modes < 1)))]) (s' := f57_s5 p0_) (v := .d (.bool (decide (p0_.Modes > 8)))) (obs := []) 7 (by kernel_rfl) rfl (fun hg => is_pl (by kernel_rfl)) (by kernel_rfl) (impK (fun hh => hh) (impZ)) (by kernel_rfl) rfl ?_
  refine specP (s' := f57_s6 p0_) 8 (by kernel_rfl) (pick_or (t := decide (p0_.Modes < 1)) (x := true) (y := decide (p0_.Modes > 8))) (by kernel_rfl) rfl ?_
  refine chunk (s' := f57_s7 p0_) 2 10 (by kernel_rfl) rfl ?_
  refine specG (g := (!((decide (p0_.Modes < 1)) || (decide (p0_.Modes > 8))))) (gs := [(!((decide (p0_.Modes < 1)) || (decide (p0_.Modes > 8))))]) (s' := f57_s8 p0_) (v := .d (.int .u8 p0_.Accept)) (obs := []) 11 (by kernel_rfl) rfl (fun hg => is_pl (by kernel_rfl)) (by kernel_rfl) (impK (fun hh => hh) (impZ)) (by kernel_rfl) rfl ?_
  refine specG (g := (!((decide (p0_.Modes < 1)) || (decide (p0_.Modes > 8))))) (gs := [(!((decide (p0_.Modes < 1)) || (decide (p0_.Modes > 8))))]) (s' := f57_s9 p0_) (v := .d (.bool (p0_.Accept == 0))) (obs := []) 12 (by kernel_rfl) rfl (fun hg => is_pl (by kernel_rfl)) (by kernel_rfl) (impK (fun hh => hh) (impZ)) (by kernel_rfl) rfl ?_
  refine specP (s' := f57_s10 p0_) 13 (by kernel_rfl) (pick_or (t := ((decide (p0_.Modes < 1)) || (decide (p0_.Modes > 8)))) (x := true) (y := (p0_.Accept == 0))) (by kernel_rfl) rfl ?_
  refine chunk (s' := f57_s11 p0_) 2 15 (by kernel_rfl) rfl ?_
  refine specG (g := (!(((decide (p0_.Modes < 1)) || (decide (p0_.Modes > 8))) || (p0_.Accept == 0)))) (gs := [(!(((decide (p0_.Modes < 1)) || (decide (p0_.Modes > 8))) || (p0_.Accept == 0)))]) (s' := f57_s12 p0_) (v := .d (.int .u8 p0_.Accept)) (obs := []) 16 (by kernel_rfl) rfl (fun hg => is_pl (by kernel_rfl)) (by kernel_rfl) (impK (fun hh => hh) (impZ)) (by kernel_rfl) rfl ?_
  refine specG (g := (!(((decide (p0_.Modes < 1)) || (decide (p0_.Modes > 8))) || (p0_.Accept == 0)))) (gs := [(!(((decide (p0_.Modes < 1)) || (decide (p0_.Modes > 8))) || (p0_.Accept == 0)))]) (s' := f57_s13 p0_) (v := .d (.int .i64 (IntKind.i64.wrap p0_.Accept))) (obs := []) 17 (by kernel_rfl) rfl (fun hg => is_pl (by kernel_rfl)) (by kernel_rfl) (impK (fun hh => hh) (impZ)) (by kernel_rfl) rfl ?_
  refine chunk (s' := f57_s14 p0_) 1 18 (by kernel_rfl) rfl ?_
  refine specG (g := (!(((decide (p0_.Modes < 1)) || (decide (p0_.Modes > 8))) || (p0_.Accept == 0)))) (gs := [(!(((decide (p0_.Modes < 1)) || (decide (p0_.Modes > 8))) || (p0_.Accept == 0)))]) (s' := f57_s15 p0_) (v := .d (.int .i64 p0_.Modes)) (obs := []) 19 (by kernel_rfl) rfl (fun hg => is_pl (by kernel_rfl)) (by kernel_rfl) (impK (fun hh => hh) (impZ)) (by kernel_rfl) rfl ?_
  obtain ⟨u5, h134, H⟩ := bind_some H
  refine specG (g := (!(((decide (p0_.Modes < 1)) || (decide (p0_.Modes > 8))) || (p0_.Accept == 0)))) (gs := [(!(((decide (p0_.Modes < 1)) || (decide (p0_.Modes > 8))) || (p0_.Accept == 0)))]) (s' := f57_s16 p0_) (v := .d (.int .i64 (ishl .i64 1 p0_.Modes))) (obs := []) 20 (by kernel_rfl) (by kernel_rfl) (fun hg => is_ob (v := .d (.int .i64 (ishl .i64 1 p0_.Modes))) (guard_ge (gimp h134 hg))) (by kernel_rfl) (impK (fun hh => hh) (impZ)) (by kernel_rfl) rfl ?_
  refine specG (g := (!(((decide (p0_.Modes < 1)) || (decide (p0_.Modes > 8))) || (p0_.Accept == 0)))) (gs := [(!(((decide (p0_.Modes < 1)) || (decide (p0_.Modes > 8))) || (p0_.Accept == 0))), (!(((decide (p0_.Modes < 1)) || (decide (p0_.Modes > 8))) || (p0_.Accept == 0)))]) (s' := f57_s17 p0_) (v := .d (.bool (decide (IntKind.i64.wrap p0_.Accept ≥ ishl .i64 1 p0_.Modes)))) (obs := []) 21 (by kernel_rfl) rfl (fun hg => is_pl (by kernel_rfl)) (by kernel_rfl) (impK (fun hh => hh) (impK (fun hh => hh) (impZ))) (by kernel_rfl) rfl ?_
  refine specP (s' := f57_s18 p0_) 22 (by kernel_rfl) (pick_or (t := (((decide (p0_.Modes < 1)) || (decide (p0_.Modes > 8))) || (p0_.Accept == 0))) (x := true) (y := decide (IntKind.i64.wrap p0_.Accept ≥ ishl .i64 1 p0_.Modes))) (by kernel_rfl) rfl ?_
  refine chunk (s' := f57_s19 p0_) 2 24 (by kernel_rfl) rfl ?_
  refine specG (g := (!((((decide (p0_.Modes < 1)) || (decide (p0_.Modes > 8))) || (p0_.Accept == 0)) || (decide (IntKind.i64.wrap p0_.Accept ≥ ishl .i64 1 p0_.Modes))))) (gs := [(!((((decide (p0_.Modes < 1)) || (decide (p0_.Modes > 8))) || (p0_.Accept == 0)) || (decide (IntKind.i64.wrap p0_.Accept ≥ ishl .i64 1 p0_.Modes))))]) (s' := f57_s20 p0_) (v := .d (.sl (List.map eGRule p0_.Rules))) (obs := []) 25 (by kernel_rfl) rfl (fun hg => is_pl (by kernel_rfl)) (by kernel_rfl) (impK (fun hh => hh) (impZ)) (by kernel_rfl) rfl ?_
  refine specG (g := (!((((decide (p0_.Modes < 1)) || (decide (p0_.Modes > 8))) || (p0_.Accept == 0)) || (decide (IntKind.i64.wrap p0_.Accept ≥ ishl .i64 1 p0_.Modes))))) (gs := [(!((((decide (p0_.Modes < 1)) || (decide (p0_.Modes > 8))) || (p0_.Accept == 0)) || (decide (IntKind.i64.wrap p0_.Accept ≥ ishl .i64 1 p0_.Modes))))]) (s' := f57_s21 p0_) (v := .d (.int .i64 ((List.length p0_.Rules : Nat) : Int))) (obs := []) 26 (by kernel_rfl) (by kernel_rfl) (fun hg => is_len (enc := eGRule) (esz := 6) (eb := 64) (ez := [.str [], .nil, .int .u8 0, .int .u8 0, .int .i64 0, .int .i64 0]) (xs := p0_.Rules)) (by kernel_rfl) (impK (fun hh => hh) (impZ)) (by kernel_rfl) rfl ?_
  refine specG (g := (!((((decide (p0_.Modes < 1)) || (decide (p0_.Modes > 8))) || (p0_.Accept == 0)) || (decide (IntKind.i64.wrap p0_.Accept ≥ ishl .i64 1 p0_.Modes))))) (gs := [(!((((decide (p0_.Modes < 1)) || (decide (p0_.Modes > 8))) || (p0_.Accept == 0)) || (decide (IntKind.i64.wrap p0_.Accept ≥ ishl .i64 1 p0_.Modes))))]) (s' := f57_s22 p0_) (v := .d (.bool (decide (((List.length p0_.Rules : Nat) : Int) < 1)))) (obs := []) 27 (by kernel_rfl) rfl (fun hg => is_pl (by kernel_rfl)) (by kernel_rfl) (impK (fun hh => hh) (impZ)) (by kernel_rfl) rfl ?_
  refine specP (s' := f57_s23 p0_) 28 (by kernel_rfl) (pick_or (t := ((((decide (p0_.Modes < 1)) || (decide (p0_.Modes > 8))) || (p0_.Accept == 0)) || (decide (IntKind.i64.wrap p0_.Accept ≥ ishl .i64 1 p0_.Modes)))) (x := true) (y := decide (((List.length p0_.Rules : Nat) : Int) < 1))) (by kernel_rfl) rfl ?_
  refine chunk (s' := f57_s24 p0_) 2 30 (by kernel_rfl) rfl ?_
  refine specG (g := (!(((((decide (p0_.Modes < 1)) || (decide (p0_.Modes > 8))) || (p0_.Accept == 0)) || (decide (IntKind.i64.wrap p0_.Accept ≥ ishl .i64 1 p0_.Modes))) || (decide (((List.length p0_.Rules : Nat) : Int) < 1))))) (gs := [(!(((((decide (p0_.Modes < 1)) || (decide (p0_.Modes > 8))) || (p0_.Accept == 0)) || (decide (IntKind.i64.wrap p0_.Accept ≥ ishl .i64 1 p0_.Modes))) || (decide (((List.length p0_.Rules : Nat) : Int) < 1))))]) (s' := f57_s25 p0_) (v := .d (.sl (List.map eGRule p0_.Rules))) (obs := []) 31 (by kernel_rfl) rfl (fun hg => is_pl (by kernel_rfl)) (by kernel_rfl) (impK (fun hh => hh) (impZ)) (by kernel_rfl) rfl ?_
  refine specG (g := (!(((((decide (p0_.Modes < 1)) || (decide (p0_.Modes > 8))) || (p0_.Accept == 0)) || (decide (IntKind.i64.wrap p0_.Accept ≥ ishl .i64 1 p0_.Modes))) || (decide (((List.length p0_.Rules : Nat) : Int) < 1))))) (gs := [(!(((((decide (p0_.Modes < 1)) || (decide (p0_.Modes > 8))) || (p0_.Accept == 0)) || (decide (IntKind.i64.wrap p0_.Accept ≥ ishl .i64 1 p0_.Modes))) || (decide (((List.length p0_.Rules : Nat) : Int) < 1))))]) (s' := f57_s26 p0_) (v := .d (.int .i64 ((List.length p0_.Rules : Nat) : Int))) (obs := []) 32 (by kernel_rfl) (by kernel_rfl) (fun hg => is_len (enc := eGRule) (esz := 6) (eb := 64) (ez := [.str [], .nil, .int .u8 0, .int .u8 0, .int .i64 0, .int .i64 0]) (xs := p0_.Rules)) (by kernel_rfl) (impK (fun hh => hh) (impZ)) (by kernel_rfl) rfl ?_
  refine specG (g := (!(((((decide (p0_.Modes < 1)) || (decide (p0_.Modes > 8))) || (p0_.Accept == 0)) || (decide (IntKind.i64.wrap p0_.Accept ≥ ishl .i64 1 p0_.Modes))) || (decide (((List.length p0_.Rules : Nat) : Int) < 1))))) (gs := [(!(((((decide (p0_.Modes < 1)) || (decide (p0_.Modes > 8))) || (p0_.Accept == 0)) || (decide (IntKind.i64.wrap p0_.Accept ≥ ishl .i64 1 p0_.Modes))) || (decide (((List.length p0_.Rules : Nat) : Int) < 1))))]) (s' := f57_s27 p0_) (v := .d (.bool (decide (((List.length p0_.Rules : Nat) : Int) > 64)))) (obs := []) 33 (by kernel_rfl) rfl (fun hg => is_pl (by kernel_rfl)) (by kernel_rfl) (impK (fun hh => hh) (impZ)) (by kernel_rfl) rfl ?_
  refine specP (s' := f57_s28 p0_) 34 (by kernel_rfl) (pick_or (t := (((((decide (p0_.Modes < 1)) || (decide (p0_.Modes > 8))) || (p0_.Accept == 0)) || (decide (IntKind.i64.wrap p0_.Accept ≥ ishl .i64 1 p0_.Modes))) || (decide (((List.length p0_.Rules : Nat) : Int) < 1)))) (x := true) (y := decide (((List.length p0_.Rules : Nat) : Int) > 64))) (by kernel_rfl) rfl ?_
  refine at_end 34 (by kernel_rfl) ?_
  refine q_seq sh_refl ?_
  rcases ite_some H with ⟨hc48, H⟩ | ⟨hc48, H⟩
  · refine at_condT ((((((decide (p0_.Modes < 1)) || (decide (p0_.Modes > 8))) || (p0_.Accept == 0)) || (decide (IntKind.i64.wrap p0_.Accept ≥ ishl .i64 1 p0_.Modes))) || (decide (((List.length p0_.Rules : Nat) : Int) < 1))) || (decide (((List.length p0_.Rules : Nat) : Int) > 64))) (p0 := [1,0,1,0]) (p1 := [1,0,1,1]) (by kernel_rfl) (by kernel_rfl) hc48 ?_
    refine at_seq (p0 := [1,0,1,0,0]) (p1 := [1,0,1,0,1]) (by kernel_rfl) ?_
    refine at_region (by kernel_rfl) sh_refl ?_
    refine chunk (s' := f57_s29 p0_) 2 2 (by kernel_rfl) rfl ?_
    refine at_end 2 (by kernel_rfl) ?_
    refine q_seq sh_refl ?_
    refine at_ret (by kernel_rfl) ?_
    refine q_seqR ?_
    have hz := Option.some.inj H
    subst hz
    exact post_ret (retT (vs := [.d (.int .i64 (-1)), .d (.int .i64 1)]) (l := [.d (.int .i64 (-1)), .d (.int .i64 1)]) (by kernel_rfl) rfl (outT_cons (outA_d (outV_d)) (outT_cons (outA_d (outV_d)) (outT_nil))) [] (by kernel_rfl) (by decide))
  · refine at_condF ((((((decide (p0_.Modes < 1)) || (decide (p0_.Modes > 8))) || (p0_.Accept == 0)) || (decide (IntKind.i64.wrap p0_.Accept ≥ ishl .i64 1 p0_.Modes))) || (decide (((List.length p0_.Rules : Nat) : Int) < 1))) || (decide (((List.length p0_.Rules : Nat) : Int) > 64))) (p0 := [1,0,1,0]) (p1 := [1,0,1,1]) (by kernel_rfl) (by kernel_rfl) hc48 ?_
    refine at_skip (by kernel_rfl) ?_
    refine q_seq sh_refl ?_
    refine at_seq (p0 := [1,1,0]) (p1 := [1,1,1]) (by kernel_rfl) ?_
    refine at_seq (p0 := [1,1,0,0]) (p1 := [1,1,0,1]) (by kernel_rfl) ?_
    refine at_region (by kernel_rfl) sh_refl ?_
    refine chunk (s' := f57_s30 p0_) 1 1 (by kernel_rfl) rfl ?_
    refine at_end 1 (by kernel_rfl) ?_
    refine q_seq sh_refl ?_
    refine at_block 0 (p0 := [1,1,0,1,0]) (by kernel_rfl) ?_
    obtain ⟨y25, h141, H⟩ := bind_some H
    rcases y25 with y26 | y27
    · refine at_loop (p0 := [1,1,0,1,0,0]) (fun (x : Int) => f57_s31 p0_ x) (f57_L1_E p0_) (by kernel_rfl) h141 (sh_gc [1,4] (by kernel_rfl)) (fun x z => f57_L1_ok x z) ?_
      intro e s hE20
      obtain ⟨rfl, hE20⟩ := hE20
      refine q_blockH ?_
      refine q_seq (s' := f57_s32) (hE20) ?_
      refine at_seq (p0 := [1,1,1,0]) (p1 := [1,1,1,1]) (by kernel_rfl) ?_
      refine at_region (by kernel_rfl) sh_refl ?_
      refine chunk (s' := f57_s55) 2 2 (by kernel_rfl) rfl ?_
      refine at_end 2 (by kernel_rfl) ?_
      refine q_seq sh_refl ?_
      refine at_ret (by kernel_rfl) ?_
      have hz := Option.some.inj H
      subst hz
      exact post_ret (retT (vs := [.d (.int .i64 0), .d (.int .i64 0)]) (l := [.d (.int .i64 0), .d (.int .i64 0)]) (by kernel_rfl) rfl (outT_cons (outA_d (outV_d)) (outT_cons (outA_d (outV_d)) (outT_nil))) [] (by kernel_rfl) (by decide))
    · refine at_loop (p0 := [1,1,0,1,0,0]) (fun (x : Int) => f57_s31 p0_ x) (f57_L1_E p0_) (by kernel_rfl) h141 (sh_gc [1,4] (by kernel_rfl)) (fun x z => f57_L1_ok x z) ?_
      intro e s hE21
      obtain ⟨rfl, hE21⟩ := hE21
      refine q_blockR ?_
      refine q_seqR ?_
      have hz := Option.some.inj H
      subst hz
      exact post_ret hE21
end
section
variable (p0_ : GTable)
def f38_s1 : St := ⟨(0, .agg [.d (.int .i64 p0_.Modes), .d (.int .u8 p0_.Accept), .d (.sl (List.map eGRule p0_.Rules))]) :: [], []⟩
def f38_s2 : St := po (f38_s1 p0_) [(2, .d (.bool false)), (1, .ptr 0 0)] fun _ => [some (.box [.d (.int .i64 p0_.Modes), .d (.int .u8 p0_.Accept), .d (.sl (List.map eGRule p0_.Rules))])]
def f38_s3 : St := pe (f38_s2 p0_) [(6, .agg [.d (.int .i64 p0_.Modes), .d (.int .u8 p0_.Accept), .d (.sl (List.map eGRule p0_.Rules))])]
variable (r66 : (Int × Int))
def f38_s4 : St := pe (f38_s3 p0_) [(7, .tup [.d (.int .i64 r66.1), .d (.int .i64 r66.2)])]
def f38_s5 : St := pe (f38_s4 p0_ r66) [(4, .d (.int .i64 r66.2)), (3, .d (.int .i64 r66.1)), (9, .d (.int .i64 r66.2)), (8, .d (.int .i64 r66.1)), (5, .tup [.d (.int .i64 r66.1), .d (.int .i64 r66.2)])]
def f38_s6 : St := pe (f38_s5 p0_ r66) [(2, .d (.bool (r66.2 == 0))), (11, .d (.bool (r66.2 == 0))), (10, .d (.int .i64 r66.2))]
theorem FSixdotref02_Valid_ok {n : Nat} {p0_ : GTable} {z : Bool} (H : FSixdotref02_Valid n p0_ = some z) : CallOK Try.prog 38 [.agg [.d (.int .i64 p0_.Modes), .d (.int .u8 p0_.Accept), .d (.sl (List.map eGRule p0_.Rules))]] (.d (.bool z)) := by
  dsimp only [FSixdotref02_Valid] at H
  refine fn_ok (Γ := cx 12) (s := f38_s1 p0_) follows (cxOK 12) Try.func38 (by kernel_rfl) (by kernel_rfl) (by kernel_rfl) (by kernel_rfl) (by kernel_rfl) (by kernel_rfl) ?_
  refine at_seq (p0 := [0]) (p1 := [1]) (by kernel_rfl) ?_
  refine at_region (by kernel_rfl) sh_refl ?_
  refine chunk (s' := f38_s2 p0_) 2 2 (by kernel_rfl) rfl ?_
  refine at_end 2 (by kernel_rfl) ?_
  refine q_seq sh_refl ?_
  refine at_seq (p0 := [1,0]) (p1 := [1,1]) (by kernel_rfl) ?_
  refine at_region (by kernel_rfl) sh_refl ?_
  refine chunk (s' := f38_s3 p0_) 1 1 (by kernel_rfl) rfl ?_
  obtain ⟨r66, h142, H⟩ := bind_some H
  refine callS (s' := f38_s4 p0_ r66) (f := 57) (xs := [.agg [.d (.int .i64 p0_.Modes), .d (.int .u8 p0_.Accept), .d (.sl (List.map eGRule p0_.Rules))]]) (ys := [.agg [.d (.int .i64 p0_.Modes), .d (.int .u8 p0_.Accept), .d (.sl (List.map eGRule p0_.Rules))]]) (ks := []) (obl := []) (r := .tup [.d (.int .i64 r66.1), .d (.int .i64 r66.2)]) (ls := []) 2 false (by kernel_rfl) (leZ) rfl (FSixdotref02_Check_ok h142) (Or.inl rfl) rfl (by kernel_rfl) rfl ?_
  refine chunk (s' := f38_s5 p0_ r66) 5 7 (by kernel_rfl) rfl ?_
  refine at_end 7 (by kernel_rfl) ?_
  refine q_seq sh_refl ?_
  refine at_seq (p0 := [1,1,0]) (p1 := [1,1,1]) (by kernel_rfl) ?_
  refine at_region (by kernel_rfl) sh_refl ?_
  refine chunk (s' := f38_s6 p0_ r66) 3 3 (by kernel_rfl) rfl ?_
  refine at_end 3 (by kernel_rfl) ?_
  refine q_seq sh_refl ?_
  refine at_ret (by kernel_rfl) ?_
  have hz := Option.some.inj H
  subst hz
  exact post_ret (ret1 (v := .d (.bool (r66.2 == 0))) (r := .d (.bool (r66.2 == 0))) [] (by kernel_rfl) (outA_d (outV_d)) (by kernel_rfl) (by decide))
end
section
variable (p0_ : GRaw)
def f16_s1 : St := ⟨(0, .agg [.d (.int .u8 p0_.Base), .d (.int .u8 p0_.Drop), .d (.sl (List.map eGRawRule p0_.More))]) :: [], []⟩
def f16_s2 : St := po (f16_s1 p0_) [(2, .ptr 1 0), (1, .ptr 0 0)] fun _ => [some (.box [.d (.int .u8 p0_.Base), .d (.int .u8 p0_.Drop), .d (.sl (List.map eGRawRule p0_.More))]), some (.box [.d (.int .i64 0), .d (.int .u8 0), .d (.nil)])]
def f16_s3 : St := pe (f16_s2 p0_) [(8, .d (.int .u8 p0_.Base)), (7, .ptr 0 0)]
variable (r67 : GTable)
def f16_s4 : St := pe (f16_s3 p0_) [(9, .agg [.d (.int .i64 r67.Modes), .d (.int .u8 r67.Accept), .d (.sl (List.map eGRule r67.Rules))])]
def f16_s5 : St := po (f16_s4 p0_ r67) [(3, .ptr 2 0)] fun o => o ++ [some (.box [.d (.int .i64 r67.Modes), .d (.int .u8 r67.Accept), .d (.sl (List.map eGRule r67.Rules))])]
def f16_s6 : St := pe (f16_s5 p0_ r67) [(4, .d (.sl (List.map eGRule r67.Rules))), (11, .d (.sl (List.map eGRule r67.Rules))), (10, .ptr 2 2)]
def f16_s7 : St := po (f16_s6 p0_ r67) [(13, .ptr 2 2), (12, .osl 3 6 0 (List.length ([] : List GRule)))] fun o => o.set 2 (some (.box [.d (.int .i64 r67.Modes), .d (.int .u8 r67.Accept), .osl 3 6 0 (List.length ([] : List GRule))])) ++ [some (.arr 6 (List.map eGRule ([] : List GRule)))]
def f16_s8 : St := pe (f16_s7 p0_ r67) [(5, .d (.int .i64 0))]
variable (t_1 : (List GRule)) (i_9 : Int)
def f16_s9 : St := ⟨(1, .ptr 0 0) :: (2, .ptr 1 0) :: (3, .ptr 2 0) :: (4, .d (.sl (List.map eGRule r67.Rules))) :: (5, .d (.int .i64 i_9)) :: [], [some (.box [.d (.int .u8 p0_.Base), .d (.int .u8 p0_.Drop), .d (.sl (List.map eGRawRule p0_.More))]), some (.box [.d (.int .i64 0), .d (.int .u8 0), .osl 3 6 0 (List.length ([] : List GRule))]), some (.box [.d (.int .i64 r67.Modes), .d (.int .u8 r67.Accept), .osl 4 6 0 (List.length t_1)]), some (.arr 6 (List.map eGRule ([] : List GRule))), some (.arr 6 (List.map eGRule t_1))]⟩
variable (t_2 : (List GRule))
def f16_s10 : St := ⟨(1, .ptr 0 0) :: (2, .ptr 1 0) :: (3, .ptr 2 0) :: (4, .d (.sl (List.map eGRule r67.Rules))) :: [], [some (.box [.d (.int .u8 p0_.Base), .d (.int .u8 p0_.Drop), .d (.sl (List.map eGRawRule p0_.More))]), some (.box [.d (.int .i64 0), .d (.int .u8 0), .osl 3 6 0 (List.length ([] : List GRule))]), some (.box [.d (.int .i64 r67.Modes), .d (.int .u8 r67.Accept), .osl 4 6 0 (List.length t_2)]), some (.arr 6 (List.map eGRule ([] : List GRule))), some (.arr 6 (List.map eGRule t_2))]⟩
def f16_s11 : St := pe (f16_s9 p0_ r67 t_1 i_9) [(15, .d (.sl (List.map eGRule r67.Rules))), (14, .d (.int .i64 i_9))]
def f16_s12 : St := pe (f16_s11 p0_ r67 t_1 i_9) [(16, .d (.int .i64 ((List.length r67.Rules : Nat) : Int)))]
def f16_s13 : St := pe (f16_s12 p0_ r67 t_1 i_9) [(17, .d (.bool (decide (i_9 < ((List.length r67.Rules : Nat) : Int)))))]
variable (t_3 : (List GRule))
def f16_s14 : St := ⟨(1, .ptr 0 0) :: (2, .ptr 1 0) :: (3, .ptr 2 0) :: (4, .d (.sl (List.map eGRule r67.Rules))) :: (5, .d (.int .i64 i_9)) :: [], [some (.box [.d (.int .u8 p0_.Base), .d (.int .u8 p0_.Drop), .d (.sl (List.map eGRawRule p0_.More))]), some (.box [.d (.int .i64 0), .d (.int .u8 0), .osl 3 6 0 (List.length ([] : List GRule))]), some (.box [.d (.int .i64 r67.Modes), .d (.int .u8 r67.Accept), .osl 4 6 0 (List.length t_3)]), some (.arr 6 (List.map eGRule ([] : List GRule))), some (.arr 6 (List.map eGRule t_3))]⟩
def f16_s15 : St := pe (f16_s14 p0_ r67 i_9 t_3) [(5, .d (.int .i64 (iadd .i64 i_9 1))), (19, .d (.int .i64 (iadd .i64 i_9 1))), (18, .d (.int .i64 i_9))]
def f16_s16 : St := pe (f16_s13 p0_ r67 t_1 i_9) [(22, .d (.int .i64 i_9)), (21, .d (.int .u8 p0_.Drop)), (20, .ptr 0 1)]
def f16_s17 : St := pe (f16_s16 p0_ r67 t_1 i_9) [(23, .d (.int .u8 (ishr .u8 p0_.Drop i_9)))]
def f16_s18 : St := pe (f16_s17 p0_ r67 t_1 i_9) [(25, .d (.bool ((iand .u8 (ishr .u8 p0_.Drop i_9) 1) == 0))), (24, .d (.int .u8 (iand .u8 (ishr .u8 p0_.Drop i_9) 1)))]
def f16_s19 : St := pe (f16_s18 p0_ r67 t_1 i_9) [(29, .d (.int .i64 i_9)), (28, .d (.sl (List.map eGRule r67.Rules))), (27, .osl 4 6 0 (List.length t_1)), (26, .ptr 2 2)]
variable (x31 : GRule)
def f16_s20 : St := pe (f16_s19 p0_ r67 t_1 i_9) [(30, .dptr (eGRule x31) 0)]
def f16_s21 : St := po (f16_s20 p0_ r67 t_1 i_9 x31) [(32, .osl 5 6 0 (List.length [x31])), (31, .agg [.d (.str x31.Print), .d (.sl (List.map eU8 x31.Cells)), .d (.int .u8 x31.Left), .d (.int .u8 x31.Right), .d (.int .i64 x31.From), .d (.int .i64 x31.To)])] fun o => o ++ [some (.arr 6 (List.map eGRule [x31]))]
variable (l20 : (List GRule))
def f16_s22 : St := po (f16_s21 p0_ r67 t_1 i_9 x31) [(33, .osl 6 6 0 (List.length l20))] fun o => o.set 4 none ++ [some (.arr 6 (List.map eGRule l20))]
def f16_s23 : St := po (f16_s22 p0_ r67 t_1 i_9 x31 l20) [(34, .ptr 2 2)] fun o => o.set 2 (some (.box [.d (.int .i64 r67.Modes), .d (.int .u8 r67.Accept), .osl 6 6 0 (List.length l20)]))
def f16_L1_E (p0_ : GRaw) (r67 : GTable) : (List GRule) → Ex → St → Prop := fun (y : (List GRule)) e s => e = Ex.exit 0 ∧ Shift s (f16_s10 p0_ r67 y)
theorem f16_L1_ok {n : Nat} {p0_ : GRaw} {r67 : GTable} (x : ((List GRule) × Int)) (z : (((List GRule) × Int) ⊕ (List GRule))) (H : f16_L1 n p0_ r67 x.1 x.2 = some z) : wpA (cx 77) (nav [1,1,1,1,0,1,0,0] (bodyOf Try.f16)) (roundQ (fun (x : ((List GRule) × Int)) => f16_s9 p0_ r67 x.1 x.2) (f16_L1_E p0_ r67) z) (f16_s9 p0_ r67 x.1 x.2) := by
  obtain ⟨t_1, i_9⟩ := x
  dsimp only [f16_L1] at H
  refine at_seq (p0 := [1,1,1,1,0,1,0,0,0]) (p1 := [1,1,1,1,0,1,0,0,1]) (by kernel_rfl) ?_
  refine at_seq (p0 := [1,1,1,1,0,1,0,0,0,0]) (p1 := [1,1,1,1,0,1,0,0,0,1]) (by kernel_rfl) ?_
  refine at_region (by kernel_rfl) sh_refl ?_
  refine chunk (s' := f16_s11 p0_ r67 t_1 i_9) 2 2 (by kernel_rfl) rfl ?_
  refine spec (s' := f16_s12 p0_ r67 t_1 i_9) (v := .d (.int .i64 ((List.length r67.Rules : Nat) : Int))) (obs := []) (rm := []) (upd := none) 3 (by kernel_rfl) (is_len (enc := eGRule) (esz := 6) (eb := 64) (ez := [.str [], .nil, .int .u8 0, .int .u8 0, .int .i64 0, .int .i64 0]) (xs := r67.Rules)) (by kernel_rfl) rfl ?_
  refine chunk (s' := f16_s13 p0_ r67 t_1 i_9) 1 4 (by kernel_rfl) rfl ?_
  refine at_end 4 (by kernel_rfl) ?_
  refine q_seq sh_refl ?_
  rcases ite_some H with ⟨hc50, H⟩ | ⟨hc50, H⟩
  · refine at_condT (decide (i_9 < ((List.length r67.Rules : Nat) : Int))) (p0 := [1,1,1,1,0,1,0,0,0,1,0]) (p1 := [1,1,1,1,0,1,0,0,0,1,1]) (by kernel_rfl) (by kernel_rfl) hc50 ?_
    refine at_skip (by kernel_rfl) ?_
    refine q_seq sh_refl ?_
    refine at_seqJ (p0 := [1,1,1,1,0,1,0,0,1,0]) (p1 := [1,1,1,1,0,1,0,0,1,1]) (fun (x : (List GRule)) => f16_s14 p0_ r67 i_9 x) (fun (x : (List GRule)) => f16_J1 n i_9 x) z (by kernel_rfl) ?_ (fun hf16_J1 => ?_)
    · intro t_3 H
      dsimp only [f16_J1] at H
      refine at_region (by kernel_rfl) sh_refl ?_
      refine chunk (s' := f16_s15 p0_ r67 i_9 t_3) 3 3 (by kernel_rfl) rfl ?_
      refine at_end 3 (by kernel_rfl) ?_
      have hz := Option.some.inj H
      subst hz
      exact round_go (sh_gc [1,2,3,4,5] (by kernel_rfl))
    refine at_block 1 (p0 := [1,1,1,1,0,1,0,0,1,0,0]) (by kernel_rfl) ?_
    refine at_seq (p0 := [1,1,1,1,0,1,0,0,1,0,0,0]) (p1 := [1,1,1,1,0,1,0,0,1,0,0,1]) (by kernel_rfl) ?_
    refine at_region (by kernel_rfl) sh_refl ?_
    refine chunk (s' := f16_s16 p0_ r67 t_1 i_9) 3 3 (by kernel_rfl) rfl ?_
    obtain ⟨u6, h144, H⟩ := bind_some H
    refine spec (s' := f16_s17 p0_ r67 t_1 i_9) (v := .d (.int .u8 (ishr .u8 p0_.Drop i_9))) (obs := []) (rm := []) (upd := none) 4 (by kernel_rfl) (is_ob (v := .d (.int .u8 (ishr .u8 p0_.Drop i_9))) (guard_ge h144)) (by kernel_rfl) rfl ?_
    refine chunk (s' := f16_s18 p0_ r67 t_1 i_9) 2 6 (by kernel_rfl) rfl ?_
    refine at_end 6 (by kernel_rfl) ?_
    refine q_seq sh_refl ?_
    rcases ite_some H with ⟨hc49, H⟩ | ⟨hc49, H⟩
    · refine at_condT ((iand .u8 (ishr .u8 p0_.Drop i_9) 1) == 0) (p0 := [1,1,1,1,0,1,0,0,1,0,0,1,0]) (p1 := [1,1,1,1,0,1,0,0,1,0,0,1,1]) (by kernel_rfl) (by kernel_rfl) hc49 ?_
      refine at_region (by kernel_rfl) sh_refl ?_
      refine chunk (s' := f16_s19 p0_ r67 t_1 i_9) 4 4 (by kernel_rfl) rfl ?_
      obtain ⟨x31, h145, H⟩ := bind_some H
      refine spec (s' := f16_s20 p0_ r67 t_1 i_9 x31) (v := .dptr (eGRule x31) 0) (obs := []) (rm := []) (upd := none) 5 (by kernel_rfl) (is_idxD (enc := eGRule) (esz := 6) (eb := 64) (ez := [.str [], .nil, .int .u8 0, .int .u8 0, .int .i64 0, .int .i64 0]) h145 (by kernel_rfl)) (by kernel_rfl) rfl ?_
      refine chunk (s' := f16_s21 p0_ r67 t_1 i_9 x31) 2 7 (by kernel_rfl) rfl ?_
      obtain ⟨l20, h146, H⟩ := bind_some H
      refine spec (s' := f16_s22 p0_ r67 t_1 i_9 x31 l20) (v := .osl 6 6 0 (List.length l20)) (obs := [.arr 6 (List.map eGRule l20)]) (rm := [4]) (upd := none) 8 (by kernel_rfl) (is_app (enc := eGRule) (objs := (f16_s21 p0_ r67 t_1 i_9 x31).objs) (esz := 6) (eb := 64) (ob := 0 + List.length [x31] ≤ List.length (List.map eGRule [x31])) (k := 4) (by kernel_rfl) take_all (fun _ => rfl) (by simp) h146) (by kernel_rfl) rfl ?_
      refine chunk (s' := f16_s23 p0_ r67 t_1 i_9 x31 l20) 2 10 (by kernel_rfl) rfl ?_
      refine at_end 10 (by kernel_rfl) ?_
      refine q_blockN ?_
      exact q_seq (sh_gc [1,2,3,4,5] (by kernel_rfl)) (hf16_J1 l20 H)
    · refine at_condF ((iand .u8 (ishr .u8 p0_.Drop i_9) 1) == 0) (p0 := [1,1,1,1,0,1,0,0,1,0,0,1,0]) (p1 := [1,1,1,1,0,1,0,0,1,0,0,1,1]) (by kernel_rfl) (by kernel_rfl) hc49 ?_
      refine at_skip (by kernel_rfl) ?_
      refine q_blockN ?_
      exact q_seq (sh_gc [1,2,3,4,5] (by kernel_rfl)) (hf16_J1 t_1 H)
  · refine at_condF (decide (i_9 < ((List.length r67.Rules : Nat) : Int))) (p0 := [1,1,1,1,0,1,0,0,0,1,0]) (p1 := [1,1,1,1,0,1,0,0,0,1,1]) (by kernel_rfl) (by kernel_rfl) hc50 ?_
    refine at_exit 0 (by kernel_rfl) ?_
    refine q_seqX ?_
    have hz := Option.some.inj H
    subst hz
    exact round_exit ⟨rfl, sh_gc [1,2,3,4] (by kernel_rfl)⟩
variable (y28 : (List GRule))
def f16_s24 : St := pe (f16_s10 p0_ r67 y28) [(6, .d (.int .i64 0))]
variable (t_4 : (List GRule)) (i_10 : Int)
def f16_s25 : St := ⟨(1, .ptr 0 0) :: (2, .ptr 1 0) :: (3, .ptr 2 0) :: (4, .d (.sl (List.map eGRule r67.Rules))) :: (6, .d (.int .i64 i_10)) :: [], [some (.box [.d (.int .u8 p0_.Base), .d (.int .u8 p0_.Drop), .d (.sl (List.map eGRawRule p0_.More))]), some (.box [.d (.int .i64 0), .d (.int .u8 0), .osl 3 6 0 (List.length ([] : List GRule))]), some (.box [.d (.int .i64 r67.Modes), .d (.int .u8 r67.Accept), .osl 4 6 0 (List.length t_4)]), some (.arr 6 (List.map eGRule ([] : List GRule))), some (.arr 6 (List.map eGRule t_4))]⟩
variable (t_5 : (List GRule))
def f16_s26 : St := ⟨(2, .ptr 0 0) :: (3, .ptr 1 0) :: (4, .d (.sl (List.map eGRule r67.Rules))) :: [], [some (.box [.d (.int .i64 0), .d (.int .u8 0), .osl 2 6 0 (List.length ([] : List GRule))]), some (.box [.d (.int .i64 r67.Modes), .d (.int .u8 r67.Accept), .osl 3 6 0 (List.length t_5)]), some (.arr 6 (List.map eGRule ([] : List GRule))), some (.arr 6 (List.map eGRule t_5))]⟩
def f16_s27 : St := pe (f16_s25 p0_ r67 t_4 i_10) [(37, .d (.sl (List.map eGRawRule p0_.More))), (36, .ptr 0 2), (35, .d (.int .i64 i_10))]
def f16_s28 : St := pe (f16_s27 p0_ r67 t_4 i_10) [(38, .d (.int .i64 ((List.length p0_.More : Nat) : Int)))]
def f16_s29 : St := pe (f16_s28 p0_ r67 t_4 i_10) [(41, .gv (decide (i_10 < ((List.length p0_.More : Nat) : Int))) (.d (.int .i64 i_10))), (40, .d (.bool (decide (i_10 < ((List.length p0_.More : Nat) : Int))))), (39, .d (.bool (decide (i_10 < ((List.length p0_.More : Nat) : Int)))))]
def f16_s30 : St := pe (f16_s29 p0_ r67 t_4 i_10) [(42, .gv (decide (i_10 < ((List.length p0_.More : Nat) : Int))) (.d (.bool (decide (i_10 < 2)))))]
def f16_s31 : St := pe (f16_s30 p0_ r67 t_4 i_10) [(43, .d (.bool ((decide (i_10 < ((List.length p0_.More : Nat) : Int))) && (decide (i_10 < 2)))))]
variable (t_6 : (List GRule))
def f16_s32 : St := ⟨(1, .ptr 0 0) :: (2, .ptr 1 0) :: (3, .ptr 2 0) :: (4, .d (.sl (List.map eGRule r67.Rules))) :: (6, .d (.int .i64 i_10)) :: [], [some (.box [.d (.int .u8 p0_.Base), .d (.int .u8 p0_.Drop), .d (.sl (List.map eGRawRule p0_.More))]), some (.box [.d (.int .i64 0), .d (.int .u8 0), .osl 3 6 0 (List.length ([] : List GRule))]), some (.box [.d (.int .i64 r67.Modes), .d (.int .u8 r67.Accept), .osl 4 6 0 (List.length t_6)]), some (.arr 6 (List.map eGRule ([] : List GRule))), some (.arr 6 (List.map eGRule t_6))]⟩
def f16_s33 : St := pe (f16_s32 p0_ r67 i_10 t_6) [(6, .d (.int .i64 (iadd .i64 i_10 1))), (45, .d (.int .i64 (iadd .i64 i_10 1))), (44, .d (.int .i64 i_10))]
def f16_s34 : St := pe (f16_s31 p0_ r67 t_4 i_10) [(50, .d (.int .i64 i_10)), (49, .d (.sl (List.map eGRawRule p0_.More))), (48, .ptr 0 2), (47, .osl 4 6 0 (List.length t_4)), (46, .ptr 2 2)]
variable (x32 : GRawRule)
def f16_s35 : St := pe (f16_s34 p0_ r67 t_4 i_10) [(51, .dptr (eGRawRule x32) 0)]
def f16_s36 : St := pe (f16_s35 p0_ r67 t_4 i_10 x32) [(54, .d (.int .i64 r67.Modes)), (53, .ptr 2 0), (52, .agg [.d (.sl (List.map eU8 x32.P)), .d (.sl (List.map eU8 x32.C)), .d (.int .u8 x32.L), .d (.int .u8 x32.R), .d (.int .u8 x32.W.a0), .d (.int .u8 x32.W.a1)])]
variable (r68 : GRule)
def f16_s37 : St := pe (f16_s36 p0_ r67 t_4 i_10 x32) [(55, .agg [.d (.str r68.Print), .d (.sl (List.map eU8 r68.Cells)), .d (.int .u8 r68.Left), .d (.int .u8 r68.Right), .d (.int .i64 r68.From), .d (.int .i64 r68.To)])]
def f16_s38 : St := po (f16_s37 p0_ r67 t_4 i_10 x32 r68) [(56, .osl 5 6 0 (List.length [r68]))] fun o => o ++ [some (.arr 6 (List.map eGRule [r68]))]
variable (l21 : (List GRule))
def f16_s39 : St := po (f16_s38 p0_ r67 t_4 i_10 x32 r68) [(57, .osl 6 6 0 (List.length l21))] fun o => o.set 4 none ++ [some (.arr 6 (List.map eGRule l21))]
def f16_s40 : St := po (f16_s39 p0_ r67 t_4 i_10 x32 r68 l21) [(58, .ptr 2 2)] fun o => o.set 2 (some (.box [.d (.int .i64 r67.Modes), .d (.int .u8 r67.Accept), .osl 6 6 0 (List.length l21)]))
def f16_s41 : St := pe (f16_s40 p0_ r67 t_4 i_10 x32 r68 l21) [(59, .agg [.d (.int .i64 r67.Modes), .d (.int .u8 r67.Accept), .osl 6 6 0 (List.length l21)])]
variable (r69 : Bool)
def f16_s42 : St := pe (f16_s41 p0_ r67 t_4 i_10 x32 r68 l21) [(60, .d (.bool r69))]
def f16_s43 : St := pe (f16_s42 p0_ r67 t_4 i_10 x32 r68 l21 r69) [(61, .d (.bool (!r69)))]
def f16_s44 : St := pe (f16_s43 p0_ r67 t_4 i_10 x32 r68 l21 r69) [(67, .d (.int .i64 (isub .i64 ((List.length l21 : Nat) : Int) 1))), (66, .d (.int .i64 ((List.length l21 : Nat) : Int))), (65, .osl 6 6 0 (List.length l21)), (64, .ptr 2 2), (63, .osl 6 6 0 (List.length l21)), (62, .ptr 2 2)]
def f16_s45 : St := pe (f16_s44 p0_ r67 t_4 i_10 x32 r68 l21 r69) [(68, .osl 6 6 (0 + Int.toNat 0) (Int.toNat (isub .i64 ((List.length l21 : Nat) : Int) 1) - Int.toNat 0))]
def f16_s46 : St := po (f16_s45 p0_ r67 t_4 i_10 x32 r68 l21 r69) [(69, .ptr 2 2)] fun o => o.set 2 (some (.box [.d (.int .i64 r67.Modes), .d (.int .u8 r67.Accept), .osl 6 6 (0 + Int.toNat 0) (Int.toNat (isub .i64 ((List.length l21 : Nat) : Int) 1) - Int.toNat 0)]))
def f16_L2_E (p0_ : GRaw) (r67 : GTable) : (List GRule) → Ex → St → Prop := fun (y : (List GRule)) e s => e = Ex.exit 2 ∧ Shift s (f16_s26 r67 y)
theorem f16_L2_ok {n : Nat} {p0_ : GRaw} {r67 : GTable} (x : ((List GRule) × Int)) (z : (((List GRule) × Int) ⊕ (List GRule))) (H : f16_L2 n p0_ r67 x.1 x.2 = some z) : wpA (cx 77) (nav [1,1,1,1,1,0,1,0,0] (bodyOf Try.f16)) (roundQ (fun (x : ((List GRule) × Int)) => f16_s25 p0_ r67 x.1 x.2) (f16_L2_E p0_ r67) z) (f16_s25 p0_ r67 x.1 x.2) := by
  obtain ⟨t_4, i_10⟩ := x
  dsimp only [f16_L2] at H
  refine at_seq (p0 := [1,1,1,1,1,0,1,0,0,0]) (p1 := [1,1,1,1,1,0,1,0,0,1]) (by kernel_rfl) ?_
  refine at_seq (p0 := [1,1,1,1,1,0,1,0,0,0,0]) (p1 := [1,1,1,1,1,0,1,0,0,0,1]) (by kernel_rfl) ?_
  refine at_region (by kernel_rfl) sh_refl ?_
  refine chunk (s' := f16_s27 p0_ r67 t_4 i_10) 3 3 (by kernel_rfl) rfl ?_
  refine spec (s' := f16_s28 p0_ r67 t_4 i_10) (v := .d (.int .i64 ((List.length p0_.More : Nat) : Int))) (obs := []) (rm := []) (upd := none) 4 (by kernel_rfl) (is_len (enc := eGRawRule) (esz := 6) (eb := 56) (ez := [.nil, .nil, .int .u8 0, .int .u8 0, .int .u8 0, .int .u8 0]) (xs := p0_.More)) (by kernel_rfl) rfl ?_
  refine chunk (s' := f16_s29 p0_ r67 t_4 i_10) 3 7 (by kernel_rfl) rfl ?_
  refine specG (g := decide (i_10 < ((List.length p0_.More : Nat) : Int))) (gs := [decide (i_10 < ((List.length p0_.More : Nat) : Int))]) (s' := f16_s30 p0_ r67 t_4 i_10) (v := .d (.bool (decide (i_10 < 2)))) (obs := []) 8 (by kernel_rfl) rfl (fun hg => is_pl (by kernel_rfl)) (by kernel_rfl) (impK (fun hh => hh) (impZ)) (by kernel_rfl) rfl ?_
  refine specP (s' := f16_s31 p0_ r67 t_4 i_10) 9 (by kernel_rfl) (pick_and (t := decide (i_10 < ((List.length p0_.More : Nat) : Int))) (x := decide (i_10 < 2)) (y := false)) (by kernel_rfl) rfl ?_
  refine at_end 9 (by kernel_rfl) ?_
  refine q_seq sh_refl ?_
  rcases ite_some H with ⟨hc52, H⟩ | ⟨hc52, H⟩
  · refine at_condT ((decide (i_10 < ((List.length p0_.More : Nat) : Int))) && (decide (i_10 < 2))) (p0 := [1,1,1,1,1,0,1,0,0,0,1,0]) (p1 := [1,1,1,1,1,0,1,0,0,0,1,1]) (by kernel_rfl) (by kernel_rfl) hc52 ?_
    refine at_skip (by kernel_rfl) ?_
    refine q_seq sh_refl ?_
    refine at_seqJ (p0 := [1,1,1,1,1,0,1,0,0,1,0]) (p1 := [1,1,1,1,1,0,1,0,0,1,1]) (fun (x : (List GRule)) => f16_s32 p0_ r67 i_10 x) (fun (x : (List GRule)) => f16_J2 n i_10 x) z (by kernel_rfl) ?_ (fun hf16_J2 => ?_)
    · intro t_6 H
      dsimp only [f16_J2] at H
      refine at_region (by kernel_rfl) sh_refl ?_
      refine chunk (s' := f16_s33 p0_ r67 i_10 t_6) 3 3 (by kernel_rfl) rfl ?_
      refine at_end 3 (by kernel_rfl) ?_
      have hz := Option.some.inj H
      subst hz
      exact round_go (sh_gc [1,2,3,4,6] (by kernel_rfl))
    refine at_block 3 (p0 := [1,1,1,1,1,0,1,0,0,1,0,0]) (by kernel_rfl) ?_
    refine at_seq (p0 := [1,1,1,1,1,0,1,0,0,1,0,0,0]) (p1 := [1,1,1,1,1,0,1,0,0,1,0,0,1]) (by kernel_rfl) ?_
    refine at_region (by kernel_rfl) sh_refl ?_
    refine chunk (s' := f16_s34 p0_ r67 t_4 i_10) 5 5 (by kernel_rfl) rfl ?_
    obtain ⟨x32, h148, H⟩ := bind_some H
    refine spec (s' := f16_s35 p0_ r67 t_4 i_10 x32) (v := .dptr (eGRawRule x32) 0) (obs := []) (rm := []) (upd := none) 6 (by kernel_rfl) (is_idxD (enc := eGRawRule) (esz := 6) (eb := 56) (ez := [.nil, .nil, .int .u8 0, .int .u8 0, .int .u8 0, .int .u8 0]) h148 (by kernel_rfl)) (by kernel_rfl) rfl ?_
    refine chunk (s' := f16_s36 p0_ r67 t_4 i_10 x32) 3 9 (by kernel_rfl) rfl ?_
    obtain ⟨r68, h149, H⟩ := bind_some H
    refine callS (s' := f16_s37 p0_ r67 t_4 i_10 x32 r68) (f := 37) (xs := [.agg [.d (.sl (List.map eU8 x32.P)), .d (.sl (List.map eU8 x32.C)), .d (.int .u8 x32.L), .d (.int .u8 x32.R), .d (.int .u8 x32.W.a0), .d (.int .u8 x32.W.a1)], .d (.int .i64 r67.Modes)]) (ys := [.agg [.d (.sl (List.map eU8 x32.P)), .d (.sl (List.map eU8 x32.C)), .d (.int .u8 x32.L), .d (.int .u8 x32.R), .d (.int .u8 x32.W.a0), .d (.int .u8 x32.W.a1)], .d (.int .i64 r67.Modes)]) (ks := []) (obl := []) (r := .agg [.d (.str r68.Print), .own 1 (List.map eU8 r68.Cells), .d (.int .u8 r68.Left), .d (.int .u8 r68.Right), .d (.int .i64 r68.From), .d (.int .i64 r68.To)]) (ls := [List.length r68.Cells]) 10 false (by kernel_rfl) (leZ) rfl (FSixdotref02_Rule_ok h149) (Or.inl rfl) (by simp only [lensR, lensT, lensA, lensC, List.length_map, List.nil_append, List.append_nil, List.cons_append]) (by kernel_rfl) rfl ?_
    refine chunk (s' := f16_s38 p0_ r67 t_4 i_10 x32 r68) 1 11 (by kernel_rfl) rfl ?_
    obtain ⟨l21, h150, H⟩ := bind_some H
    refine spec (s' := f16_s39 p0_ r67 t_4 i_10 x32 r68 l21) (v := .osl 6 6 0 (List.length l21)) (obs := [.arr 6 (List.map eGRule l21)]) (rm := [4]) (upd := none) 12 (by kernel_rfl) (is_app (enc := eGRule) (objs := (f16_s38 p0_ r67 t_4 i_10 x32 r68).objs) (esz := 6) (eb := 64) (ob := 0 + List.length [r68] ≤ List.length (List.map eGRule [r68])) (k := 4) (by kernel_rfl) take_all (fun _ => rfl) (by simp) h150) (by kernel_rfl) rfl ?_
    refine chunk (s' := f16_s40 p0_ r67 t_4 i_10 x32 r68 l21) 2 14 (by kernel_rfl) rfl ?_
    refine at_end 14 (by kernel_rfl) ?_
    refine q_seq sh_refl ?_
    refine at_seq (p0 := [1,1,1,1,1,0,1,0,0,1,0,0,1,0]) (p1 := [1,1,1,1,1,0,1,0,0,1,0,0,1,1]) (by kernel_rfl) ?_
    refine at_region (by kernel_rfl) sh_refl ?_
    refine chunk (s' := f16_s41 p0_ r67 t_4 i_10 x32 r68 l21) 1 1 (by kernel_rfl) rfl ?_
    obtain ⟨r69, h151, H⟩ := bind_some H
    refine callS (s' := f16_s42 p0_ r67 t_4 i_10 x32 r68 l21 r69) (f := 38) (xs := [.agg [.d (.int .i64 r67.Modes), .d (.int .u8 r67.Accept), .d (.sl (List.take (List.length l21) (List.drop 0 (List.map eGRule l21))))]]) (ys := [.agg [.d (.int .i64 r67.Modes), .d (.int .u8 r67.Accept), .d (.sl (List.map eGRule l21))]]) (ks := [6]) (obl := [(0 + List.length l21, List.length (List.map eGRule l21))]) (r := .d (.bool r69)) (ls := []) 2 false (by kernel_rfl) (leK (by simp) (leZ)) (consE (aggE (consE rfl (consE rfl (consE takeE rfl)))) rfl) (FSixdotref02_Valid_ok h151) (Or.inr (by simp [flatR, flatT, flatA, flatC, D.flat, true_and])) rfl (by kernel_rfl) rfl ?_
    refine chunk (s' := f16_s43 p0_ r67 t_4 i_10 x32 r68 l21 r69) 1 3 (by kernel_rfl) rfl ?_
    refine at_end 3 (by kernel_rfl) ?_
    refine q_seq sh_refl ?_
    rcases ite_some H with ⟨hc51, H⟩ | ⟨hc51, H⟩
    · refine at_condT (!r69) (p0 := [1,1,1,1,1,0,1,0,0,1,0,0,1,1,0]) (p1 := [1,1,1,1,1,0,1,0,0,1,0,0,1,1,1]) (by kernel_rfl) (by kernel_rfl) hc51 ?_
      refine at_region (by kernel_rfl) sh_refl ?_
      refine chunk (s' := f16_s44 p0_ r67 t_4 i_10 x32 r68 l21 r69) 6 6 (by kernel_rfl) rfl ?_
      obtain ⟨l22, h152, H⟩ := bind_some H
      refine spec (s' := f16_s45 p0_ r67 t_4 i_10 x32 r68 l21 r69) (v := .osl 6 6 (0 + Int.toNat 0) (Int.toNat (isub .i64 ((List.length l21 : Nat) : Int) 1) - Int.toNat 0)) (obs := []) (rm := []) (upd := none) 7 (by kernel_rfl) (is_slO (k := 6) (esz := 6) (eb := 64) (ez := [.str [], .nil, .int .u8 0, .int .u8 0, .int .i64 0, .int .i64 0]) h152) (by kernel_rfl) rfl ?_
      refine chunk (s' := f16_s46 p0_ r67 t_4 i_10 x32 r68 l21 r69) 2 9 (by kernel_rfl) rfl ?_
      refine at_end 9 (by kernel_rfl) ?_
      refine q_blockN ?_
      exact q_seq (Shift.trans (sh_subc (k := 6) (sz := 6) 2 2 (List.map eGRule l22) (List.length l22) (by kernel_rfl) (sub_cut h152) (sub_le (enc := eGRule) h152) (sub_len h152)) (sh_gc [1,2,3,4,6] (by kernel_rfl))) (hf16_J2 l22 H)
    · refine at_condF (!r69) (p0 := [1,1,1,1,1,0,1,0,0,1,0,0,1,1,0]) (p1 := [1,1,1,1,1,0,1,0,0,1,0,0,1,1,1]) (by kernel_rfl) (by kernel_rfl) hc51 ?_
      refine at_skip (by kernel_rfl) ?_
      refine q_blockN ?_
      exact q_seq (sh_gc [1,2,3,4,6] (by kernel_rfl)) (hf16_J2 l21 H)
  · refine at_condF ((decide (i_10 < ((List.length p0_.More : Nat) : Int))) && (decide (i_10 < 2))) (p0 := [1,1,1,1,1,0,1,0,0,0,1,0]) (p1 := [1,1,1,1,1,0,1,0,0,0,1,1]) (by kernel_rfl) (by kernel_rfl) hc52 ?_
    refine at_exit 2 (by kernel_rfl) ?_
    refine q_seqX ?_
    have hz := Option.some.inj H
    subst hz
    exact round_exit ⟨rfl, sh_gc [2,3,4] (by kernel_rfl)⟩
variable (t_7 : GTable)
def f16_s47 : St := ⟨(2, .ptr 0 0) :: (3, .ptr 1 0) :: [], [some (.box [.d (.int .i64 0), .d (.int .u8 0), .osl 2 6 0 (List.length ([] : List GRule))]), some (.box [.d (.int .i64 t_7.Modes), .d (.int .u8 t_7.Accept), .d (.sl (List.map eGRule t_7.Rules))]), some (.arr 6 (List.map eGRule ([] : List GRule)))]⟩
def f16_s48 : St := po (f16_s47 t_7) [(76, .agg [.d (.int .i64 t_7.Modes), .d (.int .u8 t_7.Accept), .d (.sl (List.map eGRule t_7.Rules))])] fun o => o.set 0 (some (.box [.d (.int .i64 t_7.Modes), .d (.int .u8 t_7.Accept), .d (.sl (List.map eGRule t_7.Rules))]))
variable (y29 : (List GRule))
def f16_s49 : St := pe (f16_s26 r67 y29) [(73, .d (.bool (((List.length y29 : Nat) : Int) == 0))), (72, .d (.int .i64 ((List.length y29 : Nat) : Int))), (71, .osl 3 6 0 (List.length y29)), (70, .ptr 1 2)]
def f16_s50 : St := po (f16_s49 r67 y29) [(75, .ptr 1 2), (74, .d (.sl (List.map eGRule r67.Rules)))] fun o => o.set 1 (some (.box [.d (.int .i64 r67.Modes), .d (.int .u8 r67.Accept), .d (.sl (List.map eGRule r67.Rules))]))
theorem FSixdotref02_Made_ok {n : Nat} {p0_ : GRaw} {z : GTable} (H : FSixdotref02_Made n p0_ = some z) : CallOK Try.prog 16 [.agg [.d (.int .u8 p0_.Base), .d (.int .u8 p0_.Drop), .d (.sl (List.map eGRawRule p0_.More))]] (.agg [.d (.int .i64 z.Modes), .d (.int .u8 z.Accept), .d (.sl (List.map eGRule z.Rules))]) := by
  dsimp only [FSixdotref02_Made] at H
  refine fn_ok (Γ := cx 77) (s := f16_s1 p0_) follows (cxOK 77) Try.func16 (by kernel_rfl) (by kernel_rfl) (by kernel_rfl) (by kernel_rfl) (by kernel_rfl) (by kernel_rfl) ?_
  refine at_seq (p0 := [0]) (p1 := [1]) (by kernel_rfl) ?_
  refine at_region (by kernel_rfl) sh_refl ?_
  refine chunk (s' := f16_s2 p0_) 2 2 (by kernel_rfl) rfl ?_
  refine at_end 2 (by kernel_rfl) ?_
  refine q_seq sh_refl ?_
  refine at_seq (p0 := [1,0]) (p1 := [1,1]) (by kernel_rfl) ?_
  refine at_region (by kernel_rfl) sh_refl ?_
  refine chunk (s' := f16_s3 p0_) 2 2 (by kernel_rfl) rfl ?_
  obtain ⟨r67, h143, H⟩ := bind_some H
  refine callS (s' := f16_s4 p0_ r67) (f := 50) (xs := [.d (.int .u8 p0_.Base)]) (ys := [.d (.int .u8 p0_.Base)]) (ks := []) (obl := []) (r := .agg [.d (.int .i64 r67.Modes), .d (.int .u8 r67.Accept), .own 6 (List.map eGRule r67.Rules)]) (ls := [List.length r67.Rules]) 3 false (by kernel_rfl) (leZ) rfl (FSixdotref02_Base_ok h143) (Or.inl rfl) (by simp only [lensR, lensT, lensA, lensC, List.length_map, List.nil_append, List.append_nil, List.cons_append]) (by kernel_rfl) rfl ?_
  refine chunk (s' := f16_s5 p0_ r67) 2 5 (by kernel_rfl) rfl ?_
  refine at_end 5 (by kernel_rfl) ?_
  refine q_seq sh_refl ?_
  refine at_seq (p0 := [1,1,0]) (p1 := [1,1,1]) (by kernel_rfl) ?_
  refine at_region (by kernel_rfl) sh_refl ?_
  refine chunk (s' := f16_s6 p0_ r67) 3 3 (by kernel_rfl) rfl ?_
  refine at_end 3 (by kernel_rfl) ?_
  refine q_seq sh_refl ?_
  refine at_seq (p0 := [1,1,1,0]) (p1 := [1,1,1,1]) (by kernel_rfl) ?_
  refine at_region (by kernel_rfl) sh_refl ?_
  refine chunk (s' := f16_s7 p0_ r67) 3 3 (by kernel_rfl) rfl ?_
  refine at_end 3 (by kernel_rfl) ?_
  refine q_seq sh_refl ?_
  refine at_seq (p0 := [1,1,1,1,0]) (p1 := [1,1,1,1,1]) (by kernel_rfl) ?_
  refine at_seq (p0 := [1,1,1,1,0,0]) (p1 := [1,1,1,1,0,1]) (by kernel_rfl) ?_
  refine at_region (by kernel_rfl) sh_refl ?_
  refine chunk (s' := f16_s8 p0_ r67) 1 1 (by kernel_rfl) rfl ?_
  refine at_end 1 (by kernel_rfl) ?_
  refine q_seq sh_refl ?_
  refine at_block 0 (p0 := [1,1,1,1,0,1,0]) (by kernel_rfl) ?_
  obtain ⟨y28, h147, H⟩ := bind_some H
  refine at_loop (p0 := [1,1,1,1,0,1,0,0]) (fun (x : ((List GRule) × Int)) => f16_s9 p0_ r67 x.1 x.2) (f16_L1_E p0_ r67) (by kernel_rfl) h147 (Shift.trans (sh_nilc 1 2 6 (by kernel_rfl)) (sh_gc [1,2,3,4,5] (by kernel_rfl))) (fun x z => f16_L1_ok x z) ?_
  intro e s hE22
  obtain ⟨rfl, hE22⟩ := hE22
  refine q_blockH ?_
  refine q_seq (s' := f16_s10 p0_ r67 y28) (hE22) ?_
  refine at_seq (p0 := [1,1,1,1,1,0]) (p1 := [1,1,1,1,1,1]) (by kernel_rfl) ?_
  refine at_seq (p0 := [1,1,1,1,1,0,0]) (p1 := [1,1,1,1,1,0,1]) (by kernel_rfl) ?_
  refine at_region (by kernel_rfl) sh_refl ?_
  refine chunk (s' := f16_s24 p0_ r67 y28) 1 1 (by kernel_rfl) rfl ?_
  refine at_end 1 (by kernel_rfl) ?_
  refine q_seq sh_refl ?_
  refine at_block 2 (p0 := [1,1,1,1,1,0,1,0]) (by kernel_rfl) ?_
  obtain ⟨y29, h153, H⟩ := bind_some H
  refine at_loop (p0 := [1,1,1,1,1,0,1,0,0]) (fun (x : ((List GRule) × Int)) => f16_s25 p0_ r67 x.1 x.2) (f16_L2_E p0_ r67) (by kernel_rfl) h153 (sh_gc [1,2,3,4,6] (by kernel_rfl)) (fun x z => f16_L2_ok x z) ?_
  intro e s hE23
  obtain ⟨rfl, hE23⟩ := hE23
  refine q_blockH ?_
  refine q_seq (s' := f16_s26 r67 y29) (hE23) ?_
  refine at_seqJ (p0 := [1,1,1,1,1,1,0]) (p1 := [1,1,1,1,1,1,1]) (fun (x : GTable) => f16_s47 x) (fun (x : GTable) => f16_J3 n x) z (by kernel_rfl) ?_ (fun hf16_J3 => ?_)
  · intro t_7 H
    dsimp only [f16_J3] at H
    refine at_seq (p0 := [1,1,1,1,1,1,1,0]) (p1 := [1,1,1,1,1,1,1,1]) (by kernel_rfl) ?_
    refine at_region (by kernel_rfl) sh_refl ?_
    refine chunk (s' := f16_s48 t_7) 2 2 (by kernel_rfl) rfl ?_
    refine at_end 2 (by kernel_rfl) ?_
    refine q_seq sh_refl ?_
    refine at_ret (by kernel_rfl) ?_
    have hz := Option.some.inj H
    subst hz
    exact post_ret (ret1 (v := .agg [.d (.int .i64 t_7.Modes), .d (.int .u8 t_7.Accept), .d (.sl (List.map eGRule t_7.Rules))]) (r := .agg [.d (.int .i64 t_7.Modes), .d (.int .u8 t_7.Accept), .d (.sl (List.map eGRule t_7.Rules))]) [] (by kernel_rfl) (outA_agg (outC_cons (outV_d) (outC_cons (outV_d) (outC_cons (outV_d) (outC_nil))))) (by kernel_rfl) (by decide))
  refine at_seq (p0 := [1,1,1,1,1,1,0,0]) (p1 := [1,1,1,1,1,1,0,1]) (by kernel_rfl) ?_
  refine at_region (by kernel_rfl) sh_refl ?_
  refine chunk (s' := f16_s49 r67 y29) 4 4 (by kernel_rfl) rfl ?_
  refine at_end 4 (by kernel_rfl) ?_
  refine q_seq sh_refl ?_
  rcases ite_some H with ⟨hc53, H⟩ | ⟨hc53, H⟩
  · refine at_condT (((List.length y29 : Nat) : Int) == 0) (p0 := [1,1,1,1,1,1,0,1,0]) (p1 := [1,1,1,1,1,1,0,1,1]) (by kernel_rfl) (by kernel_rfl) hc53 ?_
    refine at_region (by kernel_rfl) sh_refl ?_
    refine chunk (s' := f16_s50 r67 y29) 3 3 (by kernel_rfl) rfl ?_
    refine at_end 3 (by kernel_rfl) ?_
    exact q_seq (sh_gc [2,3] (by kernel_rfl)) (hf16_J3 r67 H)
  · refine at_condF (((List.length y29 : Nat) : Int) == 0) (p0 := [1,1,1,1,1,1,0,1,0]) (p1 := [1,1,1,1,1,1,0,1,1]) (by kernel_rfl) (by kernel_rfl) hc53 ?_
    refine at_skip (by kernel_rfl) ?_
    exact q_seq (Shift.trans (sh_frzc (k := 3) (sz := 6) 1 2 (List.map eGRule y29) (by kernel_rfl) take_all (by simp)) (sh_gc [2,3] (by kernel_rfl))) (hf16_J3 ({ Modes := r67.Modes, Accept := r67.Accept, Rules := y29 } : GTable) H)
end
section
variable (p0_ : (List GState)) (p1_ : GState)
def f34_s1 : St := ⟨(0, .d (.sl (List.map eGState p0_))) :: (1, .agg [.d (.int .i64 p1_.Mode), .d (.int .i64 p1_.Last), .d (.int .u8 p1_.Need)]) :: [], []⟩
def f34_s2 : St := po (f34_s1 p0_ p1_) [(4, .d (.int .i64 0)), (3, .ptr 0 0)] fun _ => [some (.box [.d (.int .i64 p1_.Mode), .d (.int .i64 p1_.Last), .d (.int .u8 p1_.Need)])]
def f34_s3 : St := pe (f34_s2 p0_ p1_) [(5, .d (.int .i64 0))]
variable (i_11 : Int)
def f34_s4 : St := ⟨(0, .d (.sl (List.map eGState p0_))) :: (3, .ptr 0 0) :: (5, .d (.int .i64 i_11)) :: [], [some (.box [.d (.int .i64 p1_.Mode), .d (.int .i64 p1_.Last), .d (.int .u8 p1_.Need)])]⟩
def f34_s5  : St := ⟨[], []⟩
def f34_s6 : St := pe (f34_s4 p0_ p1_ i_11) [(7, .d (.sl (List.map eGState p0_))), (6, .d (.int .i64 i_11))]
def f34_s7 : St := pe (f34_s6 p0_ p1_ i_11) [(8, .d (.int .i64 ((List.length p0_ : Nat) : Int)))]
def f34_s8 : St := pe (f34_s7 p0_ p1_ i_11) [(9, .d (.bool (decide (i_11 < ((List.length p0_ : Nat) : Int)))))]
def f34_s9 : St := pe (f34_s8 p0_ p1_ i_11) [(13, .d (.int .i64 i_11)), (12, .d (.sl (List.map eGState p0_)))]
variable (x33 : GState)
def f34_s10 : St := pe (f34_s9 p0_ p1_ i_11) [(14, .dptr (eGState x33) 0)]
def f34_s11 : St := pe (f34_s10 p0_ p1_ i_11 x33) [(17, .d (.bool ((x33.Mode == p1_.Mode) && ((x33.Last == p1_.Last) && ((x33.Need == p1_.Need) && true))))), (16, .agg [.d (.int .i64 p1_.Mode), .d (.int .i64 p1_.Last), .d (.int .u8 p1_.Need)]), (15, .agg [.d (.int .i64 x33.Mode), .d (.int .i64 x33.Last), .d (.int .u8 x33.Need)])]
def f34_s12 : St := pe (f34_s11 p0_ p1_ i_11 x33) [(4, .d (.int .i64 i_11)), (18, .d (.int .i64 i_11))]
def f34_s13 : St := pe (f34_s11 p0_ p1_ i_11 x33) [(5, .d (.int .i64 (iadd .i64 i_11 1))), (11, .d (.int .i64 (iadd .i64 i_11 1))), (10, .d (.int .i64 i_11))]
def f34_L1_E (p0_ : (List GState)) (p1_ : GState) : (Unit ⊕ Int) → Ex → St → Prop := fun y => Sum.casesOn y (fun (y : Unit) e s => e = Ex.exit 0 ∧ Shift s (f34_s5)) (fun (y : Int) e s => e = Ex.ret ∧ retA ty (Try.f34).results.toList (.d (.int .i64 y)) s)
theorem f34_L1_ok {n : Nat} {p0_ : (List GState)} {p1_ : GState} (x : Int) (z : (Int ⊕ (Unit ⊕ Int))) (H : f34_L1 n p0_ p1_ x = some z) : wpA (cx 19) (nav [1,0,1,0,0] (bodyOf Try.f34)) (roundQ (fun (x : Int) => f34_s4 p0_ p1_ x) (f34_L1_E p0_ p1_) z) (f34_s4 p0_ p1_ x) := by
  revert H
  generalize x = i_11
  intro H
  dsimp only [f34_L1] at H
  refine at_seq (p0 := [1,0,1,0,0,0]) (p1 := [1,0,1,0,0,1]) (by kernel_rfl) ?_
  refine at_seq (p0 := [1,0,1,0,0,0,0]) (p1 := [1,0,1,0,0,0,1]) (by kernel_rfl) ?_
  refine at_region (by kernel_rfl) sh_refl ?_
  refine chunk (s' := f34_s6 p0_ p1_ i_11) 2 2 (by kernel_rfl) rfl ?_
  refine spec (s' := f34_s7 p0_ p1_ i_11) (v := .d (.int .i64 ((List.length p0_ : Nat) : Int))) (obs := []) (rm := []) (upd := none) 3 (by kernel_rfl) (is_len (enc := eGState) (esz := 3) (eb := 24) (ez := [.int .i64 0, .int .i64 0, .int .u8 0]) (xs := p0_)) (by kernel_rfl) rfl ?_
  refine chunk (s' := f34_s8 p0_ p1_ i_11) 1 4 (by kernel_rfl) rfl ?_
  refine at_end 4 (by kernel_rfl) ?_
  refine q_seq sh_refl ?_
  rcases ite_some H with ⟨hc55, H⟩ | ⟨hc55, H⟩
  · refine at_condT (decide (i_11 < ((List.length p0_ : Nat) : Int))) (p0 := [1,0,1,0,0,0,1,0]) (p1 := [1,0,1,0,0,0,1,1]) (by kernel_rfl) (by kernel_rfl) hc55 ?_
    refine at_skip (by kernel_rfl) ?_
    refine q_seq sh_refl ?_
    refine at_seq (p0 := [1,0,1,0,0,1,0]) (p1 := [1,0,1,0,0,1,1]) (by kernel_rfl) ?_
    refine at_block 1 (p0 := [1,0,1,0,0,1,0,0]) (by kernel_rfl) ?_
    refine at_seq (p0 := [1,0,1,0,0,1,0,0,0]) (p1 := [1,0,1,0,0,1,0,0,1]) (by kernel_rfl) ?_
    refine at_region (by kernel_rfl) sh_refl ?_
    refine chunk (s' := f34_s9 p0_ p1_ i_11) 2 2 (by kernel_rfl) rfl ?_
    obtain ⟨x33, h154, H⟩ := bind_some H
    refine spec (s' := f34_s10 p0_ p1_ i_11 x33) (v := .dptr (eGState x33) 0) (obs := []) (rm := []) (upd := none) 3 (by kernel_rfl) (is_idxD (enc := eGState) (esz := 3) (eb := 24) (ez := [.int .i64 0, .int .i64 0, .int .u8 0]) h154 (by kernel_rfl)) (by kernel_rfl) rfl ?_
    refine chunk (s' := f34_s11 p0_ p1_ i_11 x33) 3 6 (by kernel_rfl) rfl ?_
    refine at_end 6 (by kernel_rfl) ?_
    refine q_seq sh_refl ?_
    rcases ite_some H with ⟨hc54, H⟩ | ⟨hc54, H⟩
    · refine at_condT ((x33.Mode == p1_.Mode) && ((x33.Last == p1_.Last) && ((x33.Need == p1_.Need) && true))) (p0 := [1,0,1,0,0,1,0,0,1,0]) (p1 := [1,0,1,0,0,1,0,0,1,1]) (by kernel_rfl) (by kernel_rfl) hc54 ?_
      refine at_seq (p0 := [1,0,1,0,0,1,0,0,1,0,0]) (p1 := [1,0,1,0,0,1,0,0,1,0,1]) (by kernel_rfl) ?_
      refine at_region (by kernel_rfl) sh_refl ?_
      refine chunk (s' := f34_s12 p0_ p1_ i_11 x33) 2 2 (by kernel_rfl) rfl ?_
      refine at_end 2 (by kernel_rfl) ?_
      refine q_seq sh_refl ?_
      refine at_ret (by kernel_rfl) ?_
      refine q_blockR ?_
      refine q_seqR ?_
      have hz := Option.some.inj H
      subst hz
      exact round_ret ⟨rfl, ret1 (v := .d (.int .i64 i_11)) (r := .d (.int .i64 i_11)) [] (by kernel_rfl) (outA_d (outV_d)) (by kernel_rfl) (by decide)⟩
    · refine at_condF ((x33.Mode == p1_.Mode) && ((x33.Last == p1_.Last) && ((x33.Need == p1_.Need) && true))) (p0 := [1,0,1,0,0,1,0,0,1,0]) (p1 := [1,0,1,0,0,1,0,0,1,1]) (by kernel_rfl) (by kernel_rfl) hc54 ?_
      refine at_skip (by kernel_rfl) ?_
      refine q_blockN ?_
      refine q_seq sh_refl ?_
      refine at_region (by kernel_rfl) sh_refl ?_
      refine chunk (s' := f34_s13 p0_ p1_ i_11 x33) 3 3 (by kernel_rfl) rfl ?_
      refine at_end 3 (by kernel_rfl) ?_
      have hz := Option.some.inj H
      subst hz
      exact round_go (sh_gc [0,3,5] (by kernel_rfl))
  · refine at_condF (decide (i_11 < ((List.length p0_ : Nat) : Int))) (p0 := [1,0,1,0,0,0,1,0]) (p1 := [1,0,1,0,0,0,1,1]) (by kernel_rfl) (by kernel_rfl) hc55 ?_
    refine at_exit 0 (by kernel_rfl) ?_
    refine q_seqX ?_
    have hz := Option.some.inj H
    subst hz
    exact round_exit ⟨rfl, sh_gc [] (by kernel_rfl)⟩
def f34_s14  : St := po (f34_s5) [(4, .d (.int .i64 (-1)))] fun _ => []
theorem FSixdotref03_Index_ok {n : Nat} {p0_ : (List GState)} {p1_ : GState} {z : Int} (H : FSixdotref03_Index n p0_ p1_ = some z) : CallOK Try.prog 34 [.d (.sl (List.map eGState p0_)), .agg [.d (.int .i64 p1_.Mode), .d (.int .i64 p1_.Last), .d (.int .u8 p1_.Need)]] (.d (.int .i64 z)) := by
  dsimp only [FSixdotref03_Index] at H
  refine fn_ok (Γ := cx 19) (s := f34_s1 p0_ p1_) follows (cxOK 19) Try.func34 (by kernel_rfl) (by kernel_rfl) (by kernel_rfl) (by kernel_rfl) (by kernel_rfl) (by kernel_rfl) ?_
  refine at_seq (p0 := [0]) (p1 := [1]) (by kernel_rfl) ?_
  refine at_region (by kernel_rfl) sh_refl ?_
  refine chunk (s' := f34_s2 p0_ p1_) 2 2 (by kernel_rfl) rfl ?_
  refine at_end 2 (by kernel_rfl) ?_
  refine q_seq sh_refl ?_
  refine at_seq (p0 := [1,0]) (p1 := [1,1]) (by kernel_rfl) ?_
  refine at_seq (p0 := [1,0,0]) (p1 := [1,0,1]) (by kernel_rfl) ?_
  refine at_region (by kernel_rfl) sh_refl ?_
  refine chunk (s' := f34_s3 p0_ p1_) 1 1 (by kernel_rfl) rfl ?_
  refine at_end 1 (by kernel_rfl) ?_
  refine q_seq sh_refl ?_
  refine at_block 0 (p0 := [1,0,1,0]) (by kernel_rfl) ?_
  obtain ⟨y30, h155, H⟩ := bind_some H
  rcases y30 with y31 | y32
  · refine at_loop (p0 := [1,0,1,0,0]) (fun (x : Int) => f34_s4 p0_ p1_ x) (f34_L1_E p0_ p1_) (by kernel_rfl) h155 (sh_gc [0,3,5] (by kernel_rfl)) (fun x z => f34_L1_ok x z) ?_
    intro e s hE24
    obtain ⟨rfl, hE24⟩ := hE24
    refine q_blockH ?_
    refine q_seq (s' := f34_s5) (hE24) ?_
    refine at_seq (p0 := [1,1,0]) (p1 := [1,1,1]) (by kernel_rfl) ?_
    refine at_region (by kernel_rfl) sh_refl ?_
    refine chunk (s' := f34_s14) 1 1 (by kernel_rfl) rfl ?_
    refine at_end 1 (by kernel_rfl) ?_
    refine q_seq sh_refl ?_
    refine at_ret (by kernel_rfl) ?_
    have hz := Option.some.inj H
    subst hz
    exact post_ret (ret1 (v := .d (.int .i64 (-1))) (r := .d (.int .i64 (-1))) [] (by kernel_rfl) (outA_d (outV_d)) (by kernel_rfl) (by decide))
  · refine at_loop (p0 := [1,0,1,0,0]) (fun (x : Int) => f34_s4 p0_ p1_ x) (f34_L1_E p0_ p1_) (by kernel_rfl) h155 (sh_gc [0,3,5] (by kernel_rfl)) (fun x z => f34_L1_ok x z) ?_
    intro e s hE25
    obtain ⟨rfl, hE25⟩ := hE25
    refine q_blockR ?_
    refine q_seqR ?_
    have hz := Option.some.inj H
    subst hz
    exact post_ret hE25
end
end Go.AI
end
section
namespace Go.AI
open Go.Proofs
set_option maxRecDepth 10000
section
variable (p0_ : GRaw)
def f6_s1 : St := ⟨(0, .agg [.d (.int .u8 p0_.Base), .d (.int .u8 p0_.Drop), .d (.sl (List.map eGRawRule p0_.More))]) :: [], []⟩
def f6_s2 : St := po (f6_s1 p0_) [(2, .d (.bool false)), (1, .ptr 0 0)] fun _ => [some (.box [.d (.int .u8 p0_.Base), .d (.int .u8 p0_.Drop), .d (.sl (List.map eGRawRule p0_.More))])]
variable (r70 : Bool)
def f6_s3 : St := pe (f6_s2 p0_) [(13, .d (.bool r70))]
def f6_s4 : St := pe (f6_s3 p0_ r70) [(3, .d (.bool r70))]
def f6_s5 : St := pe (f6_s4 p0_ r70) [(14, .agg [.d (.int .u8 p0_.Base), .d (.int .u8 p0_.Drop), .d (.sl (List.map eGRawRule p0_.More))])]
variable (r71 : GTable)
def f6_s6 : St := pe (f6_s5 p0_ r70) [(15, .agg [.d (.int .i64 r71.Modes), .d (.int .u8 r71.Accept), .d (.sl (List.map eGRule r71.Rules))])]
def f6_s7 : St := po (f6_s6 p0_ r70 r71) [(4, .ptr 1 0)] fun o => o ++ [some (.box [.d (.int .i64 r71.Modes), .d (.int .u8 r71.Accept), .d (.sl (List.map eGRule r71.Rules))])]
def f6_s8 : St := pe (f6_s7 p0_ r70 r71) [(16, .agg [.d (.int .i64 r71.Modes), .d (.int .u8 r71.Accept), .d (.sl (List.map eGRule r71.Rules))])]
variable (r72 : (List GState))
def f6_s9 : St := pe (f6_s8 p0_ r70 r71) [(17, .d (.sl (List.map eGState r72)))]
def f6_s10 : St := pe (f6_s9 p0_ r70 r71 r72) [(5, .d (.sl (List.map eGState r72)))]
def f6_s11 : St := pe (f6_s10 p0_ r70 r71 r72) [(18, .d (.sl (List.map eGState r72)))]
def f6_s12 : St := pe (f6_s11 p0_ r70 r71 r72) [(19, .d (.int .i64 ((List.length r72 : Nat) : Int)))]
def f6_s13 : St := pe (f6_s12 p0_ r70 r71 r72) [(22, .gv (!(((List.length r72 : Nat) : Int) == 0)) (.d (.sl (List.map eGState r72)))), (21, .d (.bool (((List.length r72 : Nat) : Int) == 0))), (20, .d (.bool (((List.length r72 : Nat) : Int) == 0)))]
def f6_s14 : St := pe (f6_s13 p0_ r70 r71 r72) [(23, .gv (!(((List.length r72 : Nat) : Int) == 0)) (.d (.int .i64 ((List.length r72 : Nat) : Int))))]
def f6_s15 : St := pe (f6_s14 p0_ r70 r71 r72) [(24, .gv (!(((List.length r72 : Nat) : Int) == 0)) (.d (.bool (decide (((List.length r72 : Nat) : Int) > 3000)))))]
def f6_s16 : St := pe (f6_s15 p0_ r70 r71 r72) [(25, .d (.bool ((((List.length r72 : Nat) : Int) == 0) || (decide (((List.length r72 : Nat) : Int) > 3000)))))]
def f6_s17 : St := pe (f6_s16 p0_ r70 r71 r72) [(27, .gv (!((((List.length r72 : Nat) : Int) == 0) || (decide (((List.length r72 : Nat) : Int) > 3000)))) (.d (.sl (List.map eGState r72)))), (26, .d (.bool ((((List.length r72 : Nat) : Int) == 0) || (decide (((List.length r72 : Nat) : Int) > 3000)))))]
variable (x34 : GState)
def f6_s18 : St := pe (f6_s17 p0_ r70 r71 r72) [(28, .gv (!((((List.length r72 : Nat) : Int) == 0) || (decide (((List.length r72 : Nat) : Int) > 3000)))) (.dptr (eGState x34) 0))]
def f6_s19 : St := pe (f6_s18 p0_ r70 r71 r72 x34) [(29, .gv (!((((List.length r72 : Nat) : Int) == 0) || (decide (((List.length r72 : Nat) : Int) > 3000)))) (.agg [.d (.int .i64 x34.Mode), .d (.int .i64 x34.Last), .d (.int .u8 x34.Need)]))]
variable (r73 : GState)
def f6_s20 : St := pe (f6_s19 p0_ r70 r71 r72 x34) [(30, .gv (!((((List.length r72 : Nat) : Int) == 0) || (decide (((List.length r72 : Nat) : Int) > 3000)))) (.agg [.d (.int .i64 r73.Mode), .d (.int .i64 r73.Last), .d (.int .u8 r73.Need)]))]
def f6_s21 : St := pe (f6_s20 p0_ r70 r71 r72 x34 r73) [(31, .gv (!((((List.length r72 : Nat) : Int) == 0) || (decide (((List.length r72 : Nat) : Int) > 3000)))) (.d (.bool (!((x34.Mode == r73.Mode) && ((x34.Last == r73.Last) && ((x34.Need == r73.Need) && true)))))))]
def f6_s22 : St := pe (f6_s21 p0_ r70 r71 r72 x34 r73) [(32, .d (.bool (((((List.length r72 : Nat) : Int) == 0) || (decide (((List.length r72 : Nat) : Int) > 3000))) || (!((x34.Mode == r73.Mode) && ((x34.Last == r73.Last) && ((x34.Need == r73.Need) && true)))))))]
def f6_s23 : St := pe (f6_s22 p0_ r70 r71 r72 x34 r73) [(2, .d (.bool false))]
def f6_s24 : St := po (f6_s22 p0_ r70 r71 r72 x34 r73) [(6, .osl 2 1 0 (List.length ([] : List Bool))), (33, .osl 2 1 0 (List.length ([] : List Bool)))] fun o => o ++ [some (.arr 1 (List.map eB ([] : List Bool)))]
def f6_s25 : St := pe (f6_s24 p0_ r70 r71 r72 x34 r73) [(7, .d (.int .i64 0))]
variable (reached_1 : (List Bool)) (i_12 : Int)
def f6_s26 : St := ⟨(3, .d (.bool r70)) :: (4, .ptr 0 0) :: (5, .d (.sl (List.map eGState r72))) :: (6, .osl 1 1 0 (List.length reached_1)) :: (7, .d (.int .i64 i_12)) :: [], [some (.box [.d (.int .i64 r71.Modes), .d (.int .u8 r71.Accept), .d (.sl (List.map eGRule r71.Rules))]), some (.arr 1 (List.map eB reached_1))]⟩
variable (reached_2 : (List Bool))
def f6_s27 : St := ⟨(3, .d (.bool r70)) :: (4, .ptr 0 0) :: (5, .d (.sl (List.map eGState r72))) :: (6, .osl 1 1 0 (List.length reached_2)) :: [], [some (.box [.d (.int .i64 r71.Modes), .d (.int .u8 r71.Accept), .d (.sl (List.map eGRule r71.Rules))]), some (.arr 1 (List.map eB reached_2))]⟩
def f6_s28 : St := pe (f6_s26 r70 r71 r72 reached_1 i_12) [(35, .d (.sl (List.map eGState r72))), (34, .d (.int .i64 i_12))]
def f6_s29 : St := pe (f6_s28 r70 r71 r72 reached_1 i_12) [(36, .d (.int .i64 ((List.length r72 : Nat) : Int)))]
def f6_s30 : St := pe (f6_s29 r70 r71 r72 reached_1 i_12) [(37, .d (.bool (decide (i_12 < ((List.length r72 : Nat) : Int)))))]
def f6_s31 : St := pe (f6_s30 r70 r71 r72 reached_1 i_12) [(42, .d (.int .i64 i_12)), (41, .d (.sl (List.map eGState r72))), (40, .d (.sl (List.map eGState r72)))]
variable (x35 : GState)
def f6_s32 : St := pe (f6_s31 r70 r71 r72 reached_1 i_12) [(43, .dptr (eGState x35) 0)]
def f6_s33 : St := pe (f6_s32 r70 r71 r72 reached_1 i_12 x35) [(44, .agg [.d (.int .i64 x35.Mode), .d (.int .i64 x35.Last), .d (.int .u8 x35.Need)])]
variable (r74 : Int)
def f6_s34 : St := pe (f6_s33 r70 r71 r72 reached_1 i_12 x35) [(45, .d (.int .i64 r74))]
def f6_s35 : St := pe (f6_s34 r70 r71 r72 reached_1 i_12 x35 r74) [(47, .d (.bool (r74 != i_12))), (46, .d (.int .i64 i_12))]
def f6_s36 : St := pe (f6_s35 r70 r71 r72 reached_1 i_12 x35 r74) [(2, .d (.bool false))]
def f6_s37 : St := po (f6_s35 r70 r71 r72 reached_1 i_12 x35 r74) [(51, .osl 2 1 0 (List.length [(i_12 == 0)])), (50, .d (.bool (i_12 == 0))), (49, .d (.int .i64 i_12)), (48, .osl 1 1 0 (List.length reached_1))] fun o => o ++ [some (.arr 1 (List.map eB [(i_12 == 0)]))]
variable (l23 : (List Bool))
def f6_s38 : St := po (f6_s37 r70 r71 r72 reached_1 i_12 x35 r74) [(52, .osl 3 1 0 (List.length l23))] fun o => o.set 1 none ++ [some (.arr 1 (List.map eB l23))]
def f6_s39 : St := pe (f6_s38 r70 r71 r72 reached_1 i_12 x35 r74 l23) [(6, .osl 3 1 0 (List.length l23))]
def f6_s40 : St := pe (f6_s39 r70 r71 r72 reached_1 i_12 x35 r74 l23) [(7, .d (.int .i64 (iadd .i64 i_12 1))), (39, .d (.int .i64 (iadd .i64 i_12 1))), (38, .d (.int .i64 i_12))]
def f6_L1_E (r70 : Bool) (r71 : GTable) (r72 : (List GState)) : ((List Bool) ⊕ Bool) → Ex → St → Prop := fun y => Sum.casesOn y (fun (y : (List Bool)) e s => e = Ex.exit 0 ∧ Shift s (f6_s27 r70 r71 r72 y)) (fun (y : Bool) e s => e = Ex.ret ∧ retA ty (Try.f6).results.toList (.d (.bool y)) s)
theorem f6_L1_ok {n : Nat} {r70 : Bool} {r71 : GTable} {r72 : (List GState)} (x : ((List Bool) × Int)) (z : (((List Bool) × Int) ⊕ ((List Bool) ⊕ Bool))) (H : f6_L1 n r70 r71 r72 x.1 x.2 = some z) : wpA (cx 99) (nav [1,1,1,1,1,1,0,1,0,0] (bodyOf Try.f6)) (roundQ (fun (x : ((List Bool) × Int)) => f6_s26 r70 r71 r72 x.1 x.2) (f6_L1_E r70 r71 r72) z) (f6_s26 r70 r71 r72 x.1 x.2) := by
  obtain ⟨reached_1, i_12⟩ := x
  dsimp only [f6_L1] at H
  refine at_seq (p0 := [1,1,1,1,1,1,0,1,0,0,0]) (p1 := [1,1,1,1,1,1,0,1,0,0,1]) (by kernel_rfl) ?_
  refine at_seq (p0 := [1,1,1,1,1,1,0,1,0,0,0,0]) (p1 := [1,1,1,1,1,1,0,1,0,0,0,1]) (by kernel_rfl) ?_
  refine at_region (by kernel_rfl) sh_refl ?_
  refine chunk (s' := f6_s28 r70 r71 r72 reached_1 i_12) 2 2 (by kernel_rfl) rfl ?_
  refine spec (s' := f6_s29 r70 r71 r72 reached_1 i_12) (v := .d (.int .i64 ((List.length r72 : Nat) : Int))) (obs := []) (rm := []) (upd := none) 3 (by kernel_rfl) (is_len (enc := eGState) (esz := 3) (eb := 24) (ez := [.int .i64 0, .int .i64 0, .int .u8 0]) (xs := r72)) (by kernel_rfl) rfl ?_
  refine chunk (s' := f6_s30 r70 r71 r72 reached_1 i_12) 1 4 (by kernel_rfl) rfl ?_
  refine at_end 4 (by kernel_rfl) ?_
  refine q_seq sh_refl ?_
  rcases ite_some H with ⟨hc57, H⟩ | ⟨hc57, H⟩
  · refine at_condT (decide (i_12 < ((List.length r72 : Nat) : Int))) (p0 := [1,1,1,1,1,1,0,1,0,0,0,1,0]) (p1 := [1,1,1,1,1,1,0,1,0,0,0,1,1]) (by kernel_rfl) (by kernel_rfl) hc57 ?_
    refine at_skip (by kernel_rfl) ?_
    refine q_seq sh_refl ?_
    refine at_seq (p0 := [1,1,1,1,1,1,0,1,0,0,1,0]) (p1 := [1,1,1,1,1,1,0,1,0,0,1,1]) (by kernel_rfl) ?_
    refine at_block 1 (p0 := [1,1,1,1,1,1,0,1,0,0,1,0,0]) (by kernel_rfl) ?_
    refine at_seq (p0 := [1,1,1,1,1,1,0,1,0,0,1,0,0,0]) (p1 := [1,1,1,1,1,1,0,1,0,0,1,0,0,1]) (by kernel_rfl) ?_
    refine at_seq (p0 := [1,1,1,1,1,1,0,1,0,0,1,0,0,0,0]) (p1 := [1,1,1,1,1,1,0,1,0,0,1,0,0,0,1]) (by kernel_rfl) ?_
    refine at_region (by kernel_rfl) sh_refl ?_
    refine chunk (s' := f6_s31 r70 r71 r72 reached_1 i_12) 3 3 (by kernel_rfl) rfl ?_
    obtain ⟨x35, h161, H⟩ := bind_some H
    refine spec (s' := f6_s32 r70 r71 r72 reached_1 i_12 x35) (v := .dptr (eGState x35) 0) (obs := []) (rm := []) (upd := none) 4 (by kernel_rfl) (is_idxD (enc := eGState) (esz := 3) (eb := 24) (ez := [.int .i64 0, .int .i64 0, .int .u8 0]) h161 (by kernel_rfl)) (by kernel_rfl) rfl ?_
    refine chunk (s' := f6_s33 r70 r71 r72 reached_1 i_12 x35) 1 5 (by kernel_rfl) rfl ?_
    obtain ⟨r74, h162, H⟩ := bind_some H
    refine callS (s' := f6_s34 r70 r71 r72 reached_1 i_12 x35 r74) (f := 34) (xs := [.d (.sl (List.map eGState r72)), .agg [.d (.int .i64 x35.Mode), .d (.int .i64 x35.Last), .d (.int .u8 x35.Need)]]) (ys := [.d (.sl (List.map eGState r72)), .agg [.d (.int .i64 x35.Mode), .d (.int .i64 x35.Last), .d (.int .u8 x35.Need)]]) (ks := []) (obl := []) (r := .d (.int .i64 r74)) (ls := []) 6 false (by kernel_rfl) (leZ) rfl (FSixdotref03_Index_ok h162) (Or.inl rfl) rfl (by kernel_rfl) rfl ?_
    refine chunk (s' := f6_s35 r70 r71 r72 reached_1 i_12 x35 r74) 2 8 (by kernel_rfl) rfl ?_
    refine at_end 8 (by kernel_rfl) ?_
    refine q_seq sh_refl ?_
    rcases ite_some H with ⟨hc56, H⟩ | ⟨hc56, H⟩
    · refine at_condT (r74 != i_12) (p0 := [1,1,1,1,1,1,0,1,0,0,1,0,0,0,1,0]) (p1 := [1,1,1,1,1,1,0,1,0,0,1,0,0,0,1,1]) (by kernel_rfl) (by kernel_rfl) hc56 ?_
      refine at_seq (p0 := [1,1,1,1,1,1,0,1,0,0,1,0,0,0,1,0,0]) (p1 := [1,1,1,1,1,1,0,1,0,0,1,0,0,0,1,0,1]) (by kernel_rfl) ?_
      refine at_region (by kernel_rfl) sh_refl ?_
      refine chunk (s' := f6_s36 r70 r71 r72 reached_1 i_12 x35 r74) 1 1 (by kernel_rfl) rfl ?_
      refine at_end 1 (by kernel_rfl) ?_
      refine q_seq sh_refl ?_
      refine at_ret (by kernel_rfl) ?_
      refine q_seqR ?_
      refine q_blockR ?_
      refine q_seqR ?_
      have hz := Option.some.inj H
      subst hz
      exact round_ret ⟨rfl, ret1 (v := .d (.bool false)) (r := .d (.bool false)) [] (by kernel_rfl) (outA_d (outV_d)) (by kernel_rfl) (by decide)⟩
    · refine at_condF (r74 != i_12) (p0 := [1,1,1,1,1,1,0,1,0,0,1,0,0,0,1,0]) (p1 := [1,1,1,1,1,1,0,1,0,0,1,0,0,0,1,1]) (by kernel_rfl) (by kernel_rfl) hc56 ?_
      refine at_skip (by kernel_rfl) ?_
      refine q_seq sh_refl ?_
      refine at_region (by kernel_rfl) sh_refl ?_
      refine chunk (s' := f6_s37 r70 r71 r72 reached_1 i_12 x35 r74) 4 4 (by kernel_rfl) rfl ?_
      obtain ⟨l23, h163, H⟩ := bind_some H
      refine spec (s' := f6_s38 r70 r71 r72 reached_1 i_12 x35 r74 l23) (v := .osl 3 1 0 (List.length l23)) (obs := [.arr 1 (List.map eB l23)]) (rm := [1]) (upd := none) 5 (by kernel_rfl) (is_app (enc := eB) (objs := (f6_s37 r70 r71 r72 reached_1 i_12 x35 r74).objs) (esz := 1) (eb := 1) (ob := 0 + List.length [(i_12 == 0)] ≤ List.length (List.map eB [(i_12 == 0)])) (k := 1) (by kernel_rfl) take_all (fun _ => rfl) (by simp) h163) (by kernel_rfl) rfl ?_
      refine chunk (s' := f6_s39 r70 r71 r72 reached_1 i_12 x35 r74 l23) 1 6 (by kernel_rfl) rfl ?_
      refine at_end 6 (by kernel_rfl) ?_
      refine q_blockN ?_
      refine q_seq sh_refl ?_
      refine at_region (by kernel_rfl) sh_refl ?_
      refine chunk (s' := f6_s40 r70 r71 r72 reached_1 i_12 x35 r74 l23) 3 3 (by kernel_rfl) rfl ?_
      refine at_end 3 (by kernel_rfl) ?_
      have hz := Option.some.inj H
      subst hz
      exact round_go (sh_gc [3,4,5,6,7] (by kernel_rfl))
  · refine at_condF (decide (i_12 < ((List.length r72 : Nat) : Int))) (p0 := [1,1,1,1,1,1,0,1,0,0,0,1,0]) (p1 := [1,1,1,1,1,1,0,1,0,0,0,1,1]) (by kernel_rfl) (by kernel_rfl) hc57 ?_
    refine at_exit 0 (by kernel_rfl) ?_
    refine q_seqX ?_
    have hz := Option.some.inj H
    subst hz
    exact round_exit ⟨rfl, sh_gc [3,4,5,6] (by kernel_rfl)⟩
variable (y34 : (List Bool))
def f6_s41 : St := pe (f6_s27 r70 r71 r72 y34) [(8, .d (.int .i64 0))]
variable (reached_3 : (List Bool)) (i_13 : Int)
def f6_s42 : St := ⟨(3, .d (.bool r70)) :: (4, .ptr 0 0) :: (5, .d (.sl (List.map eGState r72))) :: (6, .osl 1 1 0 (List.length reached_3)) :: (8, .d (.int .i64 i_13)) :: [], [some (.box [.d (.int .i64 r71.Modes), .d (.int .u8 r71.Accept), .d (.sl (List.map eGRule r71.Rules))]), some (.arr 1 (List.map eB reached_3))]⟩
def f6_s43 : St := ⟨(3, .d (.bool r70)) :: [], []⟩
def f6_s44 : St := pe (f6_s42 r70 r71 r72 reached_3 i_13) [(54, .d (.sl (List.map eGState r72))), (53, .d (.int .i64 i_13))]
def f6_s45 : St := pe (f6_s44 r70 r71 r72 reached_3 i_13) [(55, .d (.int .i64 ((List.length r72 : Nat) : Int)))]
def f6_s46 : St := pe (f6_s45 r70 r71 r72 reached_3 i_13) [(56, .d (.bool (decide (i_13 < ((List.length r72 : Nat) : Int)))))]
def f6_s47 : St := pe (f6_s46 r70 r71 r72 reached_3 i_13) [(60, .d (.int .i64 i_13)), (59, .osl 1 1 0 (List.length reached_3))]
def f6_s48 : St := pe (f6_s47 r70 r71 r72 reached_3 i_13) [(61, .eptr 1 1 (0 + Int.toNat i_13) 0)]
variable (x36 : Bool)
def f6_s49 : St := pe (f6_s48 r70 r71 r72 reached_3 i_13) [(62, .d (.bool x36))]
def f6_s50 : St := pe (f6_s49 r70 r71 r72 reached_3 i_13 x36) [(63, .d (.bool (!x36)))]
def f6_s51 : St := pe (f6_s50 r70 r71 r72 reached_3 i_13 x36) [(2, .d (.bool false))]
def f6_s52 : St := pe (f6_s50 r70 r71 r72 reached_3 i_13 x36) [(9, .d (.int .i64 0))]
variable (reached_4 : (List Bool)) (k_3 : Int)
def f6_s53 : St := ⟨(3, .d (.bool r70)) :: (4, .ptr 0 0) :: (5, .d (.sl (List.map eGState r72))) :: (6, .osl 1 1 0 (List.length reached_4)) :: (8, .d (.int .i64 i_13)) :: (9, .d (.int .i64 k_3)) :: [], [some (.box [.d (.int .i64 r71.Modes), .d (.int .u8 r71.Accept), .d (.sl (List.map eGRule r71.Rules))]), some (.arr 1 (List.map eB reached_4))]⟩
variable (reached_5 : (List Bool))
def f6_s54 : St := ⟨(3, .d (.bool r70)) :: (4, .ptr 0 0) :: (5, .d (.sl (List.map eGState r72))) :: (6, .osl 1 1 0 (List.length reached_5)) :: (8, .d (.int .i64 i_13)) :: [], [some (.box [.d (.int .i64 r71.Modes), .d (.int .u8 r71.Accept), .d (.sl (List.map eGRule r71.Rules))]), some (.arr 1 (List.map eB reached_5))]⟩
def f6_s55 : St := pe (f6_s53 r70 r71 r72 i_13 reached_4 k_3) [(66, .d (.sl (List.map eGRule r71.Rules))), (65, .ptr 0 2), (64, .d (.int .i64 k_3))]
def f6_s56 : St := pe (f6_s55 r70 r71 r72 i_13 reached_4 k_3) [(67, .d (.int .i64 ((List.length r71.Rules : Nat) : Int)))]
def f6_s57 : St := pe (f6_s56 r70 r71 r72 i_13 reached_4 k_3) [(68, .d (.bool (decide (k_3 < ((List.length r71.Rules : Nat) : Int)))))]
variable (reached_6 : (List Bool))
def f6_s58 : St := ⟨(3, .d (.bool r70)) :: (4, .ptr 0 0) :: (5, .d (.sl (List.map eGState r72))) :: (6, .osl 1 1 0 (List.length reached_6)) :: (8, .d (.int .i64 i_13)) :: (9, .d (.int .i64 k_3)) :: [], [some (.box [.d (.int .i64 r71.Modes), .d (.int .u8 r71.Accept), .d (.sl (List.map eGRule r71.Rules))]), some (.arr 1 (List.map eB reached_6))]⟩
def f6_s59 : St := pe (f6_s58 r70 r71 r72 i_13 k_3 reached_6) [(9, .d (.int .i64 (iadd .i64 k_3 1))), (70, .d (.int .i64 (iadd .i64 k_3 1))), (69, .d (.int .i64 k_3))]
def f6_s60 : St := pe (f6_s57 r70 r71 r72 i_13 reached_4 k_3) [(74, .d (.int .i64 i_13)), (73, .d (.sl (List.map eGState r72))), (72, .agg [.d (.int .i64 r71.Modes), .d (.int .u8 r71.Accept), .d (.sl (List.map eGRule r71.Rules))])]
variable (x37 : GState)
def f6_s61 : St := pe (f6_s60 r70 r71 r72 i_13 reached_4 k_3) [(75, .dptr (eGState x37) 0)]
def f6_s62 : St := pe (f6_s61 r70 r71 r72 i_13 reached_4 k_3 x37) [(77, .d (.int .i64 k_3)), (76, .agg [.d (.int .i64 x37.Mode), .d (.int .i64 x37.Last), .d (.int .u8 x37.Need)])]
variable (r75 : (GState × Bool))
def f6_s63 : St := pe (f6_s62 r70 r71 r72 i_13 reached_4 k_3 x37) [(78, .tup [.agg [.d (.int .i64 r75.1.Mode), .d (.int .i64 r75.1.Last), .d (.int .u8 r75.1.Need)], .d (.bool r75.2)])]
def f6_s64 : St := po (f6_s63 r70 r71 r72 i_13 reached_4 k_3 x37 r75) [(11, .d (.bool r75.2)), (10, .ptr 2 0), (80, .d (.bool r75.2)), (79, .agg [.d (.int .i64 r75.1.Mode), .d (.int .i64 r75.1.Last), .d (.int .u8 r75.1.Need)]), (71, .tup [.agg [.d (.int .i64 r75.1.Mode), .d (.int .i64 r75.1.Last), .d (.int .u8 r75.1.Need)], .d (.bool r75.2)])] fun o => o ++ [some (.box [.d (.int .i64 r75.1.Mode), .d (.int .i64 r75.1.Last), .d (.int .u8 r75.1.Need)])]
def f6_s65 : St := pe (f6_s64 r70 r71 r72 i_13 reached_4 k_3 x37 r75) [(82, .agg [.d (.int .i64 r75.1.Mode), .d (.int .i64 r75.1.Last), .d (.int .u8 r75.1.Need)]), (81, .d (.sl (List.map eGState r72)))]
variable (r76 : Int)
def f6_s66 : St := pe (f6_s65 r70 r71 r72 i_13 reached_4 k_3 x37 r75) [(83, .d (.int .i64 r76))]
def f6_s67 : St := pe (f6_s66 r70 r71 r72 i_13 reached_4 k_3 x37 r75 r76) [(12, .d (.int .i64 r76))]
def f6_s68 : St := pe (f6_s67 r70 r71 r72 i_13 reached_4 k_3 x37 r75 r76) [(86, .gv r75.2 (.d (.int .i64 r76))), (85, .d (.bool r75.2)), (84, .d (.bool r75.2))]
def f6_s69 : St := pe (f6_s68 r70 r71 r72 i_13 reached_4 k_3 x37 r75 r76) [(87, .gv r75.2 (.d (.bool (decide (r76 < 0)))))]
def f6_s70 : St := pe (f6_s69 r70 r71 r72 i_13 reached_4 k_3 x37 r75 r76) [(88, .d (.bool (r75.2 && (decide (r76 < 0)))))]
def f6_s71 : St := pe (f6_s70 r70 r71 r72 i_13 reached_4 k_3 x37 r75 r76) [(2, .d (.bool false))]
def f6_s72 : St := pe (f6_s70 r70 r71 r72 i_13 reached_4 k_3 x37 r75 r76) [(92, .gv r75.2 (.d (.int .i64 i_13))), (91, .gv r75.2 (.d (.int .i64 r76))), (90, .d (.bool r75.2)), (89, .d (.bool r75.2))]
def f6_s73 : St := pe (f6_s72 r70 r71 r72 i_13 reached_4 k_3 x37 r75 r76) [(93, .gv r75.2 (.d (.bool (decide (r76 > i_13)))))]
def f6_s74 : St := pe (f6_s73 r70 r71 r72 i_13 reached_4 k_3 x37 r75 r76) [(94, .d (.bool (r75.2 && (decide (r76 > i_13)))))]
def f6_s75 : St := pe (f6_s74 r70 r71 r72 i_13 reached_4 k_3 x37 r75 r76) [(96, .d (.int .i64 r76)), (95, .osl 1 1 0 (List.length reached_4))]
def f6_s76 : St := pe (f6_s75 r70 r71 r72 i_13 reached_4 k_3 x37 r75 r76) [(97, .eptr 1 1 (0 + Int.toNat r76) 0)]
variable (l24 : (List Bool))
def f6_s77 : St := po (f6_s76 r70 r71 r72 i_13 reached_4 k_3 x37 r75 r76) [] fun o => o.set 1 (some (.arr 1 (List.map eB l24)))
def f6_L3_E (r70 : Bool) (r71 : GTable) (r72 : (List GState)) (i_13 : Int) : ((List Bool) ⊕ Bool) → Ex → St → Prop := fun y => Sum.casesOn y (fun (y : (List Bool)) e s => e = Ex.exit 4 ∧ Shift s (f6_s54 r70 r71 r72 i_13 y)) (fun (y : Bool) e s => e = Ex.ret ∧ retA ty (Try.f6).results.toList (.d (.bool y)) s)
theorem f6_L3_ok {n : Nat} {r70 : Bool} {r71 : GTable} {r72 : (List GState)} {i_13 : Int} (x : ((List Bool) × Int)) (z : (((List Bool) × Int) ⊕ ((List Bool) ⊕ Bool))) (H : f6_L3 n r70 r71 r72 i_13 x.1 x.2 = some z) : wpA (cx 99) (nav [1,1,1,1,1,1,1,0,1,0,0,1,0,0,1,1,0,0] (bodyOf Try.f6)) (roundQ (fun (x : ((List Bool) × Int)) => f6_s53 r70 r71 r72 i_13 x.1 x.2) (f6_L3_E r70 r71 r72 i_13) z) (f6_s53 r70 r71 r72 i_13 x.1 x.2) := by
  obtain ⟨reached_4, k_3⟩ := x
  dsimp only [f6_L3] at H
  refine at_seq (p0 := [1,1,1,1,1,1,1,0,1,0,0,1,0,0,1,1,0,0,0]) (p1 := [1,1,1,1,1,1,1,0,1,0,0,1,0,0,1,1,0,0,1]) (by kernel_rfl) ?_
  refine at_seq (p0 := [1,1,1,1,1,1,1,0,1,0,0,1,0,0,1,1,0,0,0,0]) (p1 := [1,1,1,1,1,1,1,0,1,0,0,1,0,0,1,1,0,0,0,1]) (by kernel_rfl) ?_
  refine at_region (by kernel_rfl) sh_refl ?_
  refine chunk (s' := f6_s55 r70 r71 r72 i_13 reached_4 k_3) 3 3 (by kernel_rfl) rfl ?_
  refine spec (s' := f6_s56 r70 r71 r72 i_13 reached_4 k_3) (v := .d (.int .i64 ((List.length r71.Rules : Nat) : Int))) (obs := []) (rm := []) (upd := none) 4 (by kernel_rfl) (is_len (enc := eGRule) (esz := 6) (eb := 64) (ez := [.str [], .nil, .int .u8 0, .int .u8 0, .int .i64 0, .int .i64 0]) (xs := r71.Rules)) (by kernel_rfl) rfl ?_
  refine chunk (s' := f6_s57 r70 r71 r72 i_13 reached_4 k_3) 1 5 (by kernel_rfl) rfl ?_
  refine at_end 5 (by kernel_rfl) ?_
  refine q_seq sh_refl ?_
  rcases ite_some H with ⟨hc60, H⟩ | ⟨hc60, H⟩
  · refine at_condT (decide (k_3 < ((List.length r71.Rules : Nat) : Int))) (p0 := [1,1,1,1,1,1,1,0,1,0,0,1,0,0,1,1,0,0,0,1,0]) (p1 := [1,1,1,1,1,1,1,0,1,0,0,1,0,0,1,1,0,0,0,1,1]) (by kernel_rfl) (by kernel_rfl) hc60 ?_
    refine at_skip (by kernel_rfl) ?_
    refine q_seq sh_refl ?_
    refine at_seqJ (p0 := [1,1,1,1,1,1,1,0,1,0,0,1,0,0,1,1,0,0,1,0]) (p1 := [1,1,1,1,1,1,1,0,1,0,0,1,0,0,1,1,0,0,1,1]) (fun (x : (List Bool)) => f6_s58 r70 r71 r72 i_13 k_3 x) (fun (x : (List Bool)) => f6_J1 n k_3 x) z (by kernel_rfl) ?_ (fun hf6_J1 => ?_)
    · intro reached_6 H
      dsimp only [f6_J1] at H
      refine at_region (by kernel_rfl) sh_refl ?_
      refine chunk (s' := f6_s59 r70 r71 r72 i_13 k_3 reached_6) 3 3 (by kernel_rfl) rfl ?_
      refine at_end 3 (by kernel_rfl) ?_
      have hz := Option.some.inj H
      subst hz
      exact round_go (sh_gc [3,4,5,6,8,9] (by kernel_rfl))
    refine at_block 5 (p0 := [1,1,1,1,1,1,1,0,1,0,0,1,0,0,1,1,0,0,1,0,0]) (by kernel_rfl) ?_
    refine at_seq (p0 := [1,1,1,1,1,1,1,0,1,0,0,1,0,0,1,1,0,0,1,0,0,0]) (p1 := [1,1,1,1,1,1,1,0,1,0,0,1,0,0,1,1,0,0,1,0,0,1]) (by kernel_rfl) ?_
    refine at_region (by kernel_rfl) sh_refl ?_
    refine chunk (s' := f6_s60 r70 r71 r72 i_13 reached_4 k_3) 3 3 (by kernel_rfl) rfl ?_
    obtain ⟨x37, h166, H⟩ := bind_some H
    refine spec (s' := f6_s61 r70 r71 r72 i_13 reached_4 k_3 x37) (v := .dptr (eGState x37) 0) (obs := []) (rm := []) (upd := none) 4 (by kernel_rfl) (is_idxD (enc := eGState) (esz := 3) (eb := 24) (ez := [.int .i64 0, .int .i64 0, .int .u8 0]) h166 (by kernel_rfl)) (by kernel_rfl) rfl ?_
    refine chunk (s' := f6_s62 r70 r71 r72 i_13 reached_4 k_3 x37) 2 6 (by kernel_rfl) rfl ?_
    obtain ⟨r75, h167, H⟩ := bind_some H
    refine callS (s' := f6_s63 r70 r71 r72 i_13 reached_4 k_3 x37 r75) (f := 17) (xs := [.agg [.d (.int .i64 r71.Modes), .d (.int .u8 r71.Accept), .d (.sl (List.map eGRule r71.Rules))], .agg [.d (.int .i64 x37.Mode), .d (.int .i64 x37.Last), .d (.int .u8 x37.Need)], .d (.int .i64 k_3)]) (ys := [.agg [.d (.int .i64 r71.Modes), .d (.int .u8 r71.Accept), .d (.sl (List.map eGRule r71.Rules))], .agg [.d (.int .i64 x37.Mode), .d (.int .i64 x37.Last), .d (.int .u8 x37.Need)], .d (.int .i64 k_3)]) (ks := []) (obl := []) (r := .tup [.agg [.d (.int .i64 r75.1.Mode), .d (.int .i64 r75.1.Last), .d (.int .u8 r75.1.Need)], .d (.bool r75.2)]) (ls := []) 7 false (by kernel_rfl) (leZ) rfl (FAutomaton_Step_ok h167) (Or.inl rfl) rfl (by kernel_rfl) rfl ?_
    refine chunk (s' := f6_s64 r70 r71 r72 i_13 reached_4 k_3 x37 r75) 6 13 (by kernel_rfl) rfl ?_
    refine at_end 13 (by kernel_rfl) ?_
    refine q_seq sh_refl ?_
    refine at_seq (p0 := [1,1,1,1,1,1,1,0,1,0,0,1,0,0,1,1,0,0,1,0,0,1,0]) (p1 := [1,1,1,1,1,1,1,0,1,0,0,1,0,0,1,1,0,0,1,0,0,1,1]) (by kernel_rfl) ?_
    refine at_region (by kernel_rfl) sh_refl ?_
    refine chunk (s' := f6_s65 r70 r71 r72 i_13 reached_4 k_3 x37 r75) 2 2 (by kernel_rfl) rfl ?_
    obtain ⟨r76, h168, H⟩ := bind_some H
    refine callS (s' := f6_s66 r70 r71 r72 i_13 reached_4 k_3 x37 r75 r76) (f := 34) (xs := [.d (.sl (List.map eGState r72)), .agg [.d (.int .i64 r75.1.Mode), .d (.int .i64 r75.1.Last), .d (.int .u8 r75.1.Need)]]) (ys := [.d (.sl (List.map eGState r72)), .agg [.d (.int .i64 r75.1.Mode), .d (.int .i64 r75.1.Last), .d (.int .u8 r75.1.Need)]]) (ks := []) (obl := []) (r := .d (.int .i64 r76)) (ls := []) 3 false (by kernel_rfl) (leZ) rfl (FSixdotref03_Index_ok h168) (Or.inl rfl) rfl (by kernel_rfl) rfl ?_
    refine chunk (s' := f6_s67 r70 r71 r72 i_13 reached_4 k_3 x37 r75 r76) 1 4 (by kernel_rfl) rfl ?_
    refine at_end 4 (by kernel_rfl) ?_
    refine q_seq sh_refl ?_
    refine at_seq (p0 := [1,1,1,1,1,1,1,0,1,0,0,1,0,0,1,1,0,0,1,0,0,1,1,0]) (p1 := [1,1,1,1,1,1,1,0,1,0,0,1,0,0,1,1,0,0,1,0,0,1,1,1]) (by kernel_rfl) ?_
    refine at_seq (p0 := [1,1,1,1,1,1,1,0,1,0,0,1,0,0,1,1,0,0,1,0,0,1,1,0,0]) (p1 := [1,1,1,1,1,1,1,0,1,0,0,1,0,0,1,1,0,0,1,0,0,1,1,0,1]) (by kernel_rfl) ?_
    refine at_region (by kernel_rfl) sh_refl ?_
    refine chunk (s' := f6_s68 r70 r71 r72 i_13 reached_4 k_3 x37 r75 r76) 3 3 (by kernel_rfl) rfl ?_
    refine specG (g := r75.2) (gs := [r75.2]) (s' := f6_s69 r70 r71 r72 i_13 reached_4 k_3 x37 r75 r76) (v := .d (.bool (decide (r76 < 0)))) (obs := []) 4 (by kernel_rfl) rfl (fun hg => is_pl (by kernel_rfl)) (by kernel_rfl) (impK (fun hh => hh) (impZ)) (by kernel_rfl) rfl ?_
    refine specP (s' := f6_s70 r70 r71 r72 i_13 reached_4 k_3 x37 r75 r76) 5 (by kernel_rfl) (pick_and (t := r75.2) (x := decide (r76 < 0)) (y := false)) (by kernel_rfl) rfl ?_
    refine at_end 5 (by kernel_rfl) ?_
    refine q_seq sh_refl ?_
    rcases ite_some H with ⟨hc59, H⟩ | ⟨hc59, H⟩
    · refine at_condT (r75.2 && (decide (r76 < 0))) (p0 := [1,1,1,1,1,1,1,0,1,0,0,1,0,0,1,1,0,0,1,0,0,1,1,0,1,0]) (p1 := [1,1,1,1,1,1,1,0,1,0,0,1,0,0,1,1,0,0,1,0,0,1,1,0,1,1]) (by kernel_rfl) (by kernel_rfl) hc59 ?_
      refine at_seq (p0 := [1,1,1,1,1,1,1,0,1,0,0,1,0,0,1,1,0,0,1,0,0,1,1,0,1,0,0]) (p1 := [1,1,1,1,1,1,1,0,1,0,0,1,0,0,1,1,0,0,1,0,0,1,1,0,1,0,1]) (by kernel_rfl) ?_
      refine at_region (by kernel_rfl) sh_refl ?_
      refine chunk (s' := f6_s71 r70 r71 r72 i_13 reached_4 k_3 x37 r75 r76) 1 1 (by kernel_rfl) rfl ?_
      refine at_end 1 (by kernel_rfl) ?_
      refine q_seq sh_refl ?_
      refine at_ret (by kernel_rfl) ?_
      refine q_seqR ?_
      refine q_blockR ?_
      refine q_seqR ?_
      have hz := Option.some.inj H
      subst hz
      exact round_ret ⟨rfl, ret1 (v := .d (.bool false)) (r := .d (.bool false)) [] (by kernel_rfl) (outA_d (outV_d)) (by kernel_rfl) (by decide)⟩
    · refine at_condF (r75.2 && (decide (r76 < 0))) (p0 := [1,1,1,1,1,1,1,0,1,0,0,1,0,0,1,1,0,0,1,0,0,1,1,0,1,0]) (p1 := [1,1,1,1,1,1,1,0,1,0,0,1,0,0,1,1,0,0,1,0,0,1,1,0,1,1]) (by kernel_rfl) (by kernel_rfl) hc59 ?_
      refine at_skip (by kernel_rfl) ?_
      refine q_seq sh_refl ?_
      refine at_seq (p0 := [1,1,1,1,1,1,1,0,1,0,0,1,0,0,1,1,0,0,1,0,0,1,1,1,0]) (p1 := [1,1,1,1,1,1,1,0,1,0,0,1,0,0,1,1,0,0,1,0,0,1,1,1,1]) (by kernel_rfl) ?_
      refine at_region (by kernel_rfl) sh_refl ?_
      refine chunk (s' := f6_s72 r70 r71 r72 i_13 reached_4 k_3 x37 r75 r76) 4 4 (by kernel_rfl) rfl ?_
      refine specG (g := r75.2) (gs := [r75.2, r75.2]) (s' := f6_s73 r70 r71 r72 i_13 reached_4 k_3 x37 r75 r76) (v := .d (.bool (decide (r76 > i_13)))) (obs := []) 5 (by kernel_rfl) rfl (fun hg => is_pl (by kernel_rfl)) (by kernel_rfl) (impK (fun hh => hh) (impK (fun hh => hh) (impZ))) (by kernel_rfl) rfl ?_
      refine specP (s' := f6_s74 r70 r71 r72 i_13 reached_4 k_3 x37 r75 r76) 6 (by kernel_rfl) (pick_and (t := r75.2) (x := decide (r76 > i_13)) (y := false)) (by kernel_rfl) rfl ?_
      refine at_end 6 (by kernel_rfl) ?_
      refine q_seq sh_refl ?_
      rcases ite_some H with ⟨hc58, H⟩ | ⟨hc58, H⟩
      · refine at_condT (r75.2 && (decide (r76 > i_13))) (p0 := [1,1,1,1,1,1,1,0,1,0,0,1,0,0,1,1,0,0,1,0,0,1,1,1,1,0]) (p1 := [1,1,1,1,1,1,1,0,1,0,0,1,0,0,1,1,0,0,1,0,0,1,1,1,1,1]) (by kernel_rfl) (by kernel_rfl) hc58 ?_
        refine at_region (by kernel_rfl) sh_refl ?_
        refine chunk (s' := f6_s75 r70 r71 r72 i_13 reached_4 k_3 x37 r75 r76) 2 2 (by kernel_rfl) rfl ?_
        obtain ⟨x38, h169, H⟩ := bind_some H
        refine spec (s' := f6_s76 r70 r71 r72 i_13 reached_4 k_3 x37 r75 r76) (v := .eptr 1 1 (0 + Int.toNat r76) 0) (obs := []) (rm := []) (upd := none) 3 (by kernel_rfl) (is_idxO (k := 1) (esz := 1) (eb := 1) (ez := [.bool false]) h169) (by kernel_rfl) rfl ?_
        obtain ⟨l24, h170, H⟩ := bind_some H
        refine spec (s' := f6_s77 r70 r71 r72 i_13 reached_4 k_3 x37 r75 r76 l24) (v := .top) (obs := []) (rm := []) (upd := some (1, .arr 1 (List.map eB l24))) 4 (by kernel_rfl) (is_stA (enc := eB) (objs := (f6_s76 r70 r71 r72 i_13 reached_4 k_3 x37 r75 r76).objs) (y := true) (k := 1) (sz := 1) (off := 0) (t := ty 4) (v := .d (.bool true)) (r := [.bool true]) (ks := []) (obl := []) (by kernel_rfl) h169 h170 (by kernel_rfl) leZ (by kernel_rfl) (by kernel_rfl) (by kernel_rfl)) (by kernel_rfl) rfl ?_
        refine at_end 4 (by kernel_rfl) ?_
        refine q_blockN ?_
        exact q_seq (Shift.trans (sh_sub (k := 1) (sz := 1) 6 (List.map eB l24) (List.length l24) (by kernel_rfl) (cut_put (put_len h170)) (le_put (enc := eB) (put_len h170)) ((put_len h170))) (sh_gc [3,4,5,6,8,9] (by kernel_rfl))) (hf6_J1 l24 H)
      · refine at_condF (r75.2 && (decide (r76 > i_13))) (p0 := [1,1,1,1,1,1,1,0,1,0,0,1,0,0,1,1,0,0,1,0,0,1,1,1,1,0]) (p1 := [1,1,1,1,1,1,1,0,1,0,0,1,0,0,1,1,0,0,1,0,0,1,1,1,1,1]) (by kernel_rfl) (by kernel_rfl) hc58 ?_
        refine at_skip (by kernel_rfl) ?_
        refine q_blockN ?_
        exact q_seq (sh_gc [3,4,5,6,8,9] (by kernel_rfl)) (hf6_J1 reached_4 H)
  · refine at_condF (decide (k_3 < ((List.length r71.Rules : Nat) : Int))) (p0 := [1,1,1,1,1,1,1,0,1,0,0,1,0,0,1,1,0,0,0,1,0]) (p1 := [1,1,1,1,1,1,1,0,1,0,0,1,0,0,1,1,0,0,0,1,1]) (by kernel_rfl) (by kernel_rfl) hc60 ?_
    refine at_exit 4 (by kernel_rfl) ?_
    refine q_seqX ?_
    have hz := Option.some.inj H
    subst hz
    exact round_exit ⟨rfl, sh_gc [3,4,5,6,8] (by kernel_rfl)⟩
variable (y37 : (List Bool))
def f6_s78 : St := pe (f6_s54 r70 r71 r72 i_13 y37) [(8, .d (.int .i64 (iadd .i64 i_13 1))), (58, .d (.int .i64 (iadd .i64 i_13 1))), (57, .d (.int .i64 i_13))]
def f6_L2_E (r70 : Bool) (r71 : GTable) (r72 : (List GState)) : (Unit ⊕ Bool) → Ex → St → Prop := fun y => Sum.casesOn y (fun (y : Unit) e s => e = Ex.exit 2 ∧ Shift s (f6_s43 r70)) (fun (y : Bool) e s => e = Ex.ret ∧ retA ty (Try.f6).results.toList (.d (.bool y)) s)
theorem f6_L2_ok {n : Nat} {r70 : Bool} {r71 : GTable} {r72 : (List GState)} (x : ((List Bool) × Int)) (z : (((List Bool) × Int) ⊕ (Unit ⊕ Bool))) (H : f6_L2 n r70 r71 r72 x.1 x.2 = some z) : wpA (cx 99) (nav [1,1,1,1,1,1,1,0,1,0,0] (bodyOf Try.f6)) (roundQ (fun (x : ((List Bool) × Int)) => f6_s42 r70 r71 r72 x.1 x.2) (f6_L2_E r70 r71 r72) z) (f6_s42 r70 r71 r72 x.1 x.2) := by
  obtain ⟨reached_3, i_13⟩ := x
  dsimp only [f6_L2] at H
  refine at_seq (p0 := [1,1,1,1,1,1,1,0,1,0,0,0]) (p1 := [1,1,1,1,1,1,1,0,1,0,0,1]) (by kernel_rfl) ?_
  refine at_seq (p0 := [1,1,1,1,1,1,1,0,1,0,0,0,0]) (p1 := [1,1,1,1,1,1,1,0,1,0,0,0,1]) (by kernel_rfl) ?_
  refine at_region (by kernel_rfl) sh_refl ?_
  refine chunk (s' := f6_s44 r70 r71 r72 reached_3 i_13) 2 2 (by kernel_rfl) rfl ?_
  refine spec (s' := f6_s45 r70 r71 r72 reached_3 i_13) (v := .d (.int .i64 ((List.length r72 : Nat) : Int))) (obs := []) (rm := []) (upd := none) 3 (by kernel_rfl) (is_len (enc := eGState) (esz := 3) (eb := 24) (ez := [.int .i64 0, .int .i64 0, .int .u8 0]) (xs := r72)) (by kernel_rfl) rfl ?_
  refine chunk (s' := f6_s46 r70 r71 r72 reached_3 i_13) 1 4 (by kernel_rfl) rfl ?_
  refine at_end 4 (by kernel_rfl) ?_
  refine q_seq sh_refl ?_
  rcases ite_some H with ⟨hc62, H⟩ | ⟨hc62, H⟩
  · refine at_condT (decide (i_13 < ((List.length r72 : Nat) : Int))) (p0 := [1,1,1,1,1,1,1,0,1,0,0,0,1,0]) (p1 := [1,1,1,1,1,1,1,0,1,0,0,0,1,1]) (by kernel_rfl) (by kernel_rfl) hc62 ?_
    refine at_skip (by kernel_rfl) ?_
    refine q_seq sh_refl ?_
    refine at_seq (p0 := [1,1,1,1,1,1,1,0,1,0,0,1,0]) (p1 := [1,1,1,1,1,1,1,0,1,0,0,1,1]) (by kernel_rfl) ?_
    refine at_block 3 (p0 := [1,1,1,1,1,1,1,0,1,0,0,1,0,0]) (by kernel_rfl) ?_
    refine at_seq (p0 := [1,1,1,1,1,1,1,0,1,0,0,1,0,0,0]) (p1 := [1,1,1,1,1,1,1,0,1,0,0,1,0,0,1]) (by kernel_rfl) ?_
    refine at_seq (p0 := [1,1,1,1,1,1,1,0,1,0,0,1,0,0,0,0]) (p1 := [1,1,1,1,1,1,1,0,1,0,0,1,0,0,0,1]) (by kernel_rfl) ?_
    refine at_region (by kernel_rfl) sh_refl ?_
    refine chunk (s' := f6_s47 r70 r71 r72 reached_3 i_13) 2 2 (by kernel_rfl) rfl ?_
    obtain ⟨x36, h165, H⟩ := bind_some H
    refine spec (s' := f6_s48 r70 r71 r72 reached_3 i_13) (v := .eptr 1 1 (0 + Int.toNat i_13) 0) (obs := []) (rm := []) (upd := none) 3 (by kernel_rfl) (is_idxO (k := 1) (esz := 1) (eb := 1) (ez := [.bool false]) h165) (by kernel_rfl) rfl ?_
    refine spec (s' := f6_s49 r70 r71 r72 reached_3 i_13 x36) (v := .d (.bool x36)) (obs := []) (rm := []) (upd := none) 4 (by kernel_rfl) (is_ldA (enc := eB) (objs := (f6_s48 r70 r71 r72 reached_3 i_13).objs) (i := i_13) (k := 1) (sz := 1) (off := 0) (t := ty 4) (v := .d (.bool x36)) (by kernel_rfl) h165 (by kernel_rfl) (by kernel_rfl)) (by kernel_rfl) rfl ?_
    refine chunk (s' := f6_s50 r70 r71 r72 reached_3 i_13 x36) 1 5 (by kernel_rfl) rfl ?_
    refine at_end 5 (by kernel_rfl) ?_
    refine q_seq sh_refl ?_
    rcases ite_some H with ⟨hc61, H⟩ | ⟨hc61, H⟩
    · refine at_condT (!x36) (p0 := [1,1,1,1,1,1,1,0,1,0,0,1,0,0,0,1,0]) (p1 := [1,1,1,1,1,1,1,0,1,0,0,1,0,0,0,1,1]) (by kernel_rfl) (by kernel_rfl) hc61 ?_
      refine at_seq (p0 := [1,1,1,1,1,1,1,0,1,0,0,1,0,0,0,1,0,0]) (p1 := [1,1,1,1,1,1,1,0,1,0,0,1,0,0,0,1,0,1]) (by kernel_rfl) ?_
      refine at_region (by kernel_rfl) sh_refl ?_
      refine chunk (s' := f6_s51 r70 r71 r72 reached_3 i_13 x36) 1 1 (by kernel_rfl) rfl ?_
      refine at_end 1 (by kernel_rfl) ?_
      refine q_seq sh_refl ?_
      refine at_ret (by kernel_rfl) ?_
      refine q_seqR ?_
      refine q_blockR ?_
      refine q_seqR ?_
      have hz := Option.some.inj H
      subst hz
      exact round_ret ⟨rfl, ret1 (v := .d (.bool false)) (r := .d (.bool false)) [] (by kernel_rfl) (outA_d (outV_d)) (by kernel_rfl) (by decide)⟩
    · refine at_condF (!x36) (p0 := [1,1,1,1,1,1,1,0,1,0,0,1,0,0,0,1,0]) (p1 := [1,1,1,1,1,1,1,0,1,0,0,1,0,0,0,1,1]) (by kernel_rfl) (by kernel_rfl) hc61 ?_
      refine at_skip (by kernel_rfl) ?_
      refine q_seq sh_refl ?_
      refine at_seq (p0 := [1,1,1,1,1,1,1,0,1,0,0,1,0,0,1,0]) (p1 := [1,1,1,1,1,1,1,0,1,0,0,1,0,0,1,1]) (by kernel_rfl) ?_
      refine at_region (by kernel_rfl) sh_refl ?_
      refine chunk (s' := f6_s52 r70 r71 r72 reached_3 i_13 x36) 1 1 (by kernel_rfl) rfl ?_
      refine at_end 1 (by kernel_rfl) ?_
      refine q_seq sh_refl ?_
      refine at_block 4 (p0 := [1,1,1,1,1,1,1,0,1,0,0,1,0,0,1,1,0]) (by kernel_rfl) ?_
      obtain ⟨y36, h171, H⟩ := bind_some H
      rcases y36 with y37 | y38
      · refine at_loop (p0 := [1,1,1,1,1,1,1,0,1,0,0,1,0,0,1,1,0,0]) (fun (x : ((List Bool) × Int)) => f6_s53 r70 r71 r72 i_13 x.1 x.2) (f6_L3_E r70 r71 r72 i_13) (by kernel_rfl) h171 (sh_gc [3,4,5,6,8,9] (by kernel_rfl)) (fun x z => f6_L3_ok x z) ?_
        intro e s hE27
        obtain ⟨rfl, hE27⟩ := hE27
        refine q_blockH ?_
        refine q_blockN ?_
        refine q_seq (s' := f6_s54 r70 r71 r72 i_13 y37) (hE27) ?_
        refine at_region (by kernel_rfl) sh_refl ?_
        refine chunk (s' := f6_s78 r70 r71 r72 i_13 y37) 3 3 (by kernel_rfl) rfl ?_
        refine at_end 3 (by kernel_rfl) ?_
        have hz := Option.some.inj H
        subst hz
        exact round_go (sh_gc [3,4,5,6,8] (by kernel_rfl))
      · refine at_loop (p0 := [1,1,1,1,1,1,1,0,1,0,0,1,0,0,1,1,0,0]) (fun (x : ((List Bool) × Int)) => f6_s53 r70 r71 r72 i_13 x.1 x.2) (f6_L3_E r70 r71 r72 i_13) (by kernel_rfl) h171 (sh_gc [3,4,5,6,8,9] (by kernel_rfl)) (fun x z => f6_L3_ok x z) ?_
        intro e s hE28
        obtain ⟨rfl, hE28⟩ := hE28
        refine q_blockR ?_
        refine q_blockR ?_
        refine q_seqR ?_
        have hz := Option.some.inj H
        subst hz
        exact round_ret ⟨rfl, hE28⟩
  · refine at_condF (decide (i_13 < ((List.length r72 : Nat) : Int))) (p0 := [1,1,1,1,1,1,1,0,1,0,0,0,1,0]) (p1 := [1,1,1,1,1,1,1,0,1,0,0,0,1,1]) (by kernel_rfl) (by kernel_rfl) hc62 ?_
    refine at_exit 2 (by kernel_rfl) ?_
    refine q_seqX ?_
    have hz := Option.some.inj H
    subst hz
    exact round_exit ⟨rfl, sh_gc [3] (by kernel_rfl)⟩
def f6_s79 : St := po (f6_s43 r70) [(2, .d (.bool r70)), (98, .d (.bool r70))] fun _ => []
theorem FSixdotlaw03_AutomatonStates_ok {n : Nat} {p0_ : GRaw} {z : Bool} (H : FSixdotlaw03_AutomatonStates n p0_ = some z) : CallOK Try.prog 6 [.agg [.d (.int .u8 p0_.Base), .d (.int .u8 p0_.Drop), .d (.sl (List.map eGRawRule p0_.More))]] (.d (.bool z)) := by
  dsimp only [FSixdotlaw03_AutomatonStates] at H
  refine fn_ok (Γ := cx 99) (s := f6_s1 p0_) follows (cxOK 99) Try.func6 (by kernel_rfl) (by kernel_rfl) (by kernel_rfl) (by kernel_rfl) (by kernel_rfl) (by kernel_rfl) ?_
  refine at_seq (p0 := [0]) (p1 := [1]) (by kernel_rfl) ?_
  refine at_region (by kernel_rfl) sh_refl ?_
  refine chunk (s' := f6_s2 p0_) 2 2 (by kernel_rfl) rfl ?_
  refine at_end 2 (by kernel_rfl) ?_
  refine q_seq sh_refl ?_
  refine at_seq (p0 := [1,0]) (p1 := [1,1]) (by kernel_rfl) ?_
  refine at_region (by kernel_rfl) sh_refl ?_
  obtain ⟨r70, h156, H⟩ := bind_some H
  refine callS (s' := f6_s3 p0_ r70) (f := 15) (xs := []) (ys := []) (ks := []) (obl := []) (r := .d (.bool r70)) (ls := []) 1 true (by kernel_rfl) (leZ) rfl (FSixdotlaw03_sanity_ok h156) (Or.inl rfl) rfl (by kernel_rfl) rfl ?_
  refine chunk (s' := f6_s4 p0_ r70) 1 2 (by kernel_rfl) rfl ?_
  refine at_end 2 (by kernel_rfl) ?_
  refine q_seq sh_refl ?_
  refine at_seq (p0 := [1,1,0]) (p1 := [1,1,1]) (by kernel_rfl) ?_
  refine at_region (by kernel_rfl) sh_refl ?_
  refine chunk (s' := f6_s5 p0_ r70) 1 1 (by kernel_rfl) rfl ?_
  obtain ⟨r71, h157, H⟩ := bind_some H
  refine callS (s' := f6_s6 p0_ r70 r71) (f := 16) (xs := [.agg [.d (.int .u8 p0_.Base), .d (.int .u8 p0_.Drop), .d (.sl (List.map eGRawRule p0_.More))]]) (ys := [.agg [.d (.int .u8 p0_.Base), .d (.int .u8 p0_.Drop), .d (.sl (List.map eGRawRule p0_.More))]]) (ks := []) (obl := []) (r := .agg [.d (.int .i64 r71.Modes), .d (.int .u8 r71.Accept), .d (.sl (List.map eGRule r71.Rules))]) (ls := []) 2 false (by kernel_rfl) (leZ) rfl (FSixdotref02_Made_ok h157) (Or.inl rfl) rfl (by kernel_rfl) rfl ?_
  refine chunk (s' := f6_s7 p0_ r70 r71) 2 4 (by kernel_rfl) rfl ?_
  refine at_end 4 (by kernel_rfl) ?_
  refine q_seq sh_refl ?_
  refine at_seq (p0 := [1,1,1,0]) (p1 := [1,1,1,1]) (by kernel_rfl) ?_
  refine at_region (by kernel_rfl) sh_refl ?_
  refine chunk (s' := f6_s8 p0_ r70 r71) 1 1 (by kernel_rfl) rfl ?_
  obtain ⟨r72, h158, H⟩ := bind_some H
  refine callS (s' := f6_s9 p0_ r70 r71 r72) (f := 25) (xs := [.agg [.d (.int .i64 r71.Modes), .d (.int .u8 r71.Accept), .d (.sl (List.map eGRule r71.Rules))]]) (ys := [.agg [.d (.int .i64 r71.Modes), .d (.int .u8 r71.Accept), .d (.sl (List.map eGRule r71.Rules))]]) (ks := []) (obl := []) (r := .d (.sl (List.map eGState r72))) (ls := []) 2 false (by kernel_rfl) (leZ) rfl (FAutomaton_States_ok h158) (Or.inl rfl) rfl (by kernel_rfl) rfl ?_
  refine chunk (s' := f6_s10 p0_ r70 r71 r72) 1 3 (by kernel_rfl) rfl ?_
  refine at_end 3 (by kernel_rfl) ?_
  refine q_seq sh_refl ?_
  refine at_seq (p0 := [1,1,1,1,0]) (p1 := [1,1,1,1,1]) (by kernel_rfl) ?_
  refine at_seq (p0 := [1,1,1,1,0,0]) (p1 := [1,1,1,1,0,1]) (by kernel_rfl) ?_
  refine at_region (by kernel_rfl) sh_refl ?_
  refine chunk (s' := f6_s11 p0_ r70 r71 r72) 1 1 (by kernel_rfl) rfl ?_
  refine spec (s' := f6_s12 p0_ r70 r71 r72) (v := .d (.int .i64 ((List.length r72 : Nat) : Int))) (obs := []) (rm := []) (upd := none) 2 (by kernel_rfl) (is_len (enc := eGState) (esz := 3) (eb := 24) (ez := [.int .i64 0, .int .i64 0, .int .u8 0]) (xs := r72)) (by kernel_rfl) rfl ?_
  refine chunk (s' := f6_s13 p0_ r70 r71 r72) 3 5 (by kernel_rfl) rfl ?_
  refine specG (g := (!(((List.length r72 : Nat) : Int) == 0))) (gs := [(!(((List.length r72 : Nat) : Int) == 0))]) (s' := f6_s14 p0_ r70 r71 r72) (v := .d (.int .i64 ((List.length r72 : Nat) : Int))) (obs := []) 6 (by kernel_rfl) (by kernel_rfl) (fun hg => is_len (enc := eGState) (esz := 3) (eb := 24) (ez := [.int .i64 0, .int .i64 0, .int .u8 0]) (xs := r72)) (by kernel_rfl) (impK (fun hh => hh) (impZ)) (by kernel_rfl) rfl ?_
  refine specG (g := (!(((List.length r72 : Nat) : Int) == 0))) (gs := [(!(((List.length r72 : Nat) : Int) == 0))]) (s' := f6_s15 p0_ r70 r71 r72) (v := .d (.bool (decide (((List.length r72 : Nat) : Int) > 3000)))) (obs := []) 7 (by kernel_rfl) rfl (fun hg => is_pl (by kernel_rfl)) (by kernel_rfl) (impK (fun hh => hh) (impZ)) (by kernel_rfl) rfl ?_
  refine specP (s' := f6_s16 p0_ r70 r71 r72) 8 (by kernel_rfl) (pick_or (t := (((List.length r72 : Nat) : Int) == 0)) (x := true) (y := decide (((List.length r72 : Nat) : Int) > 3000))) (by kernel_rfl) rfl ?_
  refine chunk (s' := f6_s17 p0_ r70 r71 r72) 2 10 (by kernel_rfl) rfl ?_
  obtain ⟨x34, h159, H⟩ := bind_some H
  refine specG (g := (!((((List.length r72 : Nat) : Int) == 0) || (decide (((List.length r72 : Nat) : Int) > 3000))))) (gs := [(!((((List.length r72 : Nat) : Int) == 0) || (decide (((List.length r72 : Nat) : Int) > 3000))))]) (s' := f6_s18 p0_ r70 r71 r72 x34) (v := .dptr (eGState x34) 0) (obs := []) 11 (by kernel_rfl) (by kernel_rfl) (fun hg => is_idxD (enc := eGState) (esz := 3) (eb := 24) (ez := [.int .i64 0, .int .i64 0, .int .u8 0]) (gimp h159 hg) (by kernel_rfl)) (by kernel_rfl) (impK (fun hh => hh) (impZ)) (by kernel_rfl) rfl ?_
  refine specG (g := (!((((List.length r72 : Nat) : Int) == 0) || (decide (((List.length r72 : Nat) : Int) > 3000))))) (gs := [(!((((List.length r72 : Nat) : Int) == 0) || (decide (((List.length r72 : Nat) : Int) > 3000))))]) (s' := f6_s19 p0_ r70 r71 r72 x34) (v := .agg [.d (.int .i64 x34.Mode), .d (.int .i64 x34.Last), .d (.int .u8 x34.Need)]) (obs := []) 12 (by kernel_rfl) rfl (fun hg => is_pl (by kernel_rfl)) (by kernel_rfl) (impK (fun hh => hh) (impZ)) (by kernel_rfl) rfl ?_
  obtain ⟨r73, h160, H⟩ := bind_some H
  refine callG (g := (!((((List.length r72 : Nat) : Int) == 0) || (decide (((List.length r72 : Nat) : Int) > 3000))))) (gs := []) (s' := f6_s20 p0_ r70 r71 r72 x34 r73) (f := 31) (xs := []) (ys := []) (ks := []) (obl := []) (r := .agg [.d (.int .i64 r73.Mode), .d (.int .i64 r73.Last), .d (.int .u8 r73.Need)]) (ls := []) 13 false (by kernel_rfl) (by kernel_rfl) (leZ) rfl (fun hg => FAutomaton_Start_ok (gimp h160 hg)) (Or.inl rfl) (by kernel_rfl) (impZ) rfl (by kernel_rfl) rfl ?_
  refine specG (g := (!((((List.length r72 : Nat) : Int) == 0) || (decide (((List.length r72 : Nat) : Int) > 3000))))) (gs := [(!((((List.length r72 : Nat) : Int) == 0) || (decide (((List.length r72 : Nat) : Int) > 3000)))), (!((((List.length r72 : Nat) : Int) == 0) || (decide (((List.length r72 : Nat) : Int) > 3000))))]) (s' := f6_s21 p0_ r70 r71 r72 x34 r73) (v := .d (.bool (!((x34.Mode == r73.Mode) && ((x34.Last == r73.Last) && ((x34.Need == r73.Need) && true)))))) (obs := []) 14 (by kernel_rfl) rfl (fun hg => is_pl (by kernel_rfl)) (by kernel_rfl) (impK (fun hh => hh) (impK (fun hh => hh) (impZ))) (by kernel_rfl) rfl ?_
  refine specP (s' := f6_s22 p0_ r70 r71 r72 x34 r73) 15 (by kernel_rfl) (pick_or (t := ((((List.length r72 : Nat) : Int) == 0) || (decide (((List.length r72 : Nat) : Int) > 3000)))) (x := true) (y := (!((x34.Mode == r73.Mode) && ((x34.Last == r73.Last) && ((x34.Need == r73.Need) && true)))))) (by kernel_rfl) rfl ?_
  refine at_end 15 (by kernel_rfl) ?_
  refine q_seq sh_refl ?_
  rcases ite_some H with ⟨hc63, H⟩ | ⟨hc63, H⟩
  · refine at_condT (((((List.length r72 : Nat) : Int) == 0) || (decide (((List.length r72 : Nat) : Int) > 3000))) || (!((x34.Mode == r73.Mode) && ((x34.Last == r73.Last) && ((x34.Need == r73.Need) && true))))) (p0 := [1,1,1,1,0,1,0]) (p1 := [1,1,1,1,0,1,1]) (by kernel_rfl) (by kernel_rfl) hc63 ?_
    refine at_seq (p0 := [1,1,1,1,0,1,0,0]) (p1 := [1,1,1,1,0,1,0,1]) (by kernel_rfl) ?_
    refine at_region (by kernel_rfl) sh_refl ?_
    refine chunk (s' := f6_s23 p0_ r70 r71 r72 x34 r73) 1 1 (by kernel_rfl) rfl ?_
    refine at_end 1 (by kernel_rfl) ?_
    refine q_seq sh_refl ?_
    refine at_ret (by kernel_rfl) ?_
    refine q_seqR ?_
    have hz := Option.some.inj H
    subst hz
    exact post_ret (ret1 (v := .d (.bool false)) (r := .d (.bool false)) [] (by kernel_rfl) (outA_d (outV_d)) (by kernel_rfl) (by decide))
  · refine at_condF (((((List.length r72 : Nat) : Int) == 0) || (decide (((List.length r72 : Nat) : Int) > 3000))) || (!((x34.Mode == r73.Mode) && ((x34.Last == r73.Last) && ((x34.Need == r73.Need) && true))))) (p0 := [1,1,1,1,0,1,0]) (p1 := [1,1,1,1,0,1,1]) (by kernel_rfl) (by kernel_rfl) hc63 ?_
    refine at_skip (by kernel_rfl) ?_
    refine q_seq sh_refl ?_
    refine at_seq (p0 := [1,1,1,1,1,0]) (p1 := [1,1,1,1,1,1]) (by kernel_rfl) ?_
    refine at_region (by kernel_rfl) sh_refl ?_
    refine chunk (s' := f6_s24 p0_ r70 r71 r72 x34 r73) 2 2 (by kernel_rfl) rfl ?_
    refine at_end 2 (by kernel_rfl) ?_
    refine q_seq sh_refl ?_
    refine at_seq (p0 := [1,1,1,1,1,1,0]) (p1 := [1,1,1,1,1,1,1]) (by kernel_rfl) ?_
    refine at_seq (p0 := [1,1,1,1,1,1,0,0]) (p1 := [1,1,1,1,1,1,0,1]) (by kernel_rfl) ?_
    refine at_region (by kernel_rfl) sh_refl ?_
    refine chunk (s' := f6_s25 p0_ r70 r71 r72 x34 r73) 1 1 (by kernel_rfl) rfl ?_
    refine at_end 1 (by kernel_rfl) ?_
    refine q_seq sh_refl ?_
    refine at_block 0 (p0 := [1,1,1,1,1,1,0,1,0]) (by kernel_rfl) ?_
    obtain ⟨y33, h164, H⟩ := bind_some H
    rcases y33 with y34 | y35
    · refine at_loop (p0 := [1,1,1,1,1,1,0,1,0,0]) (fun (x : ((List Bool) × Int)) => f6_s26 r70 r71 r72 x.1 x.2) (f6_L1_E r70 r71 r72) (by kernel_rfl) h164 (sh_gc [3,4,5,6,7] (by kernel_rfl)) (fun x z => f6_L1_ok x z) ?_
      intro e s hE26
      obtain ⟨rfl, hE26⟩ := hE26
      refine q_blockH ?_
      refine q_seq (s' := f6_s27 r70 r71 r72 y34) (hE26) ?_
      refine at_seq (p0 := [1,1,1,1,1,1,1,0]) (p1 := [1,1,1,1,1,1,1,1]) (by kernel_rfl) ?_
      refine at_seq (p0 := [1,1,1,1,1,1,1,0,0]) (p1 := [1,1,1,1,1,1,1,0,1]) (by kernel_rfl) ?_
      refine at_region (by kernel_rfl) sh_refl ?_
      refine chunk (s' := f6_s41 r70 r71 r72 y34) 1 1 (by kernel_rfl) rfl ?_
      refine at_end 1 (by kernel_rfl) ?_
      refine q_seq sh_refl ?_
      refine at_block 2 (p0 := [1,1,1,1,1,1,1,0,1,0]) (by kernel_rfl) ?_
      obtain ⟨y39, h172, H⟩ := bind_some H
      rcases y39 with y40 | y41
      · refine at_loop (p0 := [1,1,1,1,1,1,1,0,1,0,0]) (fun (x : ((List Bool) × Int)) => f6_s42 r70 r71 r72 x.1 x.2) (f6_L2_E r70 r71 r72) (by kernel_rfl) h172 (sh_gc [3,4,5,6,8] (by kernel_rfl)) (fun x z => f6_L2_ok x z) ?_
        intro e s hE29
        obtain ⟨rfl, hE29⟩ := hE29
        refine q_blockH ?_
        refine q_seq (s' := f6_s43 r70) (hE29) ?_
        refine at_seq (p0 := [1,1,1,1,1,1,1,1,0]) (p1 := [1,1,1,1,1,1,1,1,1]) (by kernel_rfl) ?_
        refine at_region (by kernel_rfl) sh_refl ?_
        refine chunk (s' := f6_s79 r70) 2 2 (by kernel_rfl) rfl ?_
        refine at_end 2 (by kernel_rfl) ?_
        refine q_seq sh_refl ?_
        refine at_ret (by kernel_rfl) ?_
        have hz := Option.some.inj H
        subst hz
        exact post_ret (ret1 (v := .d (.bool r70)) (r := .d (.bool r70)) [] (by kernel_rfl) (outA_d (outV_d)) (by kernel_rfl) (by decide))
      · refine at_loop (p0 := [1,1,1,1,1,1,1,0,1,0,0]) (fun (x : ((List Bool) × Int)) => f6_s42 r70 r71 r72 x.1 x.2) (f6_L2_E r70 r71 r72) (by kernel_rfl) h172 (sh_gc [3,4,5,6,8] (by kernel_rfl)) (fun x z => f6_L2_ok x z) ?_
        intro e s hE30
        obtain ⟨rfl, hE30⟩ := hE30
        refine q_blockR ?_
        refine q_seqR ?_
        have hz := Option.some.inj H
        subst hz
        exact post_ret hE30
    · refine at_loop (p0 := [1,1,1,1,1,1,0,1,0,0]) (fun (x : ((List Bool) × Int)) => f6_s26 r70 r71 r72 x.1 x.2) (f6_L1_E r70 r71 r72) (by kernel_rfl) h164 (sh_gc [3,4,5,6,7] (by kernel_rfl)) (fun x z => f6_L1_ok x z) ?_
      intro e s hE31
      obtain ⟨rfl, hE31⟩ := hE31
      refine q_blockR ?_
      refine q_seqR ?_
      have hz := Option.some.inj H
      subst hz
      exact post_ret hE31
end
end Go.AI
end
section
namespace Go.AI
def Le {α : Type} (a b : Option α) : Prop := ∀ z, a = some z → b = some z
theorem Le.refl {α : Type} (a : Option α) : Le a a := fun _ h => h
theorem Le.bind {α β : Type} {a a' : Option α} {f f' : α → Option β} (h : Le a a') (hf : ∀ x, Le (f x) (f' x)) : Le (a.bind f) (a'.bind f') := by
  intro z hz
  obtain ⟨x, h1, h2⟩ := bind_some hz
  rw [h x h1]
  exact hf x z h2
theorem Le.ite {α : Type} {c : Prop} [Decidable c] {a a' b b' : Option α} (h : Le a a') (h' : Le b b') : Le (if c then a else b) (if c then a' else b') := by
  split
  · exact h
  · exact h'
theorem Le.whl {σ ρ : Type} {body body' : σ → Option (σ ⊕ ρ)} (hb : ∀ x, Le (body x) (body' x)) : ∀ {n m : Nat}, n ≤ m → ∀ x, Le (whl body n x) (whl body' m x) := by
  intro n
  induction n with
  | zero => intro m _ x z hz; cases hz
  | succ n ih =>
    intro m hm x z hz
    cases m with
    | zero => omega
    | succ m =>
      simp only [Go.AI.whl] at hz ⊢
      cases hx : body x with
      | none => rw [hx] at hz; cases hz
      | some y =>
        rw [hb x y hx]
        rw [hx] at hz
        cases y with
        | inl y => exact ih (by omega) y z hz
        | inr r => exact hz
theorem Le.sum {α β γ : Type} {y : α ⊕ β} {f f' : α → Option γ} {g g' : β → Option γ} (hf : ∀ a, Le (f a) (f' a)) (hg : ∀ b, Le (g b) (g' b)) : Le (match y with | .inl a => f a | .inr b => g b) (match y with | .inl a => f' a | .inr b => g' b) := by
  cases y with
  | inl a => exact hf a
  | inr b => exact hg b
def Ev {α : Type} (f : Nat → Option α) (z : α) : Prop := ∃ n, ∀ m, n ≤ m → f m = some z
theorem Ev.const {α : Type} {z : α} : Ev (fun _ => some z) z := ⟨0, fun _ _ => rfl⟩
theorem Ev.of {α : Type} {f : Nat → Option α} {z : α} (hm : ∀ n m, n ≤ m → Le (f n) (f m)) {n : Nat} (h : f n = some z) : Ev f z := ⟨n, fun m hnm => hm n m hnm z h⟩
theorem Ev.all {α : Type} {f : Nat → Option α} {z : α} (h : ∀ n, f n = some z) : Ev f z := ⟨0, fun m _ => h m⟩
theorem Ev.bind {α β : Type} {f : Nat → Option α} {g : Nat → α → Option β} {x : α} {z : β} (h : Ev f x) (hg : Ev (fun n => g n x) z) : Ev (fun n => (f n).bind (g n)) z := by
  obtain ⟨n, hn⟩ := h
  obtain ⟨m, hm⟩ := hg
  refine ⟨max n m, fun k hk => ?_⟩
  show (f k).bind (g k) = _
  rw [hn k (by omega)]
  exact hm k (by omega)
theorem Ev.out {α : Type} {f : Nat → Option α} {z : α} (h : Ev f z) : ∃ n, f n = some z := by
  obtain ⟨n, hn⟩ := h
  exact ⟨n, hn n (Nat.le_refl n)⟩
theorem Ev.congr {α : Type} {f g : Nat → Option α} {z : α} (h : Ev f z) (e : ∀ n, g n = f n) : Ev g z := by
  obtain ⟨n, hn⟩ := h
  exact ⟨n, fun m hm => by rw [e m]; exact hn m hm⟩
theorem Ev.whl {σ ρ : Type} {body : Nat → σ → Option (σ ⊕ ρ)} {r : ρ} (I : Nat → σ → Prop) (h : ∀ k x, I k x → (∃ y j, j < k ∧ I j y ∧ Ev (fun n => body n x) (.inl y)) ∨ Ev (fun n => body n x) (.inr r)) : ∀ (k : Nat) (x : σ), I k x → Ev (fun n => Go.AI.whl (body n) n x) r := by
  have key : ∀ (k : Nat) (x : σ), I k x → ∃ N c, ∀ n fuel, N ≤ n → c ≤ fuel → Go.AI.whl (body n) fuel x = some r := by
    intro k
    induction k using Nat.strongRecOn with
    | _ k ih =>
      intro x hx
      rcases h k x hx with ⟨y, j, hj, hy, N1, h1⟩ | ⟨N1, h1⟩
      · obtain ⟨N2, c, h2⟩ := ih j hj y hy
        refine ⟨max N1 N2, c + 1, fun n fuel hn hf => ?_⟩
        cases fuel with
        | zero => omega
        | succ fuel =>
          have e := h1 n (by omega)
          simp only at e
          simp only [Go.AI.whl, e]
          exact h2 n fuel (by omega) (by omega)
      · refine ⟨N1, 1, fun n fuel hn hf => ?_⟩
        cases fuel with
        | zero => omega
        | succ fuel =>
          have e := h1 n hn
          simp only at e
          simp only [Go.AI.whl, e]
  intro k x hx
  obtain ⟨N, c, hh⟩ := key k x hx
  exact ⟨max N c, fun m hm => hh m m (by omega) (by omega)⟩
end Go.AI
end
section
namespace Go.AI
theorem FSixdotlaw03_rule_le {n m : Nat} (h : n ≤ m) (p0_ : _) (p1_ : _) (p2_ : _) : Le (FSixdotlaw03_rule n p0_ p1_ p2_) (FSixdotlaw03_rule m p0_ p1_ p2_) := by
  unfold FSixdotlaw03_rule
  repeat first | exact Le.refl _ | refine Le.bind ?_ fun _ => ?_ | refine Le.ite ?_ ?_ | refine Le.whl (fun _ => ?_) h _ | refine Le.sum (fun _ => ?_) (fun _ => ?_) | split
theorem FAutomaton_Start_le {n m : Nat} (h : n ≤ m) : Le (FAutomaton_Start n) (FAutomaton_Start m) := by
  unfold FAutomaton_Start
  repeat first | exact Le.refl _ | refine Le.bind ?_ fun _ => ?_ | refine Le.ite ?_ ?_ | refine Le.whl (fun _ => ?_) h _ | refine Le.sum (fun _ => ?_) (fun _ => ?_) | split
theorem FAutomaton_has_le {n m : Nat} (h : n ≤ m) (p0_ : _) (p1_ : _) : Le (FAutomaton_has n p0_ p1_) (FAutomaton_has m p0_ p1_) := by
  unfold FAutomaton_has
  repeat first | exact Le.refl _ | refine Le.bind ?_ fun _ => ?_ | refine Le.ite ?_ ?_ | refine Le.whl (fun _ => ?_) h _ | refine Le.sum (fun _ => ?_) (fun _ => ?_) | split
theorem FTable_Class_le {n m : Nat} (h : n ≤ m) (p0_ : _) : Le (FTable_Class n p0_) (FTable_Class m p0_) := by
  unfold FTable_Class
  repeat first | exact Le.refl _ | refine Le.bind ?_ fun _ => ?_ | refine Le.ite ?_ ?_ | refine Le.whl (fun _ => ?_) h _ | refine Le.sum (fun _ => ?_) (fun _ => ?_) | split
theorem FAutomaton_Step_le {n m : Nat} (h : n ≤ m) (p0_ : _) (p1_ : _) (p2_ : _) : Le (FAutomaton_Step n p0_ p1_ p2_) (FAutomaton_Step m p0_ p1_ p2_) := by
  unfold FAutomaton_Step
  repeat first | exact Le.refl _ | exact FAutomaton_has_le h _ _ | exact FTable_Class_le h _ | refine Le.bind ?_ fun _ => ?_ | refine Le.ite ?_ ?_ | refine Le.whl (fun _ => ?_) h _ | refine Le.sum (fun _ => ?_) (fun _ => ?_) | split
theorem FAutomaton_Accepts_le {n m : Nat} (h : n ≤ m) (p0_ : _) (p1_ : _) : Le (FAutomaton_Accepts n p0_ p1_) (FAutomaton_Accepts m p0_ p1_) := by
  unfold FAutomaton_Accepts
  repeat first | exact Le.refl _ | exact FAutomaton_has_le h _ _ | refine Le.bind ?_ fun _ => ?_ | refine Le.ite ?_ ?_ | refine Le.whl (fun _ => ?_) h _ | refine Le.sum (fun _ => ?_) (fun _ => ?_) | split
theorem f22_L1_le {n m : Nat} (h : n ≤ m) (p0_ : _) (p1_ : _) (text_1 : _) (cells_1 : _) (s_1 : _) (at_1 : _) (x_1 : _) : Le (f22_L1 n p0_ p1_ text_1 cells_1 s_1 at_1 x_1) (f22_L1 m p0_ p1_ text_1 cells_1 s_1 at_1 x_1) := by
  unfold f22_L1
  repeat first | exact Le.refl _ | exact FAutomaton_Step_le h _ _ _ | refine Le.bind ?_ fun _ => ?_ | refine Le.ite ?_ ?_ | refine Le.whl (fun _ => ?_) h _ | refine Le.sum (fun _ => ?_) (fun _ => ?_) | split
theorem FAutomaton_Run_le {n m : Nat} (h : n ≤ m) (p0_ : _) (p1_ : _) : Le (FAutomaton_Run n p0_ p1_) (FAutomaton_Run m p0_ p1_) := by
  unfold FAutomaton_Run
  repeat first | exact Le.refl _ | exact FAutomaton_Start_le h | exact FAutomaton_Accepts_le h _ _ | exact f22_L1_le h _ _ _ _ _ _ _ | refine Le.bind ?_ fun _ => ?_ | refine Le.ite ?_ ?_ | refine Le.whl (fun _ => ?_) h _ | refine Le.sum (fun _ => ?_) (fun _ => ?_) | split
theorem f54_J1_le {n m : Nat} (h : n ≤ m) (x_2 : _) (states_5 : _) (from_5 : _) (number_4 : _) : Le (f54_J1 n x_2 states_5 from_5 number_4) (f54_J1 m x_2 states_5 from_5 number_4) := by
  unfold f54_J1
  repeat first | exact Le.refl _ | refine Le.bind ?_ fun _ => ?_ | refine Le.ite ?_ ?_ | refine Le.whl (fun _ => ?_) h _ | refine Le.sum (fun _ => ?_) (fun _ => ?_) | split
theorem f54_J2_le {n m : Nat} (h : n ≤ m) (k_1 : _) (x_2 : _) (states_6 : _) (from_6 : _) (number_5 : _) (n_1 : _) : Le (f54_J2 n k_1 x_2 states_6 from_6 number_5 n_1) (f54_J2 m k_1 x_2 states_6 from_6 number_5 n_1) := by
  unfold f54_J2
  repeat first | exact Le.refl _ | exact f54_J1_le h _ _ _ _ | refine Le.bind ?_ fun _ => ?_ | refine Le.ite ?_ ?_ | refine Le.whl (fun _ => ?_) h _ | refine Le.sum (fun _ => ?_) (fun _ => ?_) | split
theorem f54_L2_le {n m : Nat} (h : n ≤ m) (p0_ : _) (k_1 : _) (states_3 : _) (from_3 : _) (number_2 : _) (x_2 : _) : Le (f54_L2 n p0_ k_1 states_3 from_3 number_2 x_2) (f54_L2 m p0_ k_1 states_3 from_3 number_2 x_2) := by
  unfold f54_L2
  repeat first | exact Le.refl _ | exact FAutomaton_Step_le h _ _ _ | exact f54_J1_le h _ _ _ _ | exact f54_J2_le h _ _ _ _ _ _ | refine Le.bind ?_ fun _ => ?_ | refine Le.ite ?_ ?_ | refine Le.whl (fun _ => ?_) h _ | refine Le.sum (fun _ => ?_) (fun _ => ?_) | split
theorem f54_L1_le {n m : Nat} (h : n ≤ m) (p0_ : _) (states_1 : _) (from_1 : _) (number_1 : _) (k_1 : _) : Le (f54_L1 n p0_ states_1 from_1 number_1 k_1) (f54_L1 m p0_ states_1 from_1 number_1 k_1) := by
  unfold f54_L1
  repeat first | exact Le.refl _ | exact f54_L2_le h _ _ _ _ _ _ | refine Le.bind ?_ fun _ => ?_ | refine Le.ite ?_ ?_ | refine Le.whl (fun _ => ?_) h _ | refine Le.sum (fun _ => ?_) (fun _ => ?_) | split
theorem FAutomaton_explore_le {n m : Nat} (h : n ≤ m) (p0_ : _) : Le (FAutomaton_explore n p0_) (FAutomaton_explore m p0_) := by
  unfold FAutomaton_explore
  repeat first | exact Le.refl _ | exact FAutomaton_Start_le h | exact f54_L1_le h _ _ _ _ _ | refine Le.bind ?_ fun _ => ?_ | refine Le.ite ?_ ?_ | refine Le.whl (fun _ => ?_) h _ | refine Le.sum (fun _ => ?_) (fun _ => ?_) | split
theorem FAutomaton_States_le {n m : Nat} (h : n ≤ m) (p0_ : _) : Le (FAutomaton_States n p0_) (FAutomaton_States m p0_) := by
  unfold FAutomaton_States
  repeat first | exact Le.refl _ | exact FAutomaton_explore_le h _ | refine Le.bind ?_ fun _ => ?_ | refine Le.ite ?_ ?_ | refine Le.whl (fun _ => ?_) h _ | refine Le.sum (fun _ => ?_) (fun _ => ?_) | split
theorem f28_J1_le {n m : Nat} (h : n ≤ m) (x_3 : _) (alive_3 : _) (open_3 : _) : Le (f28_J1 n x_3 alive_3 open_3) (f28_J1 m x_3 alive_3 open_3) := by
  unfold f28_J1
  repeat first | exact Le.refl _ | refine Le.bind ?_ fun _ => ?_ | refine Le.ite ?_ ?_ | refine Le.whl (fun _ => ?_) h _ | refine Le.sum (fun _ => ?_) (fun _ => ?_) | split
theorem f28_L1_le {n m : Nat} (h : n ≤ m) (p0_ : _) (r13 : _) (alive_1 : _) (open_1 : _) (x_3 : _) : Le (f28_L1 n p0_ r13 alive_1 open_1 x_3) (f28_L1 m p0_ r13 alive_1 open_1 x_3) := by
  unfold f28_L1
  repeat first | exact Le.refl _ | exact FAutomaton_Accepts_le h _ _ | exact f28_J1_le h _ _ _ | refine Le.bind ?_ fun _ => ?_ | refine Le.ite ?_ ?_ | refine Le.whl (fun _ => ?_) h _ | refine Le.sum (fun _ => ?_) (fun _ => ?_) | split
theorem f28_J2_le {n m : Nat} (h : n ≤ m) (x_4 : _) (alive_8 : _) (open_7 : _) : Le (f28_J2 n x_4 alive_8 open_7) (f28_J2 m x_4 alive_8 open_7) := by
  unfold f28_J2
  repeat first | exact Le.refl _ | refine Le.bind ?_ fun _ => ?_ | refine Le.ite ?_ ?_ | refine Le.whl (fun _ => ?_) h _ | refine Le.sum (fun _ => ?_) (fun _ => ?_) | split
theorem f28_L3_le {n m : Nat} (h : n ≤ m) (r13 : _) (x10 : _) (alive_6 : _) (open_5 : _) (x_4 : _) : Le (f28_L3 n r13 x10 alive_6 open_5 x_4) (f28_L3 m r13 x10 alive_6 open_5 x_4) := by
  unfold f28_L3
  repeat first | exact Le.refl _ | exact f28_J2_le h _ _ _ | refine Le.bind ?_ fun _ => ?_ | refine Le.ite ?_ ?_ | refine Le.whl (fun _ => ?_) h _ | refine Le.sum (fun _ => ?_) (fun _ => ?_) | split
theorem f28_L2_le {n m : Nat} (h : n ≤ m) (r13 : _) (alive_4 : _) (open_4 : _) : Le (f28_L2 n r13 alive_4 open_4) (f28_L2 m r13 alive_4 open_4) := by
  unfold f28_L2
  repeat first | exact Le.refl _ | exact f28_L3_le h _ _ _ _ _ | refine Le.bind ?_ fun _ => ?_ | refine Le.ite ?_ ?_ | refine Le.whl (fun _ => ?_) h _ | refine Le.sum (fun _ => ?_) (fun _ => ?_) | split
theorem FAutomaton_Alive_le {n m : Nat} (h : n ≤ m) (p0_ : _) : Le (FAutomaton_Alive n p0_) (FAutomaton_Alive m p0_) := by
  unfold FAutomaton_Alive
  repeat first | exact Le.refl _ | exact FAutomaton_explore_le h _ | exact f28_L1_le h _ _ _ _ _ | exact f28_L2_le h _ _ _ | refine Le.bind ?_ fun _ => ?_ | refine Le.ite ?_ ?_ | refine Le.whl (fun _ => ?_) h _ | refine Le.sum (fun _ => ?_) (fun _ => ?_) | split
theorem f49_L1_le {n m : Nat} (h : n ≤ m) (p0_ : _) (p1_ : _) (i_1 : _) : Le (f49_L1 n p0_ p1_ i_1) (f49_L1 m p0_ p1_ i_1) := by
  unfold f49_L1
  repeat first | exact Le.refl _ | refine Le.bind ?_ fun _ => ?_ | refine Le.ite ?_ ?_ | refine Le.whl (fun _ => ?_) h _ | refine Le.sum (fun _ => ?_) (fun _ => ?_) | split
theorem FSixdotref02_SameCells_le {n m : Nat} (h : n ≤ m) (p0_ : _) (p1_ : _) : Le (FSixdotref02_SameCells n p0_ p1_) (FSixdotref02_SameCells m p0_ p1_) := by
  unfold FSixdotref02_SameCells
  repeat first | exact Le.refl _ | exact f49_L1_le h _ _ _ | refine Le.bind ?_ fun _ => ?_ | refine Le.ite ?_ ?_ | refine Le.whl (fun _ => ?_) h _ | refine Le.sum (fun _ => ?_) (fun _ => ?_) | split
theorem f15_L1_le {n m : Nat} (h : n ≤ m) (r15 : _) (r16 : _) (r17 : _) (r18 : _) (r20 : _) (r21 : _) (r22 : _) (r23 : _) (r24 : _) (r25 : _) (r26 : _) (r27 : _) (i_2 : _) : Le (f15_L1 n r15 r16 r17 r18 r20 r21 r22 r23 r24 r25 r26 r27 i_2) (f15_L1 m r15 r16 r17 r18 r20 r21 r22 r23 r24 r25 r26 r27 i_2) := by
  unfold f15_L1
  repeat first | exact Le.refl _ | refine Le.bind ?_ fun _ => ?_ | refine Le.ite ?_ ?_ | refine Le.whl (fun _ => ?_) h _ | refine Le.sum (fun _ => ?_) (fun _ => ?_) | split
theorem FSixdotlaw03_sanity_le {n m : Nat} (h : n ≤ m) : Le (FSixdotlaw03_sanity n) (FSixdotlaw03_sanity m) := by
  unfold FSixdotlaw03_sanity
  repeat first | exact Le.refl _ | exact FSixdotlaw03_rule_le h _ _ _ | exact FAutomaton_Start_le h | exact FAutomaton_Step_le h _ _ _ | exact FAutomaton_Accepts_le h _ _ | exact FAutomaton_Run_le h _ _ | exact FAutomaton_States_le h _ | exact FAutomaton_Alive_le h _ | exact FSixdotref02_SameCells_le h _ _ | exact f15_L1_le h _ _ _ _ _ _ _ _ _ _ _ _ _ | refine Le.bind ?_ fun _ => ?_ | refine Le.ite ?_ ?_ | refine Le.whl (fun _ => ?_) h _ | refine Le.sum (fun _ => ?_) (fun _ => ?_) | split
theorem FSixdotref02_simple_le {n m : Nat} (h : n ≤ m) (p0_ : _) (p1_ : _) (p2_ : _) : Le (FSixdotref02_simple n p0_ p1_ p2_) (FSixdotref02_simple m p0_ p1_ p2_) := by
  unfold FSixdotref02_simple
  repeat first | exact Le.refl _ | refine Le.bind ?_ fun _ => ?_ | refine Le.ite ?_ ?_ | refine Le.whl (fun _ => ?_) h _ | refine Le.sum (fun _ => ?_) (fun _ => ?_) | split
theorem FSixdotref02_letters_le {n m : Nat} (h : n ≤ m) : Le (FSixdotref02_letters n) (FSixdotref02_letters m) := by
  unfold FSixdotref02_letters
  repeat first | exact Le.refl _ | exact FSixdotref02_simple_le h _ _ _ | refine Le.bind ?_ fun _ => ?_ | refine Le.ite ?_ ?_ | refine Le.whl (fun _ => ?_) h _ | refine Le.sum (fun _ => ?_) (fun _ => ?_) | split
theorem FSixdotref02_indicator_le {n m : Nat} (h : n ≤ m) (p0_ : _) (p1_ : _) (p2_ : _) : Le (FSixdotref02_indicator n p0_ p1_ p2_) (FSixdotref02_indicator m p0_ p1_ p2_) := by
  unfold FSixdotref02_indicator
  repeat first | exact Le.refl _ | exact FSixdotref02_simple_le h _ _ _ | refine Le.bind ?_ fun _ => ?_ | refine Le.ite ?_ ?_ | refine Le.whl (fun _ => ?_) h _ | refine Le.sum (fun _ => ?_) (fun _ => ?_) | split
theorem f50_J1_le {n m : Nat} (h : n ≤ m) (l_1 : _) : Le (f50_J1 n l_1) (f50_J1 m l_1) := by
  unfold f50_J1
  repeat first | exact Le.refl _ | refine Le.bind ?_ fun _ => ?_ | refine Le.ite ?_ ?_ | refine Le.whl (fun _ => ?_) h _ | refine Le.sum (fun _ => ?_) (fun _ => ?_) | split
theorem FSixdotref02_Base_le {n m : Nat} (h : n ≤ m) (p0_ : _) : Le (FSixdotref02_Base n p0_) (FSixdotref02_Base m p0_) := by
  unfold FSixdotref02_Base
  repeat first | exact Le.refl _ | exact FSixdotref02_simple_le h _ _ _ | exact FSixdotref02_letters_le h | exact FSixdotref02_indicator_le h _ _ _ | exact f50_J1_le h _ | refine Le.bind ?_ fun _ => ?_ | refine Le.ite ?_ ?_ | refine Le.whl (fun _ => ?_) h _ | refine Le.sum (fun _ => ?_) (fun _ => ?_) | split
theorem f37_L1_le {n m : Nat} (h : n ≤ m) (p0_ : _) (p1_ : _) (x20 : _) (x21 : _) (out_1 : _) (i_3 : _) : Le (f37_L1 n p0_ p1_ x20 x21 out_1 i_3) (f37_L1 m p0_ p1_ x20 x21 out_1 i_3) := by
  unfold f37_L1
  repeat first | exact Le.refl _ | refine Le.bind ?_ fun _ => ?_ | refine Le.ite ?_ ?_ | refine Le.whl (fun _ => ?_) h _ | refine Le.sum (fun _ => ?_) (fun _ => ?_) | split
theorem f37_L2_le {n m : Nat} (h : n ≤ m) (p0_ : _) (p1_ : _) (x20 : _) (x21 : _) (y13 : _) (out_3 : _) (i_4 : _) : Le (f37_L2 n p0_ p1_ x20 x21 y13 out_3 i_4) (f37_L2 m p0_ p1_ x20 x21 y13 out_3 i_4) := by
  unfold f37_L2
  repeat first | exact Le.refl _ | refine Le.bind ?_ fun _ => ?_ | refine Le.ite ?_ ?_ | refine Le.whl (fun _ => ?_) h _ | refine Le.sum (fun _ => ?_) (fun _ => ?_) | split
theorem FSixdotref02_Rule_le {n m : Nat} (h : n ≤ m) (p0_ : _) (p1_ : _) : Le (FSixdotref02_Rule n p0_ p1_) (FSixdotref02_Rule m p0_ p1_) := by
  unfold FSixdotref02_Rule
  repeat first | exact Le.refl _ | exact f37_L1_le h _ _ _ _ _ _ | exact f37_L2_le h _ _ _ _ _ _ _ | refine Le.bind ?_ fun _ => ?_ | refine Le.ite ?_ ?_ | refine Le.whl (fun _ => ?_) h _ | refine Le.sum (fun _ => ?_) (fun _ => ?_) | split
theorem FSixdotref02_Character_le {n m : Nat} (h : n ≤ m) (p0_ : _) : Le (FSixdotref02_Character n p0_) (FSixdotref02_Character m p0_) := by
  unfold FSixdotref02_Character
  repeat first | exact Le.refl _ | refine Le.bind ?_ fun _ => ?_ | refine Le.ite ?_ ?_ | refine Le.whl (fun _ => ?_) h _ | refine Le.sum (fun _ => ?_) (fun _ => ?_) | split
theorem f56_L1_le {n m : Nat} (h : n ≤ m) (p0_ : _) (i_5 : _) : Le (f56_L1 n p0_ i_5) (f56_L1 m p0_ i_5) := by
  unfold f56_L1
  repeat first | exact Le.refl _ | exact FSixdotref02_Character_le h _ | refine Le.bind ?_ fun _ => ?_ | refine Le.ite ?_ ?_ | refine Le.whl (fun _ => ?_) h _ | refine Le.sum (fun _ => ?_) (fun _ => ?_) | split
theorem FSixdotref02_Text_le {n m : Nat} (h : n ≤ m) (p0_ : _) : Le (FSixdotref02_Text n p0_) (FSixdotref02_Text m p0_) := by
  unfold FSixdotref02_Text
  repeat first | exact Le.refl _ | exact f56_L1_le h _ _ | refine Le.bind ?_ fun _ => ?_ | refine Le.ite ?_ ?_ | refine Le.whl (fun _ => ?_) h _ | refine Le.sum (fun _ => ?_) (fun _ => ?_) | split
theorem FSixdotref02_IsText_le {n m : Nat} (h : n ≤ m) (p0_ : _) : Le (FSixdotref02_IsText n p0_) (FSixdotref02_IsText m p0_) := by
  unfold FSixdotref02_IsText
  repeat first | exact Le.refl _ | exact FSixdotref02_Text_le h _ | refine Le.bind ?_ fun _ => ?_ | refine Le.ite ?_ ?_ | refine Le.whl (fun _ => ?_) h _ | refine Le.sum (fun _ => ?_) (fun _ => ?_) | split
theorem FSixdotref02_Space_le {n m : Nat} (h : n ≤ m) (p0_ : _) : Le (FSixdotref02_Space n p0_) (FSixdotref02_Space m p0_) := by
  unfold FSixdotref02_Space
  repeat first | exact Le.refl _ | refine Le.bind ?_ fun _ => ?_ | refine Le.ite ?_ ?_ | refine Le.whl (fun _ => ?_) h _ | refine Le.sum (fun _ => ?_) (fun _ => ?_) | split
theorem f70_L1_le {n m : Nat} (h : n ≤ m) (p0_ : _) (space_1 : _) (i_6 : _) : Le (f70_L1 n p0_ space_1 i_6) (f70_L1 m p0_ space_1 i_6) := by
  unfold f70_L1
  repeat first | exact Le.refl _ | exact FSixdotref02_Space_le h _ | refine Le.bind ?_ fun _ => ?_ | refine Le.ite ?_ ?_ | refine Le.whl (fun _ => ?_) h _ | refine Le.sum (fun _ => ?_) (fun _ => ?_) | split
theorem f70_L2_le {n m : Nat} (h : n ≤ m) (p0_ : _) (y18 : _) (blank_1 : _) (i_7 : _) : Le (f70_L2 n p0_ y18 blank_1 i_7) (f70_L2 m p0_ y18 blank_1 i_7) := by
  unfold f70_L2
  repeat first | exact Le.refl _ | refine Le.bind ?_ fun _ => ?_ | refine Le.ite ?_ ?_ | refine Le.whl (fun _ => ?_) h _ | refine Le.sum (fun _ => ?_) (fun _ => ?_) | split
theorem FSixdotref02_Sound_le {n m : Nat} (h : n ≤ m) (p0_ : _) (p1_ : _) : Le (FSixdotref02_Sound n p0_ p1_) (FSixdotref02_Sound m p0_ p1_) := by
  unfold FSixdotref02_Sound
  repeat first | exact Le.refl _ | exact FSixdotref02_IsText_le h _ | exact f70_L1_le h _ _ _ | exact f70_L2_le h _ _ _ _ | refine Le.bind ?_ fun _ => ?_ | refine Le.ite ?_ ?_ | refine Le.whl (fun _ => ?_) h _ | refine Le.sum (fun _ => ?_) (fun _ => ?_) | split
theorem FSixdotref02_SameRule_le {n m : Nat} (h : n ≤ m) (p0_ : _) (p1_ : _) : Le (FSixdotref02_SameRule n p0_ p1_) (FSixdotref02_SameRule m p0_ p1_) := by
  unfold FSixdotref02_SameRule
  repeat first | exact Le.refl _ | exact FSixdotref02_SameCells_le h _ _ | refine Le.bind ?_ fun _ => ?_ | refine Le.ite ?_ ?_ | refine Le.whl (fun _ => ?_) h _ | refine Le.sum (fun _ => ?_) (fun _ => ?_) | split
theorem f57_L2_le {n m : Nat} (h : n ≤ m) (p0_ : _) (i_8 : _) (k_2 : _) : Le (f57_L2 n p0_ i_8 k_2) (f57_L2 m p0_ i_8 k_2) := by
  unfold f57_L2
  repeat first | exact Le.refl _ | exact FSixdotref02_SameRule_le h _ _ | refine Le.bind ?_ fun _ => ?_ | refine Le.ite ?_ ?_ | refine Le.whl (fun _ => ?_) h _ | refine Le.sum (fun _ => ?_) (fun _ => ?_) | split
theorem f57_L1_le {n m : Nat} (h : n ≤ m) (p0_ : _) (i_8 : _) : Le (f57_L1 n p0_ i_8) (f57_L1 m p0_ i_8) := by
  unfold f57_L1
  repeat first | exact Le.refl _ | exact FSixdotref02_Sound_le h _ _ | exact f57_L2_le h _ _ _ | refine Le.bind ?_ fun _ => ?_ | refine Le.ite ?_ ?_ | refine Le.whl (fun _ => ?_) h _ | refine Le.sum (fun _ => ?_) (fun _ => ?_) | split
theorem FSixdotref02_Check_le {n m : Nat} (h : n ≤ m) (p0_ : _) : Le (FSixdotref02_Check n p0_) (FSixdotref02_Check m p0_) := by
  unfold FSixdotref02_Check
  repeat first | exact Le.refl _ | exact f57_L1_le h _ _ | refine Le.bind ?_ fun _ => ?_ | refine Le.ite ?_ ?_ | refine Le.whl (fun _ => ?_) h _ | refine Le.sum (fun _ => ?_) (fun _ => ?_) | split
theorem FSixdotref02_Valid_le {n m : Nat} (h : n ≤ m) (p0_ : _) : Le (FSixdotref02_Valid n p0_) (FSixdotref02_Valid m p0_) := by
  unfold FSixdotref02_Valid
  repeat first | exact Le.refl _ | exact FSixdotref02_Check_le h _ | refine Le.bind ?_ fun _ => ?_ | refine Le.ite ?_ ?_ | refine Le.whl (fun _ => ?_) h _ | refine Le.sum (fun _ => ?_) (fun _ => ?_) | split
theorem f16_J1_le {n m : Nat} (h : n ≤ m) (i_9 : _) (t_3 : _) : Le (f16_J1 n i_9 t_3) (f16_J1 m i_9 t_3) := by
  unfold f16_J1
  repeat first | exact Le.refl _ | refine Le.bind ?_ fun _ => ?_ | refine Le.ite ?_ ?_ | refine Le.whl (fun _ => ?_) h _ | refine Le.sum (fun _ => ?_) (fun _ => ?_) | split
theorem f16_L1_le {n m : Nat} (h : n ≤ m) (p0_ : _) (r67 : _) (t_1 : _) (i_9 : _) : Le (f16_L1 n p0_ r67 t_1 i_9) (f16_L1 m p0_ r67 t_1 i_9) := by
  unfold f16_L1
  repeat first | exact Le.refl _ | exact f16_J1_le h _ _ | refine Le.bind ?_ fun _ => ?_ | refine Le.ite ?_ ?_ | refine Le.whl (fun _ => ?_) h _ | refine Le.sum (fun _ => ?_) (fun _ => ?_) | split
theorem f16_J2_le {n m : Nat} (h : n ≤ m) (i_10 : _) (t_6 : _) : Le (f16_J2 n i_10 t_6) (f16_J2 m i_10 t_6) := by
  unfold f16_J2
  repeat first | exact Le.refl _ | refine Le.bind ?_ fun _ => ?_ | refine Le.ite ?_ ?_ | refine Le.whl (fun _ => ?_) h _ | refine Le.sum (fun _ => ?_) (fun _ => ?_) | split
theorem f16_L2_le {n m : Nat} (h : n ≤ m) (p0_ : _) (r67 : _) (t_4 : _) (i_10 : _) : Le (f16_L2 n p0_ r67 t_4 i_10) (f16_L2 m p0_ r67 t_4 i_10) := by
  unfold f16_L2
  repeat first | exact Le.refl _ | exact FSixdotref02_Rule_le h _ _ | exact FSixdotref02_Valid_le h _ | exact f16_J2_le h _ _ | refine Le.bind ?_ fun _ => ?_ | refine Le.ite ?_ ?_ | refine Le.whl (fun _ => ?_) h _ | refine Le.sum (fun _ => ?_) (fun _ => ?_) | split
theorem f16_J3_le {n m : Nat} (h : n ≤ m) (t_7 : _) : Le (f16_J3 n t_7) (f16_J3 m t_7) := by
  unfold f16_J3
  repeat first | exact Le.refl _ | refine Le.bind ?_ fun _ => ?_ | refine Le.ite ?_ ?_ | refine Le.whl (fun _ => ?_) h _ | refine Le.sum (fun _ => ?_) (fun _ => ?_) | split
theorem FSixdotref02_Made_le {n m : Nat} (h : n ≤ m) (p0_ : _) : Le (FSixdotref02_Made n p0_) (FSixdotref02_Made m p0_) := by
  unfold FSixdotref02_Made
  repeat first | exact Le.refl _ | exact FSixdotref02_Base_le h _ | exact f16_L1_le h _ _ _ _ | exact f16_L2_le h _ _ _ _ | exact f16_J3_le h _ | refine Le.bind ?_ fun _ => ?_ | refine Le.ite ?_ ?_ | refine Le.whl (fun _ => ?_) h _ | refine Le.sum (fun _ => ?_) (fun _ => ?_) | split
theorem FSixdotref03_Bit_le {n m : Nat} (h : n ≤ m) (p0_ : _) (p1_ : _) : Le (FSixdotref03_Bit n p0_ p1_) (FSixdotref03_Bit m p0_ p1_) := by
  unfold FSixdotref03_Bit
  repeat first | exact Le.refl _ | refine Le.bind ?_ fun _ => ?_ | refine Le.ite ?_ ?_ | refine Le.whl (fun _ => ?_) h _ | refine Le.sum (fun _ => ?_) (fun _ => ?_) | split
theorem FSixdotref02_Class_le {n m : Nat} (h : n ≤ m) (p0_ : _) : Le (FSixdotref02_Class n p0_) (FSixdotref02_Class m p0_) := by
  unfold FSixdotref02_Class
  repeat first | exact Le.refl _ | refine Le.bind ?_ fun _ => ?_ | refine Le.ite ?_ ?_ | refine Le.whl (fun _ => ?_) h _ | refine Le.sum (fun _ => ?_) (fun _ => ?_) | split
theorem FSixdotref03_Step_le {n m : Nat} (h : n ≤ m) (p0_ : _) (p1_ : _) (p2_ : _) : Le (FSixdotref03_Step n p0_ p1_ p2_) (FSixdotref03_Step m p0_ p1_ p2_) := by
  unfold FSixdotref03_Step
  repeat first | exact Le.refl _ | exact FSixdotref03_Bit_le h _ _ | exact FSixdotref02_Class_le h _ | refine Le.bind ?_ fun _ => ?_ | refine Le.ite ?_ ?_ | refine Le.whl (fun _ => ?_) h _ | refine Le.sum (fun _ => ?_) (fun _ => ?_) | split
theorem FSixdotref03_Accepts_le {n m : Nat} (h : n ≤ m) (p0_ : _) (p1_ : _) : Le (FSixdotref03_Accepts n p0_ p1_) (FSixdotref03_Accepts m p0_ p1_) := by
  unfold FSixdotref03_Accepts
  repeat first | exact Le.refl _ | exact FSixdotref03_Bit_le h _ _ | refine Le.bind ?_ fun _ => ?_ | refine Le.ite ?_ ?_ | refine Le.whl (fun _ => ?_) h _ | refine Le.sum (fun _ => ?_) (fun _ => ?_) | split
theorem FSixdotref03_Start_le {n m : Nat} (h : n ≤ m) : Le (FSixdotref03_Start n) (FSixdotref03_Start m) := by
  unfold FSixdotref03_Start
  repeat first | exact Le.refl _ | refine Le.bind ?_ fun _ => ?_ | refine Le.ite ?_ ?_ | refine Le.whl (fun _ => ?_) h _ | refine Le.sum (fun _ => ?_) (fun _ => ?_) | split
theorem f23_L1_le {n m : Nat} (h : n ≤ m) (p0_ : _) (p1_ : _) (out_5 : _) (out_6 : _) (out_7 : _) (out_8 : _) (out_9 : _) (out_10 : _) (i_11 : _) : Le (f23_L1 n p0_ p1_ out_5 out_6 out_7 out_8 out_9 out_10 i_11) (f23_L1 m p0_ p1_ out_5 out_6 out_7 out_8 out_9 out_10 i_11) := by
  unfold f23_L1
  repeat first | exact Le.refl _ | exact FSixdotref03_Step_le h _ _ _ | refine Le.bind ?_ fun _ => ?_ | refine Le.ite ?_ ?_ | refine Le.whl (fun _ => ?_) h _ | refine Le.sum (fun _ => ?_) (fun _ => ?_) | split
theorem FSixdotref03_Run_le {n m : Nat} (h : n ≤ m) (p0_ : _) (p1_ : _) : Le (FSixdotref03_Run n p0_ p1_) (FSixdotref03_Run m p0_ p1_) := by
  unfold FSixdotref03_Run
  repeat first | exact Le.refl _ | exact FSixdotref03_Accepts_le h _ _ | exact FSixdotref03_Start_le h | exact f23_L1_le h _ _ _ _ _ _ _ _ _ | refine Le.bind ?_ fun _ => ?_ | refine Le.ite ?_ ?_ | refine Le.whl (fun _ => ?_) h _ | refine Le.sum (fun _ => ?_) (fun _ => ?_) | split
theorem FSixdotref03_Same_le {n m : Nat} (h : n ≤ m) (p0_ : _) (p1_ : _) : Le (FSixdotref03_Same n p0_ p1_) (FSixdotref03_Same m p0_ p1_) := by
  unfold FSixdotref03_Same
  repeat first | exact Le.refl _ | exact FSixdotref02_SameCells_le h _ _ | refine Le.bind ?_ fun _ => ?_ | refine Le.ite ?_ ?_ | refine Le.whl (fun _ => ?_) h _ | refine Le.sum (fun _ => ?_) (fun _ => ?_) | split
theorem f34_L1_le {n m : Nat} (h : n ≤ m) (p0_ : _) (p1_ : _) (i_12 : _) : Le (f34_L1 n p0_ p1_ i_12) (f34_L1 m p0_ p1_ i_12) := by
  unfold f34_L1
  repeat first | exact Le.refl _ | refine Le.bind ?_ fun _ => ?_ | refine Le.ite ?_ ?_ | refine Le.whl (fun _ => ?_) h _ | refine Le.sum (fun _ => ?_) (fun _ => ?_) | split
theorem FSixdotref03_Index_le {n m : Nat} (h : n ≤ m) (p0_ : _) (p1_ : _) : Le (FSixdotref03_Index n p0_ p1_) (FSixdotref03_Index m p0_ p1_) := by
  unfold FSixdotref03_Index
  repeat first | exact Le.refl _ | exact f34_L1_le h _ _ _ | refine Le.bind ?_ fun _ => ?_ | refine Le.ite ?_ ?_ | refine Le.whl (fun _ => ?_) h _ | refine Le.sum (fun _ => ?_) (fun _ => ?_) | split
theorem f26_J1_le {n m : Nat} (h : n ≤ m) (k_3 : _) (out_21 : _) : Le (f26_J1 n k_3 out_21) (f26_J1 m k_3 out_21) := by
  unfold f26_J1
  repeat first | exact Le.refl _ | refine Le.bind ?_ fun _ => ?_ | refine Le.ite ?_ ?_ | refine Le.whl (fun _ => ?_) h _ | refine Le.sum (fun _ => ?_) (fun _ => ?_) | split
theorem f26_L2_le {n m : Nat} (h : n ≤ m) (p0_ : _) (i_13 : _) (out_19 : _) (k_3 : _) : Le (f26_L2 n p0_ i_13 out_19 k_3) (f26_L2 m p0_ i_13 out_19 k_3) := by
  unfold f26_L2
  repeat first | exact Le.refl _ | exact FSixdotref03_Step_le h _ _ _ | exact FSixdotref03_Index_le h _ _ | exact f26_J1_le h _ _ | refine Le.bind ?_ fun _ => ?_ | refine Le.ite ?_ ?_ | refine Le.whl (fun _ => ?_) h _ | refine Le.sum (fun _ => ?_) (fun _ => ?_) | split
theorem f26_L1_le {n m : Nat} (h : n ≤ m) (p0_ : _) (out_17 : _) (i_13 : _) : Le (f26_L1 n p0_ out_17 i_13) (f26_L1 m p0_ out_17 i_13) := by
  unfold f26_L1
  repeat first | exact Le.refl _ | exact f26_L2_le h _ _ _ _ | refine Le.bind ?_ fun _ => ?_ | refine Le.ite ?_ ?_ | refine Le.whl (fun _ => ?_) h _ | refine Le.sum (fun _ => ?_) (fun _ => ?_) | split
theorem FSixdotref03_States_le {n m : Nat} (h : n ≤ m) (p0_ : _) : Le (FSixdotref03_States n p0_) (FSixdotref03_States m p0_) := by
  unfold FSixdotref03_States
  repeat first | exact Le.refl _ | exact FSixdotref03_Start_le h | exact f26_L1_le h _ _ _ | refine Le.bind ?_ fun _ => ?_ | refine Le.ite ?_ ?_ | refine Le.whl (fun _ => ?_) h _ | refine Le.sum (fun _ => ?_) (fun _ => ?_) | split
theorem f24_L1_le {n m : Nat} (h : n ≤ m) (p0_ : _) (p1_ : _) (i_14 : _) : Le (f24_L1 n p0_ p1_ i_14) (f24_L1 m p0_ p1_ i_14) := by
  unfold f24_L1
  repeat first | exact Le.refl _ | refine Le.bind ?_ fun _ => ?_ | refine Le.ite ?_ ?_ | refine Le.whl (fun _ => ?_) h _ | refine Le.sum (fun _ => ?_) (fun _ => ?_) | split
theorem FSixdotlaw03_states_le {n m : Nat} (h : n ≤ m) (p0_ : _) (p1_ : _) : Le (FSixdotlaw03_states n p0_ p1_) (FSixdotlaw03_states m p0_ p1_) := by
  unfold FSixdotlaw03_states
  repeat first | exact Le.refl _ | exact f24_L1_le h _ _ _ | refine Le.bind ?_ fun _ => ?_ | refine Le.ite ?_ ?_ | refine Le.whl (fun _ => ?_) h _ | refine Le.sum (fun _ => ?_) (fun _ => ?_) | split
theorem f29_L1_le {n m : Nat} (h : n ≤ m) (p0_ : _) (r83 : _) (out_22 : _) (i_15 : _) : Le (f29_L1 n p0_ r83 out_22 i_15) (f29_L1 m p0_ r83 out_22 i_15) := by
  unfold f29_L1
  repeat first | exact Le.refl _ | exact FSixdotref03_Accepts_le h _ _ | refine Le.bind ?_ fun _ => ?_ | refine Le.ite ?_ ?_ | refine Le.whl (fun _ => ?_) h _ | refine Le.sum (fun _ => ?_) (fun _ => ?_) | split
theorem f29_J1_le {n m : Nat} (h : n ≤ m) (k_4 : _) (out_30 : _) (grown_6 : _) : Le (f29_J1 n k_4 out_30 grown_6) (f29_J1 m k_4 out_30 grown_6) := by
  unfold f29_J1
  repeat first | exact Le.refl _ | refine Le.bind ?_ fun _ => ?_ | refine Le.ite ?_ ?_ | refine Le.whl (fun _ => ?_) h _ | refine Le.sum (fun _ => ?_) (fun _ => ?_) | split
theorem f29_L4_le {n m : Nat} (h : n ≤ m) (p0_ : _) (r83 : _) (i_16 : _) (out_28 : _) (grown_4 : _) (k_4 : _) : Le (f29_L4 n p0_ r83 i_16 out_28 grown_4 k_4) (f29_L4 m p0_ r83 i_16 out_28 grown_4 k_4) := by
  unfold f29_L4
  repeat first | exact Le.refl _ | exact FSixdotref03_Step_le h _ _ _ | exact FSixdotref03_Index_le h _ _ | exact f29_J1_le h _ _ _ | refine Le.bind ?_ fun _ => ?_ | refine Le.ite ?_ ?_ | refine Le.whl (fun _ => ?_) h _ | refine Le.sum (fun _ => ?_) (fun _ => ?_) | split
theorem f29_L3_le {n m : Nat} (h : n ≤ m) (p0_ : _) (r83 : _) (out_26 : _) (grown_2 : _) (i_16 : _) : Le (f29_L3 n p0_ r83 out_26 grown_2 i_16) (f29_L3 m p0_ r83 out_26 grown_2 i_16) := by
  unfold f29_L3
  repeat first | exact Le.refl _ | exact f29_L4_le h _ _ _ _ _ _ | refine Le.bind ?_ fun _ => ?_ | refine Le.ite ?_ ?_ | refine Le.whl (fun _ => ?_) h _ | refine Le.sum (fun _ => ?_) (fun _ => ?_) | split
theorem f29_L2_le {n m : Nat} (h : n ≤ m) (p0_ : _) (r83 : _) (out_24 : _) (grown_1 : _) : Le (f29_L2 n p0_ r83 out_24 grown_1) (f29_L2 m p0_ r83 out_24 grown_1) := by
  unfold f29_L2
  repeat first | exact Le.refl _ | exact f29_L3_le h _ _ _ _ _ | refine Le.bind ?_ fun _ => ?_ | refine Le.ite ?_ ?_ | refine Le.whl (fun _ => ?_) h _ | refine Le.sum (fun _ => ?_) (fun _ => ?_) | split
theorem FSixdotref03_Alive_le {n m : Nat} (h : n ≤ m) (p0_ : _) : Le (FSixdotref03_Alive n p0_) (FSixdotref03_Alive m p0_) := by
  unfold FSixdotref03_Alive
  repeat first | exact Le.refl _ | exact FSixdotref03_States_le h _ | exact f29_L1_le h _ _ _ _ | exact f29_L2_le h _ _ _ _ | refine Le.bind ?_ fun _ => ?_ | refine Le.ite ?_ ?_ | refine Le.whl (fun _ => ?_) h _ | refine Le.sum (fun _ => ?_) (fun _ => ?_) | split
theorem f27_L1_le {n m : Nat} (h : n ≤ m) (p0_ : _) (p1_ : _) (i_17 : _) : Le (f27_L1 n p0_ p1_ i_17) (f27_L1 m p0_ p1_ i_17) := by
  unfold f27_L1
  repeat first | exact Le.refl _ | refine Le.bind ?_ fun _ => ?_ | refine Le.ite ?_ ?_ | refine Le.whl (fun _ => ?_) h _ | refine Le.sum (fun _ => ?_) (fun _ => ?_) | split
theorem FSixdotlaw03_bools_le {n m : Nat} (h : n ≤ m) (p0_ : _) (p1_ : _) : Le (FSixdotlaw03_bools n p0_ p1_) (FSixdotlaw03_bools m p0_ p1_) := by
  unfold FSixdotlaw03_bools
  repeat first | exact Le.refl _ | exact f27_L1_le h _ _ _ | refine Le.bind ?_ fun _ => ?_ | refine Le.ite ?_ ?_ | refine Le.whl (fun _ => ?_) h _ | refine Le.sum (fun _ => ?_) (fun _ => ?_) | split
theorem f3_L1_le {n m : Nat} (h : n ≤ m) (p1_ : _) (p2_ : _) (r87 : _) (r88 : _) (path_1 : _) (i_18 : _) : Le (f3_L1 n p1_ p2_ r87 r88 path_1 i_18) (f3_L1 m p1_ p2_ r87 r88 path_1 i_18) := by
  unfold f3_L1
  repeat first | exact Le.refl _ | refine Le.bind ?_ fun _ => ?_ | refine Le.ite ?_ ?_ | refine Le.whl (fun _ => ?_) h _ | refine Le.sum (fun _ => ?_) (fun _ => ?_) | split
theorem f3_L2_le {n m : Nat} (h : n ≤ m) (p1_ : _) (r87 : _) (r88 : _) (y48 : _) (i_19 : _) : Le (f3_L2 n p1_ r87 r88 y48 i_19) (f3_L2 m p1_ r87 r88 y48 i_19) := by
  unfold f3_L2
  repeat first | exact Le.refl _ | exact FAutomaton_Step_le h _ _ _ | exact FSixdotref03_Step_le h _ _ _ | refine Le.bind ?_ fun _ => ?_ | refine Le.ite ?_ ?_ | refine Le.whl (fun _ => ?_) h _ | refine Le.sum (fun _ => ?_) (fun _ => ?_) | split
theorem FSixdotlaw03_AutomatonMatchesReference_le {n m : Nat} (h : n ≤ m) (p0_ : _) (p1_ : _) (p2_ : _) : Le (FSixdotlaw03_AutomatonMatchesReference n p0_ p1_ p2_) (FSixdotlaw03_AutomatonMatchesReference m p0_ p1_ p2_) := by
  unfold FSixdotlaw03_AutomatonMatchesReference
  repeat first | exact Le.refl _ | exact FAutomaton_Accepts_le h _ _ | exact FAutomaton_Run_le h _ _ | exact FAutomaton_States_le h _ | exact FAutomaton_Alive_le h _ | exact FSixdotlaw03_sanity_le h | exact FSixdotref02_Made_le h _ | exact FSixdotref03_Accepts_le h _ _ | exact FSixdotref03_Run_le h _ _ | exact FSixdotref03_Same_le h _ _ | exact FSixdotref03_States_le h _ | exact FSixdotlaw03_states_le h _ _ | exact FSixdotref03_Alive_le h _ | exact FSixdotlaw03_bools_le h _ _ | exact f3_L1_le h _ _ _ _ _ _ | exact f3_L2_le h _ _ _ _ _ | refine Le.bind ?_ fun _ => ?_ | refine Le.ite ?_ ?_ | refine Le.whl (fun _ => ?_) h _ | refine Le.sum (fun _ => ?_) (fun _ => ?_) | split
theorem f6_L1_le {n m : Nat} (h : n ≤ m) (r102 : _) (r103 : _) (r104 : _) (reached_1 : _) (i_20 : _) : Le (f6_L1 n r102 r103 r104 reached_1 i_20) (f6_L1 m r102 r103 r104 reached_1 i_20) := by
  unfold f6_L1
  repeat first | exact Le.refl _ | exact FSixdotref03_Index_le h _ _ | refine Le.bind ?_ fun _ => ?_ | refine Le.ite ?_ ?_ | refine Le.whl (fun _ => ?_) h _ | refine Le.sum (fun _ => ?_) (fun _ => ?_) | split
theorem f6_J1_le {n m : Nat} (h : n ≤ m) (k_5 : _) (reached_6 : _) : Le (f6_J1 n k_5 reached_6) (f6_J1 m k_5 reached_6) := by
  unfold f6_J1
  repeat first | exact Le.refl _ | refine Le.bind ?_ fun _ => ?_ | refine Le.ite ?_ ?_ | refine Le.whl (fun _ => ?_) h _ | refine Le.sum (fun _ => ?_) (fun _ => ?_) | split
theorem f6_L3_le {n m : Nat} (h : n ≤ m) (r102 : _) (r103 : _) (r104 : _) (i_21 : _) (reached_4 : _) (k_5 : _) : Le (f6_L3 n r102 r103 r104 i_21 reached_4 k_5) (f6_L3 m r102 r103 r104 i_21 reached_4 k_5) := by
  unfold f6_L3
  repeat first | exact Le.refl _ | exact FAutomaton_Step_le h _ _ _ | exact FSixdotref03_Index_le h _ _ | exact f6_J1_le h _ _ | refine Le.bind ?_ fun _ => ?_ | refine Le.ite ?_ ?_ | refine Le.whl (fun _ => ?_) h _ | refine Le.sum (fun _ => ?_) (fun _ => ?_) | split
theorem f6_L2_le {n m : Nat} (h : n ≤ m) (r102 : _) (r103 : _) (r104 : _) (reached_3 : _) (i_21 : _) : Le (f6_L2 n r102 r103 r104 reached_3 i_21) (f6_L2 m r102 r103 r104 reached_3 i_21) := by
  unfold f6_L2
  repeat first | exact Le.refl _ | exact f6_L3_le h _ _ _ _ _ _ | refine Le.bind ?_ fun _ => ?_ | refine Le.ite ?_ ?_ | refine Le.whl (fun _ => ?_) h _ | refine Le.sum (fun _ => ?_) (fun _ => ?_) | split
theorem FSixdotlaw03_AutomatonStates_le {n m : Nat} (h : n ≤ m) (p0_ : _) : Le (FSixdotlaw03_AutomatonStates n p0_) (FSixdotlaw03_AutomatonStates m p0_) := by
  unfold FSixdotlaw03_AutomatonStates
  repeat first | exact Le.refl _ | exact FAutomaton_Start_le h | exact FAutomaton_States_le h _ | exact FSixdotlaw03_sanity_le h | exact FSixdotref02_Made_le h _ | exact f6_L1_le h _ _ _ _ _ | exact f6_L2_le h _ _ _ _ _ | refine Le.bind ?_ fun _ => ?_ | refine Le.ite ?_ ?_ | refine Le.whl (fun _ => ?_) h _ | refine Le.sum (fun _ => ?_) (fun _ => ?_) | split
theorem f55_L1_le {n m : Nat} (h : n ≤ m) (p0_ : _) (r109 : _) (out_31 : _) (near_1 : _) (i_22 : _) : Le (f55_L1 n p0_ r109 out_31 near_1 i_22) (f55_L1 m p0_ r109 out_31 near_1 i_22) := by
  unfold f55_L1
  repeat first | exact Le.refl _ | exact FSixdotref03_Accepts_le h _ _ | refine Le.bind ?_ fun _ => ?_ | refine Le.ite ?_ ?_ | refine Le.whl (fun _ => ?_) h _ | refine Le.sum (fun _ => ?_) (fun _ => ?_) | split
theorem f55_J1_le {n m : Nat} (h : n ≤ m) (k_6 : _) (out_39 : _) (ring_5 : _) (grown_12 : _) : Le (f55_J1 n k_6 out_39 ring_5 grown_12) (f55_J1 m k_6 out_39 ring_5 grown_12) := by
  unfold f55_J1
  repeat first | exact Le.refl _ | refine Le.bind ?_ fun _ => ?_ | refine Le.ite ?_ ?_ | refine Le.whl (fun _ => ?_) h _ | refine Le.sum (fun _ => ?_) (fun _ => ?_) | split
theorem f55_L4_le {n m : Nat} (h : n ≤ m) (p0_ : _) (r109 : _) (near_3 : _) (i_23 : _) (out_37 : _) (ring_3 : _) (grown_10 : _) (k_6 : _) : Le (f55_L4 n p0_ r109 near_3 i_23 out_37 ring_3 grown_10 k_6) (f55_L4 m p0_ r109 near_3 i_23 out_37 ring_3 grown_10 k_6) := by
  unfold f55_L4
  repeat first | exact Le.refl _ | exact FSixdotref03_Step_le h _ _ _ | exact FSixdotref03_Index_le h _ _ | exact f55_J1_le h _ _ _ _ | refine Le.bind ?_ fun _ => ?_ | refine Le.ite ?_ ?_ | refine Le.whl (fun _ => ?_) h _ | refine Le.sum (fun _ => ?_) (fun _ => ?_) | split
theorem f55_L3_le {n m : Nat} (h : n ≤ m) (p0_ : _) (r109 : _) (near_3 : _) (out_35 : _) (ring_1 : _) (grown_8 : _) (i_23 : _) : Le (f55_L3 n p0_ r109 near_3 out_35 ring_1 grown_8 i_23) (f55_L3 m p0_ r109 near_3 out_35 ring_1 grown_8 i_23) := by
  unfold f55_L3
  repeat first | exact Le.refl _ | exact f55_L4_le h _ _ _ _ _ _ _ _ | refine Le.bind ?_ fun _ => ?_ | refine Le.ite ?_ ?_ | refine Le.whl (fun _ => ?_) h _ | refine Le.sum (fun _ => ?_) (fun _ => ?_) | split
theorem f55_L2_le {n m : Nat} (h : n ≤ m) (p0_ : _) (r109 : _) (out_33 : _) (near_3 : _) (grown_7 : _) : Le (f55_L2 n p0_ r109 out_33 near_3 grown_7) (f55_L2 m p0_ r109 out_33 near_3 grown_7) := by
  unfold f55_L2
  repeat first | exact Le.refl _ | exact f55_L3_le h _ _ _ _ _ _ _ | refine Le.bind ?_ fun _ => ?_ | refine Le.ite ?_ ?_ | refine Le.whl (fun _ => ?_) h _ | refine Le.sum (fun _ => ?_) (fun _ => ?_) | split
theorem FSixdotref03_home_le {n m : Nat} (h : n ≤ m) (p0_ : _) : Le (FSixdotref03_home n p0_) (FSixdotref03_home m p0_) := by
  unfold FSixdotref03_home
  repeat first | exact Le.refl _ | exact FSixdotref03_States_le h _ | exact f55_L1_le h _ _ _ _ _ | exact f55_L2_le h _ _ _ _ _ | refine Le.bind ?_ fun _ => ?_ | refine Le.ite ?_ ?_ | refine Le.whl (fun _ => ?_) h _ | refine Le.sum (fun _ => ?_) (fun _ => ?_) | split
theorem f30_J1_le {n m : Nat} (h : n ≤ m) (k_7 : _) (fit_3 : _) : Le (f30_J1 n k_7 fit_3) (f30_J1 m k_7 fit_3) := by
  unfold f30_J1
  repeat first | exact Le.refl _ | refine Le.bind ?_ fun _ => ?_ | refine Le.ite ?_ ?_ | refine Le.whl (fun _ => ?_) h _ | refine Le.sum (fun _ => ?_) (fun _ => ?_) | split
theorem f30_L2_le {n m : Nat} (h : n ≤ m) (p0_ : _) (p1_ : _) (r113 : _) (r114 : _) (r115 : _) (path_3 : _) (s_3 : _) (size_1 : _) (i_24 : _) (fit_1 : _) (k_7 : _) : Le (f30_L2 n p0_ p1_ r113 r114 r115 path_3 s_3 size_1 i_24 fit_1 k_7) (f30_L2 m p0_ p1_ r113 r114 r115 path_3 s_3 size_1 i_24 fit_1 k_7) := by
  unfold f30_L2
  repeat first | exact Le.refl _ | exact FSixdotref03_Step_le h _ _ _ | exact FSixdotref03_Index_le h _ _ | exact f30_J1_le h _ _ | refine Le.bind ?_ fun _ => ?_ | refine Le.ite ?_ ?_ | refine Le.whl (fun _ => ?_) h _ | refine Le.sum (fun _ => ?_) (fun _ => ?_) | split
theorem f30_L1_le {n m : Nat} (h : n ≤ m) (p0_ : _) (p1_ : _) (r113 : _) (r114 : _) (r115 : _) (path_3 : _) (s_3 : _) (size_1 : _) (i_24 : _) : Le (f30_L1 n p0_ p1_ r113 r114 r115 path_3 s_3 size_1 i_24) (f30_L1 m p0_ p1_ r113 r114 r115 path_3 s_3 size_1 i_24) := by
  unfold f30_L1
  repeat first | exact Le.refl _ | exact FSixdotref03_Step_le h _ _ _ | exact f30_L2_le h _ _ _ _ _ _ _ _ _ _ _ | refine Le.bind ?_ fun _ => ?_ | refine Le.ite ?_ ?_ | refine Le.whl (fun _ => ?_) h _ | refine Le.sum (fun _ => ?_) (fun _ => ?_) | split
theorem f30_L3_le {n m : Nat} (h : n ≤ m) (p0_ : _) (r113 : _) (r115 : _) (path_5 : _) (s_5 : _) : Le (f30_L3 n p0_ r113 r115 path_5 s_5) (f30_L3 m p0_ r113 r115 path_5 s_5) := by
  unfold f30_L3
  repeat first | exact Le.refl _ | exact FSixdotref03_Step_le h _ _ _ | exact FSixdotref03_Accepts_le h _ _ | exact FSixdotref03_Index_le h _ _ | refine Le.bind ?_ fun _ => ?_ | refine Le.ite ?_ ?_ | refine Le.whl (fun _ => ?_) h _ | refine Le.sum (fun _ => ?_) (fun _ => ?_) | split
theorem FSixdotref03_Walk_le {n m : Nat} (h : n ≤ m) (p0_ : _) (p1_ : _) : Le (FSixdotref03_Walk n p0_ p1_) (FSixdotref03_Walk m p0_ p1_) := by
  unfold FSixdotref03_Walk
  repeat first | exact Le.refl _ | exact FSixdotref03_Start_le h | exact FSixdotref03_States_le h _ | exact FSixdotref03_Alive_le h _ | exact FSixdotref03_home_le h _ | exact f30_L1_le h _ _ _ _ _ _ _ _ _ | exact f30_L3_le h _ _ _ _ _ | refine Le.bind ?_ fun _ => ?_ | refine Le.ite ?_ ?_ | refine Le.whl (fun _ => ?_) h _ | refine Le.sum (fun _ => ?_) (fun _ => ?_) | split
theorem f8_J1_le {n m : Nat} (h : n ≤ m) (i_25 : _) (blanks_3 : _) : Le (f8_J1 n i_25 blanks_3) (f8_J1 m i_25 blanks_3) := by
  unfold f8_J1
  repeat first | exact Le.refl _ | refine Le.bind ?_ fun _ => ?_ | refine Le.ite ?_ ?_ | refine Le.whl (fun _ => ?_) h _ | refine Le.sum (fun _ => ?_) (fun _ => ?_) | split
theorem f8_L1_le {n m : Nat} (h : n ≤ m) (r123 : _) (r126 : _) (blanks_1 : _) (i_25 : _) : Le (f8_L1 n r123 r126 blanks_1 i_25) (f8_L1 m r123 r126 blanks_1 i_25) := by
  unfold f8_L1
  repeat first | exact Le.refl _ | exact f8_J1_le h _ _ | refine Le.bind ?_ fun _ => ?_ | refine Le.ite ?_ ?_ | refine Le.whl (fun _ => ?_) h _ | refine Le.sum (fun _ => ?_) (fun _ => ?_) | split
theorem f8_J2_le {n m : Nat} (h : n ≤ m) (i_26 : _) (spaces_3 : _) : Le (f8_J2 n i_26 spaces_3) (f8_J2 m i_26 spaces_3) := by
  unfold f8_J2
  repeat first | exact Le.refl _ | refine Le.bind ?_ fun _ => ?_ | refine Le.ite ?_ ?_ | refine Le.whl (fun _ => ?_) h _ | refine Le.sum (fun _ => ?_) (fun _ => ?_) | split
theorem f8_L2_le {n m : Nat} (h : n ≤ m) (r123 : _) (r126 : _) (y69 : _) (spaces_1 : _) (i_26 : _) : Le (f8_L2 n r123 r126 y69 spaces_1 i_26) (f8_L2 m r123 r126 y69 spaces_1 i_26) := by
  unfold f8_L2
  repeat first | exact Le.refl _ | exact FSixdotref02_Space_le h _ | exact f8_J2_le h _ _ | refine Le.bind ?_ fun _ => ?_ | refine Le.ite ?_ ?_ | refine Le.whl (fun _ => ?_) h _ | refine Le.sum (fun _ => ?_) (fun _ => ?_) | split
theorem FSixdotlaw03_AutomatonBlanks_le {n m : Nat} (h : n ≤ m) (p0_ : _) (p1_ : _) : Le (FSixdotlaw03_AutomatonBlanks n p0_ p1_) (FSixdotlaw03_AutomatonBlanks m p0_ p1_) := by
  unfold FSixdotlaw03_AutomatonBlanks
  repeat first | exact Le.refl _ | exact FAutomaton_Run_le h _ _ | exact FSixdotlaw03_sanity_le h | exact FSixdotref02_IsText_le h _ | exact FSixdotref02_Made_le h _ | exact FSixdotref03_Walk_le h _ _ | exact f8_L1_le h _ _ _ _ | exact f8_L2_le h _ _ _ _ _ | refine Le.bind ?_ fun _ => ?_ | refine Le.ite ?_ ?_ | refine Le.whl (fun _ => ?_) h _ | refine Le.sum (fun _ => ?_) (fun _ => ?_) | split
end Go.AI
end
