/-
  No cell of these rows narrows 'for every input' (looked for: loops, veiled, ifaces, maps, wideKeys, modest, calm, conditions, laid).
  DERIVED. THE GIVEN ROWS OF THIS SEAT. 5 by the template 'for every input the law returns true; each argument reads behind the call as it read before'; 0 by the template 'total and deterministic' (their statements: YtnpikfdkjmebjaaTotals.lean).
  GIVEN WITH THE SEED: the statements are not yours to turn. If you find one false, say at which input.
  Laid BY PROGRAM, IN A SANDBOX (cutbox-rows.mjs): the forced cells as the released guide's own fill.sh prints them over the translation 9ee619577ed52975… (all of the seat's roots in one cut). By AI agents, Wed Nov 11 2026. No macro, syntax, notation, axiom, sorry.
-/
import Derived.Test.YtnpikfdkjmebjaaChecked
import GoSem.Claim
import GoSem.ClaimJoined
import GoSem.ClaimMapViews
import Derived.JoinedTies
import Derived.KernelRfl
namespace Go.Proofs.Ytnpikfdkjmebjaa
/- THE CELL 'sum', in the pinned program and in every row, IS THE sha256 OF THE DUMP (.gsa) THAT YtnpikfdkjmebjaaProg.lean LOADS. Nothing in Lean hashes anything: it is a label: what it is worth is what the hold of that sum in a sandbox is worth. -/
noncomputable def Try.pinned : Pinned := { name := "ytnpikfdkjmebjaa", sum := "9ee619577ed52975caffe1af0c25ef21de9214d2cdf637a1fd5e3946d41f26db", checked := Try.checked }
namespace Rows
def none {H : Type} : Left H := { results := [], args := [] }

/-- 'sixdotlaw05.AdmitMatchesReference': WHATEVER THE INPUT: true; the input reads as it did. -/
def admitMatchesReferenceSpec : ChangeSpec := { name := "admitMatchesReference", fn := fun _ => fun
  | [d] => { results := [.lit (.bool true)], args := [d] }
  | _ => none }
def admitMatchesReferenceRow : OpenClaim := { program := "ytnpikfdkjmebjaa", sum := "9ee619577ed52975caffe1af0c25ef21de9214d2cdf637a1fd5e3946d41f26db", func := "sixdot/sixdotlaw05.AdmitMatchesReference", spec := "admitMatchesReference", recurses := true, plainKeys := false, apart := false }
def AdmitMatchesReferenceSaid : Prop := admitMatchesReferenceRow.holds Try.pinned (OpenSpec.ofChange admitMatchesReferenceSpec)

/-- ITS FALSE NEIGHBOUR: 'it returns false'. Refute it at one input. -/
def admitMatchesReferenceWrong : ChangeSpec := { name := "admitMatchesReference", fn := fun _ => fun
  | [d] => { results := [.lit (.bool false)], args := [d] }
  | _ => none }
def AdmitMatchesReferenceWrongFalsely : Prop := admitMatchesReferenceRow.holds Try.pinned (OpenSpec.ofChange admitMatchesReferenceWrong)

/-- 'sixdotlaw05.AdmitOrder': WHATEVER THE INPUT: true; the input reads as it did. -/
def admitOrderSpec : ChangeSpec := { name := "admitOrder", fn := fun _ => fun
  | [d1, d2] => { results := [.lit (.bool true)], args := [d1, d2] }
  | _ => none }
def admitOrderRow : OpenClaim := { program := "ytnpikfdkjmebjaa", sum := "9ee619577ed52975caffe1af0c25ef21de9214d2cdf637a1fd5e3946d41f26db", func := "sixdot/sixdotlaw05.AdmitOrder", spec := "admitOrder", plainKeys := false, apart := false }
def AdmitOrderSaid : Prop := admitOrderRow.holds Try.pinned (OpenSpec.ofChange admitOrderSpec)

/-- ITS FALSE NEIGHBOUR: 'it returns false'. Refute it at one input. -/
def admitOrderWrong : ChangeSpec := { name := "admitOrder", fn := fun _ => fun
  | [d1, d2] => { results := [.lit (.bool false)], args := [d1, d2] }
  | _ => none }
def AdmitOrderWrongFalsely : Prop := admitOrderRow.holds Try.pinned (OpenSpec.ofChange admitOrderWrong)

/-- 'sixdotlaw05.AdmitGrows': WHATEVER THE INPUT: true; the input reads as it did. -/
def admitGrowsSpec : ChangeSpec := { name := "admitGrows", fn := fun _ => fun
  | [d1, d2] => { results := [.lit (.bool true)], args := [d1, d2] }
  | _ => none }
def admitGrowsRow : OpenClaim := { program := "ytnpikfdkjmebjaa", sum := "9ee619577ed52975caffe1af0c25ef21de9214d2cdf637a1fd5e3946d41f26db", func := "sixdot/sixdotlaw05.AdmitGrows", spec := "admitGrows", plainKeys := false, apart := false }
def AdmitGrowsSaid : Prop := admitGrowsRow.holds Try.pinned (OpenSpec.ofChange admitGrowsSpec)

/-- ITS FALSE NEIGHBOUR: 'it returns false'. Refute it at one input. -/
def admitGrowsWrong : ChangeSpec := { name := "admitGrows", fn := fun _ => fun
  | [d1, d2] => { results := [.lit (.bool false)], args := [d1, d2] }
  | _ => none }
def AdmitGrowsWrongFalsely : Prop := admitGrowsRow.holds Try.pinned (OpenSpec.ofChange admitGrowsWrong)

/-- 'sixdotlaw05.AdmitCodes': WHATEVER THE INPUT: true; the input reads as it did. -/
def admitCodesSpec : ChangeSpec := { name := "admitCodes", fn := fun _ => fun
  | [d1, d2] => { results := [.lit (.bool true)], args := [d1, d2] }
  | _ => none }
def admitCodesRow : OpenClaim := { program := "ytnpikfdkjmebjaa", sum := "9ee619577ed52975caffe1af0c25ef21de9214d2cdf637a1fd5e3946d41f26db", func := "sixdot/sixdotlaw05.AdmitCodes", spec := "admitCodes", plainKeys := false, apart := false }
def AdmitCodesSaid : Prop := admitCodesRow.holds Try.pinned (OpenSpec.ofChange admitCodesSpec)

/-- ITS FALSE NEIGHBOUR: 'it returns false'. Refute it at one input. -/
def admitCodesWrong : ChangeSpec := { name := "admitCodes", fn := fun _ => fun
  | [d1, d2] => { results := [.lit (.bool false)], args := [d1, d2] }
  | _ => none }
def AdmitCodesWrongFalsely : Prop := admitCodesRow.holds Try.pinned (OpenSpec.ofChange admitCodesWrong)

/-- 'sixdotlaw05.AdmitPlants': WHATEVER THE INPUT: true; the input reads as it did. -/
def admitPlantsSpec : ChangeSpec := { name := "admitPlants", fn := fun _ => fun
  | [d1, d2, d3] => { results := [.lit (.bool true)], args := [d1, d2, d3] }
  | _ => none }
def admitPlantsRow : OpenClaim := { program := "ytnpikfdkjmebjaa", sum := "9ee619577ed52975caffe1af0c25ef21de9214d2cdf637a1fd5e3946d41f26db", func := "sixdot/sixdotlaw05.AdmitPlants", spec := "admitPlants", plainKeys := false, apart := false }
def AdmitPlantsSaid : Prop := admitPlantsRow.holds Try.pinned (OpenSpec.ofChange admitPlantsSpec)

/-- ITS FALSE NEIGHBOUR: 'it returns false'. Refute it at one input. -/
def admitPlantsWrong : ChangeSpec := { name := "admitPlants", fn := fun _ => fun
  | [d1, d2, d3] => { results := [.lit (.bool false)], args := [d1, d2, d3] }
  | _ => none }
def AdmitPlantsWrongFalsely : Prop := admitPlantsRow.holds Try.pinned (OpenSpec.ofChange admitPlantsWrong)

/- THE SECOND FORM. 'bulk': how many values and letters a reading holds, each counted each time it is reached (what is shared counts as often as it is met; a slice's spare places count too). A statement '..UptoSaid' is the law's where the arguments, and the package variables that the reading takes, are together of bulk at most 1048576: NARROWER than '..Said'. Prove '..Said' where nothing that the law and all that it calls make is longer than what came in: it says more and counts as full. Else prove '..UptoSaid'. A law counts once. -/
mutual
def uptoBulk {H : Type} : DataW H → Nat
  | .lit (.string bytes) => bytes.length + 1
  | .lit _ => 1
  | .nil => 1
  | .ptr d => uptoBulk d + 1
  | .slice elems spare => uptoBulkAll elems + uptoBulkAll spare + 1
  | .agg parts => uptoBulkAll parts + 1
  | .iface _ d => uptoBulk d + 1
  | .map entries => uptoBulkEntries entries + 1
  | .held _ => 1
def uptoBulkAll {H : Type} : List (DataW H) → Nat
  | [] => 0
  | d :: r => uptoBulk d + uptoBulkAll r
def uptoBulkEntries {H : Type} : List (Lit × DataW H) → Nat
  | [] => 0
  | x :: r => uptoBulkEntry x + uptoBulkEntries r
def uptoBulkEntry {H : Type} : Lit × DataW H → Nat
  | (.string bytes, d) => bytes.length + uptoBulk d + 1
  | (_, d) => uptoBulk d + 1
 end
def uptoSmall : (H : Type) → List (DataW H) → Bool := fun _ ds => decide (uptoBulkAll ds ≤ 1048576)
def OpenSpec.upto (s : _root_.Go.ChangeSpec) : _root_.Go.OpenSpec := { _root_.Go.OpenSpec.ofChange s with cond := some uptoSmall }

/-- 'sixdotlaw05.AdmitMatchesReference', WHERE WHAT IT READS IS OF BULK AT MOST 1048576: true; the input reads as it did. -/
def admitMatchesReferenceUptoRow : OpenClaim := { program := "ytnpikfdkjmebjaa", sum := "9ee619577ed52975caffe1af0c25ef21de9214d2cdf637a1fd5e3946d41f26db", func := "sixdot/sixdotlaw05.AdmitMatchesReference", spec := "admitMatchesReference", recurses := true, plainKeys := false, apart := false, narrowed := true }
def AdmitMatchesReferenceUptoSaid : Prop := admitMatchesReferenceUptoRow.holds Try.pinned (OpenSpec.upto admitMatchesReferenceSpec)

/-- 'sixdotlaw05.AdmitOrder', WHERE WHAT IT READS IS OF BULK AT MOST 1048576: true; the input reads as it did. -/
def admitOrderUptoRow : OpenClaim := { program := "ytnpikfdkjmebjaa", sum := "9ee619577ed52975caffe1af0c25ef21de9214d2cdf637a1fd5e3946d41f26db", func := "sixdot/sixdotlaw05.AdmitOrder", spec := "admitOrder", plainKeys := false, apart := false, narrowed := true }
def AdmitOrderUptoSaid : Prop := admitOrderUptoRow.holds Try.pinned (OpenSpec.upto admitOrderSpec)

/-- 'sixdotlaw05.AdmitGrows', WHERE WHAT IT READS IS OF BULK AT MOST 1048576: true; the input reads as it did. -/
def admitGrowsUptoRow : OpenClaim := { program := "ytnpikfdkjmebjaa", sum := "9ee619577ed52975caffe1af0c25ef21de9214d2cdf637a1fd5e3946d41f26db", func := "sixdot/sixdotlaw05.AdmitGrows", spec := "admitGrows", plainKeys := false, apart := false, narrowed := true }
def AdmitGrowsUptoSaid : Prop := admitGrowsUptoRow.holds Try.pinned (OpenSpec.upto admitGrowsSpec)

/-- 'sixdotlaw05.AdmitCodes', WHERE WHAT IT READS IS OF BULK AT MOST 1048576: true; the input reads as it did. -/
def admitCodesUptoRow : OpenClaim := { program := "ytnpikfdkjmebjaa", sum := "9ee619577ed52975caffe1af0c25ef21de9214d2cdf637a1fd5e3946d41f26db", func := "sixdot/sixdotlaw05.AdmitCodes", spec := "admitCodes", plainKeys := false, apart := false, narrowed := true }
def AdmitCodesUptoSaid : Prop := admitCodesUptoRow.holds Try.pinned (OpenSpec.upto admitCodesSpec)

/-- 'sixdotlaw05.AdmitPlants', WHERE WHAT IT READS IS OF BULK AT MOST 1048576: true; the input reads as it did. -/
def admitPlantsUptoRow : OpenClaim := { program := "ytnpikfdkjmebjaa", sum := "9ee619577ed52975caffe1af0c25ef21de9214d2cdf637a1fd5e3946d41f26db", func := "sixdot/sixdotlaw05.AdmitPlants", spec := "admitPlants", plainKeys := false, apart := false, narrowed := true }
def AdmitPlantsUptoSaid : Prop := admitPlantsUptoRow.holds Try.pinned (OpenSpec.upto admitPlantsSpec)

end Rows
end Go.Proofs.Ytnpikfdkjmebjaa
