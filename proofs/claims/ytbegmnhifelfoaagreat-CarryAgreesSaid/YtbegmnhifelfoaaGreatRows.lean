/-
  No cell of these rows narrows 'for every input' (looked for: loops, veiled, ifaces, maps, wideKeys, modest, calm, conditions, laid).
  DERIVED. THE GIVEN ROWS OF THIS SEAT. 5 by the template 'for every input the law returns true; each argument reads behind the call as it read before'; 0 by the template 'total and deterministic' (their statements: YtbegmnhifelfoaaGreatTotals.lean).
  GIVEN WITH THE SEED: the statements are not yours to turn. If you find one false, say at which input.
  Laid BY PROGRAM, IN A SANDBOX (cutbox-rows.mjs): the forced cells as the released guide's own fill.sh prints them over the translation fd2a2b8ceb3dc5e9… (all of the seat's roots in one cut). By AI agents, Wed Nov 11 2026. No macro, syntax, notation, axiom, sorry.
-/
import Derived.Test.YtbegmnhifelfoaaGreatChecked
import GoSem.Claim
import GoSem.ClaimJoined
import GoSem.ClaimMapViews
import Derived.JoinedTies
import Derived.KernelRfl
namespace Go.Proofs.YtbegmnhifelfoaaGreat
/- THE CELL 'sum', in the pinned program and in every row, IS THE sha256 OF THE DUMP (.gsa) THAT YtbegmnhifelfoaaGreatProg.lean LOADS. Nothing in Lean hashes anything: it is a label: what it is worth is what the hold of that sum in a sandbox is worth. -/
noncomputable def Tryz.pinned : Pinned := { name := "ytbegmnhifelfoaagreat", sum := "fd2a2b8ceb3dc5e9ad0f03441c954915243cebfb5a8419677f26a5e57541b45d", checked := Tryz.checked }
namespace Rows
def none {H : Type} : Left H := { results := [], args := [] }

/-- 'sixdotlaw32.CarryApplies': WHATEVER THE INPUT: true; the input reads as it did. -/
def carryAppliesSpec : ChangeSpec := { name := "carryApplies", fn := fun _ => fun
  | [d1, d2, d3] => { results := [.lit (.bool true)], args := [d1, d2, d3] }
  | _ => none }
def carryAppliesRow : OpenClaim := { program := "ytbegmnhifelfoaagreat", sum := "fd2a2b8ceb3dc5e9ad0f03441c954915243cebfb5a8419677f26a5e57541b45d", func := "sixdot/sixdotlaw32.CarryApplies", spec := "carryApplies", unfollowed := true, recurses := true, apart := false }
def CarryAppliesSaid : Prop := carryAppliesRow.holds Tryz.pinned (OpenSpec.ofChange carryAppliesSpec)

/-- ITS FALSE NEIGHBOUR: 'it returns false'. Refute it at one input. -/
def carryAppliesWrong : ChangeSpec := { name := "carryApplies", fn := fun _ => fun
  | [d1, d2, d3] => { results := [.lit (.bool false)], args := [d1, d2, d3] }
  | _ => none }
def CarryAppliesWrongFalsely : Prop := carryAppliesRow.holds Tryz.pinned (OpenSpec.ofChange carryAppliesWrong)

/-- 'sixdotlaw32.CarryExchanges': WHATEVER THE INPUT: true; the input reads as it did. -/
def carryExchangesSpec : ChangeSpec := { name := "carryExchanges", fn := fun _ => fun
  | [d1, d2, d3] => { results := [.lit (.bool true)], args := [d1, d2, d3] }
  | _ => none }
def carryExchangesRow : OpenClaim := { program := "ytbegmnhifelfoaagreat", sum := "fd2a2b8ceb3dc5e9ad0f03441c954915243cebfb5a8419677f26a5e57541b45d", func := "sixdot/sixdotlaw32.CarryExchanges", spec := "carryExchanges", unfollowed := true, recurses := true, apart := false }
def CarryExchangesSaid : Prop := carryExchangesRow.holds Tryz.pinned (OpenSpec.ofChange carryExchangesSpec)

/-- ITS FALSE NEIGHBOUR: 'it returns false'. Refute it at one input. -/
def carryExchangesWrong : ChangeSpec := { name := "carryExchanges", fn := fun _ => fun
  | [d1, d2, d3] => { results := [.lit (.bool false)], args := [d1, d2, d3] }
  | _ => none }
def CarryExchangesWrongFalsely : Prop := carryExchangesRow.holds Tryz.pinned (OpenSpec.ofChange carryExchangesWrong)

/-- 'sixdotlaw32.CarryJoins': WHATEVER THE INPUT: true; the input reads as it did. -/
def carryJoinsSpec : ChangeSpec := { name := "carryJoins", fn := fun _ => fun
  | [d1, d2] => { results := [.lit (.bool true)], args := [d1, d2] }
  | _ => none }
def carryJoinsRow : OpenClaim := { program := "ytbegmnhifelfoaagreat", sum := "fd2a2b8ceb3dc5e9ad0f03441c954915243cebfb5a8419677f26a5e57541b45d", func := "sixdot/sixdotlaw32.CarryJoins", spec := "carryJoins", unfollowed := true, recurses := true, apart := false }
def CarryJoinsSaid : Prop := carryJoinsRow.holds Tryz.pinned (OpenSpec.ofChange carryJoinsSpec)

/-- ITS FALSE NEIGHBOUR: 'it returns false'. Refute it at one input. -/
def carryJoinsWrong : ChangeSpec := { name := "carryJoins", fn := fun _ => fun
  | [d1, d2] => { results := [.lit (.bool false)], args := [d1, d2] }
  | _ => none }
def CarryJoinsWrongFalsely : Prop := carryJoinsRow.holds Tryz.pinned (OpenSpec.ofChange carryJoinsWrong)

/-- 'sixdotlaw32.CarryAgrees': WHATEVER THE INPUT: true; the input reads as it did. -/
def carryAgreesSpec : ChangeSpec := { name := "carryAgrees", fn := fun _ => fun
  | [d1, d2, d3] => { results := [.lit (.bool true)], args := [d1, d2, d3] }
  | _ => none }
def carryAgreesRow : OpenClaim := { program := "ytbegmnhifelfoaagreat", sum := "fd2a2b8ceb3dc5e9ad0f03441c954915243cebfb5a8419677f26a5e57541b45d", func := "sixdot/sixdotlaw32.CarryAgrees", spec := "carryAgrees", unfollowed := true, recurses := true, apart := false }
def CarryAgreesSaid : Prop := carryAgreesRow.holds Tryz.pinned (OpenSpec.ofChange carryAgreesSpec)

/-- ITS FALSE NEIGHBOUR: 'it returns false'. Refute it at one input. -/
def carryAgreesWrong : ChangeSpec := { name := "carryAgrees", fn := fun _ => fun
  | [d1, d2, d3] => { results := [.lit (.bool false)], args := [d1, d2, d3] }
  | _ => none }
def CarryAgreesWrongFalsely : Prop := carryAgreesRow.holds Tryz.pinned (OpenSpec.ofChange carryAgreesWrong)

/-- 'sixdotlaw32.CarryAll': WHATEVER THE INPUT: true; the input reads as it did. -/
def carryAllSpec : ChangeSpec := { name := "carryAll", fn := fun _ => fun
  | [d1, d2] => { results := [.lit (.bool true)], args := [d1, d2] }
  | _ => none }
def carryAllRow : OpenClaim := { program := "ytbegmnhifelfoaagreat", sum := "fd2a2b8ceb3dc5e9ad0f03441c954915243cebfb5a8419677f26a5e57541b45d", func := "sixdot/sixdotlaw32.CarryAll", spec := "carryAll", unfollowed := true, recurses := true, apart := false }
def CarryAllSaid : Prop := carryAllRow.holds Tryz.pinned (OpenSpec.ofChange carryAllSpec)

/-- ITS FALSE NEIGHBOUR: 'it returns false'. Refute it at one input. -/
def carryAllWrong : ChangeSpec := { name := "carryAll", fn := fun _ => fun
  | [d1, d2] => { results := [.lit (.bool false)], args := [d1, d2] }
  | _ => none }
def CarryAllWrongFalsely : Prop := carryAllRow.holds Tryz.pinned (OpenSpec.ofChange carryAllWrong)

/- THE SECOND FORM. 'bulk': how many values and letters a reading holds, each counted each time it is reached (what is shared counts as often as it is met; a slice's spare places count too). A statement '..UptoSaid' is the law's where the arguments, and the package variables that the reading takes, are together of bulk at most 1048576: NARROWER than '..Said'. Prove '..Said' where nothing that the law and all that it calls make is longer than what came in: it says more and counts as full. Else prove '..UptoSaid'. A law counts once. -/
mutual
def uptoBulk {H : Type} : DataW H → Nat
  | .lit (.string bytes) => bytes.length + 1
  | .lit _ => 1
  | .nil => 1
  | .ptr d => uptoBulk d + 1
  | .slice elems spare => uptoBulkAll elems + uptoBulkAll spare + 1
  | .agg parts => uptoBulkAll parts + 1
  | .iface _ d => uptoBulk d + 1
  | .map entries => uptoBulkEntries entries + 1
  | .held _ => 1
def uptoBulkAll {H : Type} : List (DataW H) → Nat
  | [] => 0
  | d :: r => uptoBulk d + uptoBulkAll r
def uptoBulkEntries {H : Type} : List (Lit × DataW H) → Nat
  | [] => 0
  | x :: r => uptoBulkEntry x + uptoBulkEntries r
def uptoBulkEntry {H : Type} : Lit × DataW H → Nat
  | (.string bytes, d) => bytes.length + uptoBulk d + 1
  | (_, d) => uptoBulk d + 1
 end
def uptoSmall : (H : Type) → List (DataW H) → Bool := fun _ ds => decide (uptoBulkAll ds ≤ 1048576)
def OpenSpec.upto (s : _root_.Go.ChangeSpec) : _root_.Go.OpenSpec := { _root_.Go.OpenSpec.ofChange s with cond := some uptoSmall }

/-- 'sixdotlaw32.CarryApplies', WHERE WHAT IT READS IS OF BULK AT MOST 1048576: true; the input reads as it did. -/
def carryAppliesUptoRow : OpenClaim := { program := "ytbegmnhifelfoaagreat", sum := "fd2a2b8ceb3dc5e9ad0f03441c954915243cebfb5a8419677f26a5e57541b45d", func := "sixdot/sixdotlaw32.CarryApplies", spec := "carryApplies", unfollowed := true, recurses := true, apart := false, narrowed := true }
def CarryAppliesUptoSaid : Prop := carryAppliesUptoRow.holds Tryz.pinned (OpenSpec.upto carryAppliesSpec)

/-- 'sixdotlaw32.CarryExchanges', WHERE WHAT IT READS IS OF BULK AT MOST 1048576: true; the input reads as it did. -/
def carryExchangesUptoRow : OpenClaim := { program := "ytbegmnhifelfoaagreat", sum := "fd2a2b8ceb3dc5e9ad0f03441c954915243cebfb5a8419677f26a5e57541b45d", func := "sixdot/sixdotlaw32.CarryExchanges", spec := "carryExchanges", unfollowed := true, recurses := true, apart := false, narrowed := true }
def CarryExchangesUptoSaid : Prop := carryExchangesUptoRow.holds Tryz.pinned (OpenSpec.upto carryExchangesSpec)

/-- 'sixdotlaw32.CarryJoins', WHERE WHAT IT READS IS OF BULK AT MOST 1048576: true; the input reads as it did. -/
def carryJoinsUptoRow : OpenClaim := { program := "ytbegmnhifelfoaagreat", sum := "fd2a2b8ceb3dc5e9ad0f03441c954915243cebfb5a8419677f26a5e57541b45d", func := "sixdot/sixdotlaw32.CarryJoins", spec := "carryJoins", unfollowed := true, recurses := true, apart := false, narrowed := true }
def CarryJoinsUptoSaid : Prop := carryJoinsUptoRow.holds Tryz.pinned (OpenSpec.upto carryJoinsSpec)

/-- 'sixdotlaw32.CarryAgrees', WHERE WHAT IT READS IS OF BULK AT MOST 1048576: true; the input reads as it did. -/
def carryAgreesUptoRow : OpenClaim := { program := "ytbegmnhifelfoaagreat", sum := "fd2a2b8ceb3dc5e9ad0f03441c954915243cebfb5a8419677f26a5e57541b45d", func := "sixdot/sixdotlaw32.CarryAgrees", spec := "carryAgrees", unfollowed := true, recurses := true, apart := false, narrowed := true }
def CarryAgreesUptoSaid : Prop := carryAgreesUptoRow.holds Tryz.pinned (OpenSpec.upto carryAgreesSpec)

/-- 'sixdotlaw32.CarryAll', WHERE WHAT IT READS IS OF BULK AT MOST 1048576: true; the input reads as it did. -/
def carryAllUptoRow : OpenClaim := { program := "ytbegmnhifelfoaagreat", sum := "fd2a2b8ceb3dc5e9ad0f03441c954915243cebfb5a8419677f26a5e57541b45d", func := "sixdot/sixdotlaw32.CarryAll", spec := "carryAll", unfollowed := true, recurses := true, apart := false, narrowed := true }
def CarryAllUptoSaid : Prop := carryAllUptoRow.holds Tryz.pinned (OpenSpec.upto carryAllSpec)

end Rows
end Go.Proofs.YtbegmnhifelfoaaGreat
