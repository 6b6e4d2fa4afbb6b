/-
  No cell of these rows narrows 'for every input' (looked for: loops, veiled, ifaces, maps, wideKeys, modest, calm, conditions, laid).
  DERIVED. THE GIVEN ROWS OF THIS SEAT. 4 by the template 'for every input the law returns true; each argument reads behind the call as it read before'; 0 by the template 'total and deterministic' (their statements: YtlhfdeoeeenapaaTotals.lean).
  GIVEN WITH THE SEED: the statements are not yours to turn. If you find one false, say at which input.
  Laid BY PROGRAM, IN A SANDBOX (cutbox-rows.mjs): the forced cells as the released guide's own fill.sh prints them over the translation 8d127f2ae056150f… (all of the seat's roots in one cut). By AI agents, Wed Nov 11 2026. No macro, syntax, notation, axiom, sorry.
-/
import Derived.Test.YtlhfdeoeeenapaaChecked
import GoSem.Claim
import GoSem.ClaimJoined
import GoSem.ClaimMapViews
import Derived.JoinedTies
import Derived.KernelRfl
namespace Go.Proofs.Ytlhfdeoeeenapaa
/- THE CELL 'sum', in the pinned program and in every row, IS THE sha256 OF THE DUMP (.gsa) THAT YtlhfdeoeeenapaaProg.lean LOADS. Nothing in Lean hashes anything: it is a label: what it is worth is what the hold of that sum in a sandbox is worth. -/
noncomputable def Try.pinned : Pinned := { name := "ytlhfdeoeeenapaa", sum := "8d127f2ae056150f63e970242e0eda2b0bc9973bc526af71aaac09dbff22e4c3", checked := Try.checked }
namespace Rows
def none {H : Type} : Left H := { results := [], args := [] }

/-- 'sixdotlaw08.DoubtMatchesReference': WHATEVER THE INPUT: true; the input reads as it did. -/
def doubtMatchesReferenceSpec : ChangeSpec := { name := "doubtMatchesReference", fn := fun _ => fun
  | [d1, d2, d3] => { results := [.lit (.bool true)], args := [d1, d2, d3] }
  | _ => none }
def doubtMatchesReferenceRow : OpenClaim := { program := "ytlhfdeoeeenapaa", sum := "8d127f2ae056150f63e970242e0eda2b0bc9973bc526af71aaac09dbff22e4c3", func := "sixdot/sixdotlaw08.DoubtMatchesReference", spec := "doubtMatchesReference", inPlace := ["internal/bytealg.abigen_runtime_cmpstring"], unfollowed := true, recurses := true, plainKeys := false, apart := false }
def DoubtMatchesReferenceSaid : Prop := doubtMatchesReferenceRow.holds Try.pinned (OpenSpec.ofChange doubtMatchesReferenceSpec)

/-- ITS FALSE NEIGHBOUR: 'it returns false'. Refute it at one input. -/
def doubtMatchesReferenceWrong : ChangeSpec := { name := "doubtMatchesReference", fn := fun _ => fun
  | [d1, d2, d3] => { results := [.lit (.bool false)], args := [d1, d2, d3] }
  | _ => none }
def DoubtMatchesReferenceWrongFalsely : Prop := doubtMatchesReferenceRow.holds Try.pinned (OpenSpec.ofChange doubtMatchesReferenceWrong)

/-- 'sixdotlaw08.DoubtProves': WHATEVER THE INPUT: true; the input reads as it did. -/
def doubtProvesSpec : ChangeSpec := { name := "doubtProves", fn := fun _ => fun
  | [d1, d2, d3] => { results := [.lit (.bool true)], args := [d1, d2, d3] }
  | _ => none }
def doubtProvesRow : OpenClaim := { program := "ytlhfdeoeeenapaa", sum := "8d127f2ae056150f63e970242e0eda2b0bc9973bc526af71aaac09dbff22e4c3", func := "sixdot/sixdotlaw08.DoubtProves", spec := "doubtProves", inPlace := ["internal/bytealg.abigen_runtime_cmpstring"], unfollowed := true, recurses := true, plainKeys := false, apart := false }
def DoubtProvesSaid : Prop := doubtProvesRow.holds Try.pinned (OpenSpec.ofChange doubtProvesSpec)

/-- ITS FALSE NEIGHBOUR: 'it returns false'. Refute it at one input. -/
def doubtProvesWrong : ChangeSpec := { name := "doubtProves", fn := fun _ => fun
  | [d1, d2, d3] => { results := [.lit (.bool false)], args := [d1, d2, d3] }
  | _ => none }
def DoubtProvesWrongFalsely : Prop := doubtProvesRow.holds Try.pinned (OpenSpec.ofChange doubtProvesWrong)

/-- 'sixdotlaw08.DoubtFinds': WHATEVER THE INPUT: true; the input reads as it did. -/
def doubtFindsSpec : ChangeSpec := { name := "doubtFinds", fn := fun _ => fun
  | [d1, d2, d3] => { results := [.lit (.bool true)], args := [d1, d2, d3] }
  | _ => none }
def doubtFindsRow : OpenClaim := { program := "ytlhfdeoeeenapaa", sum := "8d127f2ae056150f63e970242e0eda2b0bc9973bc526af71aaac09dbff22e4c3", func := "sixdot/sixdotlaw08.DoubtFinds", spec := "doubtFinds", inPlace := ["internal/bytealg.abigen_runtime_cmpstring"], unfollowed := true, recurses := true, plainKeys := false, apart := false }
def DoubtFindsSaid : Prop := doubtFindsRow.holds Try.pinned (OpenSpec.ofChange doubtFindsSpec)

/-- ITS FALSE NEIGHBOUR: 'it returns false'. Refute it at one input. -/
def doubtFindsWrong : ChangeSpec := { name := "doubtFinds", fn := fun _ => fun
  | [d1, d2, d3] => { results := [.lit (.bool false)], args := [d1, d2, d3] }
  | _ => none }
def DoubtFindsWrongFalsely : Prop := doubtFindsRow.holds Try.pinned (OpenSpec.ofChange doubtFindsWrong)

/-- 'sixdotlaw08.DoubtGrows': WHATEVER THE INPUT: true; the input reads as it did. -/
def doubtGrowsSpec : ChangeSpec := { name := "doubtGrows", fn := fun _ => fun
  | [d1, d2, d3] => { results := [.lit (.bool true)], args := [d1, d2, d3] }
  | _ => none }
def doubtGrowsRow : OpenClaim := { program := "ytlhfdeoeeenapaa", sum := "8d127f2ae056150f63e970242e0eda2b0bc9973bc526af71aaac09dbff22e4c3", func := "sixdot/sixdotlaw08.DoubtGrows", spec := "doubtGrows", inPlace := ["internal/bytealg.abigen_runtime_cmpstring"], unfollowed := true, recurses := true, plainKeys := false, apart := false }
def DoubtGrowsSaid : Prop := doubtGrowsRow.holds Try.pinned (OpenSpec.ofChange doubtGrowsSpec)

/-- ITS FALSE NEIGHBOUR: 'it returns false'. Refute it at one input. -/
def doubtGrowsWrong : ChangeSpec := { name := "doubtGrows", fn := fun _ => fun
  | [d1, d2, d3] => { results := [.lit (.bool false)], args := [d1, d2, d3] }
  | _ => none }
def DoubtGrowsWrongFalsely : Prop := doubtGrowsRow.holds Try.pinned (OpenSpec.ofChange doubtGrowsWrong)

/- THE SECOND FORM. 'bulk': how many values and letters a reading holds, each counted each time it is reached (what is shared counts as often as it is met; a slice's spare places count too). A statement '..UptoSaid' is the law's where the arguments, and the package variables that the reading takes, are together of bulk at most 1048576: NARROWER than '..Said'. Prove '..Said' where nothing that the law and all that it calls make is longer than what came in: it says more and counts as full. Else prove '..UptoSaid'. A law counts once. -/
mutual
def uptoBulk {H : Type} : DataW H → Nat
  | .lit (.string bytes) => bytes.length + 1
  | .lit _ => 1
  | .nil => 1
  | .ptr d => uptoBulk d + 1
  | .slice elems spare => uptoBulkAll elems + uptoBulkAll spare + 1
  | .agg parts => uptoBulkAll parts + 1
  | .iface _ d => uptoBulk d + 1
  | .map entries => uptoBulkEntries entries + 1
  | .held _ => 1
def uptoBulkAll {H : Type} : List (DataW H) → Nat
  | [] => 0
  | d :: r => uptoBulk d + uptoBulkAll r
def uptoBulkEntries {H : Type} : List (Lit × DataW H) → Nat
  | [] => 0
  | x :: r => uptoBulkEntry x + uptoBulkEntries r
def uptoBulkEntry {H : Type} : Lit × DataW H → Nat
  | (.string bytes, d) => bytes.length + uptoBulk d + 1
  | (_, d) => uptoBulk d + 1
 end
def uptoSmall : (H : Type) → List (DataW H) → Bool := fun _ ds => decide (uptoBulkAll ds ≤ 1048576)
def OpenSpec.upto (s : _root_.Go.ChangeSpec) : _root_.Go.OpenSpec := { _root_.Go.OpenSpec.ofChange s with cond := some uptoSmall }

/-- 'sixdotlaw08.DoubtMatchesReference', WHERE WHAT IT READS IS OF BULK AT MOST 1048576: true; the input reads as it did. -/
def doubtMatchesReferenceUptoRow : OpenClaim := { program := "ytlhfdeoeeenapaa", sum := "8d127f2ae056150f63e970242e0eda2b0bc9973bc526af71aaac09dbff22e4c3", func := "sixdot/sixdotlaw08.DoubtMatchesReference", spec := "doubtMatchesReference", inPlace := ["internal/bytealg.abigen_runtime_cmpstring"], unfollowed := true, recurses := true, plainKeys := false, apart := false, narrowed := true }
def DoubtMatchesReferenceUptoSaid : Prop := doubtMatchesReferenceUptoRow.holds Try.pinned (OpenSpec.upto doubtMatchesReferenceSpec)

/-- 'sixdotlaw08.DoubtProves', WHERE WHAT IT READS IS OF BULK AT MOST 1048576: true; the input reads as it did. -/
def doubtProvesUptoRow : OpenClaim := { program := "ytlhfdeoeeenapaa", sum := "8d127f2ae056150f63e970242e0eda2b0bc9973bc526af71aaac09dbff22e4c3", func := "sixdot/sixdotlaw08.DoubtProves", spec := "doubtProves", inPlace := ["internal/bytealg.abigen_runtime_cmpstring"], unfollowed := true, recurses := true, plainKeys := false, apart := false, narrowed := true }
def DoubtProvesUptoSaid : Prop := doubtProvesUptoRow.holds Try.pinned (OpenSpec.upto doubtProvesSpec)

/-- 'sixdotlaw08.DoubtFinds', WHERE WHAT IT READS IS OF BULK AT MOST 1048576: true; the input reads as it did. -/
def doubtFindsUptoRow : OpenClaim := { program := "ytlhfdeoeeenapaa", sum := "8d127f2ae056150f63e970242e0eda2b0bc9973bc526af71aaac09dbff22e4c3", func := "sixdot/sixdotlaw08.DoubtFinds", spec := "doubtFinds", inPlace := ["internal/bytealg.abigen_runtime_cmpstring"], unfollowed := true, recurses := true, plainKeys := false, apart := false, narrowed := true }
def DoubtFindsUptoSaid : Prop := doubtFindsUptoRow.holds Try.pinned (OpenSpec.upto doubtFindsSpec)

/-- 'sixdotlaw08.DoubtGrows', WHERE WHAT IT READS IS OF BULK AT MOST 1048576: true; the input reads as it did. -/
def doubtGrowsUptoRow : OpenClaim := { program := "ytlhfdeoeeenapaa", sum := "8d127f2ae056150f63e970242e0eda2b0bc9973bc526af71aaac09dbff22e4c3", func := "sixdot/sixdotlaw08.DoubtGrows", spec := "doubtGrows", inPlace := ["internal/bytealg.abigen_runtime_cmpstring"], unfollowed := true, recurses := true, plainKeys := false, apart := false, narrowed := true }
def DoubtGrowsUptoSaid : Prop := doubtGrowsUptoRow.holds Try.pinned (OpenSpec.upto doubtGrowsSpec)

end Rows
end Go.Proofs.Ytlhfdeoeeenapaa
