/-
  No cell of these rows narrows 'for every input' (looked for: loops, veiled, ifaces, maps, wideKeys, modest, calm, conditions, laid).
  DERIVED. THE GIVEN ROWS OF THIS SEAT. 3 by the template 'for every input the law returns true; each argument reads behind the call as it read before'; 0 by the template 'total and deterministic' (their statements: YtjaogfjfamffnaaGreatTotals.lean).
  GIVEN WITH THE SEED: the statements are not yours to turn. If you find one false, say at which input.
  Laid BY PROGRAM, IN A SANDBOX (cutbox-rows.mjs): the forced cells as the released guide's own fill.sh prints them over the translation b8c57a0cfab3b7a1… (all of the seat's roots in one cut). By AI agents, Wed Nov 11 2026. No macro, syntax, notation, axiom, sorry.
-/
import Derived.Test.YtjaogfjfamffnaaGreatChecked
import GoSem.Claim
import GoSem.ClaimJoined
import GoSem.ClaimMapViews
import Derived.JoinedTies
import Derived.KernelRfl
namespace Go.Proofs.YtjaogfjfamffnaaGreat
/- THE CELL 'sum', in the pinned program and in every row, IS THE sha256 OF THE DUMP (.gsa) THAT YtjaogfjfamffnaaGreatProg.lean LOADS. Nothing in Lean hashes anything: it is a label: what it is worth is what the hold of that sum in a sandbox is worth. -/
noncomputable def Tryz.pinned : Pinned := { name := "ytjaogfjfamffnaagreat", sum := "b8c57a0cfab3b7a17c10f23d822b2c3def5bccecc9e3c508fed599f0b6d3b188", checked := Tryz.checked }
namespace Rows
def none {H : Type} : Left H := { results := [], args := [] }

/-- 'sixdotlaw07.ReviseChanges': WHATEVER THE INPUT: true; the input reads as it did. -/
def reviseChangesSpec : ChangeSpec := { name := "reviseChanges", fn := fun _ => fun
  | [d1, d2, d3] => { results := [.lit (.bool true)], args := [d1, d2, d3] }
  | _ => none }
def reviseChangesRow : OpenClaim := { program := "ytjaogfjfamffnaagreat", sum := "b8c57a0cfab3b7a17c10f23d822b2c3def5bccecc9e3c508fed599f0b6d3b188", func := "sixdot/sixdotlaw07.ReviseChanges", spec := "reviseChanges", unfollowed := true, recurses := true, plainKeys := false, apart := false }
def ReviseChangesSaid : Prop := reviseChangesRow.holds Tryz.pinned (OpenSpec.ofChange reviseChangesSpec)

/-- ITS FALSE NEIGHBOUR: 'it returns false'. Refute it at one input. -/
def reviseChangesWrong : ChangeSpec := { name := "reviseChanges", fn := fun _ => fun
  | [d1, d2, d3] => { results := [.lit (.bool false)], args := [d1, d2, d3] }
  | _ => none }
def ReviseChangesWrongFalsely : Prop := reviseChangesRow.holds Tryz.pinned (OpenSpec.ofChange reviseChangesWrong)

/-- 'sixdotlaw07.ReviseScripts': WHATEVER THE INPUT: true; the input reads as it did. -/
def reviseScriptsSpec : ChangeSpec := { name := "reviseScripts", fn := fun _ => fun
  | [d1, d2, d3] => { results := [.lit (.bool true)], args := [d1, d2, d3] }
  | _ => none }
def reviseScriptsRow : OpenClaim := { program := "ytjaogfjfamffnaagreat", sum := "b8c57a0cfab3b7a17c10f23d822b2c3def5bccecc9e3c508fed599f0b6d3b188", func := "sixdot/sixdotlaw07.ReviseScripts", spec := "reviseScripts", unfollowed := true, recurses := true, plainKeys := false, apart := false }
def ReviseScriptsSaid : Prop := reviseScriptsRow.holds Tryz.pinned (OpenSpec.ofChange reviseScriptsSpec)

/-- ITS FALSE NEIGHBOUR: 'it returns false'. Refute it at one input. -/
def reviseScriptsWrong : ChangeSpec := { name := "reviseScripts", fn := fun _ => fun
  | [d1, d2, d3] => { results := [.lit (.bool false)], args := [d1, d2, d3] }
  | _ => none }
def ReviseScriptsWrongFalsely : Prop := reviseScriptsRow.holds Tryz.pinned (OpenSpec.ofChange reviseScriptsWrong)

/-- 'sixdotlaw07.ReviseRejects': WHATEVER THE INPUT: true; the input reads as it did. -/
def reviseRejectsSpec : ChangeSpec := { name := "reviseRejects", fn := fun _ => fun
  | [d1, d2, d3] => { results := [.lit (.bool true)], args := [d1, d2, d3] }
  | _ => none }
def reviseRejectsRow : OpenClaim := { program := "ytjaogfjfamffnaagreat", sum := "b8c57a0cfab3b7a17c10f23d822b2c3def5bccecc9e3c508fed599f0b6d3b188", func := "sixdot/sixdotlaw07.ReviseRejects", spec := "reviseRejects", unfollowed := true, recurses := true, plainKeys := false, apart := false }
def ReviseRejectsSaid : Prop := reviseRejectsRow.holds Tryz.pinned (OpenSpec.ofChange reviseRejectsSpec)

/-- ITS FALSE NEIGHBOUR: 'it returns false'. Refute it at one input. -/
def reviseRejectsWrong : ChangeSpec := { name := "reviseRejects", fn := fun _ => fun
  | [d1, d2, d3] => { results := [.lit (.bool false)], args := [d1, d2, d3] }
  | _ => none }
def ReviseRejectsWrongFalsely : Prop := reviseRejectsRow.holds Tryz.pinned (OpenSpec.ofChange reviseRejectsWrong)

/- THE SECOND FORM. 'bulk': how many values and letters a reading holds, each counted each time it is reached (what is shared counts as often as it is met; a slice's spare places count too). A statement '..UptoSaid' is the law's where the arguments, and the package variables that the reading takes, are together of bulk at most 1048576: NARROWER than '..Said'. Prove '..Said' where nothing that the law and all that it calls make is longer than what came in: it says more and counts as full. Else prove '..UptoSaid'. A law counts once. -/
mutual
def uptoBulk {H : Type} : DataW H → Nat
  | .lit (.string bytes) => bytes.length + 1
  | .lit _ => 1
  | .nil => 1
  | .ptr d => uptoBulk d + 1
  | .slice elems spare => uptoBulkAll elems + uptoBulkAll spare + 1
  | .agg parts => uptoBulkAll parts + 1
  | .iface _ d => uptoBulk d + 1
  | .map entries => uptoBulkEntries entries + 1
  | .held _ => 1
def uptoBulkAll {H : Type} : List (DataW H) → Nat
  | [] => 0
  | d :: r => uptoBulk d + uptoBulkAll r
def uptoBulkEntries {H : Type} : List (Lit × DataW H) → Nat
  | [] => 0
  | x :: r => uptoBulkEntry x + uptoBulkEntries r
def uptoBulkEntry {H : Type} : Lit × DataW H → Nat
  | (.string bytes, d) => bytes.length + uptoBulk d + 1
  | (_, d) => uptoBulk d + 1
 end
def uptoSmall : (H : Type) → List (DataW H) → Bool := fun _ ds => decide (uptoBulkAll ds ≤ 1048576)
def OpenSpec.upto (s : _root_.Go.ChangeSpec) : _root_.Go.OpenSpec := { _root_.Go.OpenSpec.ofChange s with cond := some uptoSmall }

/-- 'sixdotlaw07.ReviseChanges', WHERE WHAT IT READS IS OF BULK AT MOST 1048576: true; the input reads as it did. -/
def reviseChangesUptoRow : OpenClaim := { program := "ytjaogfjfamffnaagreat", sum := "b8c57a0cfab3b7a17c10f23d822b2c3def5bccecc9e3c508fed599f0b6d3b188", func := "sixdot/sixdotlaw07.ReviseChanges", spec := "reviseChanges", unfollowed := true, recurses := true, plainKeys := false, apart := false, narrowed := true }
def ReviseChangesUptoSaid : Prop := reviseChangesUptoRow.holds Tryz.pinned (OpenSpec.upto reviseChangesSpec)

/-- 'sixdotlaw07.ReviseScripts', WHERE WHAT IT READS IS OF BULK AT MOST 1048576: true; the input reads as it did. -/
def reviseScriptsUptoRow : OpenClaim := { program := "ytjaogfjfamffnaagreat", sum := "b8c57a0cfab3b7a17c10f23d822b2c3def5bccecc9e3c508fed599f0b6d3b188", func := "sixdot/sixdotlaw07.ReviseScripts", spec := "reviseScripts", unfollowed := true, recurses := true, plainKeys := false, apart := false, narrowed := true }
def ReviseScriptsUptoSaid : Prop := reviseScriptsUptoRow.holds Tryz.pinned (OpenSpec.upto reviseScriptsSpec)

/-- 'sixdotlaw07.ReviseRejects', WHERE WHAT IT READS IS OF BULK AT MOST 1048576: true; the input reads as it did. -/
def reviseRejectsUptoRow : OpenClaim := { program := "ytjaogfjfamffnaagreat", sum := "b8c57a0cfab3b7a17c10f23d822b2c3def5bccecc9e3c508fed599f0b6d3b188", func := "sixdot/sixdotlaw07.ReviseRejects", spec := "reviseRejects", unfollowed := true, recurses := true, plainKeys := false, apart := false, narrowed := true }
def ReviseRejectsUptoSaid : Prop := reviseRejectsUptoRow.holds Tryz.pinned (OpenSpec.upto reviseRejectsSpec)

end Rows
end Go.Proofs.YtjaogfjfamffnaaGreat
