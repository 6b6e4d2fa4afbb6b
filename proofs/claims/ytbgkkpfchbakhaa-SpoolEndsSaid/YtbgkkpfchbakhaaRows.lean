/-
  No cell of these rows narrows 'for every input' (looked for: loops, veiled, ifaces, maps, wideKeys, modest, calm, conditions, laid).
  DERIVED. THE GIVEN ROWS OF THIS SEAT. 6 by the template 'for every input the law returns true; each argument reads behind the call as it read before'; 0 by the template 'total and deterministic' (their statements: YtbgkkpfchbakhaaTotals.lean).
  GIVEN WITH THE SEED: the statements are not yours to turn. If you find one false, say at which input.
  Laid BY PROGRAM, IN A SANDBOX (cutbox-rows.mjs): the forced cells as the released guide's own fill.sh prints them over the translation af2430f769338151… (all of the seat's roots in one cut). By AI agents, Wed Nov 11 2026. No macro, syntax, notation, axiom, sorry.
-/
import Derived.Test.YtbgkkpfchbakhaaChecked
import GoSem.Claim
import GoSem.ClaimJoined
import GoSem.ClaimMapViews
import Derived.JoinedTies
import Derived.KernelRfl
namespace Go.Proofs.Ytbgkkpfchbakhaa
/- THE CELL 'sum', in the pinned program and in every row, IS THE sha256 OF THE DUMP (.gsa) THAT YtbgkkpfchbakhaaProg.lean LOADS. Nothing in Lean hashes anything: it is a label: what it is worth is what the hold of that sum in a sandbox is worth. -/
noncomputable def Try.pinned : Pinned := { name := "ytbgkkpfchbakhaa", sum := "af2430f76933815111cab9158aba189701968dc768b444faf790af6ee87b2844", checked := Try.checked }
namespace Rows
def none {H : Type} : Left H := { results := [], args := [] }

/-- 'sixdotlaw29.SpoolMatchesReference': WHATEVER THE INPUT: true; the input reads as it did. -/
def spoolMatchesReferenceSpec : ChangeSpec := { name := "spoolMatchesReference", fn := fun _ => fun
  | [d1, d2] => { results := [.lit (.bool true)], args := [d1, d2] }
  | _ => none }
def spoolMatchesReferenceRow : OpenClaim := { program := "ytbgkkpfchbakhaa", sum := "af2430f76933815111cab9158aba189701968dc768b444faf790af6ee87b2844", func := "sixdot/sixdotlaw29.SpoolMatchesReference", spec := "spoolMatchesReference", unfollowed := true, recurses := true, apart := false }
def SpoolMatchesReferenceSaid : Prop := spoolMatchesReferenceRow.holds Try.pinned (OpenSpec.ofChange spoolMatchesReferenceSpec)

/-- ITS FALSE NEIGHBOUR: 'it returns false'. Refute it at one input. -/
def spoolMatchesReferenceWrong : ChangeSpec := { name := "spoolMatchesReference", fn := fun _ => fun
  | [d1, d2] => { results := [.lit (.bool false)], args := [d1, d2] }
  | _ => none }
def SpoolMatchesReferenceWrongFalsely : Prop := spoolMatchesReferenceRow.holds Try.pinned (OpenSpec.ofChange spoolMatchesReferenceWrong)

/-- 'sixdotlaw29.SpoolOnce': WHATEVER THE INPUT: true; the input reads as it did. -/
def spoolOnceSpec : ChangeSpec := { name := "spoolOnce", fn := fun _ => fun
  | [d] => { results := [.lit (.bool true)], args := [d] }
  | _ => none }
def spoolOnceRow : OpenClaim := { program := "ytbgkkpfchbakhaa", sum := "af2430f76933815111cab9158aba189701968dc768b444faf790af6ee87b2844", func := "sixdot/sixdotlaw29.SpoolOnce", spec := "spoolOnce", unfollowed := true, recurses := true, apart := false }
def SpoolOnceSaid : Prop := spoolOnceRow.holds Try.pinned (OpenSpec.ofChange spoolOnceSpec)

/-- ITS FALSE NEIGHBOUR: 'it returns false'. Refute it at one input. -/
def spoolOnceWrong : ChangeSpec := { name := "spoolOnce", fn := fun _ => fun
  | [d] => { results := [.lit (.bool false)], args := [d] }
  | _ => none }
def SpoolOnceWrongFalsely : Prop := spoolOnceRow.holds Try.pinned (OpenSpec.ofChange spoolOnceWrong)

/-- 'sixdotlaw29.SpoolProgresses': WHATEVER THE INPUT: true; the input reads as it did. -/
def spoolProgressesSpec : ChangeSpec := { name := "spoolProgresses", fn := fun _ => fun
  | [d] => { results := [.lit (.bool true)], args := [d] }
  | _ => none }
def spoolProgressesRow : OpenClaim := { program := "ytbgkkpfchbakhaa", sum := "af2430f76933815111cab9158aba189701968dc768b444faf790af6ee87b2844", func := "sixdot/sixdotlaw29.SpoolProgresses", spec := "spoolProgresses", unfollowed := true, recurses := true, apart := false }
def SpoolProgressesSaid : Prop := spoolProgressesRow.holds Try.pinned (OpenSpec.ofChange spoolProgressesSpec)

/-- ITS FALSE NEIGHBOUR: 'it returns false'. Refute it at one input. -/
def spoolProgressesWrong : ChangeSpec := { name := "spoolProgresses", fn := fun _ => fun
  | [d] => { results := [.lit (.bool false)], args := [d] }
  | _ => none }
def SpoolProgressesWrongFalsely : Prop := spoolProgressesRow.holds Try.pinned (OpenSpec.ofChange spoolProgressesWrong)

/-- 'sixdotlaw29.SpoolRecovers': WHATEVER THE INPUT: true; the input reads as it did. -/
def spoolRecoversSpec : ChangeSpec := { name := "spoolRecovers", fn := fun _ => fun
  | [d1, d2] => { results := [.lit (.bool true)], args := [d1, d2] }
  | _ => none }
def spoolRecoversRow : OpenClaim := { program := "ytbgkkpfchbakhaa", sum := "af2430f76933815111cab9158aba189701968dc768b444faf790af6ee87b2844", func := "sixdot/sixdotlaw29.SpoolRecovers", spec := "spoolRecovers", unfollowed := true, recurses := true, apart := false }
def SpoolRecoversSaid : Prop := spoolRecoversRow.holds Try.pinned (OpenSpec.ofChange spoolRecoversSpec)

/-- ITS FALSE NEIGHBOUR: 'it returns false'. Refute it at one input. -/
def spoolRecoversWrong : ChangeSpec := { name := "spoolRecovers", fn := fun _ => fun
  | [d1, d2] => { results := [.lit (.bool false)], args := [d1, d2] }
  | _ => none }
def SpoolRecoversWrongFalsely : Prop := spoolRecoversRow.holds Try.pinned (OpenSpec.ofChange spoolRecoversWrong)

/-- 'sixdotlaw29.SpoolSteps': WHATEVER THE INPUT: true; the input reads as it did. -/
def spoolStepsSpec : ChangeSpec := { name := "spoolSteps", fn := fun _ => fun
  | [d1, d2] => { results := [.lit (.bool true)], args := [d1, d2] }
  | _ => none }
def spoolStepsRow : OpenClaim := { program := "ytbgkkpfchbakhaa", sum := "af2430f76933815111cab9158aba189701968dc768b444faf790af6ee87b2844", func := "sixdot/sixdotlaw29.SpoolSteps", spec := "spoolSteps", unfollowed := true, recurses := true, apart := false }
def SpoolStepsSaid : Prop := spoolStepsRow.holds Try.pinned (OpenSpec.ofChange spoolStepsSpec)

/-- ITS FALSE NEIGHBOUR: 'it returns false'. Refute it at one input. -/
def spoolStepsWrong : ChangeSpec := { name := "spoolSteps", fn := fun _ => fun
  | [d1, d2] => { results := [.lit (.bool false)], args := [d1, d2] }
  | _ => none }
def SpoolStepsWrongFalsely : Prop := spoolStepsRow.holds Try.pinned (OpenSpec.ofChange spoolStepsWrong)

/-- 'sixdotlaw29.SpoolEnds': WHATEVER THE INPUT: true; the input reads as it did. -/
def spoolEndsSpec : ChangeSpec := { name := "spoolEnds", fn := fun _ => fun
  | [d1, d2] => { results := [.lit (.bool true)], args := [d1, d2] }
  | _ => none }
def spoolEndsRow : OpenClaim := { program := "ytbgkkpfchbakhaa", sum := "af2430f76933815111cab9158aba189701968dc768b444faf790af6ee87b2844", func := "sixdot/sixdotlaw29.SpoolEnds", spec := "spoolEnds", unfollowed := true, recurses := true, apart := false }
def SpoolEndsSaid : Prop := spoolEndsRow.holds Try.pinned (OpenSpec.ofChange spoolEndsSpec)

/-- ITS FALSE NEIGHBOUR: 'it returns false'. Refute it at one input. -/
def spoolEndsWrong : ChangeSpec := { name := "spoolEnds", fn := fun _ => fun
  | [d1, d2] => { results := [.lit (.bool false)], args := [d1, d2] }
  | _ => none }
def SpoolEndsWrongFalsely : Prop := spoolEndsRow.holds Try.pinned (OpenSpec.ofChange spoolEndsWrong)

/- THE SECOND FORM. 'bulk': how many values and letters a reading holds, each counted each time it is reached (what is shared counts as often as it is met; a slice's spare places count too). A statement '..UptoSaid' is the law's where the arguments, and the package variables that the reading takes, are together of bulk at most 1048576: NARROWER than '..Said'. Prove '..Said' where nothing that the law and all that it calls make is longer than what came in: it says more and counts as full. Else prove '..UptoSaid'. A law counts once. -/
mutual
def uptoBulk {H : Type} : DataW H → Nat
  | .lit (.string bytes) => bytes.length + 1
  | .lit _ => 1
  | .nil => 1
  | .ptr d => uptoBulk d + 1
  | .slice elems spare => uptoBulkAll elems + uptoBulkAll spare + 1
  | .agg parts => uptoBulkAll parts + 1
  | .iface _ d => uptoBulk d + 1
  | .map entries => uptoBulkEntries entries + 1
  | .held _ => 1
def uptoBulkAll {H : Type} : List (DataW H) → Nat
  | [] => 0
  | d :: r => uptoBulk d + uptoBulkAll r
def uptoBulkEntries {H : Type} : List (Lit × DataW H) → Nat
  | [] => 0
  | x :: r => uptoBulkEntry x + uptoBulkEntries r
def uptoBulkEntry {H : Type} : Lit × DataW H → Nat
  | (.string bytes, d) => bytes.length + uptoBulk d + 1
  | (_, d) => uptoBulk d + 1
 end
def uptoSmall : (H : Type) → List (DataW H) → Bool := fun _ ds => decide (uptoBulkAll ds ≤ 1048576)
def OpenSpec.upto (s : _root_.Go.ChangeSpec) : _root_.Go.OpenSpec := { _root_.Go.OpenSpec.ofChange s with cond := some uptoSmall }

/-- 'sixdotlaw29.SpoolMatchesReference', WHERE WHAT IT READS IS OF BULK AT MOST 1048576: true; the input reads as it did. -/
def spoolMatchesReferenceUptoRow : OpenClaim := { program := "ytbgkkpfchbakhaa", sum := "af2430f76933815111cab9158aba189701968dc768b444faf790af6ee87b2844", func := "sixdot/sixdotlaw29.SpoolMatchesReference", spec := "spoolMatchesReference", unfollowed := true, recurses := true, apart := false, narrowed := true }
def SpoolMatchesReferenceUptoSaid : Prop := spoolMatchesReferenceUptoRow.holds Try.pinned (OpenSpec.upto spoolMatchesReferenceSpec)

/-- 'sixdotlaw29.SpoolOnce', WHERE WHAT IT READS IS OF BULK AT MOST 1048576: true; the input reads as it did. -/
def spoolOnceUptoRow : OpenClaim := { program := "ytbgkkpfchbakhaa", sum := "af2430f76933815111cab9158aba189701968dc768b444faf790af6ee87b2844", func := "sixdot/sixdotlaw29.SpoolOnce", spec := "spoolOnce", unfollowed := true, recurses := true, apart := false, narrowed := true }
def SpoolOnceUptoSaid : Prop := spoolOnceUptoRow.holds Try.pinned (OpenSpec.upto spoolOnceSpec)

/-- 'sixdotlaw29.SpoolProgresses', WHERE WHAT IT READS IS OF BULK AT MOST 1048576: true; the input reads as it did. -/
def spoolProgressesUptoRow : OpenClaim := { program := "ytbgkkpfchbakhaa", sum := "af2430f76933815111cab9158aba189701968dc768b444faf790af6ee87b2844", func := "sixdot/sixdotlaw29.SpoolProgresses", spec := "spoolProgresses", unfollowed := true, recurses := true, apart := false, narrowed := true }
def SpoolProgressesUptoSaid : Prop := spoolProgressesUptoRow.holds Try.pinned (OpenSpec.upto spoolProgressesSpec)

/-- 'sixdotlaw29.SpoolRecovers', WHERE WHAT IT READS IS OF BULK AT MOST 1048576: true; the input reads as it did. -/
def spoolRecoversUptoRow : OpenClaim := { program := "ytbgkkpfchbakhaa", sum := "af2430f76933815111cab9158aba189701968dc768b444faf790af6ee87b2844", func := "sixdot/sixdotlaw29.SpoolRecovers", spec := "spoolRecovers", unfollowed := true, recurses := true, apart := false, narrowed := true }
def SpoolRecoversUptoSaid : Prop := spoolRecoversUptoRow.holds Try.pinned (OpenSpec.upto spoolRecoversSpec)

/-- 'sixdotlaw29.SpoolSteps', WHERE WHAT IT READS IS OF BULK AT MOST 1048576: true; the input reads as it did. -/
def spoolStepsUptoRow : OpenClaim := { program := "ytbgkkpfchbakhaa", sum := "af2430f76933815111cab9158aba189701968dc768b444faf790af6ee87b2844", func := "sixdot/sixdotlaw29.SpoolSteps", spec := "spoolSteps", unfollowed := true, recurses := true, apart := false, narrowed := true }
def SpoolStepsUptoSaid : Prop := spoolStepsUptoRow.holds Try.pinned (OpenSpec.upto spoolStepsSpec)

/-- 'sixdotlaw29.SpoolEnds', WHERE WHAT IT READS IS OF BULK AT MOST 1048576: true; the input reads as it did. -/
def spoolEndsUptoRow : OpenClaim := { program := "ytbgkkpfchbakhaa", sum := "af2430f76933815111cab9158aba189701968dc768b444faf790af6ee87b2844", func := "sixdot/sixdotlaw29.SpoolEnds", spec := "spoolEnds", unfollowed := true, recurses := true, apart := false, narrowed := true }
def SpoolEndsUptoSaid : Prop := spoolEndsUptoRow.holds Try.pinned (OpenSpec.upto spoolEndsSpec)

end Rows
end Go.Proofs.Ytbgkkpfchbakhaa
