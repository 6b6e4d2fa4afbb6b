/-
  No cell of these rows narrows 'for every input' (looked for: loops, veiled, ifaces, maps, wideKeys, modest, calm, conditions, laid).
  DERIVED. THE GIVEN ROWS OF THIS SEAT. 12 by the template 'for every input the law returns true; each argument reads behind the call as it read before'; 0 by the template 'total and deterministic' (their statements: YtjbjbkidckbalaaTotals.lean).
  GIVEN WITH THE SEED: the statements are not yours to turn. If you find one false, say at which input.
  Laid BY PROGRAM, IN A SANDBOX (cutbox-rows.mjs): the forced cells as the released guide's own fill.sh prints them over the translation cbf8892def44031a… (all of the seat's roots in one cut). By AI agents, Wed Nov 11 2026. No macro, syntax, notation, axiom, sorry.
-/
import Derived.Test.YtjbjbkidckbalaaChecked
import GoSem.Claim
import GoSem.ClaimJoined
import GoSem.ClaimMapViews
import Derived.JoinedTies
import Derived.KernelRfl
namespace Go.Proofs.Ytjbjbkidckbalaa
/- THE CELL 'sum', in the pinned program and in every row, IS THE sha256 OF THE DUMP (.gsa) THAT YtjbjbkidckbalaaProg.lean LOADS. Nothing in Lean hashes anything: it is a label: what it is worth is what the hold of that sum in a sandbox is worth. -/
noncomputable def Try.pinned : Pinned := { name := "ytjbjbkidckbalaa", sum := "cbf8892def44031ae8fa79b1124f71d78f09cf26b3c868158a4696fe355d91da", checked := Try.checked }
namespace Rows
def none {H : Type} : Left H := { results := [], args := [] }

/-- 'sixdotlaw03.AutomatonMatchesReference': WHATEVER THE INPUT: true; the input reads as it did. -/
def automatonMatchesReferenceSpec : ChangeSpec := { name := "automatonMatchesReference", fn := fun _ => fun
  | [d1, d2, d3] => { results := [.lit (.bool true)], args := [d1, d2, d3] }
  | _ => none }
def automatonMatchesReferenceRow : OpenClaim := { program := "ytjbjbkidckbalaa", sum := "cbf8892def44031ae8fa79b1124f71d78f09cf26b3c868158a4696fe355d91da", func := "sixdot/sixdotlaw03.AutomatonMatchesReference", spec := "automatonMatchesReference", plainKeys := false, apart := false }
def AutomatonMatchesReferenceSaid : Prop := automatonMatchesReferenceRow.holds Try.pinned (OpenSpec.ofChange automatonMatchesReferenceSpec)

/-- ITS FALSE NEIGHBOUR: 'it returns false'. Refute it at one input. -/
def automatonMatchesReferenceWrong : ChangeSpec := { name := "automatonMatchesReference", fn := fun _ => fun
  | [d1, d2, d3] => { results := [.lit (.bool false)], args := [d1, d2, d3] }
  | _ => none }
def AutomatonMatchesReferenceWrongFalsely : Prop := automatonMatchesReferenceRow.holds Try.pinned (OpenSpec.ofChange automatonMatchesReferenceWrong)

/-- 'sixdotlaw03.AutomatonRuns': WHATEVER THE INPUT: true; the input reads as it did. -/
def automatonRunsSpec : ChangeSpec := { name := "automatonRuns", fn := fun _ => fun
  | [d1, d2, d3] => { results := [.lit (.bool true)], args := [d1, d2, d3] }
  | _ => none }
def automatonRunsRow : OpenClaim := { program := "ytjbjbkidckbalaa", sum := "cbf8892def44031ae8fa79b1124f71d78f09cf26b3c868158a4696fe355d91da", func := "sixdot/sixdotlaw03.AutomatonRuns", spec := "automatonRuns", plainKeys := false, apart := false }
def AutomatonRunsSaid : Prop := automatonRunsRow.holds Try.pinned (OpenSpec.ofChange automatonRunsSpec)

/-- ITS FALSE NEIGHBOUR: 'it returns false'. Refute it at one input. -/
def automatonRunsWrong : ChangeSpec := { name := "automatonRuns", fn := fun _ => fun
  | [d1, d2, d3] => { results := [.lit (.bool false)], args := [d1, d2, d3] }
  | _ => none }
def AutomatonRunsWrongFalsely : Prop := automatonRunsRow.holds Try.pinned (OpenSpec.ofChange automatonRunsWrong)

/-- 'sixdotlaw03.AutomatonContexts': WHATEVER THE INPUT: true; the input reads as it did. -/
def automatonContextsSpec : ChangeSpec := { name := "automatonContexts", fn := fun _ => fun
  | [d1, d2, d3] => { results := [.lit (.bool true)], args := [d1, d2, d3] }
  | _ => none }
def automatonContextsRow : OpenClaim := { program := "ytjbjbkidckbalaa", sum := "cbf8892def44031ae8fa79b1124f71d78f09cf26b3c868158a4696fe355d91da", func := "sixdot/sixdotlaw03.AutomatonContexts", spec := "automatonContexts", plainKeys := false, apart := false }
def AutomatonContextsSaid : Prop := automatonContextsRow.holds Try.pinned (OpenSpec.ofChange automatonContextsSpec)

/-- ITS FALSE NEIGHBOUR: 'it returns false'. Refute it at one input. -/
def automatonContextsWrong : ChangeSpec := { name := "automatonContexts", fn := fun _ => fun
  | [d1, d2, d3] => { results := [.lit (.bool false)], args := [d1, d2, d3] }
  | _ => none }
def AutomatonContextsWrongFalsely : Prop := automatonContextsRow.holds Try.pinned (OpenSpec.ofChange automatonContextsWrong)

/-- 'sixdotlaw03.AutomatonStates': WHATEVER THE INPUT: true; the input reads as it did. -/
def automatonStatesSpec : ChangeSpec := { name := "automatonStates", fn := fun _ => fun
  | [d] => { results := [.lit (.bool true)], args := [d] }
  | _ => none }
def automatonStatesRow : OpenClaim := { program := "ytjbjbkidckbalaa", sum := "cbf8892def44031ae8fa79b1124f71d78f09cf26b3c868158a4696fe355d91da", func := "sixdot/sixdotlaw03.AutomatonStates", spec := "automatonStates", plainKeys := false, apart := false }
def AutomatonStatesSaid : Prop := automatonStatesRow.holds Try.pinned (OpenSpec.ofChange automatonStatesSpec)

/-- ITS FALSE NEIGHBOUR: 'it returns false'. Refute it at one input. -/
def automatonStatesWrong : ChangeSpec := { name := "automatonStates", fn := fun _ => fun
  | [d] => { results := [.lit (.bool false)], args := [d] }
  | _ => none }
def AutomatonStatesWrongFalsely : Prop := automatonStatesRow.holds Try.pinned (OpenSpec.ofChange automatonStatesWrong)

/-- 'sixdotlaw03.AutomatonAlive': WHATEVER THE INPUT: true; the input reads as it did. -/
def automatonAliveSpec : ChangeSpec := { name := "automatonAlive", fn := fun _ => fun
  | [d1, d2] => { results := [.lit (.bool true)], args := [d1, d2] }
  | _ => none }
def automatonAliveRow : OpenClaim := { program := "ytjbjbkidckbalaa", sum := "cbf8892def44031ae8fa79b1124f71d78f09cf26b3c868158a4696fe355d91da", func := "sixdot/sixdotlaw03.AutomatonAlive", spec := "automatonAlive", plainKeys := false, apart := false }
def AutomatonAliveSaid : Prop := automatonAliveRow.holds Try.pinned (OpenSpec.ofChange automatonAliveSpec)

/-- ITS FALSE NEIGHBOUR: 'it returns false'. Refute it at one input. -/
def automatonAliveWrong : ChangeSpec := { name := "automatonAlive", fn := fun _ => fun
  | [d1, d2] => { results := [.lit (.bool false)], args := [d1, d2] }
  | _ => none }
def AutomatonAliveWrongFalsely : Prop := automatonAliveRow.holds Try.pinned (OpenSpec.ofChange automatonAliveWrong)

/-- 'sixdotlaw03.AutomatonBlanks': WHATEVER THE INPUT: true; the input reads as it did. -/
def automatonBlanksSpec : ChangeSpec := { name := "automatonBlanks", fn := fun _ => fun
  | [d1, d2] => { results := [.lit (.bool true)], args := [d1, d2] }
  | _ => none }
def automatonBlanksRow : OpenClaim := { program := "ytjbjbkidckbalaa", sum := "cbf8892def44031ae8fa79b1124f71d78f09cf26b3c868158a4696fe355d91da", func := "sixdot/sixdotlaw03.AutomatonBlanks", spec := "automatonBlanks", plainKeys := false, apart := false }
def AutomatonBlanksSaid : Prop := automatonBlanksRow.holds Try.pinned (OpenSpec.ofChange automatonBlanksSpec)

/-- ITS FALSE NEIGHBOUR: 'it returns false'. Refute it at one input. -/
def automatonBlanksWrong : ChangeSpec := { name := "automatonBlanks", fn := fun _ => fun
  | [d1, d2] => { results := [.lit (.bool false)], args := [d1, d2] }
  | _ => none }
def AutomatonBlanksWrongFalsely : Prop := automatonBlanksRow.holds Try.pinned (OpenSpec.ofChange automatonBlanksWrong)

/-- 'sixdotlaw03.AutomatonGrows': WHATEVER THE INPUT: true; the input reads as it did. -/
def automatonGrowsSpec : ChangeSpec := { name := "automatonGrows", fn := fun _ => fun
  | [d1, d2, d3] => { results := [.lit (.bool true)], args := [d1, d2, d3] }
  | _ => none }
def automatonGrowsRow : OpenClaim := { program := "ytjbjbkidckbalaa", sum := "cbf8892def44031ae8fa79b1124f71d78f09cf26b3c868158a4696fe355d91da", func := "sixdot/sixdotlaw03.AutomatonGrows", spec := "automatonGrows", plainKeys := false, apart := false }
def AutomatonGrowsSaid : Prop := automatonGrowsRow.holds Try.pinned (OpenSpec.ofChange automatonGrowsSpec)

/-- ITS FALSE NEIGHBOUR: 'it returns false'. Refute it at one input. -/
def automatonGrowsWrong : ChangeSpec := { name := "automatonGrows", fn := fun _ => fun
  | [d1, d2, d3] => { results := [.lit (.bool false)], args := [d1, d2, d3] }
  | _ => none }
def AutomatonGrowsWrongFalsely : Prop := automatonGrowsRow.holds Try.pinned (OpenSpec.ofChange automatonGrowsWrong)

/-- 'sixdotlaw04.ReadbackMatchesReference': WHATEVER THE INPUT: true; the input reads as it did. -/
def readbackMatchesReferenceSpec : ChangeSpec := { name := "readbackMatchesReference", fn := fun _ => fun
  | [d1, d2, d3] => { results := [.lit (.bool true)], args := [d1, d2, d3] }
  | _ => none }
def readbackMatchesReferenceRow : OpenClaim := { program := "ytjbjbkidckbalaa", sum := "cbf8892def44031ae8fa79b1124f71d78f09cf26b3c868158a4696fe355d91da", func := "sixdot/sixdotlaw04.ReadbackMatchesReference", spec := "readbackMatchesReference", unfollowed := true, recurses := true, plainKeys := false, apart := false }
def ReadbackMatchesReferenceSaid : Prop := readbackMatchesReferenceRow.holds Try.pinned (OpenSpec.ofChange readbackMatchesReferenceSpec)

/-- ITS FALSE NEIGHBOUR: 'it returns false'. Refute it at one input. -/
def readbackMatchesReferenceWrong : ChangeSpec := { name := "readbackMatchesReference", fn := fun _ => fun
  | [d1, d2, d3] => { results := [.lit (.bool false)], args := [d1, d2, d3] }
  | _ => none }
def ReadbackMatchesReferenceWrongFalsely : Prop := readbackMatchesReferenceRow.holds Try.pinned (OpenSpec.ofChange readbackMatchesReferenceWrong)

/-- 'sixdotlaw04.ReadbackReadsPaths': WHATEVER THE INPUT: true; the input reads as it did. -/
def readbackReadsPathsSpec : ChangeSpec := { name := "readbackReadsPaths", fn := fun _ => fun
  | [d1, d2] => { results := [.lit (.bool true)], args := [d1, d2] }
  | _ => none }
def readbackReadsPathsRow : OpenClaim := { program := "ytjbjbkidckbalaa", sum := "cbf8892def44031ae8fa79b1124f71d78f09cf26b3c868158a4696fe355d91da", func := "sixdot/sixdotlaw04.ReadbackReadsPaths", spec := "readbackReadsPaths", unfollowed := true, recurses := true, plainKeys := false, apart := false }
def ReadbackReadsPathsSaid : Prop := readbackReadsPathsRow.holds Try.pinned (OpenSpec.ofChange readbackReadsPathsSpec)

/-- ITS FALSE NEIGHBOUR: 'it returns false'. Refute it at one input. -/
def readbackReadsPathsWrong : ChangeSpec := { name := "readbackReadsPaths", fn := fun _ => fun
  | [d1, d2] => { results := [.lit (.bool false)], args := [d1, d2] }
  | _ => none }
def ReadbackReadsPathsWrongFalsely : Prop := readbackReadsPathsRow.holds Try.pinned (OpenSpec.ofChange readbackReadsPathsWrong)

/-- 'sixdotlaw04.ReadbackOrders': WHATEVER THE INPUT: true; the input reads as it did. -/
def readbackOrdersSpec : ChangeSpec := { name := "readbackOrders", fn := fun _ => fun
  | [d1, d2, d3] => { results := [.lit (.bool true)], args := [d1, d2, d3] }
  | _ => none }
def readbackOrdersRow : OpenClaim := { program := "ytjbjbkidckbalaa", sum := "cbf8892def44031ae8fa79b1124f71d78f09cf26b3c868158a4696fe355d91da", func := "sixdot/sixdotlaw04.ReadbackOrders", spec := "readbackOrders", unfollowed := true, recurses := true, plainKeys := false, apart := false }
def ReadbackOrdersSaid : Prop := readbackOrdersRow.holds Try.pinned (OpenSpec.ofChange readbackOrdersSpec)

/-- ITS FALSE NEIGHBOUR: 'it returns false'. Refute it at one input. -/
def readbackOrdersWrong : ChangeSpec := { name := "readbackOrders", fn := fun _ => fun
  | [d1, d2, d3] => { results := [.lit (.bool false)], args := [d1, d2, d3] }
  | _ => none }
def ReadbackOrdersWrongFalsely : Prop := readbackOrdersRow.holds Try.pinned (OpenSpec.ofChange readbackOrdersWrong)

/-- 'sixdotlaw04.ReadbackBeginnings': WHATEVER THE INPUT: true; the input reads as it did. -/
def readbackBeginningsSpec : ChangeSpec := { name := "readbackBeginnings", fn := fun _ => fun
  | [d1, d2] => { results := [.lit (.bool true)], args := [d1, d2] }
  | _ => none }
def readbackBeginningsRow : OpenClaim := { program := "ytjbjbkidckbalaa", sum := "cbf8892def44031ae8fa79b1124f71d78f09cf26b3c868158a4696fe355d91da", func := "sixdot/sixdotlaw04.ReadbackBeginnings", spec := "readbackBeginnings", unfollowed := true, recurses := true, plainKeys := false, apart := false }
def ReadbackBeginningsSaid : Prop := readbackBeginningsRow.holds Try.pinned (OpenSpec.ofChange readbackBeginningsSpec)

/-- ITS FALSE NEIGHBOUR: 'it returns false'. Refute it at one input. -/
def readbackBeginningsWrong : ChangeSpec := { name := "readbackBeginnings", fn := fun _ => fun
  | [d1, d2] => { results := [.lit (.bool false)], args := [d1, d2] }
  | _ => none }
def ReadbackBeginningsWrongFalsely : Prop := readbackBeginningsRow.holds Try.pinned (OpenSpec.ofChange readbackBeginningsWrong)

/-- 'sixdotlaw04.ReadbackNeedsPaths': WHATEVER THE INPUT: true; the input reads as it did. -/
def readbackNeedsPathsSpec : ChangeSpec := { name := "readbackNeedsPaths", fn := fun _ => fun
  | [d1, d2] => { results := [.lit (.bool true)], args := [d1, d2] }
  | _ => none }
def readbackNeedsPathsRow : OpenClaim := { program := "ytjbjbkidckbalaa", sum := "cbf8892def44031ae8fa79b1124f71d78f09cf26b3c868158a4696fe355d91da", func := "sixdot/sixdotlaw04.ReadbackNeedsPaths", spec := "readbackNeedsPaths", unfollowed := true, recurses := true, plainKeys := false, apart := false }
def ReadbackNeedsPathsSaid : Prop := readbackNeedsPathsRow.holds Try.pinned (OpenSpec.ofChange readbackNeedsPathsSpec)

/-- ITS FALSE NEIGHBOUR: 'it returns false'. Refute it at one input. -/
def readbackNeedsPathsWrong : ChangeSpec := { name := "readbackNeedsPaths", fn := fun _ => fun
  | [d1, d2] => { results := [.lit (.bool false)], args := [d1, d2] }
  | _ => none }
def ReadbackNeedsPathsWrongFalsely : Prop := readbackNeedsPathsRow.holds Try.pinned (OpenSpec.ofChange readbackNeedsPathsWrong)

/- THE SECOND FORM. 'bulk': how many values and letters a reading holds, each counted each time it is reached (what is shared counts as often as it is met; a slice's spare places count too). A statement '..UptoSaid' is the law's where the arguments, and the package variables that the reading takes, are together of bulk at most 1048576: NARROWER than '..Said'. Prove '..Said' where nothing that the law and all that it calls make is longer than what came in: it says more and counts as full. Else prove '..UptoSaid'. A law counts once. -/
mutual
def uptoBulk {H : Type} : DataW H → Nat
  | .lit (.string bytes) => bytes.length + 1
  | .lit _ => 1
  | .nil => 1
  | .ptr d => uptoBulk d + 1
  | .slice elems spare => uptoBulkAll elems + uptoBulkAll spare + 1
  | .agg parts => uptoBulkAll parts + 1
  | .iface _ d => uptoBulk d + 1
  | .map entries => uptoBulkEntries entries + 1
  | .held _ => 1
def uptoBulkAll {H : Type} : List (DataW H) → Nat
  | [] => 0
  | d :: r => uptoBulk d + uptoBulkAll r
def uptoBulkEntries {H : Type} : List (Lit × DataW H) → Nat
  | [] => 0
  | x :: r => uptoBulkEntry x + uptoBulkEntries r
def uptoBulkEntry {H : Type} : Lit × DataW H → Nat
  | (.string bytes, d) => bytes.length + uptoBulk d + 1
  | (_, d) => uptoBulk d + 1
 end
def uptoSmall : (H : Type) → List (DataW H) → Bool := fun _ ds => decide (uptoBulkAll ds ≤ 1048576)
def OpenSpec.upto (s : _root_.Go.ChangeSpec) : _root_.Go.OpenSpec := { _root_.Go.OpenSpec.ofChange s with cond := some uptoSmall }

/-- 'sixdotlaw03.AutomatonMatchesReference', WHERE WHAT IT READS IS OF BULK AT MOST 1048576: true; the input reads as it did. -/
def automatonMatchesReferenceUptoRow : OpenClaim := { program := "ytjbjbkidckbalaa", sum := "cbf8892def44031ae8fa79b1124f71d78f09cf26b3c868158a4696fe355d91da", func := "sixdot/sixdotlaw03.AutomatonMatchesReference", spec := "automatonMatchesReference", plainKeys := false, apart := false, narrowed := true }
def AutomatonMatchesReferenceUptoSaid : Prop := automatonMatchesReferenceUptoRow.holds Try.pinned (OpenSpec.upto automatonMatchesReferenceSpec)

/-- 'sixdotlaw03.AutomatonRuns', WHERE WHAT IT READS IS OF BULK AT MOST 1048576: true; the input reads as it did. -/
def automatonRunsUptoRow : OpenClaim := { program := "ytjbjbkidckbalaa", sum := "cbf8892def44031ae8fa79b1124f71d78f09cf26b3c868158a4696fe355d91da", func := "sixdot/sixdotlaw03.AutomatonRuns", spec := "automatonRuns", plainKeys := false, apart := false, narrowed := true }
def AutomatonRunsUptoSaid : Prop := automatonRunsUptoRow.holds Try.pinned (OpenSpec.upto automatonRunsSpec)

/-- 'sixdotlaw03.AutomatonContexts', WHERE WHAT IT READS IS OF BULK AT MOST 1048576: true; the input reads as it did. -/
def automatonContextsUptoRow : OpenClaim := { program := "ytjbjbkidckbalaa", sum := "cbf8892def44031ae8fa79b1124f71d78f09cf26b3c868158a4696fe355d91da", func := "sixdot/sixdotlaw03.AutomatonContexts", spec := "automatonContexts", plainKeys := false, apart := false, narrowed := true }
def AutomatonContextsUptoSaid : Prop := automatonContextsUptoRow.holds Try.pinned (OpenSpec.upto automatonContextsSpec)

/-- 'sixdotlaw03.AutomatonStates', WHERE WHAT IT READS IS OF BULK AT MOST 1048576: true; the input reads as it did. -/
def automatonStatesUptoRow : OpenClaim := { program := "ytjbjbkidckbalaa", sum := "cbf8892def44031ae8fa79b1124f71d78f09cf26b3c868158a4696fe355d91da", func := "sixdot/sixdotlaw03.AutomatonStates", spec := "automatonStates", plainKeys := false, apart := false, narrowed := true }
def AutomatonStatesUptoSaid : Prop := automatonStatesUptoRow.holds Try.pinned (OpenSpec.upto automatonStatesSpec)

/-- 'sixdotlaw03.AutomatonAlive', WHERE WHAT IT READS IS OF BULK AT MOST 1048576: true; the input reads as it did. -/
def automatonAliveUptoRow : OpenClaim := { program := "ytjbjbkidckbalaa", sum := "cbf8892def44031ae8fa79b1124f71d78f09cf26b3c868158a4696fe355d91da", func := "sixdot/sixdotlaw03.AutomatonAlive", spec := "automatonAlive", plainKeys := false, apart := false, narrowed := true }
def AutomatonAliveUptoSaid : Prop := automatonAliveUptoRow.holds Try.pinned (OpenSpec.upto automatonAliveSpec)

/-- 'sixdotlaw03.AutomatonBlanks', WHERE WHAT IT READS IS OF BULK AT MOST 1048576: true; the input reads as it did. -/
def automatonBlanksUptoRow : OpenClaim := { program := "ytjbjbkidckbalaa", sum := "cbf8892def44031ae8fa79b1124f71d78f09cf26b3c868158a4696fe355d91da", func := "sixdot/sixdotlaw03.AutomatonBlanks", spec := "automatonBlanks", plainKeys := false, apart := false, narrowed := true }
def AutomatonBlanksUptoSaid : Prop := automatonBlanksUptoRow.holds Try.pinned (OpenSpec.upto automatonBlanksSpec)

/-- 'sixdotlaw03.AutomatonGrows', WHERE WHAT IT READS IS OF BULK AT MOST 1048576: true; the input reads as it did. -/
def automatonGrowsUptoRow : OpenClaim := { program := "ytjbjbkidckbalaa", sum := "cbf8892def44031ae8fa79b1124f71d78f09cf26b3c868158a4696fe355d91da", func := "sixdot/sixdotlaw03.AutomatonGrows", spec := "automatonGrows", plainKeys := false, apart := false, narrowed := true }
def AutomatonGrowsUptoSaid : Prop := automatonGrowsUptoRow.holds Try.pinned (OpenSpec.upto automatonGrowsSpec)

/-- 'sixdotlaw04.ReadbackMatchesReference', WHERE WHAT IT READS IS OF BULK AT MOST 1048576: true; the input reads as it did. -/
def readbackMatchesReferenceUptoRow : OpenClaim := { program := "ytjbjbkidckbalaa", sum := "cbf8892def44031ae8fa79b1124f71d78f09cf26b3c868158a4696fe355d91da", func := "sixdot/sixdotlaw04.ReadbackMatchesReference", spec := "readbackMatchesReference", unfollowed := true, recurses := true, plainKeys := false, apart := false, narrowed := true }
def ReadbackMatchesReferenceUptoSaid : Prop := readbackMatchesReferenceUptoRow.holds Try.pinned (OpenSpec.upto readbackMatchesReferenceSpec)

/-- 'sixdotlaw04.ReadbackReadsPaths', WHERE WHAT IT READS IS OF BULK AT MOST 1048576: true; the input reads as it did. -/
def readbackReadsPathsUptoRow : OpenClaim := { program := "ytjbjbkidckbalaa", sum := "cbf8892def44031ae8fa79b1124f71d78f09cf26b3c868158a4696fe355d91da", func := "sixdot/sixdotlaw04.ReadbackReadsPaths", spec := "readbackReadsPaths", unfollowed := true, recurses := true, plainKeys := false, apart := false, narrowed := true }
def ReadbackReadsPathsUptoSaid : Prop := readbackReadsPathsUptoRow.holds Try.pinned (OpenSpec.upto readbackReadsPathsSpec)

/-- 'sixdotlaw04.ReadbackOrders', WHERE WHAT IT READS IS OF BULK AT MOST 1048576: true; the input reads as it did. -/
def readbackOrdersUptoRow : OpenClaim := { program := "ytjbjbkidckbalaa", sum := "cbf8892def44031ae8fa79b1124f71d78f09cf26b3c868158a4696fe355d91da", func := "sixdot/sixdotlaw04.ReadbackOrders", spec := "readbackOrders", unfollowed := true, recurses := true, plainKeys := false, apart := false, narrowed := true }
def ReadbackOrdersUptoSaid : Prop := readbackOrdersUptoRow.holds Try.pinned (OpenSpec.upto readbackOrdersSpec)

/-- 'sixdotlaw04.ReadbackBeginnings', WHERE WHAT IT READS IS OF BULK AT MOST 1048576: true; the input reads as it did. -/
def readbackBeginningsUptoRow : OpenClaim := { program := "ytjbjbkidckbalaa", sum := "cbf8892def44031ae8fa79b1124f71d78f09cf26b3c868158a4696fe355d91da", func := "sixdot/sixdotlaw04.ReadbackBeginnings", spec := "readbackBeginnings", unfollowed := true, recurses := true, plainKeys := false, apart := false, narrowed := true }
def ReadbackBeginningsUptoSaid : Prop := readbackBeginningsUptoRow.holds Try.pinned (OpenSpec.upto readbackBeginningsSpec)

/-- 'sixdotlaw04.ReadbackNeedsPaths', WHERE WHAT IT READS IS OF BULK AT MOST 1048576: true; the input reads as it did. -/
def readbackNeedsPathsUptoRow : OpenClaim := { program := "ytjbjbkidckbalaa", sum := "cbf8892def44031ae8fa79b1124f71d78f09cf26b3c868158a4696fe355d91da", func := "sixdot/sixdotlaw04.ReadbackNeedsPaths", spec := "readbackNeedsPaths", unfollowed := true, recurses := true, plainKeys := false, apart := false, narrowed := true }
def ReadbackNeedsPathsUptoSaid : Prop := readbackNeedsPathsUptoRow.holds Try.pinned (OpenSpec.upto readbackNeedsPathsSpec)

end Rows
end Go.Proofs.Ytjbjbkidckbalaa
