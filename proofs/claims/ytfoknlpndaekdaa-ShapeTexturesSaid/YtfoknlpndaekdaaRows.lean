/-
  No cell of these rows narrows 'for every input' (looked for: loops, veiled, ifaces, maps, wideKeys, modest, calm, conditions, laid).
  DERIVED. THE GIVEN ROWS OF THIS SEAT. 7 by the template 'for every input the law returns true; each argument reads behind the call as it read before'; 0 by the template 'total and deterministic' (their statements: YtfoknlpndaekdaaTotals.lean).
  GIVEN WITH THE SEED: the statements are not yours to turn. If you find one false, say at which input.
  Laid BY PROGRAM, IN A SANDBOX (cutbox-rows.mjs): the forced cells as the released guide's own fill.sh prints them over the translation dd4c17123455d26b… (all of the seat's roots in one cut). By AI agents, Wed Nov 11 2026. No macro, syntax, notation, axiom, sorry.
-/
import Derived.Test.YtfoknlpndaekdaaChecked
import GoSem.Claim
import GoSem.ClaimJoined
import GoSem.ClaimMapViews
import Derived.JoinedTies
import Derived.KernelRfl
namespace Go.Proofs.Ytfoknlpndaekdaa
/- THE CELL 'sum', in the pinned program and in every row, IS THE sha256 OF THE DUMP (.gsa) THAT YtfoknlpndaekdaaProg.lean LOADS. Nothing in Lean hashes anything: it is a label: what it is worth is what the hold of that sum in a sandbox is worth. -/
noncomputable def Try.pinned : Pinned := { name := "ytfoknlpndaekdaa", sum := "dd4c17123455d26bd5b7e2350f05c5d55f93452f7feb582abd489c6bc1a20814", checked := Try.checked }
namespace Rows
def none {H : Type} : Left H := { results := [], args := [] }

/-- 'sixdotlaw13.ShapeMatchesReference': WHATEVER THE INPUT: true; the input reads as it did. -/
def shapeMatchesReferenceSpec : ChangeSpec := { name := "shapeMatchesReference", fn := fun _ => fun
  | [d1, d2] => { results := [.lit (.bool true)], args := [d1, d2] }
  | _ => none }
def shapeMatchesReferenceRow : OpenClaim := { program := "ytfoknlpndaekdaa", sum := "dd4c17123455d26bd5b7e2350f05c5d55f93452f7feb582abd489c6bc1a20814", func := "sixdot/sixdotlaw13.ShapeMatchesReference", spec := "shapeMatchesReference", unfollowed := true, recurses := true, plainKeys := false, apart := false }
def ShapeMatchesReferenceSaid : Prop := shapeMatchesReferenceRow.holds Try.pinned (OpenSpec.ofChange shapeMatchesReferenceSpec)

/-- ITS FALSE NEIGHBOUR: 'it returns false'. Refute it at one input. -/
def shapeMatchesReferenceWrong : ChangeSpec := { name := "shapeMatchesReference", fn := fun _ => fun
  | [d1, d2] => { results := [.lit (.bool false)], args := [d1, d2] }
  | _ => none }
def ShapeMatchesReferenceWrongFalsely : Prop := shapeMatchesReferenceRow.holds Try.pinned (OpenSpec.ofChange shapeMatchesReferenceWrong)

/-- 'sixdotlaw13.ShapeValid': WHATEVER THE INPUT: true; the input reads as it did. -/
def shapeValidSpec : ChangeSpec := { name := "shapeValid", fn := fun _ => fun
  | [d1, d2, d3] => { results := [.lit (.bool true)], args := [d1, d2, d3] }
  | _ => none }
def shapeValidRow : OpenClaim := { program := "ytfoknlpndaekdaa", sum := "dd4c17123455d26bd5b7e2350f05c5d55f93452f7feb582abd489c6bc1a20814", func := "sixdot/sixdotlaw13.ShapeValid", spec := "shapeValid", unfollowed := true, recurses := true, plainKeys := false, apart := false }
def ShapeValidSaid : Prop := shapeValidRow.holds Try.pinned (OpenSpec.ofChange shapeValidSpec)

/-- ITS FALSE NEIGHBOUR: 'it returns false'. Refute it at one input. -/
def shapeValidWrong : ChangeSpec := { name := "shapeValid", fn := fun _ => fun
  | [d1, d2, d3] => { results := [.lit (.bool false)], args := [d1, d2, d3] }
  | _ => none }
def ShapeValidWrongFalsely : Prop := shapeValidRow.holds Try.pinned (OpenSpec.ofChange shapeValidWrong)

/-- 'sixdotlaw13.ShapeTriangles': WHATEVER THE INPUT: true; the input reads as it did. -/
def shapeTrianglesSpec : ChangeSpec := { name := "shapeTriangles", fn := fun _ => fun
  | [d1, d2] => { results := [.lit (.bool true)], args := [d1, d2] }
  | _ => none }
def shapeTrianglesRow : OpenClaim := { program := "ytfoknlpndaekdaa", sum := "dd4c17123455d26bd5b7e2350f05c5d55f93452f7feb582abd489c6bc1a20814", func := "sixdot/sixdotlaw13.ShapeTriangles", spec := "shapeTriangles", unfollowed := true, recurses := true, plainKeys := false, apart := false }
def ShapeTrianglesSaid : Prop := shapeTrianglesRow.holds Try.pinned (OpenSpec.ofChange shapeTrianglesSpec)

/-- ITS FALSE NEIGHBOUR: 'it returns false'. Refute it at one input. -/
def shapeTrianglesWrong : ChangeSpec := { name := "shapeTriangles", fn := fun _ => fun
  | [d1, d2] => { results := [.lit (.bool false)], args := [d1, d2] }
  | _ => none }
def ShapeTrianglesWrongFalsely : Prop := shapeTrianglesRow.holds Try.pinned (OpenSpec.ofChange shapeTrianglesWrong)

/-- 'sixdotlaw13.ShapeOrders': WHATEVER THE INPUT: true; the input reads as it did. -/
def shapeOrdersSpec : ChangeSpec := { name := "shapeOrders", fn := fun _ => fun
  | [d1, d2, d3] => { results := [.lit (.bool true)], args := [d1, d2, d3] }
  | _ => none }
def shapeOrdersRow : OpenClaim := { program := "ytfoknlpndaekdaa", sum := "dd4c17123455d26bd5b7e2350f05c5d55f93452f7feb582abd489c6bc1a20814", func := "sixdot/sixdotlaw13.ShapeOrders", spec := "shapeOrders", unfollowed := true, recurses := true, plainKeys := false, apart := false }
def ShapeOrdersSaid : Prop := shapeOrdersRow.holds Try.pinned (OpenSpec.ofChange shapeOrdersSpec)

/-- ITS FALSE NEIGHBOUR: 'it returns false'. Refute it at one input. -/
def shapeOrdersWrong : ChangeSpec := { name := "shapeOrders", fn := fun _ => fun
  | [d1, d2, d3] => { results := [.lit (.bool false)], args := [d1, d2, d3] }
  | _ => none }
def ShapeOrdersWrongFalsely : Prop := shapeOrdersRow.holds Try.pinned (OpenSpec.ofChange shapeOrdersWrong)

/-- 'sixdotlaw13.ShapeMoves': WHATEVER THE INPUT: true; the input reads as it did. -/
def shapeMovesSpec : ChangeSpec := { name := "shapeMoves", fn := fun _ => fun
  | [d1, d2, d3] => { results := [.lit (.bool true)], args := [d1, d2, d3] }
  | _ => none }
def shapeMovesRow : OpenClaim := { program := "ytfoknlpndaekdaa", sum := "dd4c17123455d26bd5b7e2350f05c5d55f93452f7feb582abd489c6bc1a20814", func := "sixdot/sixdotlaw13.ShapeMoves", spec := "shapeMoves", unfollowed := true, recurses := true, plainKeys := false, apart := false }
def ShapeMovesSaid : Prop := shapeMovesRow.holds Try.pinned (OpenSpec.ofChange shapeMovesSpec)

/-- ITS FALSE NEIGHBOUR: 'it returns false'. Refute it at one input. -/
def shapeMovesWrong : ChangeSpec := { name := "shapeMoves", fn := fun _ => fun
  | [d1, d2, d3] => { results := [.lit (.bool false)], args := [d1, d2, d3] }
  | _ => none }
def ShapeMovesWrongFalsely : Prop := shapeMovesRow.holds Try.pinned (OpenSpec.ofChange shapeMovesWrong)

/-- 'sixdotlaw13.ShapeTextures': WHATEVER THE INPUT: true; the input reads as it did. -/
def shapeTexturesSpec : ChangeSpec := { name := "shapeTextures", fn := fun _ => fun
  | [d] => { results := [.lit (.bool true)], args := [d] }
  | _ => none }
def shapeTexturesRow : OpenClaim := { program := "ytfoknlpndaekdaa", sum := "dd4c17123455d26bd5b7e2350f05c5d55f93452f7feb582abd489c6bc1a20814", func := "sixdot/sixdotlaw13.ShapeTextures", spec := "shapeTextures", unfollowed := true, recurses := true, plainKeys := false, apart := false }
def ShapeTexturesSaid : Prop := shapeTexturesRow.holds Try.pinned (OpenSpec.ofChange shapeTexturesSpec)

/-- ITS FALSE NEIGHBOUR: 'it returns false'. Refute it at one input. -/
def shapeTexturesWrong : ChangeSpec := { name := "shapeTextures", fn := fun _ => fun
  | [d] => { results := [.lit (.bool false)], args := [d] }
  | _ => none }
def ShapeTexturesWrongFalsely : Prop := shapeTexturesRow.holds Try.pinned (OpenSpec.ofChange shapeTexturesWrong)

/-- 'sixdotlaw13.ShapePaths': WHATEVER THE INPUT: true; the input reads as it did. -/
def shapePathsSpec : ChangeSpec := { name := "shapePaths", fn := fun _ => fun
  | [d] => { results := [.lit (.bool true)], args := [d] }
  | _ => none }
def shapePathsRow : OpenClaim := { program := "ytfoknlpndaekdaa", sum := "dd4c17123455d26bd5b7e2350f05c5d55f93452f7feb582abd489c6bc1a20814", func := "sixdot/sixdotlaw13.ShapePaths", spec := "shapePaths", unfollowed := true, recurses := true, plainKeys := false, apart := false }
def ShapePathsSaid : Prop := shapePathsRow.holds Try.pinned (OpenSpec.ofChange shapePathsSpec)

/-- ITS FALSE NEIGHBOUR: 'it returns false'. Refute it at one input. -/
def shapePathsWrong : ChangeSpec := { name := "shapePaths", fn := fun _ => fun
  | [d] => { results := [.lit (.bool false)], args := [d] }
  | _ => none }
def ShapePathsWrongFalsely : Prop := shapePathsRow.holds Try.pinned (OpenSpec.ofChange shapePathsWrong)

/- THE SECOND FORM. 'bulk': how many values and letters a reading holds, each counted each time it is reached (what is shared counts as often as it is met; a slice's spare places count too). A statement '..UptoSaid' is the law's where the arguments, and the package variables that the reading takes, are together of bulk at most 1048576: NARROWER than '..Said'. Prove '..Said' where nothing that the law and all that it calls make is longer than what came in: it says more and counts as full. Else prove '..UptoSaid'. A law counts once. -/
mutual
def uptoBulk {H : Type} : DataW H → Nat
  | .lit (.string bytes) => bytes.length + 1
  | .lit _ => 1
  | .nil => 1
  | .ptr d => uptoBulk d + 1
  | .slice elems spare => uptoBulkAll elems + uptoBulkAll spare + 1
  | .agg parts => uptoBulkAll parts + 1
  | .iface _ d => uptoBulk d + 1
  | .map entries => uptoBulkEntries entries + 1
  | .held _ => 1
def uptoBulkAll {H : Type} : List (DataW H) → Nat
  | [] => 0
  | d :: r => uptoBulk d + uptoBulkAll r
def uptoBulkEntries {H : Type} : List (Lit × DataW H) → Nat
  | [] => 0
  | x :: r => uptoBulkEntry x + uptoBulkEntries r
def uptoBulkEntry {H : Type} : Lit × DataW H → Nat
  | (.string bytes, d) => bytes.length + uptoBulk d + 1
  | (_, d) => uptoBulk d + 1
 end
def uptoSmall : (H : Type) → List (DataW H) → Bool := fun _ ds => decide (uptoBulkAll ds ≤ 1048576)
def OpenSpec.upto (s : _root_.Go.ChangeSpec) : _root_.Go.OpenSpec := { _root_.Go.OpenSpec.ofChange s with cond := some uptoSmall }

/-- 'sixdotlaw13.ShapeMatchesReference', WHERE WHAT IT READS IS OF BULK AT MOST 1048576: true; the input reads as it did. -/
def shapeMatchesReferenceUptoRow : OpenClaim := { program := "ytfoknlpndaekdaa", sum := "dd4c17123455d26bd5b7e2350f05c5d55f93452f7feb582abd489c6bc1a20814", func := "sixdot/sixdotlaw13.ShapeMatchesReference", spec := "shapeMatchesReference", unfollowed := true, recurses := true, plainKeys := false, apart := false, narrowed := true }
def ShapeMatchesReferenceUptoSaid : Prop := shapeMatchesReferenceUptoRow.holds Try.pinned (OpenSpec.upto shapeMatchesReferenceSpec)

/-- 'sixdotlaw13.ShapeValid', WHERE WHAT IT READS IS OF BULK AT MOST 1048576: true; the input reads as it did. -/
def shapeValidUptoRow : OpenClaim := { program := "ytfoknlpndaekdaa", sum := "dd4c17123455d26bd5b7e2350f05c5d55f93452f7feb582abd489c6bc1a20814", func := "sixdot/sixdotlaw13.ShapeValid", spec := "shapeValid", unfollowed := true, recurses := true, plainKeys := false, apart := false, narrowed := true }
def ShapeValidUptoSaid : Prop := shapeValidUptoRow.holds Try.pinned (OpenSpec.upto shapeValidSpec)

/-- 'sixdotlaw13.ShapeTriangles', WHERE WHAT IT READS IS OF BULK AT MOST 1048576: true; the input reads as it did. -/
def shapeTrianglesUptoRow : OpenClaim := { program := "ytfoknlpndaekdaa", sum := "dd4c17123455d26bd5b7e2350f05c5d55f93452f7feb582abd489c6bc1a20814", func := "sixdot/sixdotlaw13.ShapeTriangles", spec := "shapeTriangles", unfollowed := true, recurses := true, plainKeys := false, apart := false, narrowed := true }
def ShapeTrianglesUptoSaid : Prop := shapeTrianglesUptoRow.holds Try.pinned (OpenSpec.upto shapeTrianglesSpec)

/-- 'sixdotlaw13.ShapeOrders', WHERE WHAT IT READS IS OF BULK AT MOST 1048576: true; the input reads as it did. -/
def shapeOrdersUptoRow : OpenClaim := { program := "ytfoknlpndaekdaa", sum := "dd4c17123455d26bd5b7e2350f05c5d55f93452f7feb582abd489c6bc1a20814", func := "sixdot/sixdotlaw13.ShapeOrders", spec := "shapeOrders", unfollowed := true, recurses := true, plainKeys := false, apart := false, narrowed := true }
def ShapeOrdersUptoSaid : Prop := shapeOrdersUptoRow.holds Try.pinned (OpenSpec.upto shapeOrdersSpec)

/-- 'sixdotlaw13.ShapeMoves', WHERE WHAT IT READS IS OF BULK AT MOST 1048576: true; the input reads as it did. -/
def shapeMovesUptoRow : OpenClaim := { program := "ytfoknlpndaekdaa", sum := "dd4c17123455d26bd5b7e2350f05c5d55f93452f7feb582abd489c6bc1a20814", func := "sixdot/sixdotlaw13.ShapeMoves", spec := "shapeMoves", unfollowed := true, recurses := true, plainKeys := false, apart := false, narrowed := true }
def ShapeMovesUptoSaid : Prop := shapeMovesUptoRow.holds Try.pinned (OpenSpec.upto shapeMovesSpec)

/-- 'sixdotlaw13.ShapeTextures', WHERE WHAT IT READS IS OF BULK AT MOST 1048576: true; the input reads as it did. -/
def shapeTexturesUptoRow : OpenClaim := { program := "ytfoknlpndaekdaa", sum := "dd4c17123455d26bd5b7e2350f05c5d55f93452f7feb582abd489c6bc1a20814", func := "sixdot/sixdotlaw13.ShapeTextures", spec := "shapeTextures", unfollowed := true, recurses := true, plainKeys := false, apart := false, narrowed := true }
def ShapeTexturesUptoSaid : Prop := shapeTexturesUptoRow.holds Try.pinned (OpenSpec.upto shapeTexturesSpec)

/-- 'sixdotlaw13.ShapePaths', WHERE WHAT IT READS IS OF BULK AT MOST 1048576: true; the input reads as it did. -/
def shapePathsUptoRow : OpenClaim := { program := "ytfoknlpndaekdaa", sum := "dd4c17123455d26bd5b7e2350f05c5d55f93452f7feb582abd489c6bc1a20814", func := "sixdot/sixdotlaw13.ShapePaths", spec := "shapePaths", unfollowed := true, recurses := true, plainKeys := false, apart := false, narrowed := true }
def ShapePathsUptoSaid : Prop := shapePathsUptoRow.holds Try.pinned (OpenSpec.upto shapePathsSpec)

end Rows
end Go.Proofs.Ytfoknlpndaekdaa
