/-
  No cell of these rows narrows 'for every input' (looked for: loops, veiled, ifaces, maps, wideKeys, modest, calm, conditions, laid).
  DERIVED. THE GIVEN ROWS OF THIS SEAT. 6 by the template 'for every input the law returns true; each argument reads behind the call as it read before'; 0 by the template 'total and deterministic' (their statements: YtbeojlieknnniaaTotals.lean).
  GIVEN WITH THE SEED: the statements are not yours to turn. If you find one false, say at which input.
  Laid BY PROGRAM, IN A SANDBOX (cutbox-rows.mjs): the forced cells as the released guide's own fill.sh prints them over the translation 56cbca1c59af3ba9… (all of the seat's roots in one cut). By AI agents, Wed Nov 11 2026. No macro, syntax, notation, axiom, sorry.
-/
import Derived.Test.YtbeojlieknnniaaChecked
import GoSem.Claim
import GoSem.ClaimJoined
import GoSem.ClaimMapViews
import Derived.JoinedTies
import Derived.KernelRfl
namespace Go.Proofs.Ytbeojlieknnniaa
/- THE CELL 'sum', in the pinned program and in every row, IS THE sha256 OF THE DUMP (.gsa) THAT YtbeojlieknnniaaProg.lean LOADS. Nothing in Lean hashes anything: it is a label: what it is worth is what the hold of that sum in a sandbox is worth. -/
noncomputable def Try.pinned : Pinned := { name := "ytbeojlieknnniaa", sum := "56cbca1c59af3ba96dbb36fa188ece563084f5760d58f829dc95fae040c2c428", checked := Try.checked }
namespace Rows
def none {H : Type} : Left H := { results := [], args := [] }

/-- 'sixdotlaw06.TranslateMatchesReference': WHATEVER THE INPUT: true; the input reads as it did. -/
def translateMatchesReferenceSpec : ChangeSpec := { name := "translateMatchesReference", fn := fun _ => fun
  | [d1, d2, d3] => { results := [.lit (.bool true)], args := [d1, d2, d3] }
  | _ => none }
def translateMatchesReferenceRow : OpenClaim := { program := "ytbeojlieknnniaa", sum := "56cbca1c59af3ba96dbb36fa188ece563084f5760d58f829dc95fae040c2c428", func := "sixdot/sixdotlaw06.TranslateMatchesReference", spec := "translateMatchesReference", unfollowed := true, recurses := true, plainKeys := false, apart := false }
def TranslateMatchesReferenceSaid : Prop := translateMatchesReferenceRow.holds Try.pinned (OpenSpec.ofChange translateMatchesReferenceSpec)

/-- ITS FALSE NEIGHBOUR: 'it returns false'. Refute it at one input. -/
def translateMatchesReferenceWrong : ChangeSpec := { name := "translateMatchesReference", fn := fun _ => fun
  | [d1, d2, d3] => { results := [.lit (.bool false)], args := [d1, d2, d3] }
  | _ => none }
def TranslateMatchesReferenceWrongFalsely : Prop := translateMatchesReferenceRow.holds Try.pinned (OpenSpec.ofChange translateMatchesReferenceWrong)

/-- 'sixdotlaw06.TranslateFewest': WHATEVER THE INPUT: true; the input reads as it did. -/
def translateFewestSpec : ChangeSpec := { name := "translateFewest", fn := fun _ => fun
  | [d1, d2] => { results := [.lit (.bool true)], args := [d1, d2] }
  | _ => none }
def translateFewestRow : OpenClaim := { program := "ytbeojlieknnniaa", sum := "56cbca1c59af3ba96dbb36fa188ece563084f5760d58f829dc95fae040c2c428", func := "sixdot/sixdotlaw06.TranslateFewest", spec := "translateFewest", unfollowed := true, recurses := true, plainKeys := false, apart := false }
def TranslateFewestSaid : Prop := translateFewestRow.holds Try.pinned (OpenSpec.ofChange translateFewestSpec)

/-- ITS FALSE NEIGHBOUR: 'it returns false'. Refute it at one input. -/
def translateFewestWrong : ChangeSpec := { name := "translateFewest", fn := fun _ => fun
  | [d1, d2] => { results := [.lit (.bool false)], args := [d1, d2] }
  | _ => none }
def TranslateFewestWrongFalsely : Prop := translateFewestRow.holds Try.pinned (OpenSpec.ofChange translateFewestWrong)

/-- 'sixdotlaw06.TranslateRefuses': WHATEVER THE INPUT: true; the input reads as it did. -/
def translateRefusesSpec : ChangeSpec := { name := "translateRefuses", fn := fun _ => fun
  | [d1, d2, d3] => { results := [.lit (.bool true)], args := [d1, d2, d3] }
  | _ => none }
def translateRefusesRow : OpenClaim := { program := "ytbeojlieknnniaa", sum := "56cbca1c59af3ba96dbb36fa188ece563084f5760d58f829dc95fae040c2c428", func := "sixdot/sixdotlaw06.TranslateRefuses", spec := "translateRefuses", unfollowed := true, recurses := true, plainKeys := false, apart := false }
def TranslateRefusesSaid : Prop := translateRefusesRow.holds Try.pinned (OpenSpec.ofChange translateRefusesSpec)

/-- ITS FALSE NEIGHBOUR: 'it returns false'. Refute it at one input. -/
def translateRefusesWrong : ChangeSpec := { name := "translateRefuses", fn := fun _ => fun
  | [d1, d2, d3] => { results := [.lit (.bool false)], args := [d1, d2, d3] }
  | _ => none }
def TranslateRefusesWrongFalsely : Prop := translateRefusesRow.holds Try.pinned (OpenSpec.ofChange translateRefusesWrong)

/-- 'sixdotlaw06.TranslateMoreRules': WHATEVER THE INPUT: true; the input reads as it did. -/
def translateMoreRulesSpec : ChangeSpec := { name := "translateMoreRules", fn := fun _ => fun
  | [d1, d2, d3] => { results := [.lit (.bool true)], args := [d1, d2, d3] }
  | _ => none }
def translateMoreRulesRow : OpenClaim := { program := "ytbeojlieknnniaa", sum := "56cbca1c59af3ba96dbb36fa188ece563084f5760d58f829dc95fae040c2c428", func := "sixdot/sixdotlaw06.TranslateMoreRules", spec := "translateMoreRules", unfollowed := true, recurses := true, plainKeys := false, apart := false }
def TranslateMoreRulesSaid : Prop := translateMoreRulesRow.holds Try.pinned (OpenSpec.ofChange translateMoreRulesSpec)

/-- ITS FALSE NEIGHBOUR: 'it returns false'. Refute it at one input. -/
def translateMoreRulesWrong : ChangeSpec := { name := "translateMoreRules", fn := fun _ => fun
  | [d1, d2, d3] => { results := [.lit (.bool false)], args := [d1, d2, d3] }
  | _ => none }
def TranslateMoreRulesWrongFalsely : Prop := translateMoreRulesRow.holds Try.pinned (OpenSpec.ofChange translateMoreRulesWrong)

/-- 'sixdotlaw06.TranslateParts': WHATEVER THE INPUT: true; the input reads as it did. -/
def translatePartsSpec : ChangeSpec := { name := "translateParts", fn := fun _ => fun
  | [d1, d2, d3] => { results := [.lit (.bool true)], args := [d1, d2, d3] }
  | _ => none }
def translatePartsRow : OpenClaim := { program := "ytbeojlieknnniaa", sum := "56cbca1c59af3ba96dbb36fa188ece563084f5760d58f829dc95fae040c2c428", func := "sixdot/sixdotlaw06.TranslateParts", spec := "translateParts", unfollowed := true, recurses := true, plainKeys := false, apart := false }
def TranslatePartsSaid : Prop := translatePartsRow.holds Try.pinned (OpenSpec.ofChange translatePartsSpec)

/-- ITS FALSE NEIGHBOUR: 'it returns false'. Refute it at one input. -/
def translatePartsWrong : ChangeSpec := { name := "translateParts", fn := fun _ => fun
  | [d1, d2, d3] => { results := [.lit (.bool false)], args := [d1, d2, d3] }
  | _ => none }
def TranslatePartsWrongFalsely : Prop := translatePartsRow.holds Try.pinned (OpenSpec.ofChange translatePartsWrong)

/-- 'sixdotlaw06.TranslateChecks': WHATEVER THE INPUT: true; the input reads as it did. -/
def translateChecksSpec : ChangeSpec := { name := "translateChecks", fn := fun _ => fun
  | [d1, d2, d3] => { results := [.lit (.bool true)], args := [d1, d2, d3] }
  | _ => none }
def translateChecksRow : OpenClaim := { program := "ytbeojlieknnniaa", sum := "56cbca1c59af3ba96dbb36fa188ece563084f5760d58f829dc95fae040c2c428", func := "sixdot/sixdotlaw06.TranslateChecks", spec := "translateChecks", unfollowed := true, recurses := true, plainKeys := false, apart := false }
def TranslateChecksSaid : Prop := translateChecksRow.holds Try.pinned (OpenSpec.ofChange translateChecksSpec)

/-- ITS FALSE NEIGHBOUR: 'it returns false'. Refute it at one input. -/
def translateChecksWrong : ChangeSpec := { name := "translateChecks", fn := fun _ => fun
  | [d1, d2, d3] => { results := [.lit (.bool false)], args := [d1, d2, d3] }
  | _ => none }
def TranslateChecksWrongFalsely : Prop := translateChecksRow.holds Try.pinned (OpenSpec.ofChange translateChecksWrong)

/- THE SECOND FORM. 'bulk': how many values and letters a reading holds, each counted each time it is reached (what is shared counts as often as it is met; a slice's spare places count too). A statement '..UptoSaid' is the law's where the arguments, and the package variables that the reading takes, are together of bulk at most 1048576: NARROWER than '..Said'. Prove '..Said' where nothing that the law and all that it calls make is longer than what came in: it says more and counts as full. Else prove '..UptoSaid'. A law counts once. -/
mutual
def uptoBulk {H : Type} : DataW H → Nat
  | .lit (.string bytes) => bytes.length + 1
  | .lit _ => 1
  | .nil => 1
  | .ptr d => uptoBulk d + 1
  | .slice elems spare => uptoBulkAll elems + uptoBulkAll spare + 1
  | .agg parts => uptoBulkAll parts + 1
  | .iface _ d => uptoBulk d + 1
  | .map entries => uptoBulkEntries entries + 1
  | .held _ => 1
def uptoBulkAll {H : Type} : List (DataW H) → Nat
  | [] => 0
  | d :: r => uptoBulk d + uptoBulkAll r
def uptoBulkEntries {H : Type} : List (Lit × DataW H) → Nat
  | [] => 0
  | x :: r => uptoBulkEntry x + uptoBulkEntries r
def uptoBulkEntry {H : Type} : Lit × DataW H → Nat
  | (.string bytes, d) => bytes.length + uptoBulk d + 1
  | (_, d) => uptoBulk d + 1
 end
def uptoSmall : (H : Type) → List (DataW H) → Bool := fun _ ds => decide (uptoBulkAll ds ≤ 1048576)
def OpenSpec.upto (s : _root_.Go.ChangeSpec) : _root_.Go.OpenSpec := { _root_.Go.OpenSpec.ofChange s with cond := some uptoSmall }

/-- 'sixdotlaw06.TranslateMatchesReference', WHERE WHAT IT READS IS OF BULK AT MOST 1048576: true; the input reads as it did. -/
def translateMatchesReferenceUptoRow : OpenClaim := { program := "ytbeojlieknnniaa", sum := "56cbca1c59af3ba96dbb36fa188ece563084f5760d58f829dc95fae040c2c428", func := "sixdot/sixdotlaw06.TranslateMatchesReference", spec := "translateMatchesReference", unfollowed := true, recurses := true, plainKeys := false, apart := false, narrowed := true }
def TranslateMatchesReferenceUptoSaid : Prop := translateMatchesReferenceUptoRow.holds Try.pinned (OpenSpec.upto translateMatchesReferenceSpec)

/-- 'sixdotlaw06.TranslateFewest', WHERE WHAT IT READS IS OF BULK AT MOST 1048576: true; the input reads as it did. -/
def translateFewestUptoRow : OpenClaim := { program := "ytbeojlieknnniaa", sum := "56cbca1c59af3ba96dbb36fa188ece563084f5760d58f829dc95fae040c2c428", func := "sixdot/sixdotlaw06.TranslateFewest", spec := "translateFewest", unfollowed := true, recurses := true, plainKeys := false, apart := false, narrowed := true }
def TranslateFewestUptoSaid : Prop := translateFewestUptoRow.holds Try.pinned (OpenSpec.upto translateFewestSpec)

/-- 'sixdotlaw06.TranslateRefuses', WHERE WHAT IT READS IS OF BULK AT MOST 1048576: true; the input reads as it did. -/
def translateRefusesUptoRow : OpenClaim := { program := "ytbeojlieknnniaa", sum := "56cbca1c59af3ba96dbb36fa188ece563084f5760d58f829dc95fae040c2c428", func := "sixdot/sixdotlaw06.TranslateRefuses", spec := "translateRefuses", unfollowed := true, recurses := true, plainKeys := false, apart := false, narrowed := true }
def TranslateRefusesUptoSaid : Prop := translateRefusesUptoRow.holds Try.pinned (OpenSpec.upto translateRefusesSpec)

/-- 'sixdotlaw06.TranslateMoreRules', WHERE WHAT IT READS IS OF BULK AT MOST 1048576: true; the input reads as it did. -/
def translateMoreRulesUptoRow : OpenClaim := { program := "ytbeojlieknnniaa", sum := "56cbca1c59af3ba96dbb36fa188ece563084f5760d58f829dc95fae040c2c428", func := "sixdot/sixdotlaw06.TranslateMoreRules", spec := "translateMoreRules", unfollowed := true, recurses := true, plainKeys := false, apart := false, narrowed := true }
def TranslateMoreRulesUptoSaid : Prop := translateMoreRulesUptoRow.holds Try.pinned (OpenSpec.upto translateMoreRulesSpec)

/-- 'sixdotlaw06.TranslateParts', WHERE WHAT IT READS IS OF BULK AT MOST 1048576: true; the input reads as it did. -/
def translatePartsUptoRow : OpenClaim := { program := "ytbeojlieknnniaa", sum := "56cbca1c59af3ba96dbb36fa188ece563084f5760d58f829dc95fae040c2c428", func := "sixdot/sixdotlaw06.TranslateParts", spec := "translateParts", unfollowed := true, recurses := true, plainKeys := false, apart := false, narrowed := true }
def TranslatePartsUptoSaid : Prop := translatePartsUptoRow.holds Try.pinned (OpenSpec.upto translatePartsSpec)

/-- 'sixdotlaw06.TranslateChecks', WHERE WHAT IT READS IS OF BULK AT MOST 1048576: true; the input reads as it did. -/
def translateChecksUptoRow : OpenClaim := { program := "ytbeojlieknnniaa", sum := "56cbca1c59af3ba96dbb36fa188ece563084f5760d58f829dc95fae040c2c428", func := "sixdot/sixdotlaw06.TranslateChecks", spec := "translateChecks", unfollowed := true, recurses := true, plainKeys := false, apart := false, narrowed := true }
def TranslateChecksUptoSaid : Prop := translateChecksUptoRow.holds Try.pinned (OpenSpec.upto translateChecksSpec)

end Rows
end Go.Proofs.Ytbeojlieknnniaa
