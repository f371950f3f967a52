/-
  No cell of these rows narrows 'for every input' (looked for: loops, veiled, ifaces, maps, wideKeys, modest, calm, conditions, laid).
  DERIVED. THE GIVEN ROWS OF THIS SEAT. 10 by the template 'for every input the law returns true; each argument reads behind the call as it read before'; 0 by the template 'total and deterministic' (their statements: YtgachgjcnmeicaaTotals.lean).
  GIVEN WITH THE SEED: the statements are not yours to turn. If you find one false, say at which input.
  Laid BY PROGRAM, IN A SANDBOX (cutbox-rows.mjs): the forced cells as the released guide's own fill.sh prints them over the translation 6961b2ca9321c89c… (all of the seat's roots in one cut). By AI agents, Wed Nov 11 2026. No macro, syntax, notation, axiom, sorry.
-/
import Derived.Test.YtgachgjcnmeicaaChecked
import GoSem.Claim
import GoSem.ClaimJoined
import GoSem.ClaimMapViews
import Derived.JoinedTies
import Derived.KernelRfl
namespace Go.Proofs.Ytgachgjcnmeicaa
/- THE CELL 'sum', in the pinned program and in every row, IS THE sha256 OF THE DUMP (.gsa) THAT YtgachgjcnmeicaaProg.lean LOADS. Nothing in Lean hashes anything: it is a label: what it is worth is what the hold of that sum in a sandbox is worth. -/
noncomputable def Try.pinned : Pinned := { name := "ytgachgjcnmeicaa", sum := "6961b2ca9321c89cf1f657d507f01e846e745125cff454ce8dca5018fc9f6075", checked := Try.checked }
namespace Rows
def none {H : Type} : Left H := { results := [], args := [] }

/-- 'laws.FnExactValidGlasses': WHATEVER THE INPUT: true; the input reads as it did. -/
def fnExactValidGlassesSpec : ChangeSpec := { name := "fnExactValidGlasses", fn := fun _ => fun
  | [d] => { results := [.lit (.bool true)], args := [d] }
  | _ => none }
def fnExactValidGlassesRow : OpenClaim := { program := "ytgachgjcnmeicaa", sum := "6961b2ca9321c89cf1f657d507f01e846e745125cff454ce8dca5018fc9f6075", func := "loop.example/g01281/laws.FnExactValidGlasses", spec := "fnExactValidGlasses", unfollowed := true, recurses := true, apart := false }
def FnExactValidGlassesSaid : Prop := fnExactValidGlassesRow.holds Try.pinned (OpenSpec.ofChange fnExactValidGlassesSpec)

/-- ITS FALSE NEIGHBOUR: 'it returns false'. Refute it at one input. -/
def fnExactValidGlassesWrong : ChangeSpec := { name := "fnExactValidGlasses", fn := fun _ => fun
  | [d] => { results := [.lit (.bool false)], args := [d] }
  | _ => none }
def FnExactValidGlassesWrongFalsely : Prop := fnExactValidGlassesRow.holds Try.pinned (OpenSpec.ofChange fnExactValidGlassesWrong)

/-- 'laws.FnExactTurnsIn': WHATEVER THE INPUT: true; the input reads as it did. -/
def fnExactTurnsInSpec : ChangeSpec := { name := "fnExactTurnsIn", fn := fun _ => fun
  | [d] => { results := [.lit (.bool true)], args := [d] }
  | _ => none }
def fnExactTurnsInRow : OpenClaim := { program := "ytgachgjcnmeicaa", sum := "6961b2ca9321c89cf1f657d507f01e846e745125cff454ce8dca5018fc9f6075", func := "loop.example/g01281/laws.FnExactTurnsIn", spec := "fnExactTurnsIn", apart := false }
def FnExactTurnsInSaid : Prop := fnExactTurnsInRow.holds Try.pinned (OpenSpec.ofChange fnExactTurnsInSpec)

/-- ITS FALSE NEIGHBOUR: 'it returns false'. Refute it at one input. -/
def fnExactTurnsInWrong : ChangeSpec := { name := "fnExactTurnsIn", fn := fun _ => fun
  | [d] => { results := [.lit (.bool false)], args := [d] }
  | _ => none }
def FnExactTurnsInWrongFalsely : Prop := fnExactTurnsInRow.holds Try.pinned (OpenSpec.ofChange fnExactTurnsInWrong)

/-- 'laws.FnExactValidTops': WHATEVER THE INPUT: true; the input reads as it did. -/
def fnExactValidTopsSpec : ChangeSpec := { name := "fnExactValidTops", fn := fun _ => fun
  | [d1, d2] => { results := [.lit (.bool true)], args := [d1, d2] }
  | _ => none }
def fnExactValidTopsRow : OpenClaim := { program := "ytgachgjcnmeicaa", sum := "6961b2ca9321c89cf1f657d507f01e846e745125cff454ce8dca5018fc9f6075", func := "loop.example/g01281/laws.FnExactValidTops", spec := "fnExactValidTops", unfollowed := true, recurses := true, apart := false }
def FnExactValidTopsSaid : Prop := fnExactValidTopsRow.holds Try.pinned (OpenSpec.ofChange fnExactValidTopsSpec)

/-- ITS FALSE NEIGHBOUR: 'it returns false'. Refute it at one input. -/
def fnExactValidTopsWrong : ChangeSpec := { name := "fnExactValidTops", fn := fun _ => fun
  | [d1, d2] => { results := [.lit (.bool false)], args := [d1, d2] }
  | _ => none }
def FnExactValidTopsWrongFalsely : Prop := fnExactValidTopsRow.holds Try.pinned (OpenSpec.ofChange fnExactValidTopsWrong)

/-- 'laws.FnExactRunsDown': WHATEVER THE INPUT: true; the input reads as it did. -/
def fnExactRunsDownSpec : ChangeSpec := { name := "fnExactRunsDown", fn := fun _ => fun
  | [d1, d2] => { results := [.lit (.bool true)], args := [d1, d2] }
  | _ => none }
def fnExactRunsDownRow : OpenClaim := { program := "ytgachgjcnmeicaa", sum := "6961b2ca9321c89cf1f657d507f01e846e745125cff454ce8dca5018fc9f6075", func := "loop.example/g01281/laws.FnExactRunsDown", spec := "fnExactRunsDown", unfollowed := true, recurses := true, apart := false }
def FnExactRunsDownSaid : Prop := fnExactRunsDownRow.holds Try.pinned (OpenSpec.ofChange fnExactRunsDownSpec)

/-- ITS FALSE NEIGHBOUR: 'it returns false'. Refute it at one input. -/
def fnExactRunsDownWrong : ChangeSpec := { name := "fnExactRunsDown", fn := fun _ => fun
  | [d1, d2] => { results := [.lit (.bool false)], args := [d1, d2] }
  | _ => none }
def FnExactRunsDownWrongFalsely : Prop := fnExactRunsDownRow.holds Try.pinned (OpenSpec.ofChange fnExactRunsDownWrong)

/-- 'laws.FnExactStepOfGlasses': WHATEVER THE INPUT: true; the input reads as it did. -/
def fnExactStepOfGlassesSpec : ChangeSpec := { name := "fnExactStepOfGlasses", fn := fun _ => fun
  | [d1, d2] => { results := [.lit (.bool true)], args := [d1, d2] }
  | _ => none }
def fnExactStepOfGlassesRow : OpenClaim := { program := "ytgachgjcnmeicaa", sum := "6961b2ca9321c89cf1f657d507f01e846e745125cff454ce8dca5018fc9f6075", func := "loop.example/g01281/laws.FnExactStepOfGlasses", spec := "fnExactStepOfGlasses", unfollowed := true, recurses := true, apart := false }
def FnExactStepOfGlassesSaid : Prop := fnExactStepOfGlassesRow.holds Try.pinned (OpenSpec.ofChange fnExactStepOfGlassesSpec)

/-- ITS FALSE NEIGHBOUR: 'it returns false'. Refute it at one input. -/
def fnExactStepOfGlassesWrong : ChangeSpec := { name := "fnExactStepOfGlasses", fn := fun _ => fun
  | [d1, d2] => { results := [.lit (.bool false)], args := [d1, d2] }
  | _ => none }
def FnExactStepOfGlassesWrongFalsely : Prop := fnExactStepOfGlassesRow.holds Try.pinned (OpenSpec.ofChange fnExactStepOfGlassesWrong)

/-- 'laws.FnExactTurnGlasses': WHATEVER THE INPUT: true; the input reads as it did. -/
def fnExactTurnGlassesSpec : ChangeSpec := { name := "fnExactTurnGlasses", fn := fun _ => fun
  | [d1, d2, d3] => { results := [.lit (.bool true)], args := [d1, d2, d3] }
  | _ => none }
def fnExactTurnGlassesRow : OpenClaim := { program := "ytgachgjcnmeicaa", sum := "6961b2ca9321c89cf1f657d507f01e846e745125cff454ce8dca5018fc9f6075", func := "loop.example/g01281/laws.FnExactTurnGlasses", spec := "fnExactTurnGlasses", unfollowed := true, recurses := true, apart := false }
def FnExactTurnGlassesSaid : Prop := fnExactTurnGlassesRow.holds Try.pinned (OpenSpec.ofChange fnExactTurnGlassesSpec)

/-- ITS FALSE NEIGHBOUR: 'it returns false'. Refute it at one input. -/
def fnExactTurnGlassesWrong : ChangeSpec := { name := "fnExactTurnGlasses", fn := fun _ => fun
  | [d1, d2, d3] => { results := [.lit (.bool false)], args := [d1, d2, d3] }
  | _ => none }
def FnExactTurnGlassesWrongFalsely : Prop := fnExactTurnGlassesRow.holds Try.pinned (OpenSpec.ofChange fnExactTurnGlassesWrong)

/-- 'laws.FnExactWaitFor': WHATEVER THE INPUT: true; the input reads as it did. -/
def fnExactWaitForSpec : ChangeSpec := { name := "fnExactWaitFor", fn := fun _ => fun
  | [d1, d2] => { results := [.lit (.bool true)], args := [d1, d2] }
  | _ => none }
def fnExactWaitForRow : OpenClaim := { program := "ytgachgjcnmeicaa", sum := "6961b2ca9321c89cf1f657d507f01e846e745125cff454ce8dca5018fc9f6075", func := "loop.example/g01281/laws.FnExactWaitFor", spec := "fnExactWaitFor", unfollowed := true, recurses := true, apart := false }
def FnExactWaitForSaid : Prop := fnExactWaitForRow.holds Try.pinned (OpenSpec.ofChange fnExactWaitForSpec)

/-- ITS FALSE NEIGHBOUR: 'it returns false'. Refute it at one input. -/
def fnExactWaitForWrong : ChangeSpec := { name := "fnExactWaitFor", fn := fun _ => fun
  | [d1, d2] => { results := [.lit (.bool false)], args := [d1, d2] }
  | _ => none }
def FnExactWaitForWrongFalsely : Prop := fnExactWaitForRow.holds Try.pinned (OpenSpec.ofChange fnExactWaitForWrong)

/-- 'laws.FnExactTurnsText': WHATEVER THE INPUT: true; the input reads as it did. -/
def fnExactTurnsTextSpec : ChangeSpec := { name := "fnExactTurnsText", fn := fun _ => fun
  | [d] => { results := [.lit (.bool true)], args := [d] }
  | _ => none }
def fnExactTurnsTextRow : OpenClaim := { program := "ytgachgjcnmeicaa", sum := "6961b2ca9321c89cf1f657d507f01e846e745125cff454ce8dca5018fc9f6075", func := "loop.example/g01281/laws.FnExactTurnsText", spec := "fnExactTurnsText", inPlace := ["internal/abi.NoEscape", "internal/bytealg.MakeNoZero"], apart := false }
def FnExactTurnsTextSaid : Prop := fnExactTurnsTextRow.holds Try.pinned (OpenSpec.ofChange fnExactTurnsTextSpec)

/-- ITS FALSE NEIGHBOUR: 'it returns false'. Refute it at one input. -/
def fnExactTurnsTextWrong : ChangeSpec := { name := "fnExactTurnsText", fn := fun _ => fun
  | [d] => { results := [.lit (.bool false)], args := [d] }
  | _ => none }
def FnExactTurnsTextWrongFalsely : Prop := fnExactTurnsTextRow.holds Try.pinned (OpenSpec.ofChange fnExactTurnsTextWrong)

/-- 'laws.FnExactCheckTurns': WHATEVER THE INPUT: true; the input reads as it did. -/
def fnExactCheckTurnsSpec : ChangeSpec := { name := "fnExactCheckTurns", fn := fun _ => fun
  | [d1, d2, d3, d4] => { results := [.lit (.bool true)], args := [d1, d2, d3, d4] }
  | _ => none }
def fnExactCheckTurnsRow : OpenClaim := { program := "ytgachgjcnmeicaa", sum := "6961b2ca9321c89cf1f657d507f01e846e745125cff454ce8dca5018fc9f6075", func := "loop.example/g01281/laws.FnExactCheckTurns", spec := "fnExactCheckTurns", unfollowed := true, recurses := true, apart := false }
def FnExactCheckTurnsSaid : Prop := fnExactCheckTurnsRow.holds Try.pinned (OpenSpec.ofChange fnExactCheckTurnsSpec)

/-- ITS FALSE NEIGHBOUR: 'it returns false'. Refute it at one input. -/
def fnExactCheckTurnsWrong : ChangeSpec := { name := "fnExactCheckTurns", fn := fun _ => fun
  | [d1, d2, d3, d4] => { results := [.lit (.bool false)], args := [d1, d2, d3, d4] }
  | _ => none }
def FnExactCheckTurnsWrongFalsely : Prop := fnExactCheckTurnsRow.holds Try.pinned (OpenSpec.ofChange fnExactCheckTurnsWrong)

/-- 'laws.FnExactRunTurns': WHATEVER THE INPUT: true; the input reads as it did. -/
def fnExactRunTurnsSpec : ChangeSpec := { name := "fnExactRunTurns", fn := fun _ => fun
  | [d1, d2, d3] => { results := [.lit (.bool true)], args := [d1, d2, d3] }
  | _ => none }
def fnExactRunTurnsRow : OpenClaim := { program := "ytgachgjcnmeicaa", sum := "6961b2ca9321c89cf1f657d507f01e846e745125cff454ce8dca5018fc9f6075", func := "loop.example/g01281/laws.FnExactRunTurns", spec := "fnExactRunTurns", unfollowed := true, recurses := true, apart := false }
def FnExactRunTurnsSaid : Prop := fnExactRunTurnsRow.holds Try.pinned (OpenSpec.ofChange fnExactRunTurnsSpec)

/-- ITS FALSE NEIGHBOUR: 'it returns false'. Refute it at one input. -/
def fnExactRunTurnsWrong : ChangeSpec := { name := "fnExactRunTurns", fn := fun _ => fun
  | [d1, d2, d3] => { results := [.lit (.bool false)], args := [d1, d2, d3] }
  | _ => none }
def FnExactRunTurnsWrongFalsely : Prop := fnExactRunTurnsRow.holds Try.pinned (OpenSpec.ofChange fnExactRunTurnsWrong)

/- THE SECOND FORM. 'bulk': how many values and letters a reading holds, each counted each time it is reached (what is shared counts as often as it is met; a slice's spare places count too). A statement '..UptoSaid' is the law's where the arguments, and the package variables that the reading takes, are together of bulk at most 1048576: NARROWER than '..Said'. Prove '..Said' where nothing that the law and all that it calls make is longer than what came in: it says more and counts as full. Else prove '..UptoSaid'. A law counts once. -/
mutual
def uptoBulk {H : Type} : DataW H → Nat
  | .lit (.string bytes) => bytes.length + 1
  | .lit _ => 1
  | .nil => 1
  | .ptr d => uptoBulk d + 1
  | .slice elems spare => uptoBulkAll elems + uptoBulkAll spare + 1
  | .agg parts => uptoBulkAll parts + 1
  | .iface _ d => uptoBulk d + 1
  | .map entries => uptoBulkEntries entries + 1
  | .held _ => 1
def uptoBulkAll {H : Type} : List (DataW H) → Nat
  | [] => 0
  | d :: r => uptoBulk d + uptoBulkAll r
def uptoBulkEntries {H : Type} : List (Lit × DataW H) → Nat
  | [] => 0
  | x :: r => uptoBulkEntry x + uptoBulkEntries r
def uptoBulkEntry {H : Type} : Lit × DataW H → Nat
  | (.string bytes, d) => bytes.length + uptoBulk d + 1
  | (_, d) => uptoBulk d + 1
 end
def uptoSmall : (H : Type) → List (DataW H) → Bool := fun _ ds => decide (uptoBulkAll ds ≤ 1048576)
def OpenSpec.upto (s : _root_.Go.ChangeSpec) : _root_.Go.OpenSpec := { _root_.Go.OpenSpec.ofChange s with cond := some uptoSmall }

/-- 'laws.FnExactValidGlasses', WHERE WHAT IT READS IS OF BULK AT MOST 1048576: true; the input reads as it did. -/
def fnExactValidGlassesUptoRow : OpenClaim := { program := "ytgachgjcnmeicaa", sum := "6961b2ca9321c89cf1f657d507f01e846e745125cff454ce8dca5018fc9f6075", func := "loop.example/g01281/laws.FnExactValidGlasses", spec := "fnExactValidGlasses", unfollowed := true, recurses := true, apart := false, narrowed := true }
def FnExactValidGlassesUptoSaid : Prop := fnExactValidGlassesUptoRow.holds Try.pinned (OpenSpec.upto fnExactValidGlassesSpec)

/-- 'laws.FnExactTurnsIn', WHERE WHAT IT READS IS OF BULK AT MOST 1048576: true; the input reads as it did. -/
def fnExactTurnsInUptoRow : OpenClaim := { program := "ytgachgjcnmeicaa", sum := "6961b2ca9321c89cf1f657d507f01e846e745125cff454ce8dca5018fc9f6075", func := "loop.example/g01281/laws.FnExactTurnsIn", spec := "fnExactTurnsIn", apart := false, narrowed := true }
def FnExactTurnsInUptoSaid : Prop := fnExactTurnsInUptoRow.holds Try.pinned (OpenSpec.upto fnExactTurnsInSpec)

/-- 'laws.FnExactValidTops', WHERE WHAT IT READS IS OF BULK AT MOST 1048576: true; the input reads as it did. -/
def fnExactValidTopsUptoRow : OpenClaim := { program := "ytgachgjcnmeicaa", sum := "6961b2ca9321c89cf1f657d507f01e846e745125cff454ce8dca5018fc9f6075", func := "loop.example/g01281/laws.FnExactValidTops", spec := "fnExactValidTops", unfollowed := true, recurses := true, apart := false, narrowed := true }
def FnExactValidTopsUptoSaid : Prop := fnExactValidTopsUptoRow.holds Try.pinned (OpenSpec.upto fnExactValidTopsSpec)

/-- 'laws.FnExactRunsDown', WHERE WHAT IT READS IS OF BULK AT MOST 1048576: true; the input reads as it did. -/
def fnExactRunsDownUptoRow : OpenClaim := { program := "ytgachgjcnmeicaa", sum := "6961b2ca9321c89cf1f657d507f01e846e745125cff454ce8dca5018fc9f6075", func := "loop.example/g01281/laws.FnExactRunsDown", spec := "fnExactRunsDown", unfollowed := true, recurses := true, apart := false, narrowed := true }
def FnExactRunsDownUptoSaid : Prop := fnExactRunsDownUptoRow.holds Try.pinned (OpenSpec.upto fnExactRunsDownSpec)

/-- 'laws.FnExactStepOfGlasses', WHERE WHAT IT READS IS OF BULK AT MOST 1048576: true; the input reads as it did. -/
def fnExactStepOfGlassesUptoRow : OpenClaim := { program := "ytgachgjcnmeicaa", sum := "6961b2ca9321c89cf1f657d507f01e846e745125cff454ce8dca5018fc9f6075", func := "loop.example/g01281/laws.FnExactStepOfGlasses", spec := "fnExactStepOfGlasses", unfollowed := true, recurses := true, apart := false, narrowed := true }
def FnExactStepOfGlassesUptoSaid : Prop := fnExactStepOfGlassesUptoRow.holds Try.pinned (OpenSpec.upto fnExactStepOfGlassesSpec)

/-- 'laws.FnExactTurnGlasses', WHERE WHAT IT READS IS OF BULK AT MOST 1048576: true; the input reads as it did. -/
def fnExactTurnGlassesUptoRow : OpenClaim := { program := "ytgachgjcnmeicaa", sum := "6961b2ca9321c89cf1f657d507f01e846e745125cff454ce8dca5018fc9f6075", func := "loop.example/g01281/laws.FnExactTurnGlasses", spec := "fnExactTurnGlasses", unfollowed := true, recurses := true, apart := false, narrowed := true }
def FnExactTurnGlassesUptoSaid : Prop := fnExactTurnGlassesUptoRow.holds Try.pinned (OpenSpec.upto fnExactTurnGlassesSpec)

/-- 'laws.FnExactWaitFor', WHERE WHAT IT READS IS OF BULK AT MOST 1048576: true; the input reads as it did. -/
def fnExactWaitForUptoRow : OpenClaim := { program := "ytgachgjcnmeicaa", sum := "6961b2ca9321c89cf1f657d507f01e846e745125cff454ce8dca5018fc9f6075", func := "loop.example/g01281/laws.FnExactWaitFor", spec := "fnExactWaitFor", unfollowed := true, recurses := true, apart := false, narrowed := true }
def FnExactWaitForUptoSaid : Prop := fnExactWaitForUptoRow.holds Try.pinned (OpenSpec.upto fnExactWaitForSpec)

/-- 'laws.FnExactTurnsText', WHERE WHAT IT READS IS OF BULK AT MOST 1048576: true; the input reads as it did. -/
def fnExactTurnsTextUptoRow : OpenClaim := { program := "ytgachgjcnmeicaa", sum := "6961b2ca9321c89cf1f657d507f01e846e745125cff454ce8dca5018fc9f6075", func := "loop.example/g01281/laws.FnExactTurnsText", spec := "fnExactTurnsText", inPlace := ["internal/abi.NoEscape", "internal/bytealg.MakeNoZero"], apart := false, narrowed := true }
def FnExactTurnsTextUptoSaid : Prop := fnExactTurnsTextUptoRow.holds Try.pinned (OpenSpec.upto fnExactTurnsTextSpec)

/-- 'laws.FnExactCheckTurns', WHERE WHAT IT READS IS OF BULK AT MOST 1048576: true; the input reads as it did. -/
def fnExactCheckTurnsUptoRow : OpenClaim := { program := "ytgachgjcnmeicaa", sum := "6961b2ca9321c89cf1f657d507f01e846e745125cff454ce8dca5018fc9f6075", func := "loop.example/g01281/laws.FnExactCheckTurns", spec := "fnExactCheckTurns", unfollowed := true, recurses := true, apart := false, narrowed := true }
def FnExactCheckTurnsUptoSaid : Prop := fnExactCheckTurnsUptoRow.holds Try.pinned (OpenSpec.upto fnExactCheckTurnsSpec)

/-- 'laws.FnExactRunTurns', WHERE WHAT IT READS IS OF BULK AT MOST 1048576: true; the input reads as it did. -/
def fnExactRunTurnsUptoRow : OpenClaim := { program := "ytgachgjcnmeicaa", sum := "6961b2ca9321c89cf1f657d507f01e846e745125cff454ce8dca5018fc9f6075", func := "loop.example/g01281/laws.FnExactRunTurns", spec := "fnExactRunTurns", unfollowed := true, recurses := true, apart := false, narrowed := true }
def FnExactRunTurnsUptoSaid : Prop := fnExactRunTurnsUptoRow.holds Try.pinned (OpenSpec.upto fnExactRunTurnsSpec)

end Rows
end Go.Proofs.Ytgachgjcnmeicaa
