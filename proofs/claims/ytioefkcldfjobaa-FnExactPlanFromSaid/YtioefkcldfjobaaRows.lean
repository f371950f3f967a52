/-
  No cell of these rows narrows 'for every input' (looked for: loops, veiled, ifaces, maps, wideKeys, modest, calm, conditions, laid).
  DERIVED. THE GIVEN ROWS OF THIS SEAT. 6 by the template 'for every input the law returns true; each argument reads behind the call as it read before'; 0 by the template 'total and deterministic' (their statements: YtioefkcldfjobaaTotals.lean).
  GIVEN WITH THE SEED: the statements are not yours to turn. If you find one false, say at which input.
  Laid BY PROGRAM, IN A SANDBOX (cutbox-rows.mjs): the forced cells as the released guide's own fill.sh prints them over the translation 704965f6ed7f5874… (all of the seat's roots in one cut). By AI agents, Wed Nov 11 2026. No macro, syntax, notation, axiom, sorry.
-/
import Derived.Test.YtioefkcldfjobaaChecked
import GoSem.Claim
import GoSem.ClaimJoined
import GoSem.ClaimMapViews
import Derived.JoinedTies
import Derived.KernelRfl
namespace Go.Proofs.Ytioefkcldfjobaa
/- THE CELL 'sum', in the pinned program and in every row, IS THE sha256 OF THE DUMP (.gsa) THAT YtioefkcldfjobaaProg.lean LOADS. Nothing in Lean hashes anything: it is a label: what it is worth is what the hold of that sum in a sandbox is worth. -/
noncomputable def Try.pinned : Pinned := { name := "ytioefkcldfjobaa", sum := "704965f6ed7f5874fe0e400c663e21ff8d9a7c1bd684b31174d197c0e61507df", checked := Try.checked }
namespace Rows
def none {H : Type} : Left H := { results := [], args := [] }

/-- 'laws.FnExactFewestTurns': WHATEVER THE INPUT: true; the input reads as it did. -/
def fnExactFewestTurnsSpec : ChangeSpec := { name := "fnExactFewestTurns", fn := fun _ => fun
  | [d1, d2, d3] => { results := [.lit (.bool true)], args := [d1, d2, d3] }
  | _ => none }
def fnExactFewestTurnsRow : OpenClaim := { program := "ytioefkcldfjobaa", sum := "704965f6ed7f5874fe0e400c663e21ff8d9a7c1bd684b31174d197c0e61507df", func := "loop.example/g01281/laws.FnExactFewestTurns", spec := "fnExactFewestTurns", unfollowed := true, recurses := true, plainKeys := false, apart := false }
def FnExactFewestTurnsSaid : Prop := fnExactFewestTurnsRow.holds Try.pinned (OpenSpec.ofChange fnExactFewestTurnsSpec)

/-- ITS FALSE NEIGHBOUR: 'it returns false'. Refute it at one input. -/
def fnExactFewestTurnsWrong : ChangeSpec := { name := "fnExactFewestTurns", fn := fun _ => fun
  | [d1, d2, d3] => { results := [.lit (.bool false)], args := [d1, d2, d3] }
  | _ => none }
def FnExactFewestTurnsWrongFalsely : Prop := fnExactFewestTurnsRow.holds Try.pinned (OpenSpec.ofChange fnExactFewestTurnsWrong)

/-- 'laws.FnExactTimesFrom': WHATEVER THE INPUT: true; the input reads as it did. -/
def fnExactTimesFromSpec : ChangeSpec := { name := "fnExactTimesFrom", fn := fun _ => fun
  | [d1, d2, d3] => { results := [.lit (.bool true)], args := [d1, d2, d3] }
  | _ => none }
def fnExactTimesFromRow : OpenClaim := { program := "ytioefkcldfjobaa", sum := "704965f6ed7f5874fe0e400c663e21ff8d9a7c1bd684b31174d197c0e61507df", func := "loop.example/g01281/laws.FnExactTimesFrom", spec := "fnExactTimesFrom", unfollowed := true, recurses := true, plainKeys := false, apart := false }
def FnExactTimesFromSaid : Prop := fnExactTimesFromRow.holds Try.pinned (OpenSpec.ofChange fnExactTimesFromSpec)

/-- ITS FALSE NEIGHBOUR: 'it returns false'. Refute it at one input. -/
def fnExactTimesFromWrong : ChangeSpec := { name := "fnExactTimesFrom", fn := fun _ => fun
  | [d1, d2, d3] => { results := [.lit (.bool false)], args := [d1, d2, d3] }
  | _ => none }
def FnExactTimesFromWrongFalsely : Prop := fnExactTimesFromRow.holds Try.pinned (OpenSpec.ofChange fnExactTimesFromWrong)

/-- 'laws.FnExactNeverFrom': WHATEVER THE INPUT: true; the input reads as it did. -/
def fnExactNeverFromSpec : ChangeSpec := { name := "fnExactNeverFrom", fn := fun _ => fun
  | [d1, d2, d3] => { results := [.lit (.bool true)], args := [d1, d2, d3] }
  | _ => none }
def fnExactNeverFromRow : OpenClaim := { program := "ytioefkcldfjobaa", sum := "704965f6ed7f5874fe0e400c663e21ff8d9a7c1bd684b31174d197c0e61507df", func := "loop.example/g01281/laws.FnExactNeverFrom", spec := "fnExactNeverFrom", unfollowed := true, recurses := true, plainKeys := false, apart := false }
def FnExactNeverFromSaid : Prop := fnExactNeverFromRow.holds Try.pinned (OpenSpec.ofChange fnExactNeverFromSpec)

/-- ITS FALSE NEIGHBOUR: 'it returns false'. Refute it at one input. -/
def fnExactNeverFromWrong : ChangeSpec := { name := "fnExactNeverFrom", fn := fun _ => fun
  | [d1, d2, d3] => { results := [.lit (.bool false)], args := [d1, d2, d3] }
  | _ => none }
def FnExactNeverFromWrongFalsely : Prop := fnExactNeverFromRow.holds Try.pinned (OpenSpec.ofChange fnExactNeverFromWrong)

/-- 'laws.FnExactTopsAfter': WHATEVER THE INPUT: true; the input reads as it did. -/
def fnExactTopsAfterSpec : ChangeSpec := { name := "fnExactTopsAfter", fn := fun _ => fun
  | [d1, d2, d3] => { results := [.lit (.bool true)], args := [d1, d2, d3] }
  | _ => none }
def fnExactTopsAfterRow : OpenClaim := { program := "ytioefkcldfjobaa", sum := "704965f6ed7f5874fe0e400c663e21ff8d9a7c1bd684b31174d197c0e61507df", func := "loop.example/g01281/laws.FnExactTopsAfter", spec := "fnExactTopsAfter", unfollowed := true, recurses := true, plainKeys := false, apart := false }
def FnExactTopsAfterSaid : Prop := fnExactTopsAfterRow.holds Try.pinned (OpenSpec.ofChange fnExactTopsAfterSpec)

/-- ITS FALSE NEIGHBOUR: 'it returns false'. Refute it at one input. -/
def fnExactTopsAfterWrong : ChangeSpec := { name := "fnExactTopsAfter", fn := fun _ => fun
  | [d1, d2, d3] => { results := [.lit (.bool false)], args := [d1, d2, d3] }
  | _ => none }
def FnExactTopsAfterWrongFalsely : Prop := fnExactTopsAfterRow.holds Try.pinned (OpenSpec.ofChange fnExactTopsAfterWrong)

/-- 'laws.FnExactPlansFor': WHATEVER THE INPUT: true; the input reads as it did. -/
def fnExactPlansForSpec : ChangeSpec := { name := "fnExactPlansFor", fn := fun _ => fun
  | [d1, d2, d3, d4] => { results := [.lit (.bool true)], args := [d1, d2, d3, d4] }
  | _ => none }
def fnExactPlansForRow : OpenClaim := { program := "ytioefkcldfjobaa", sum := "704965f6ed7f5874fe0e400c663e21ff8d9a7c1bd684b31174d197c0e61507df", func := "loop.example/g01281/laws.FnExactPlansFor", spec := "fnExactPlansFor", unfollowed := true, recurses := true, plainKeys := false, apart := false }
def FnExactPlansForSaid : Prop := fnExactPlansForRow.holds Try.pinned (OpenSpec.ofChange fnExactPlansForSpec)

/-- ITS FALSE NEIGHBOUR: 'it returns false'. Refute it at one input. -/
def fnExactPlansForWrong : ChangeSpec := { name := "fnExactPlansFor", fn := fun _ => fun
  | [d1, d2, d3, d4] => { results := [.lit (.bool false)], args := [d1, d2, d3, d4] }
  | _ => none }
def FnExactPlansForWrongFalsely : Prop := fnExactPlansForRow.holds Try.pinned (OpenSpec.ofChange fnExactPlansForWrong)

/-- 'laws.FnExactPlanFrom': WHATEVER THE INPUT: true; the input reads as it did. -/
def fnExactPlanFromSpec : ChangeSpec := { name := "fnExactPlanFrom", fn := fun _ => fun
  | [d1, d2, d3] => { results := [.lit (.bool true)], args := [d1, d2, d3] }
  | _ => none }
def fnExactPlanFromRow : OpenClaim := { program := "ytioefkcldfjobaa", sum := "704965f6ed7f5874fe0e400c663e21ff8d9a7c1bd684b31174d197c0e61507df", func := "loop.example/g01281/laws.FnExactPlanFrom", spec := "fnExactPlanFrom", unfollowed := true, recurses := true, plainKeys := false, apart := false }
def FnExactPlanFromSaid : Prop := fnExactPlanFromRow.holds Try.pinned (OpenSpec.ofChange fnExactPlanFromSpec)

/-- ITS FALSE NEIGHBOUR: 'it returns false'. Refute it at one input. -/
def fnExactPlanFromWrong : ChangeSpec := { name := "fnExactPlanFrom", fn := fun _ => fun
  | [d1, d2, d3] => { results := [.lit (.bool false)], args := [d1, d2, d3] }
  | _ => none }
def FnExactPlanFromWrongFalsely : Prop := fnExactPlanFromRow.holds Try.pinned (OpenSpec.ofChange fnExactPlanFromWrong)

/- THE SECOND FORM. 'bulk': how many values and letters a reading holds, each counted each time it is reached (what is shared counts as often as it is met; a slice's spare places count too). A statement '..UptoSaid' is the law's where the arguments, and the package variables that the reading takes, are together of bulk at most 1048576: NARROWER than '..Said'. Prove '..Said' where nothing that the law and all that it calls make is longer than what came in: it says more and counts as full. Else prove '..UptoSaid'. A law counts once. -/
mutual
def uptoBulk {H : Type} : DataW H → Nat
  | .lit (.string bytes) => bytes.length + 1
  | .lit _ => 1
  | .nil => 1
  | .ptr d => uptoBulk d + 1
  | .slice elems spare => uptoBulkAll elems + uptoBulkAll spare + 1
  | .agg parts => uptoBulkAll parts + 1
  | .iface _ d => uptoBulk d + 1
  | .map entries => uptoBulkEntries entries + 1
  | .held _ => 1
def uptoBulkAll {H : Type} : List (DataW H) → Nat
  | [] => 0
  | d :: r => uptoBulk d + uptoBulkAll r
def uptoBulkEntries {H : Type} : List (Lit × DataW H) → Nat
  | [] => 0
  | x :: r => uptoBulkEntry x + uptoBulkEntries r
def uptoBulkEntry {H : Type} : Lit × DataW H → Nat
  | (.string bytes, d) => bytes.length + uptoBulk d + 1
  | (_, d) => uptoBulk d + 1
 end
def uptoSmall : (H : Type) → List (DataW H) → Bool := fun _ ds => decide (uptoBulkAll ds ≤ 1048576)
def OpenSpec.upto (s : _root_.Go.ChangeSpec) : _root_.Go.OpenSpec := { _root_.Go.OpenSpec.ofChange s with cond := some uptoSmall }

/-- 'laws.FnExactFewestTurns', WHERE WHAT IT READS IS OF BULK AT MOST 1048576: true; the input reads as it did. -/
def fnExactFewestTurnsUptoRow : OpenClaim := { program := "ytioefkcldfjobaa", sum := "704965f6ed7f5874fe0e400c663e21ff8d9a7c1bd684b31174d197c0e61507df", func := "loop.example/g01281/laws.FnExactFewestTurns", spec := "fnExactFewestTurns", unfollowed := true, recurses := true, plainKeys := false, apart := false, narrowed := true }
def FnExactFewestTurnsUptoSaid : Prop := fnExactFewestTurnsUptoRow.holds Try.pinned (OpenSpec.upto fnExactFewestTurnsSpec)

/-- 'laws.FnExactTimesFrom', WHERE WHAT IT READS IS OF BULK AT MOST 1048576: true; the input reads as it did. -/
def fnExactTimesFromUptoRow : OpenClaim := { program := "ytioefkcldfjobaa", sum := "704965f6ed7f5874fe0e400c663e21ff8d9a7c1bd684b31174d197c0e61507df", func := "loop.example/g01281/laws.FnExactTimesFrom", spec := "fnExactTimesFrom", unfollowed := true, recurses := true, plainKeys := false, apart := false, narrowed := true }
def FnExactTimesFromUptoSaid : Prop := fnExactTimesFromUptoRow.holds Try.pinned (OpenSpec.upto fnExactTimesFromSpec)

/-- 'laws.FnExactNeverFrom', WHERE WHAT IT READS IS OF BULK AT MOST 1048576: true; the input reads as it did. -/
def fnExactNeverFromUptoRow : OpenClaim := { program := "ytioefkcldfjobaa", sum := "704965f6ed7f5874fe0e400c663e21ff8d9a7c1bd684b31174d197c0e61507df", func := "loop.example/g01281/laws.FnExactNeverFrom", spec := "fnExactNeverFrom", unfollowed := true, recurses := true, plainKeys := false, apart := false, narrowed := true }
def FnExactNeverFromUptoSaid : Prop := fnExactNeverFromUptoRow.holds Try.pinned (OpenSpec.upto fnExactNeverFromSpec)

/-- 'laws.FnExactTopsAfter', WHERE WHAT IT READS IS OF BULK AT MOST 1048576: true; the input reads as it did. -/
def fnExactTopsAfterUptoRow : OpenClaim := { program := "ytioefkcldfjobaa", sum := "704965f6ed7f5874fe0e400c663e21ff8d9a7c1bd684b31174d197c0e61507df", func := "loop.example/g01281/laws.FnExactTopsAfter", spec := "fnExactTopsAfter", unfollowed := true, recurses := true, plainKeys := false, apart := false, narrowed := true }
def FnExactTopsAfterUptoSaid : Prop := fnExactTopsAfterUptoRow.holds Try.pinned (OpenSpec.upto fnExactTopsAfterSpec)

/-- 'laws.FnExactPlansFor', WHERE WHAT IT READS IS OF BULK AT MOST 1048576: true; the input reads as it did. -/
def fnExactPlansForUptoRow : OpenClaim := { program := "ytioefkcldfjobaa", sum := "704965f6ed7f5874fe0e400c663e21ff8d9a7c1bd684b31174d197c0e61507df", func := "loop.example/g01281/laws.FnExactPlansFor", spec := "fnExactPlansFor", unfollowed := true, recurses := true, plainKeys := false, apart := false, narrowed := true }
def FnExactPlansForUptoSaid : Prop := fnExactPlansForUptoRow.holds Try.pinned (OpenSpec.upto fnExactPlansForSpec)

/-- 'laws.FnExactPlanFrom', WHERE WHAT IT READS IS OF BULK AT MOST 1048576: true; the input reads as it did. -/
def fnExactPlanFromUptoRow : OpenClaim := { program := "ytioefkcldfjobaa", sum := "704965f6ed7f5874fe0e400c663e21ff8d9a7c1bd684b31174d197c0e61507df", func := "loop.example/g01281/laws.FnExactPlanFrom", spec := "fnExactPlanFrom", unfollowed := true, recurses := true, plainKeys := false, apart := false, narrowed := true }
def FnExactPlanFromUptoSaid : Prop := fnExactPlanFromUptoRow.holds Try.pinned (OpenSpec.upto fnExactPlanFromSpec)

end Rows
end Go.Proofs.Ytioefkcldfjobaa
