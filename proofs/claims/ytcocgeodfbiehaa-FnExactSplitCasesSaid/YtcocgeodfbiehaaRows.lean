/-
  No cell of these rows narrows 'for every input' (looked for: loops, veiled, ifaces, maps, wideKeys, modest, calm, conditions, laid).
  DERIVED. THE GIVEN ROWS OF THIS SEAT. 4 by the template 'for every input the law returns true; each argument reads behind the call as it read before'; 0 by the template 'total and deterministic' (their statements: YtcocgeodfbiehaaTotals.lean).
  GIVEN WITH THE SEED: the statements are not yours to turn. If you find one false, say at which input.
  Laid BY PROGRAM, IN A SANDBOX (cutbox-rows.mjs): the forced cells as the released guide's own fill.sh prints them over the translation bf21cdfaeb6f07f7… (all of the seat's roots in one cut). By AI agents, Wed Nov 11 2026. No macro, syntax, notation, axiom, sorry.
-/
import Derived.Test.YtcocgeodfbiehaaChecked
import GoSem.Claim
import GoSem.ClaimJoined
import GoSem.ClaimMapViews
import Derived.JoinedTies
import Derived.KernelRfl
namespace Go.Proofs.Ytcocgeodfbiehaa
/- THE CELL 'sum', in the pinned program and in every row, IS THE sha256 OF THE DUMP (.gsa) THAT YtcocgeodfbiehaaProg.lean LOADS. Nothing in Lean hashes anything: it is a label: what it is worth is what the hold of that sum in a sandbox is worth. -/
noncomputable def Try.pinned : Pinned := { name := "ytcocgeodfbiehaa", sum := "bf21cdfaeb6f07f70c4a5953405d0a2228e876dbdb7c4e6b28d0d51da715247a", checked := Try.checked }
namespace Rows
def none {H : Type} : Left H := { results := [], args := [] }

/-- 'laws.FnExactNextSet': WHATEVER THE INPUT: true; the input reads as it did. -/
def fnExactNextSetSpec : ChangeSpec := { name := "fnExactNextSet", fn := fun _ => fun
  | [d] => { results := [.lit (.bool true)], args := [d] }
  | _ => none }
def fnExactNextSetRow : OpenClaim := { program := "ytcocgeodfbiehaa", sum := "bf21cdfaeb6f07f70c4a5953405d0a2228e876dbdb7c4e6b28d0d51da715247a", func := "loop.example/g01281/laws.FnExactNextSet", spec := "fnExactNextSet", unfollowed := true, recurses := true, apart := false }
def FnExactNextSetSaid : Prop := fnExactNextSetRow.holds Try.pinned (OpenSpec.ofChange fnExactNextSetSpec)

/-- ITS FALSE NEIGHBOUR: 'it returns false'. Refute it at one input. -/
def fnExactNextSetWrong : ChangeSpec := { name := "fnExactNextSet", fn := fun _ => fun
  | [d] => { results := [.lit (.bool false)], args := [d] }
  | _ => none }
def FnExactNextSetWrongFalsely : Prop := fnExactNextSetRow.holds Try.pinned (OpenSpec.ofChange fnExactNextSetWrong)

/-- 'laws.FnExactSetFor': WHATEVER THE INPUT: true; the input reads as it did. -/
def fnExactSetForSpec : ChangeSpec := { name := "fnExactSetFor", fn := fun _ => fun
  | [d1, d2] => { results := [.lit (.bool true)], args := [d1, d2] }
  | _ => none }
def fnExactSetForRow : OpenClaim := { program := "ytcocgeodfbiehaa", sum := "bf21cdfaeb6f07f70c4a5953405d0a2228e876dbdb7c4e6b28d0d51da715247a", func := "loop.example/g01281/laws.FnExactSetFor", spec := "fnExactSetFor", unfollowed := true, recurses := true, apart := false }
def FnExactSetForSaid : Prop := fnExactSetForRow.holds Try.pinned (OpenSpec.ofChange fnExactSetForSpec)

/-- ITS FALSE NEIGHBOUR: 'it returns false'. Refute it at one input. -/
def fnExactSetForWrong : ChangeSpec := { name := "fnExactSetFor", fn := fun _ => fun
  | [d1, d2] => { results := [.lit (.bool false)], args := [d1, d2] }
  | _ => none }
def FnExactSetForWrongFalsely : Prop := fnExactSetForRow.holds Try.pinned (OpenSpec.ofChange fnExactSetForWrong)

/-- 'laws.FnExactSplitCases': WHATEVER THE INPUT: true; the input reads as it did. -/
def fnExactSplitCasesSpec : ChangeSpec := { name := "fnExactSplitCases", fn := fun _ => fun
  | [d1, d2, d3] => { results := [.lit (.bool true)], args := [d1, d2, d3] }
  | _ => none }
def fnExactSplitCasesRow : OpenClaim := { program := "ytcocgeodfbiehaa", sum := "bf21cdfaeb6f07f70c4a5953405d0a2228e876dbdb7c4e6b28d0d51da715247a", func := "loop.example/g01281/laws.FnExactSplitCases", spec := "fnExactSplitCases", unfollowed := true, recurses := true, apart := false }
def FnExactSplitCasesSaid : Prop := fnExactSplitCasesRow.holds Try.pinned (OpenSpec.ofChange fnExactSplitCasesSpec)

/-- ITS FALSE NEIGHBOUR: 'it returns false'. Refute it at one input. -/
def fnExactSplitCasesWrong : ChangeSpec := { name := "fnExactSplitCases", fn := fun _ => fun
  | [d1, d2, d3] => { results := [.lit (.bool false)], args := [d1, d2, d3] }
  | _ => none }
def FnExactSplitCasesWrongFalsely : Prop := fnExactSplitCasesRow.holds Try.pinned (OpenSpec.ofChange fnExactSplitCasesWrong)

/-- 'laws.FnExactFairestWeighing': WHATEVER THE INPUT: true; the input reads as it did. -/
def fnExactFairestWeighingSpec : ChangeSpec := { name := "fnExactFairestWeighing", fn := fun _ => fun
  | [d1, d2, d3] => { results := [.lit (.bool true)], args := [d1, d2, d3] }
  | _ => none }
def fnExactFairestWeighingRow : OpenClaim := { program := "ytcocgeodfbiehaa", sum := "bf21cdfaeb6f07f70c4a5953405d0a2228e876dbdb7c4e6b28d0d51da715247a", func := "loop.example/g01281/laws.FnExactFairestWeighing", spec := "fnExactFairestWeighing", unfollowed := true, recurses := true, apart := false }
def FnExactFairestWeighingSaid : Prop := fnExactFairestWeighingRow.holds Try.pinned (OpenSpec.ofChange fnExactFairestWeighingSpec)

/-- ITS FALSE NEIGHBOUR: 'it returns false'. Refute it at one input. -/
def fnExactFairestWeighingWrong : ChangeSpec := { name := "fnExactFairestWeighing", fn := fun _ => fun
  | [d1, d2, d3] => { results := [.lit (.bool false)], args := [d1, d2, d3] }
  | _ => none }
def FnExactFairestWeighingWrongFalsely : Prop := fnExactFairestWeighingRow.holds Try.pinned (OpenSpec.ofChange fnExactFairestWeighingWrong)

/- THE SECOND FORM. 'bulk': how many values and letters a reading holds, each counted each time it is reached (what is shared counts as often as it is met; a slice's spare places count too). A statement '..UptoSaid' is the law's where the arguments, and the package variables that the reading takes, are together of bulk at most 1048576: NARROWER than '..Said'. Prove '..Said' where nothing that the law and all that it calls make is longer than what came in: it says more and counts as full. Else prove '..UptoSaid'. A law counts once. -/
mutual
def uptoBulk {H : Type} : DataW H → Nat
  | .lit (.string bytes) => bytes.length + 1
  | .lit _ => 1
  | .nil => 1
  | .ptr d => uptoBulk d + 1
  | .slice elems spare => uptoBulkAll elems + uptoBulkAll spare + 1
  | .agg parts => uptoBulkAll parts + 1
  | .iface _ d => uptoBulk d + 1
  | .map entries => uptoBulkEntries entries + 1
  | .held _ => 1
def uptoBulkAll {H : Type} : List (DataW H) → Nat
  | [] => 0
  | d :: r => uptoBulk d + uptoBulkAll r
def uptoBulkEntries {H : Type} : List (Lit × DataW H) → Nat
  | [] => 0
  | x :: r => uptoBulkEntry x + uptoBulkEntries r
def uptoBulkEntry {H : Type} : Lit × DataW H → Nat
  | (.string bytes, d) => bytes.length + uptoBulk d + 1
  | (_, d) => uptoBulk d + 1
 end
def uptoSmall : (H : Type) → List (DataW H) → Bool := fun _ ds => decide (uptoBulkAll ds ≤ 1048576)
def OpenSpec.upto (s : _root_.Go.ChangeSpec) : _root_.Go.OpenSpec := { _root_.Go.OpenSpec.ofChange s with cond := some uptoSmall }

/-- 'laws.FnExactNextSet', WHERE WHAT IT READS IS OF BULK AT MOST 1048576: true; the input reads as it did. -/
def fnExactNextSetUptoRow : OpenClaim := { program := "ytcocgeodfbiehaa", sum := "bf21cdfaeb6f07f70c4a5953405d0a2228e876dbdb7c4e6b28d0d51da715247a", func := "loop.example/g01281/laws.FnExactNextSet", spec := "fnExactNextSet", unfollowed := true, recurses := true, apart := false, narrowed := true }
def FnExactNextSetUptoSaid : Prop := fnExactNextSetUptoRow.holds Try.pinned (OpenSpec.upto fnExactNextSetSpec)

/-- 'laws.FnExactSetFor', WHERE WHAT IT READS IS OF BULK AT MOST 1048576: true; the input reads as it did. -/
def fnExactSetForUptoRow : OpenClaim := { program := "ytcocgeodfbiehaa", sum := "bf21cdfaeb6f07f70c4a5953405d0a2228e876dbdb7c4e6b28d0d51da715247a", func := "loop.example/g01281/laws.FnExactSetFor", spec := "fnExactSetFor", unfollowed := true, recurses := true, apart := false, narrowed := true }
def FnExactSetForUptoSaid : Prop := fnExactSetForUptoRow.holds Try.pinned (OpenSpec.upto fnExactSetForSpec)

/-- 'laws.FnExactSplitCases', WHERE WHAT IT READS IS OF BULK AT MOST 1048576: true; the input reads as it did. -/
def fnExactSplitCasesUptoRow : OpenClaim := { program := "ytcocgeodfbiehaa", sum := "bf21cdfaeb6f07f70c4a5953405d0a2228e876dbdb7c4e6b28d0d51da715247a", func := "loop.example/g01281/laws.FnExactSplitCases", spec := "fnExactSplitCases", unfollowed := true, recurses := true, apart := false, narrowed := true }
def FnExactSplitCasesUptoSaid : Prop := fnExactSplitCasesUptoRow.holds Try.pinned (OpenSpec.upto fnExactSplitCasesSpec)

/-- 'laws.FnExactFairestWeighing', WHERE WHAT IT READS IS OF BULK AT MOST 1048576: true; the input reads as it did. -/
def fnExactFairestWeighingUptoRow : OpenClaim := { program := "ytcocgeodfbiehaa", sum := "bf21cdfaeb6f07f70c4a5953405d0a2228e876dbdb7c4e6b28d0d51da715247a", func := "loop.example/g01281/laws.FnExactFairestWeighing", spec := "fnExactFairestWeighing", unfollowed := true, recurses := true, apart := false, narrowed := true }
def FnExactFairestWeighingUptoSaid : Prop := fnExactFairestWeighingUptoRow.holds Try.pinned (OpenSpec.upto fnExactFairestWeighingSpec)

end Rows
end Go.Proofs.Ytcocgeodfbiehaa
