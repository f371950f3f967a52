/-
  No cell of these rows narrows 'for every input' (looked for: loops, veiled, ifaces, maps, wideKeys, modest, calm, conditions, laid).
  DERIVED. THE GIVEN ROWS OF THIS SEAT. 8 by the template 'for every input the law returns true; each argument reads behind the call as it read before'; 0 by the template 'total and deterministic' (their statements: YtgoblgmidejdgaaTotals.lean).
  GIVEN WITH THE SEED: the statements are not yours to turn. If you find one false, say at which input.
  Laid BY PROGRAM, IN A SANDBOX (cutbox-rows.mjs): the forced cells as the released guide's own fill.sh prints them over the translation 88379d33116ef500… (all of the seat's roots in one cut). By AI agents, Wed Nov 11 2026. No macro, syntax, notation, axiom, sorry.
-/
import Derived.Test.YtgoblgmidejdgaaChecked
import GoSem.Claim
import GoSem.ClaimJoined
import GoSem.ClaimMapViews
import Derived.JoinedTies
import Derived.KernelRfl
namespace Go.Proofs.Ytgoblgmidejdgaa
/- THE CELL 'sum', in the pinned program and in every row, IS THE sha256 OF THE DUMP (.gsa) THAT YtgoblgmidejdgaaProg.lean LOADS. Nothing in Lean hashes anything: it is a label: what it is worth is what the hold of that sum in a sandbox is worth. -/
noncomputable def Try.pinned : Pinned := { name := "ytgoblgmidejdgaa", sum := "88379d33116ef500c273898d15458b045c052ad09ff15eaa3007d01d4315f7d1", checked := Try.checked }
namespace Rows
def none {H : Type} : Left H := { results := [], args := [] }

/-- 'laws.FnExactCrossAll': WHATEVER THE INPUT: true; the input reads as it did. -/
def fnExactCrossAllSpec : ChangeSpec := { name := "fnExactCrossAll", fn := fun _ => fun
  | [d1, d2] => { results := [.lit (.bool true)], args := [d1, d2] }
  | _ => none }
def fnExactCrossAllRow : OpenClaim := { program := "ytgoblgmidejdgaa", sum := "88379d33116ef500c273898d15458b045c052ad09ff15eaa3007d01d4315f7d1", func := "loop.example/g01281/laws.FnExactCrossAll", spec := "fnExactCrossAll", unfollowed := true, recurses := true, plainKeys := false, apart := false }
def FnExactCrossAllSaid : Prop := fnExactCrossAllRow.holds Try.pinned (OpenSpec.ofChange fnExactCrossAllSpec)

/-- ITS FALSE NEIGHBOUR: 'it returns false'. Refute it at one input. -/
def fnExactCrossAllWrong : ChangeSpec := { name := "fnExactCrossAll", fn := fun _ => fun
  | [d1, d2] => { results := [.lit (.bool false)], args := [d1, d2] }
  | _ => none }
def FnExactCrossAllWrongFalsely : Prop := fnExactCrossAllRow.holds Try.pinned (OpenSpec.ofChange fnExactCrossAllWrong)

/-- 'laws.FnExactLoadsFrom': WHATEVER THE INPUT: true; the input reads as it did. -/
def fnExactLoadsFromSpec : ChangeSpec := { name := "fnExactLoadsFrom", fn := fun _ => fun
  | [d1, d2] => { results := [.lit (.bool true)], args := [d1, d2] }
  | _ => none }
def fnExactLoadsFromRow : OpenClaim := { program := "ytgoblgmidejdgaa", sum := "88379d33116ef500c273898d15458b045c052ad09ff15eaa3007d01d4315f7d1", func := "loop.example/g01281/laws.FnExactLoadsFrom", spec := "fnExactLoadsFrom", unfollowed := true, recurses := true, plainKeys := false, apart := false }
def FnExactLoadsFromSaid : Prop := fnExactLoadsFromRow.holds Try.pinned (OpenSpec.ofChange fnExactLoadsFromSpec)

/-- ITS FALSE NEIGHBOUR: 'it returns false'. Refute it at one input. -/
def fnExactLoadsFromWrong : ChangeSpec := { name := "fnExactLoadsFrom", fn := fun _ => fun
  | [d1, d2] => { results := [.lit (.bool false)], args := [d1, d2] }
  | _ => none }
def FnExactLoadsFromWrongFalsely : Prop := fnExactLoadsFromRow.holds Try.pinned (OpenSpec.ofChange fnExactLoadsFromWrong)

/-- 'laws.FnExactLeastBoat': WHATEVER THE INPUT: true; the input reads as it did. -/
def fnExactLeastBoatSpec : ChangeSpec := { name := "fnExactLeastBoat", fn := fun _ => fun
  | [d] => { results := [.lit (.bool true)], args := [d] }
  | _ => none }
def fnExactLeastBoatRow : OpenClaim := { program := "ytgoblgmidejdgaa", sum := "88379d33116ef500c273898d15458b045c052ad09ff15eaa3007d01d4315f7d1", func := "loop.example/g01281/laws.FnExactLeastBoat", spec := "fnExactLeastBoat", unfollowed := true, recurses := true, plainKeys := false, apart := false }
def FnExactLeastBoatSaid : Prop := fnExactLeastBoatRow.holds Try.pinned (OpenSpec.ofChange fnExactLeastBoatSpec)

/-- ITS FALSE NEIGHBOUR: 'it returns false'. Refute it at one input. -/
def fnExactLeastBoatWrong : ChangeSpec := { name := "fnExactLeastBoat", fn := fun _ => fun
  | [d] => { results := [.lit (.bool false)], args := [d] }
  | _ => none }
def FnExactLeastBoatWrongFalsely : Prop := fnExactLeastBoatRow.holds Try.pinned (OpenSpec.ofChange fnExactLeastBoatWrong)

/-- 'laws.FnExactCheckCrossings': WHATEVER THE INPUT: true; the input reads as it did. -/
def fnExactCheckCrossingsSpec : ChangeSpec := { name := "fnExactCheckCrossings", fn := fun _ => fun
  | [d1, d2] => { results := [.lit (.bool true)], args := [d1, d2] }
  | _ => none }
def fnExactCheckCrossingsRow : OpenClaim := { program := "ytgoblgmidejdgaa", sum := "88379d33116ef500c273898d15458b045c052ad09ff15eaa3007d01d4315f7d1", func := "loop.example/g01281/laws.FnExactCheckCrossings", spec := "fnExactCheckCrossings", unfollowed := true, recurses := true, plainKeys := false, apart := false }
def FnExactCheckCrossingsSaid : Prop := fnExactCheckCrossingsRow.holds Try.pinned (OpenSpec.ofChange fnExactCheckCrossingsSpec)

/-- ITS FALSE NEIGHBOUR: 'it returns false'. Refute it at one input. -/
def fnExactCheckCrossingsWrong : ChangeSpec := { name := "fnExactCheckCrossings", fn := fun _ => fun
  | [d1, d2] => { results := [.lit (.bool false)], args := [d1, d2] }
  | _ => none }
def FnExactCheckCrossingsWrongFalsely : Prop := fnExactCheckCrossingsRow.holds Try.pinned (OpenSpec.ofChange fnExactCheckCrossingsWrong)

/-- 'laws.FnExactShortestCrossing': WHATEVER THE INPUT: true; the input reads as it did. -/
def fnExactShortestCrossingSpec : ChangeSpec := { name := "fnExactShortestCrossing", fn := fun _ => fun
  | [d] => { results := [.lit (.bool true)], args := [d] }
  | _ => none }
def fnExactShortestCrossingRow : OpenClaim := { program := "ytgoblgmidejdgaa", sum := "88379d33116ef500c273898d15458b045c052ad09ff15eaa3007d01d4315f7d1", func := "loop.example/g01281/laws.FnExactShortestCrossing", spec := "fnExactShortestCrossing", unfollowed := true, recurses := true, plainKeys := false, apart := false }
def FnExactShortestCrossingSaid : Prop := fnExactShortestCrossingRow.holds Try.pinned (OpenSpec.ofChange fnExactShortestCrossingSpec)

/-- ITS FALSE NEIGHBOUR: 'it returns false'. Refute it at one input. -/
def fnExactShortestCrossingWrong : ChangeSpec := { name := "fnExactShortestCrossing", fn := fun _ => fun
  | [d] => { results := [.lit (.bool false)], args := [d] }
  | _ => none }
def FnExactShortestCrossingWrongFalsely : Prop := fnExactShortestCrossingRow.holds Try.pinned (OpenSpec.ofChange fnExactShortestCrossingWrong)

/-- 'laws.FnExactLeastCrossings': WHATEVER THE INPUT: true; the input reads as it did. -/
def fnExactLeastCrossingsSpec : ChangeSpec := { name := "fnExactLeastCrossings", fn := fun _ => fun
  | [d1, d2] => { results := [.lit (.bool true)], args := [d1, d2] }
  | _ => none }
def fnExactLeastCrossingsRow : OpenClaim := { program := "ytgoblgmidejdgaa", sum := "88379d33116ef500c273898d15458b045c052ad09ff15eaa3007d01d4315f7d1", func := "loop.example/g01281/laws.FnExactLeastCrossings", spec := "fnExactLeastCrossings", unfollowed := true, recurses := true, plainKeys := false, apart := false }
def FnExactLeastCrossingsSaid : Prop := fnExactLeastCrossingsRow.holds Try.pinned (OpenSpec.ofChange fnExactLeastCrossingsSpec)

/-- ITS FALSE NEIGHBOUR: 'it returns false'. Refute it at one input. -/
def fnExactLeastCrossingsWrong : ChangeSpec := { name := "fnExactLeastCrossings", fn := fun _ => fun
  | [d1, d2] => { results := [.lit (.bool false)], args := [d1, d2] }
  | _ => none }
def FnExactLeastCrossingsWrongFalsely : Prop := fnExactLeastCrossingsRow.holds Try.pinned (OpenSpec.ofChange fnExactLeastCrossingsWrong)

/-- 'laws.FnExactWaysAcross': WHATEVER THE INPUT: true; the input reads as it did. -/
def fnExactWaysAcrossSpec : ChangeSpec := { name := "fnExactWaysAcross", fn := fun _ => fun
  | [d] => { results := [.lit (.bool true)], args := [d] }
  | _ => none }
def fnExactWaysAcrossRow : OpenClaim := { program := "ytgoblgmidejdgaa", sum := "88379d33116ef500c273898d15458b045c052ad09ff15eaa3007d01d4315f7d1", func := "loop.example/g01281/laws.FnExactWaysAcross", spec := "fnExactWaysAcross", unfollowed := true, recurses := true, plainKeys := false, apart := false }
def FnExactWaysAcrossSaid : Prop := fnExactWaysAcrossRow.holds Try.pinned (OpenSpec.ofChange fnExactWaysAcrossSpec)

/-- ITS FALSE NEIGHBOUR: 'it returns false'. Refute it at one input. -/
def fnExactWaysAcrossWrong : ChangeSpec := { name := "fnExactWaysAcross", fn := fun _ => fun
  | [d] => { results := [.lit (.bool false)], args := [d] }
  | _ => none }
def FnExactWaysAcrossWrongFalsely : Prop := fnExactWaysAcrossRow.holds Try.pinned (OpenSpec.ofChange fnExactWaysAcrossWrong)

/-- 'laws.FnExactCrossingsTable': WHATEVER THE INPUT: true; the input reads as it did. -/
def fnExactCrossingsTableSpec : ChangeSpec := { name := "fnExactCrossingsTable", fn := fun _ => fun
  | [d] => { results := [.lit (.bool true)], args := [d] }
  | _ => none }
def fnExactCrossingsTableRow : OpenClaim := { program := "ytgoblgmidejdgaa", sum := "88379d33116ef500c273898d15458b045c052ad09ff15eaa3007d01d4315f7d1", func := "loop.example/g01281/laws.FnExactCrossingsTable", spec := "fnExactCrossingsTable", unfollowed := true, recurses := true, plainKeys := false, apart := false }
def FnExactCrossingsTableSaid : Prop := fnExactCrossingsTableRow.holds Try.pinned (OpenSpec.ofChange fnExactCrossingsTableSpec)

/-- ITS FALSE NEIGHBOUR: 'it returns false'. Refute it at one input. -/
def fnExactCrossingsTableWrong : ChangeSpec := { name := "fnExactCrossingsTable", fn := fun _ => fun
  | [d] => { results := [.lit (.bool false)], args := [d] }
  | _ => none }
def FnExactCrossingsTableWrongFalsely : Prop := fnExactCrossingsTableRow.holds Try.pinned (OpenSpec.ofChange fnExactCrossingsTableWrong)

/- THE SECOND FORM. 'bulk': how many values and letters a reading holds, each counted each time it is reached (what is shared counts as often as it is met; a slice's spare places count too). A statement '..UptoSaid' is the law's where the arguments, and the package variables that the reading takes, are together of bulk at most 1048576: NARROWER than '..Said'. Prove '..Said' where nothing that the law and all that it calls make is longer than what came in: it says more and counts as full. Else prove '..UptoSaid'. A law counts once. -/
mutual
def uptoBulk {H : Type} : DataW H → Nat
  | .lit (.string bytes) => bytes.length + 1
  | .lit _ => 1
  | .nil => 1
  | .ptr d => uptoBulk d + 1
  | .slice elems spare => uptoBulkAll elems + uptoBulkAll spare + 1
  | .agg parts => uptoBulkAll parts + 1
  | .iface _ d => uptoBulk d + 1
  | .map entries => uptoBulkEntries entries + 1
  | .held _ => 1
def uptoBulkAll {H : Type} : List (DataW H) → Nat
  | [] => 0
  | d :: r => uptoBulk d + uptoBulkAll r
def uptoBulkEntries {H : Type} : List (Lit × DataW H) → Nat
  | [] => 0
  | x :: r => uptoBulkEntry x + uptoBulkEntries r
def uptoBulkEntry {H : Type} : Lit × DataW H → Nat
  | (.string bytes, d) => bytes.length + uptoBulk d + 1
  | (_, d) => uptoBulk d + 1
 end
def uptoSmall : (H : Type) → List (DataW H) → Bool := fun _ ds => decide (uptoBulkAll ds ≤ 1048576)
def OpenSpec.upto (s : _root_.Go.ChangeSpec) : _root_.Go.OpenSpec := { _root_.Go.OpenSpec.ofChange s with cond := some uptoSmall }

/-- 'laws.FnExactCrossAll', WHERE WHAT IT READS IS OF BULK AT MOST 1048576: true; the input reads as it did. -/
def fnExactCrossAllUptoRow : OpenClaim := { program := "ytgoblgmidejdgaa", sum := "88379d33116ef500c273898d15458b045c052ad09ff15eaa3007d01d4315f7d1", func := "loop.example/g01281/laws.FnExactCrossAll", spec := "fnExactCrossAll", unfollowed := true, recurses := true, plainKeys := false, apart := false, narrowed := true }
def FnExactCrossAllUptoSaid : Prop := fnExactCrossAllUptoRow.holds Try.pinned (OpenSpec.upto fnExactCrossAllSpec)

/-- 'laws.FnExactLoadsFrom', WHERE WHAT IT READS IS OF BULK AT MOST 1048576: true; the input reads as it did. -/
def fnExactLoadsFromUptoRow : OpenClaim := { program := "ytgoblgmidejdgaa", sum := "88379d33116ef500c273898d15458b045c052ad09ff15eaa3007d01d4315f7d1", func := "loop.example/g01281/laws.FnExactLoadsFrom", spec := "fnExactLoadsFrom", unfollowed := true, recurses := true, plainKeys := false, apart := false, narrowed := true }
def FnExactLoadsFromUptoSaid : Prop := fnExactLoadsFromUptoRow.holds Try.pinned (OpenSpec.upto fnExactLoadsFromSpec)

/-- 'laws.FnExactLeastBoat', WHERE WHAT IT READS IS OF BULK AT MOST 1048576: true; the input reads as it did. -/
def fnExactLeastBoatUptoRow : OpenClaim := { program := "ytgoblgmidejdgaa", sum := "88379d33116ef500c273898d15458b045c052ad09ff15eaa3007d01d4315f7d1", func := "loop.example/g01281/laws.FnExactLeastBoat", spec := "fnExactLeastBoat", unfollowed := true, recurses := true, plainKeys := false, apart := false, narrowed := true }
def FnExactLeastBoatUptoSaid : Prop := fnExactLeastBoatUptoRow.holds Try.pinned (OpenSpec.upto fnExactLeastBoatSpec)

/-- 'laws.FnExactCheckCrossings', WHERE WHAT IT READS IS OF BULK AT MOST 1048576: true; the input reads as it did. -/
def fnExactCheckCrossingsUptoRow : OpenClaim := { program := "ytgoblgmidejdgaa", sum := "88379d33116ef500c273898d15458b045c052ad09ff15eaa3007d01d4315f7d1", func := "loop.example/g01281/laws.FnExactCheckCrossings", spec := "fnExactCheckCrossings", unfollowed := true, recurses := true, plainKeys := false, apart := false, narrowed := true }
def FnExactCheckCrossingsUptoSaid : Prop := fnExactCheckCrossingsUptoRow.holds Try.pinned (OpenSpec.upto fnExactCheckCrossingsSpec)

/-- 'laws.FnExactShortestCrossing', WHERE WHAT IT READS IS OF BULK AT MOST 1048576: true; the input reads as it did. -/
def fnExactShortestCrossingUptoRow : OpenClaim := { program := "ytgoblgmidejdgaa", sum := "88379d33116ef500c273898d15458b045c052ad09ff15eaa3007d01d4315f7d1", func := "loop.example/g01281/laws.FnExactShortestCrossing", spec := "fnExactShortestCrossing", unfollowed := true, recurses := true, plainKeys := false, apart := false, narrowed := true }
def FnExactShortestCrossingUptoSaid : Prop := fnExactShortestCrossingUptoRow.holds Try.pinned (OpenSpec.upto fnExactShortestCrossingSpec)

/-- 'laws.FnExactLeastCrossings', WHERE WHAT IT READS IS OF BULK AT MOST 1048576: true; the input reads as it did. -/
def fnExactLeastCrossingsUptoRow : OpenClaim := { program := "ytgoblgmidejdgaa", sum := "88379d33116ef500c273898d15458b045c052ad09ff15eaa3007d01d4315f7d1", func := "loop.example/g01281/laws.FnExactLeastCrossings", spec := "fnExactLeastCrossings", unfollowed := true, recurses := true, plainKeys := false, apart := false, narrowed := true }
def FnExactLeastCrossingsUptoSaid : Prop := fnExactLeastCrossingsUptoRow.holds Try.pinned (OpenSpec.upto fnExactLeastCrossingsSpec)

/-- 'laws.FnExactWaysAcross', WHERE WHAT IT READS IS OF BULK AT MOST 1048576: true; the input reads as it did. -/
def fnExactWaysAcrossUptoRow : OpenClaim := { program := "ytgoblgmidejdgaa", sum := "88379d33116ef500c273898d15458b045c052ad09ff15eaa3007d01d4315f7d1", func := "loop.example/g01281/laws.FnExactWaysAcross", spec := "fnExactWaysAcross", unfollowed := true, recurses := true, plainKeys := false, apart := false, narrowed := true }
def FnExactWaysAcrossUptoSaid : Prop := fnExactWaysAcrossUptoRow.holds Try.pinned (OpenSpec.upto fnExactWaysAcrossSpec)

/-- 'laws.FnExactCrossingsTable', WHERE WHAT IT READS IS OF BULK AT MOST 1048576: true; the input reads as it did. -/
def fnExactCrossingsTableUptoRow : OpenClaim := { program := "ytgoblgmidejdgaa", sum := "88379d33116ef500c273898d15458b045c052ad09ff15eaa3007d01d4315f7d1", func := "loop.example/g01281/laws.FnExactCrossingsTable", spec := "fnExactCrossingsTable", unfollowed := true, recurses := true, plainKeys := false, apart := false, narrowed := true }
def FnExactCrossingsTableUptoSaid : Prop := fnExactCrossingsTableUptoRow.holds Try.pinned (OpenSpec.upto fnExactCrossingsTableSpec)

end Rows
end Go.Proofs.Ytgoblgmidejdgaa
