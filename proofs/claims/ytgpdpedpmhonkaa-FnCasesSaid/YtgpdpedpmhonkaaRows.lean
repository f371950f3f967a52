/-
  No cell of these rows narrows 'for every input' (looked for: loops, veiled, ifaces, maps, wideKeys, modest, calm, conditions, laid).
  DERIVED. THE GIVEN ROWS OF THIS SEAT. 3 by the template 'for every input the law returns true; each argument reads behind the call as it read before'; 0 by the template 'total and deterministic' (their statements: YtgpdpedpmhonkaaTotals.lean).
  GIVEN WITH THE SEED: the statements are not yours to turn. If you find one false, say at which input.
  Laid BY PROGRAM, IN A SANDBOX (cutbox-rows.mjs): the forced cells as the released guide's own fill.sh prints them over the translation 68a46db93d742bc6… (all of the seat's roots in one cut). By AI agents, Wed Nov 11 2026. No macro, syntax, notation, axiom, sorry.
-/
import Derived.Test.YtgpdpedpmhonkaaChecked
import GoSem.Claim
import GoSem.ClaimJoined
import GoSem.ClaimMapViews
import Derived.JoinedTies
import Derived.KernelRfl
namespace Go.Proofs.Ytgpdpedpmhonkaa
/- THE CELL 'sum', in the pinned program and in every row, IS THE sha256 OF THE DUMP (.gsa) THAT YtgpdpedpmhonkaaProg.lean LOADS. Nothing in Lean hashes anything: it is a label: what it is worth is what the hold of that sum in a sandbox is worth. -/
noncomputable def Try.pinned : Pinned := { name := "ytgpdpedpmhonkaa", sum := "68a46db93d742bc659314f74df9f528bdf12c5ba68b105c9d3f0751daa31863f", checked := Try.checked }
namespace Rows
def none {H : Type} : Left H := { results := [], args := [] }

/-- 'laws.FnExactCanFind': WHATEVER THE INPUT: true; the input reads as it did. -/
def fnExactCanFindSpec : ChangeSpec := { name := "fnExactCanFind", fn := fun _ => fun
  | [d1, d2] => { results := [.lit (.bool true)], args := [d1, d2] }
  | _ => none }
def fnExactCanFindRow : OpenClaim := { program := "ytgpdpedpmhonkaa", sum := "68a46db93d742bc659314f74df9f528bdf12c5ba68b105c9d3f0751daa31863f", func := "loop.example/g01281/laws.FnExactCanFind", spec := "fnExactCanFind", unfollowed := true, recurses := true, plainKeys := false, apart := false }
def FnExactCanFindSaid : Prop := fnExactCanFindRow.holds Try.pinned (OpenSpec.ofChange fnExactCanFindSpec)

/-- ITS FALSE NEIGHBOUR: 'it returns false'. Refute it at one input. -/
def fnExactCanFindWrong : ChangeSpec := { name := "fnExactCanFind", fn := fun _ => fun
  | [d1, d2] => { results := [.lit (.bool false)], args := [d1, d2] }
  | _ => none }
def FnExactCanFindWrongFalsely : Prop := fnExactCanFindRow.holds Try.pinned (OpenSpec.ofChange fnExactCanFindWrong)

/-- 'laws.FnExactLeastWeighings': WHATEVER THE INPUT: true; the input reads as it did. -/
def fnExactLeastWeighingsSpec : ChangeSpec := { name := "fnExactLeastWeighings", fn := fun _ => fun
  | [d] => { results := [.lit (.bool true)], args := [d] }
  | _ => none }
def fnExactLeastWeighingsRow : OpenClaim := { program := "ytgpdpedpmhonkaa", sum := "68a46db93d742bc659314f74df9f528bdf12c5ba68b105c9d3f0751daa31863f", func := "loop.example/g01281/laws.FnExactLeastWeighings", spec := "fnExactLeastWeighings", unfollowed := true, recurses := true, plainKeys := false, apart := false }
def FnExactLeastWeighingsSaid : Prop := fnExactLeastWeighingsRow.holds Try.pinned (OpenSpec.ofChange fnExactLeastWeighingsSpec)

/-- ITS FALSE NEIGHBOUR: 'it returns false'. Refute it at one input. -/
def fnExactLeastWeighingsWrong : ChangeSpec := { name := "fnExactLeastWeighings", fn := fun _ => fun
  | [d] => { results := [.lit (.bool false)], args := [d] }
  | _ => none }
def FnExactLeastWeighingsWrongFalsely : Prop := fnExactLeastWeighingsRow.holds Try.pinned (OpenSpec.ofChange fnExactLeastWeighingsWrong)

/-- 'laws.FnCases': WHATEVER THE INPUT: true; the input reads as it did. -/
def fnCasesSpec : ChangeSpec := { name := "fnCases", fn := fun _ => fun
  | [d1, d2] => { results := [.lit (.bool true)], args := [d1, d2] }
  | _ => none }
def fnCasesRow : OpenClaim := { program := "ytgpdpedpmhonkaa", sum := "68a46db93d742bc659314f74df9f528bdf12c5ba68b105c9d3f0751daa31863f", func := "loop.example/g01281/laws.FnCases", spec := "fnCases", inPlace := ["internal/bytealg.IndexByteString"], unfollowed := true, recurses := true, plainKeys := false, apart := false }
def FnCasesSaid : Prop := fnCasesRow.holds Try.pinned (OpenSpec.ofChange fnCasesSpec)

/-- ITS FALSE NEIGHBOUR: 'it returns false'. Refute it at one input. -/
def fnCasesWrong : ChangeSpec := { name := "fnCases", fn := fun _ => fun
  | [d1, d2] => { results := [.lit (.bool false)], args := [d1, d2] }
  | _ => none }
def FnCasesWrongFalsely : Prop := fnCasesRow.holds Try.pinned (OpenSpec.ofChange fnCasesWrong)

/- THE SECOND FORM. 'bulk': how many values and letters a reading holds, each counted each time it is reached (what is shared counts as often as it is met; a slice's spare places count too). A statement '..UptoSaid' is the law's where the arguments, and the package variables that the reading takes, are together of bulk at most 1048576: NARROWER than '..Said'. Prove '..Said' where nothing that the law and all that it calls make is longer than what came in: it says more and counts as full. Else prove '..UptoSaid'. A law counts once. -/
mutual
def uptoBulk {H : Type} : DataW H → Nat
  | .lit (.string bytes) => bytes.length + 1
  | .lit _ => 1
  | .nil => 1
  | .ptr d => uptoBulk d + 1
  | .slice elems spare => uptoBulkAll elems + uptoBulkAll spare + 1
  | .agg parts => uptoBulkAll parts + 1
  | .iface _ d => uptoBulk d + 1
  | .map entries => uptoBulkEntries entries + 1
  | .held _ => 1
def uptoBulkAll {H : Type} : List (DataW H) → Nat
  | [] => 0
  | d :: r => uptoBulk d + uptoBulkAll r
def uptoBulkEntries {H : Type} : List (Lit × DataW H) → Nat
  | [] => 0
  | x :: r => uptoBulkEntry x + uptoBulkEntries r
def uptoBulkEntry {H : Type} : Lit × DataW H → Nat
  | (.string bytes, d) => bytes.length + uptoBulk d + 1
  | (_, d) => uptoBulk d + 1
 end
def uptoSmall : (H : Type) → List (DataW H) → Bool := fun _ ds => decide (uptoBulkAll ds ≤ 1048576)
def OpenSpec.upto (s : _root_.Go.ChangeSpec) : _root_.Go.OpenSpec := { _root_.Go.OpenSpec.ofChange s with cond := some uptoSmall }

/-- 'laws.FnExactCanFind', WHERE WHAT IT READS IS OF BULK AT MOST 1048576: true; the input reads as it did. -/
def fnExactCanFindUptoRow : OpenClaim := { program := "ytgpdpedpmhonkaa", sum := "68a46db93d742bc659314f74df9f528bdf12c5ba68b105c9d3f0751daa31863f", func := "loop.example/g01281/laws.FnExactCanFind", spec := "fnExactCanFind", unfollowed := true, recurses := true, plainKeys := false, apart := false, narrowed := true }
def FnExactCanFindUptoSaid : Prop := fnExactCanFindUptoRow.holds Try.pinned (OpenSpec.upto fnExactCanFindSpec)

/-- 'laws.FnExactLeastWeighings', WHERE WHAT IT READS IS OF BULK AT MOST 1048576: true; the input reads as it did. -/
def fnExactLeastWeighingsUptoRow : OpenClaim := { program := "ytgpdpedpmhonkaa", sum := "68a46db93d742bc659314f74df9f528bdf12c5ba68b105c9d3f0751daa31863f", func := "loop.example/g01281/laws.FnExactLeastWeighings", spec := "fnExactLeastWeighings", unfollowed := true, recurses := true, plainKeys := false, apart := false, narrowed := true }
def FnExactLeastWeighingsUptoSaid : Prop := fnExactLeastWeighingsUptoRow.holds Try.pinned (OpenSpec.upto fnExactLeastWeighingsSpec)

/-- 'laws.FnCases', WHERE WHAT IT READS IS OF BULK AT MOST 1048576: true; the input reads as it did. -/
def fnCasesUptoRow : OpenClaim := { program := "ytgpdpedpmhonkaa", sum := "68a46db93d742bc659314f74df9f528bdf12c5ba68b105c9d3f0751daa31863f", func := "loop.example/g01281/laws.FnCases", spec := "fnCases", inPlace := ["internal/bytealg.IndexByteString"], unfollowed := true, recurses := true, plainKeys := false, apart := false, narrowed := true }
def FnCasesUptoSaid : Prop := fnCasesUptoRow.holds Try.pinned (OpenSpec.upto fnCasesSpec)

end Rows
end Go.Proofs.Ytgpdpedpmhonkaa
