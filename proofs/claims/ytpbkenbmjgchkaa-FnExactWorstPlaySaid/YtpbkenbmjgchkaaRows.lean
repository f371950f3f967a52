/-
  No cell of these rows narrows 'for every input' (looked for: loops, veiled, ifaces, maps, wideKeys, modest, calm, conditions, laid).
  DERIVED. THE GIVEN ROWS OF THIS SEAT. 4 by the template 'for every input the law returns true; each argument reads behind the call as it read before'; 0 by the template 'total and deterministic' (their statements: YtpbkenbmjgchkaaTotals.lean).
  GIVEN WITH THE SEED: the statements are not yours to turn. If you find one false, say at which input.
  Laid BY PROGRAM, IN A SANDBOX (cutbox-rows.mjs): the forced cells as the released guide's own fill.sh prints them over the translation 025cc66f7a75dd6b… (all of the seat's roots in one cut). By AI agents, Wed Nov 11 2026. No macro, syntax, notation, axiom, sorry.
-/
import Derived.Test.YtpbkenbmjgchkaaChecked
import GoSem.Claim
import GoSem.ClaimJoined
import GoSem.ClaimMapViews
import Derived.JoinedTies
import Derived.KernelRfl
namespace Go.Proofs.Ytpbkenbmjgchkaa
/- THE CELL 'sum', in the pinned program and in every row, IS THE sha256 OF THE DUMP (.gsa) THAT YtpbkenbmjgchkaaProg.lean LOADS. Nothing in Lean hashes anything: it is a label: what it is worth is what the hold of that sum in a sandbox is worth. -/
noncomputable def Try.pinned : Pinned := { name := "ytpbkenbmjgchkaa", sum := "025cc66f7a75dd6be353e35b378f9d1fa2d3c1ff6c2b19ab79386c08fbaa6e00", checked := Try.checked }
namespace Rows
def none {H : Type} : Left H := { results := [], args := [] }

/-- 'laws.FnExactFoundIn': WHATEVER THE INPUT: true; the input reads as it did. -/
def fnExactFoundInSpec : ChangeSpec := { name := "fnExactFoundIn", fn := fun _ => fun
  | [d] => { results := [.lit (.bool true)], args := [d] }
  | _ => none }
def fnExactFoundInRow : OpenClaim := { program := "ytpbkenbmjgchkaa", sum := "025cc66f7a75dd6be353e35b378f9d1fa2d3c1ff6c2b19ab79386c08fbaa6e00", func := "loop.example/g01281/laws.FnExactFoundIn", spec := "fnExactFoundIn", unfollowed := true, recurses := true, apart := false }
def FnExactFoundInSaid : Prop := fnExactFoundInRow.holds Try.pinned (OpenSpec.ofChange fnExactFoundInSpec)

/-- ITS FALSE NEIGHBOUR: 'it returns false'. Refute it at one input. -/
def fnExactFoundInWrong : ChangeSpec := { name := "fnExactFoundIn", fn := fun _ => fun
  | [d] => { results := [.lit (.bool false)], args := [d] }
  | _ => none }
def FnExactFoundInWrongFalsely : Prop := fnExactFoundInRow.holds Try.pinned (OpenSpec.ofChange fnExactFoundInWrong)

/-- 'laws.FnExactCandidatesOf': WHATEVER THE INPUT: true; the input reads as it did. -/
def fnExactCandidatesOfSpec : ChangeSpec := { name := "fnExactCandidatesOf", fn := fun _ => fun
  | [d] => { results := [.lit (.bool true)], args := [d] }
  | _ => none }
def fnExactCandidatesOfRow : OpenClaim := { program := "ytpbkenbmjgchkaa", sum := "025cc66f7a75dd6be353e35b378f9d1fa2d3c1ff6c2b19ab79386c08fbaa6e00", func := "loop.example/g01281/laws.FnExactCandidatesOf", spec := "fnExactCandidatesOf", unfollowed := true, recurses := true, apart := false }
def FnExactCandidatesOfSaid : Prop := fnExactCandidatesOfRow.holds Try.pinned (OpenSpec.ofChange fnExactCandidatesOfSpec)

/-- ITS FALSE NEIGHBOUR: 'it returns false'. Refute it at one input. -/
def fnExactCandidatesOfWrong : ChangeSpec := { name := "fnExactCandidatesOf", fn := fun _ => fun
  | [d] => { results := [.lit (.bool false)], args := [d] }
  | _ => none }
def FnExactCandidatesOfWrongFalsely : Prop := fnExactCandidatesOfRow.holds Try.pinned (OpenSpec.ofChange fnExactCandidatesOfWrong)

/-- 'laws.FnExactWorstPlay': WHATEVER THE INPUT: true; the input reads as it did. -/
def fnExactWorstPlaySpec : ChangeSpec := { name := "fnExactWorstPlay", fn := fun _ => fun
  | [d1, d2] => { results := [.lit (.bool true)], args := [d1, d2] }
  | _ => none }
def fnExactWorstPlayRow : OpenClaim := { program := "ytpbkenbmjgchkaa", sum := "025cc66f7a75dd6be353e35b378f9d1fa2d3c1ff6c2b19ab79386c08fbaa6e00", func := "loop.example/g01281/laws.FnExactWorstPlay", spec := "fnExactWorstPlay", unfollowed := true, recurses := true, apart := false }
def FnExactWorstPlaySaid : Prop := fnExactWorstPlayRow.holds Try.pinned (OpenSpec.ofChange fnExactWorstPlaySpec)

/-- ITS FALSE NEIGHBOUR: 'it returns false'. Refute it at one input. -/
def fnExactWorstPlayWrong : ChangeSpec := { name := "fnExactWorstPlay", fn := fun _ => fun
  | [d1, d2] => { results := [.lit (.bool false)], args := [d1, d2] }
  | _ => none }
def FnExactWorstPlayWrongFalsely : Prop := fnExactWorstPlayRow.holds Try.pinned (OpenSpec.ofChange fnExactWorstPlayWrong)

/-- 'laws.FnExactPlayGame': WHATEVER THE INPUT: true; the input reads as it did. -/
def fnExactPlayGameSpec : ChangeSpec := { name := "fnExactPlayGame", fn := fun _ => fun
  | [d1, d2, d3, d4] => { results := [.lit (.bool true)], args := [d1, d2, d3, d4] }
  | _ => none }
def fnExactPlayGameRow : OpenClaim := { program := "ytpbkenbmjgchkaa", sum := "025cc66f7a75dd6be353e35b378f9d1fa2d3c1ff6c2b19ab79386c08fbaa6e00", func := "loop.example/g01281/laws.FnExactPlayGame", spec := "fnExactPlayGame", unfollowed := true, recurses := true, apart := false }
def FnExactPlayGameSaid : Prop := fnExactPlayGameRow.holds Try.pinned (OpenSpec.ofChange fnExactPlayGameSpec)

/-- ITS FALSE NEIGHBOUR: 'it returns false'. Refute it at one input. -/
def fnExactPlayGameWrong : ChangeSpec := { name := "fnExactPlayGame", fn := fun _ => fun
  | [d1, d2, d3, d4] => { results := [.lit (.bool false)], args := [d1, d2, d3, d4] }
  | _ => none }
def FnExactPlayGameWrongFalsely : Prop := fnExactPlayGameRow.holds Try.pinned (OpenSpec.ofChange fnExactPlayGameWrong)

/- THE SECOND FORM. 'bulk': how many values and letters a reading holds, each counted each time it is reached (what is shared counts as often as it is met; a slice's spare places count too). A statement '..UptoSaid' is the law's where the arguments, and the package variables that the reading takes, are together of bulk at most 1048576: NARROWER than '..Said'. Prove '..Said' where nothing that the law and all that it calls make is longer than what came in: it says more and counts as full. Else prove '..UptoSaid'. A law counts once. -/
mutual
def uptoBulk {H : Type} : DataW H → Nat
  | .lit (.string bytes) => bytes.length + 1
  | .lit _ => 1
  | .nil => 1
  | .ptr d => uptoBulk d + 1
  | .slice elems spare => uptoBulkAll elems + uptoBulkAll spare + 1
  | .agg parts => uptoBulkAll parts + 1
  | .iface _ d => uptoBulk d + 1
  | .map entries => uptoBulkEntries entries + 1
  | .held _ => 1
def uptoBulkAll {H : Type} : List (DataW H) → Nat
  | [] => 0
  | d :: r => uptoBulk d + uptoBulkAll r
def uptoBulkEntries {H : Type} : List (Lit × DataW H) → Nat
  | [] => 0
  | x :: r => uptoBulkEntry x + uptoBulkEntries r
def uptoBulkEntry {H : Type} : Lit × DataW H → Nat
  | (.string bytes, d) => bytes.length + uptoBulk d + 1
  | (_, d) => uptoBulk d + 1
 end
def uptoSmall : (H : Type) → List (DataW H) → Bool := fun _ ds => decide (uptoBulkAll ds ≤ 1048576)
def OpenSpec.upto (s : _root_.Go.ChangeSpec) : _root_.Go.OpenSpec := { _root_.Go.OpenSpec.ofChange s with cond := some uptoSmall }

/-- 'laws.FnExactFoundIn', WHERE WHAT IT READS IS OF BULK AT MOST 1048576: true; the input reads as it did. -/
def fnExactFoundInUptoRow : OpenClaim := { program := "ytpbkenbmjgchkaa", sum := "025cc66f7a75dd6be353e35b378f9d1fa2d3c1ff6c2b19ab79386c08fbaa6e00", func := "loop.example/g01281/laws.FnExactFoundIn", spec := "fnExactFoundIn", unfollowed := true, recurses := true, apart := false, narrowed := true }
def FnExactFoundInUptoSaid : Prop := fnExactFoundInUptoRow.holds Try.pinned (OpenSpec.upto fnExactFoundInSpec)

/-- 'laws.FnExactCandidatesOf', WHERE WHAT IT READS IS OF BULK AT MOST 1048576: true; the input reads as it did. -/
def fnExactCandidatesOfUptoRow : OpenClaim := { program := "ytpbkenbmjgchkaa", sum := "025cc66f7a75dd6be353e35b378f9d1fa2d3c1ff6c2b19ab79386c08fbaa6e00", func := "loop.example/g01281/laws.FnExactCandidatesOf", spec := "fnExactCandidatesOf", unfollowed := true, recurses := true, apart := false, narrowed := true }
def FnExactCandidatesOfUptoSaid : Prop := fnExactCandidatesOfUptoRow.holds Try.pinned (OpenSpec.upto fnExactCandidatesOfSpec)

/-- 'laws.FnExactWorstPlay', WHERE WHAT IT READS IS OF BULK AT MOST 1048576: true; the input reads as it did. -/
def fnExactWorstPlayUptoRow : OpenClaim := { program := "ytpbkenbmjgchkaa", sum := "025cc66f7a75dd6be353e35b378f9d1fa2d3c1ff6c2b19ab79386c08fbaa6e00", func := "loop.example/g01281/laws.FnExactWorstPlay", spec := "fnExactWorstPlay", unfollowed := true, recurses := true, apart := false, narrowed := true }
def FnExactWorstPlayUptoSaid : Prop := fnExactWorstPlayUptoRow.holds Try.pinned (OpenSpec.upto fnExactWorstPlaySpec)

/-- 'laws.FnExactPlayGame', WHERE WHAT IT READS IS OF BULK AT MOST 1048576: true; the input reads as it did. -/
def fnExactPlayGameUptoRow : OpenClaim := { program := "ytpbkenbmjgchkaa", sum := "025cc66f7a75dd6be353e35b378f9d1fa2d3c1ff6c2b19ab79386c08fbaa6e00", func := "loop.example/g01281/laws.FnExactPlayGame", spec := "fnExactPlayGame", unfollowed := true, recurses := true, apart := false, narrowed := true }
def FnExactPlayGameUptoSaid : Prop := fnExactPlayGameUptoRow.holds Try.pinned (OpenSpec.upto fnExactPlayGameSpec)

end Rows
end Go.Proofs.Ytpbkenbmjgchkaa
