/- FnExactWorstPlay is true on every input: the plain side. -/
import Derived.Test.YtpbkenbmjgchkaaYG
namespace Go.Proofs.YtpbkenbmjgchkaaX
open Go
set_option linter.unusedVariables false
set_option linter.unusedSimpArgs false
theorem laws_FnExactWorstPlay.told (a0 : Int) (h0 : IntKind.min .i64 ≤ a0 ∧ a0 ≤ IntKind.max .i64) (a1 : Int) (h1 : IntKind.min .i64 ≤ a1 ∧ a1 ≤ IntKind.max .i64) : ∃ N, laws_FnExactWorstPlay.f N a0 a1 = some true := by
  obtain ⟨r, e1, e2⟩ := Worst_same (N := 1000) (by omega) (n := a0) (l := a1)
  exact ⟨1000, by simp only [laws_FnExactWorstPlay.f, e1, e2, Option.bind_some, if_true]⟩
end Go.Proofs.YtpbkenbmjgchkaaX
