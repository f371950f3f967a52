/- FnExactValidTops is true on every input: the plain side. -/
import Derived.Test.YtgachgjcnmeicaaYT
namespace Go.Proofs.YtgachgjcnmeicaaX
open Go
set_option linter.unusedVariables false
theorem laws_FnExactValidTops.told (a0 : List Int) (h0 : ∀ x ∈ a0, IntKind.min .i16 ≤ x ∧ x ≤ IntKind.max .i16) (l0 : a0.length ≤ 9223372036854775807) (a1 : Ar Int 4) (h1 : ∀ x ∈ a1.l, IntKind.min .i16 ≤ x ∧ x ≤ IntKind.max .i16) : ∃ N, laws_FnExactValidTops.f N a0 a1 = some true := by
  rw [min_i16, max_i16] at h0
  by_cases h : (a0.length : Int) > 1048576
  · exact ⟨0, by simp only [laws_FnExactValidTops.f, if_pos h]⟩
  · refine ⟨a0.length + 20, ?_⟩
    have hl : a0.length ≤ 1048576 := by omega
    simp only [laws_FnExactValidTops.f, if_neg h, toGlasses_eq hl (show a0.length < a0.length + 20 by omega), toTops_eq a1 (show 4 < a0.length + 20 by omega), Option.bind_some, spec_ValidTops.f, okT_spec h0 (show 5 < a0.length + 20 by omega), okT_impl h0 hl (show a0.length + 5 < a0.length + 20 by omega), eqGlasses_eq (c := a0) hl (show a0.length < a0.length + 20 by omega)]
    simp
end Go.Proofs.YtgachgjcnmeicaaX
