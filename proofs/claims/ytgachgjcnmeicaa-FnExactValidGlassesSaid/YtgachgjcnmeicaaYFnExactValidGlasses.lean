/- FnExactValidGlasses is true on every input: the plain side. -/
import Derived.Test.YtgachgjcnmeicaaYG
namespace Go.Proofs.YtgachgjcnmeicaaX
open Go
set_option linter.unusedVariables false
theorem laws_FnExactValidGlasses.told (a0 : List Int) (h0 : ∀ x ∈ a0, IntKind.min .i16 ≤ x ∧ x ≤ IntKind.max .i16) (l0 : a0.length ≤ 9223372036854775807) : ∃ N, laws_FnExactValidGlasses.f N a0 = some true := by
  rw [min_i16, max_i16] at h0
  by_cases h : (a0.length : Int) > 1048576
  · exact ⟨0, by simp only [laws_FnExactValidGlasses.f, if_pos h]⟩
  · refine ⟨a0.length + 20, ?_⟩
    have hl : a0.length ≤ 1048576 := by omega
    simp only [laws_FnExactValidGlasses.f, if_neg h, toGlasses_eq hl (show a0.length < a0.length + 20 by omega), Option.bind_some, spec_ValidGlasses.f, states_eq h0 (show 5 < a0.length + 20 by omega), validG_eq h0 hl (show a0.length + 5 < a0.length + 20 by omega), eqGlasses_eq (c := a0) hl (show a0.length < a0.length + 20 by omega)]
    simp
end Go.Proofs.YtgachgjcnmeicaaX
