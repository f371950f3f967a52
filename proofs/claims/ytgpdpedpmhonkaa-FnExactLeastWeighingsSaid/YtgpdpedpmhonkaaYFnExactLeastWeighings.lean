/- LeastWeighings: the program and its reference answer alike. -/
import Derived.Test.YtgpdpedpmhonkaaYD
namespace Go.Proofs.YtgpdpedpmhonkaaX
open Go
set_option linter.unusedVariables false
theorem laws_FnExactLeastWeighings.told (a0 : S_laws_Task) (h0_0 : IntKind.min .i8 ≤ a0.f_Coins ∧ a0.f_Coins ≤ IntKind.max .i8) (h0_1 : IntKind.min .i8 ≤ a0.f_Kind ∧ a0.f_Kind ≤ IntKind.max .i8) : ∃ N, laws_FnExactLeastWeighings.f N a0 = some true := by
  refine ⟨20, ?_⟩
  have q0 : -128 ≤ a0.f_Coins ∧ a0.f_Coins ≤ 127 := h0_0
  have q1 : -128 ≤ a0.f_Kind ∧ a0.f_Kind ≤ 127 := h0_1
  have vs := valid_spec 20 q0 q1
  have vi := valid_impl 20 q0 q1
  have key : ∃ r, spec_LeastWeighings.f 20 a0 = some r ∧ impl_LeastWeighings.f 20 a0 = some r := by
    by_cases c : okT a0
    · rw [decide_eq_true c] at vs vi
      exact ⟨_, least_spec c (by omega) vs, least_impl c (by omega) vi⟩
    · rw [decide_eq_false c] at vs vi
      refine ⟨(0, 1), ?_, ?_⟩
      · unfold spec_LeastWeighings.f
        rw [vs, Option.bind_some, if_neg Bool.false_ne_true]
      · unfold impl_LeastWeighings.f
        rw [vi, Option.bind_some, if_neg Bool.false_ne_true]
  obtain ⟨r, e1, e2⟩ := key
  unfold laws_FnExactLeastWeighings.f
  rw [toTask_eq, Option.bind_some, e1, Option.bind_some, Option.bind_some, e2, Option.bind_some, if_pos rfl, if_pos rfl]
end Go.Proofs.YtgpdpedpmhonkaaX
