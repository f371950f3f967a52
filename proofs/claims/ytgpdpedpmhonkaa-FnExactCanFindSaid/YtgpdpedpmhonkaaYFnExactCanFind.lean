/- CanFind: the program and its reference answer alike. -/
import Derived.Test.YtgpdpedpmhonkaaYD
namespace Go.Proofs.YtgpdpedpmhonkaaX
open Go
set_option linter.unusedVariables false
theorem laws_FnExactCanFind.told (a0 : S_laws_Task) (h0_0 : IntKind.min .i8 ≤ a0.f_Coins ∧ a0.f_Coins ≤ IntKind.max .i8) (h0_1 : IntKind.min .i8 ≤ a0.f_Kind ∧ a0.f_Kind ≤ IntKind.max .i8) (a1 : Int) (h1 : IntKind.min .i64 ≤ a1 ∧ a1 ≤ IntKind.max .i64) : ∃ N, laws_FnExactCanFind.f N a0 a1 = some true := by
  refine ⟨20, ?_⟩
  have q0 : -128 ≤ a0.f_Coins ∧ a0.f_Coins ≤ 127 := h0_0
  have q1 : -128 ≤ a0.f_Kind ∧ a0.f_Kind ≤ 127 := h0_1
  have vs := valid_spec 20 q0 q1
  have vi := valid_impl 20 q0 q1
  have key : ∃ r, spec_CanFind.f 20 a0 a1 = some r ∧ impl_CanFind.f 20 a0 a1 = some r := by
    by_cases c : okT a0
    · rw [decide_eq_true c] at vs vi
      by_cases c1 : 0 ≤ a1 ∧ a1 ≤ 5
      · obtain ⟨k, rfl⟩ := Int.eq_ofNat_of_zero_le c1.1
        exact ⟨_, can_spec_eq c (by omega) vs (by omega), can_impl_eq c (by omega) vi (by omega)⟩
      · refine ⟨(false, 2), ?_, ?_⟩
        · unfold spec_CanFind.f
          rw [vs, Option.bind_some, if_pos rfl, in_spec, Option.bind_some, decide_eq_false c1, if_neg Bool.false_ne_true]
        · unfold impl_CanFind.f
          rw [vi, Option.bind_some, if_pos rfl, in_impl, Option.bind_some, decide_eq_false c1, if_neg Bool.false_ne_true]
    · rw [decide_eq_false c] at vs vi
      refine ⟨(false, 1), ?_, ?_⟩
      · unfold spec_CanFind.f
        rw [vs, Option.bind_some, if_neg Bool.false_ne_true]
      · unfold impl_CanFind.f
        rw [vi, Option.bind_some, if_neg Bool.false_ne_true]
  obtain ⟨r, e1, e2⟩ := key
  unfold laws_FnExactCanFind.f
  rw [toTask_eq, Option.bind_some, e1, Option.bind_some, Option.bind_some, e2, Option.bind_some, if_pos rfl, if_pos rfl]
end Go.Proofs.YtgpdpedpmhonkaaX
