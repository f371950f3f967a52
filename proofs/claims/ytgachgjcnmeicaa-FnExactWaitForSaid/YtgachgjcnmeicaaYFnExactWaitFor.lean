/- FnExactWaitFor is true on every input: the plain side. -/
import Derived.Test.YtgachgjcnmeicaaYU
namespace Go.Proofs.YtgachgjcnmeicaaX
open Go
set_option linter.unusedVariables false

theorem Wait_same {N : Nat} {a : List Int} {c : Ar Int 4} (hb : ∀ x ∈ a, -32768 ≤ x ∧ x ≤ 32767) (h : a.length ≤ 1048576) (hN : a.length + 60 < N) : ∃ r, spec_WaitFor.f N a c = some r ∧ impl_WaitFor.f N a c = some r := by
  classical
  simp only [spec_WaitFor.f, impl_WaitFor.f, okT_spec hb (show 5 < N by omega), okT_impl hb h (show a.length + 5 < N by omega), Option.bind_some, decide_eq_true_eq]
  by_cases hk : okT a c
  · obtain ⟨l1, l4, ho⟩ := okT_len hk
    obtain ⟨r, q1, q2, _⟩ := wait_eq (N := N) ho hk.2 (by omega)
    simp only [if_pos hk, q1, q2, Option.bind_some]
    by_cases hx : r.2 = 0
    · rw [if_pos hx]
      exact ⟨_, rfl, rfl⟩
    · rw [if_neg hx]
      exact ⟨_, rfl, rfl⟩
  · rw [if_neg hk, if_neg hk]
    exact ⟨_, rfl, rfl⟩

theorem laws_FnExactWaitFor.told (a0 : List Int) (h0 : ∀ x ∈ a0, IntKind.min .i16 ≤ x ∧ x ≤ IntKind.max .i16) (l0 : a0.length ≤ 9223372036854775807) (a1 : Ar Int 4) (h1 : ∀ x ∈ a1.l, IntKind.min .i16 ≤ x ∧ x ≤ IntKind.max .i16) : ∃ N, laws_FnExactWaitFor.f N a0 a1 = some true := by
  rw [min_i16, max_i16] at h0
  by_cases h : (a0.length : Int) > 1048576
  · exact ⟨0, by simp only [laws_FnExactWaitFor.f, if_pos h]⟩
  · refine ⟨a0.length + 80, ?_⟩
    have hl : a0.length ≤ 1048576 := by omega
    obtain ⟨r, e1, e2⟩ := Wait_same (c := a1) h0 hl (show a0.length + 60 < a0.length + 80 by omega)
    simp only [laws_FnExactWaitFor.f, if_neg h, toGlasses_eq hl (show a0.length < a0.length + 80 by omega), toTops_eq a1 (show 4 < a0.length + 80 by omega), Option.bind_some, e1, e2, eqGlasses_eq (c := a0) hl (show a0.length < a0.length + 80 by omega), eqTops_eq r.1 r.1 (show 4 < a0.length + 80 by omega)]
    simp
end Go.Proofs.YtgachgjcnmeicaaX
