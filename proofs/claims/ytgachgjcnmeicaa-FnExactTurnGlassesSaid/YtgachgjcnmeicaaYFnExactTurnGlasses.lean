/- FnExactTurnGlasses is true on every input: the plain side. -/
import Derived.Test.YtgachgjcnmeicaaYU
namespace Go.Proofs.YtgachgjcnmeicaaX
open Go
set_option linter.unusedVariables false

theorem TurnG_same {N : Nat} {a : List Int} {c : Ar Int 4} {x : Int} (hb : ∀ x ∈ a, -32768 ≤ x ∧ x ≤ 32767) (h0 : 0 ≤ x) (h1 : x ≤ 255) (h : a.length ≤ 1048576) (hN : a.length + 60 < N) : ∃ r, spec_TurnGlasses.f N a c x = some r ∧ impl_TurnGlasses.f N a c x = some r := by
  classical
  simp only [spec_TurnGlasses.f, impl_TurnGlasses.f, okT_spec hb (show 5 < N by omega), okT_impl hb h (show a.length + 5 < N by omega), Option.bind_some, decide_eq_true_eq]
  by_cases hk : okT a c
  · obtain ⟨l1, l4, ho⟩ := okT_len hk
    obtain ⟨r, q1, q2, _⟩ := turn_eq (N := N) (x := x) ho l4 hk.2 h0 h1 (by omega)
    simp only [if_pos hk, sets_eq l4, isSet_eq l4 h0 h1, Option.bind_some, i64w_id (x := x) (by omega) (by omega), decide_eq_true_eq]
    by_cases hx : x < 2 ^ a.length
    · rw [if_pos hx, if_neg (by omega), q1, q2]
      exact ⟨_, rfl, rfl⟩
    · rw [if_neg hx, if_pos (by omega)]
      exact ⟨_, rfl, rfl⟩
  · rw [if_neg hk, if_neg hk]
    exact ⟨_, rfl, rfl⟩

theorem laws_FnExactTurnGlasses.told (a0 : List Int) (h0 : ∀ x ∈ a0, IntKind.min .i16 ≤ x ∧ x ≤ IntKind.max .i16) (l0 : a0.length ≤ 9223372036854775807) (a1 : Ar Int 4) (h1 : ∀ x ∈ a1.l, IntKind.min .i16 ≤ x ∧ x ≤ IntKind.max .i16) (a2 : Int) (h2 : IntKind.min .u8 ≤ a2 ∧ a2 ≤ IntKind.max .u8) : ∃ N, laws_FnExactTurnGlasses.f N a0 a1 a2 = some true := by
  rw [min_i16, max_i16] at h0
  rw [min_u8, max_u8] at h2
  by_cases h : (a0.length : Int) > 1048576
  · exact ⟨0, by simp only [laws_FnExactTurnGlasses.f, if_pos h]⟩
  · refine ⟨a0.length + 80, ?_⟩
    have hl : a0.length ≤ 1048576 := by omega
    obtain ⟨r, e1, e2⟩ := TurnG_same (c := a1) h0 h2.1 h2.2 hl (show a0.length + 60 < a0.length + 80 by omega)
    simp only [laws_FnExactTurnGlasses.f, if_neg h, toGlasses_eq hl (show a0.length < a0.length + 80 by omega), toTops_eq a1 (show 4 < a0.length + 80 by omega), Option.bind_some, e1, e2, eqGlasses_eq (c := a0) hl (show a0.length < a0.length + 80 by omega), eqTops_eq r.1 r.1 (show 4 < a0.length + 80 by omega)]
    simp
end Go.Proofs.YtgachgjcnmeicaaX
