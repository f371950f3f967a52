/- FnExactCheckCrossings is true on every input: the plain side. -/
import Derived.Test.YtgoblgmidejdgaaYK
namespace Go.Proofs.YtgoblgmidejdgaaX
open Go
set_option linter.unusedVariables false
set_option linter.unusedSimpArgs false
theorem CheckCrossings_same' {N : Nat} {F : Fe} (hF : InF F) {t : List Int} (ht : ∀ x ∈ t, -32768 ≤ x ∧ x ≤ 32767) (hN : 600 < N) : ∃ r c, spec_CheckCrossings.f N F t = some (r, c) ∧ impl_CheckCrossings.f N F t = some (r, c) := by
  obtain ⟨r, c, e1, e2, _⟩ := Check_same hF ht hN
  exact ⟨r, c, e1, e2⟩
theorem laws_FnExactCheckCrossings.told (a0 : S_laws_Ferry) (h0_0 : IntKind.min .i8 ≤ a0.f_Things ∧ a0.f_Things ≤ IntKind.max .i8) (h0_1 : IntKind.min .i8 ≤ a0.f_Boat ∧ a0.f_Boat ≤ IntKind.max .i8) (h0_2 : ∀ x ∈ a0.f_Rules, IntKind.min .u16 ≤ x ∧ x ≤ IntKind.max .u16) (l0_2 : a0.f_Rules.length ≤ 9223372036854775807) (a1 : List Int) (h1 : ∀ x ∈ a1, IntKind.min .i16 ≤ x ∧ x ≤ IntKind.max .i16) (l1 : a1.length ≤ 9223372036854775807) : ∃ N, laws_FnExactCheckCrossings.f N a0 a1 = some true := by
  rw [min_i8, max_i8] at h0_0 h0_1
  rw [min_u16, max_u16] at h0_2
  rw [min_i16, max_i16] at h1
  have hF : InF a0 := ⟨h0_0, h0_1, h0_2⟩
  by_cases h : (a1.length : Int) > 1048576
  · exact ⟨0, by simp only [laws_FnExactCheckCrossings.f, if_pos h]⟩
  by_cases h' : a0.f_Rules.length > 1048576
  · exact ⟨0, by simp only [laws_FnExactCheckCrossings.f, if_neg h, F_eta, szFerry_neg h' l0_2, Option.bind_some]; rfl⟩
  obtain ⟨N, hN⟩ : ∃ N, N = a0.f_Rules.length + a1.length + 3000 := ⟨_, rfl⟩
  refine ⟨N, ?_⟩
  have hl : a0.f_Rules.length ≤ 1048576 := by omega
  have hl' : a1.length ≤ 1048576 := by omega
  obtain ⟨r, c, e1, e2⟩ := CheckCrossings_same' (N := N) hF h1 (by omega)
  simp only [laws_FnExactCheckCrossings.f, if_neg h, F_eta, szFerry_pos hl, Option.bind_some, if_neg (show ¬ (1048576 - (a0.f_Rules.length : Int)) < 0 by omega), toFerry_eq (N := N) hl (by omega), toInt16S_eq (N := N) hl' (by omega), e1, e2, if_true, eqFerry_same (N := N) hl (by omega), eqInt16S_same (N := N) hl' (by omega)]
end Go.Proofs.YtgoblgmidejdgaaX
