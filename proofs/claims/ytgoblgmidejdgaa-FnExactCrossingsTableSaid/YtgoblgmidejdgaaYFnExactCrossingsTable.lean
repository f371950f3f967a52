/- FnExactCrossingsTable is true on every input: the plain side. -/
import Derived.Test.YtgoblgmidejdgaaYP
namespace Go.Proofs.YtgoblgmidejdgaaX
open Go
set_option linter.unusedVariables false
set_option linter.unusedSimpArgs false

theorem laws_FnExactCrossingsTable.told (a0 : S_laws_Ferry) (h0_0 : IntKind.min .i8 ≤ a0.f_Things ∧ a0.f_Things ≤ IntKind.max .i8) (h0_1 : IntKind.min .i8 ≤ a0.f_Boat ∧ a0.f_Boat ≤ IntKind.max .i8) (h0_2 : ∀ x ∈ a0.f_Rules, IntKind.min .u16 ≤ x ∧ x ≤ IntKind.max .u16) (l0_2 : a0.f_Rules.length ≤ 9223372036854775807) : ∃ N, laws_FnExactCrossingsTable.f N a0 = some true := by
  rw [min_i8, max_i8] at h0_0 h0_1
  rw [min_u16, max_u16] at h0_2
  have hF : InF a0 := ⟨h0_0, h0_1, h0_2⟩
  by_cases h' : a0.f_Rules.length > 1048576
  · exact ⟨0, by simp only [laws_FnExactCrossingsTable.f, F_eta, szFerry_neg h' l0_2, Option.bind_some]; rfl⟩
  obtain ⟨N, hN⟩ : ∃ N, N = a0.f_Rules.length + 4000 := ⟨_, rfl⟩
  refine ⟨N, ?_⟩
  have hl : a0.f_Rules.length ≤ 1048576 := by omega
  obtain ⟨l, c, e1, e2, hll⟩ := Table_same (N := N) hF (by omega)
  obtain ⟨l1, m1⟩ := markFerry_eq (N := N) (F := a0) (k := 1) (by omega) hl (by omega)
  simp only [laws_FnExactCrossingsTable.f, F_eta, szFerry_pos hl, Option.bind_some, if_neg (show ¬ (1048576 - (a0.f_Rules.length : Int)) < 0 by omega), toFerry_eq (N := N) hl (by omega), e1, e2, eqInt16S_same (N := N) (a := l) (by omega) (by omega), if_true, eqFerry_same (N := N) hl (by omega), m1, if_neg (show ¬ (1 + (a0.f_Rules.length : Int)) < 0 by omega), markInt16S_eq (N := N) (a := l) (k := 1) (by omega) (by omega) (by omega), heldInt16S_eq (N := N) (n := l.length) (k := 1) (by omega) (by omega) (by omega), if_neg (show ¬ (1 + (l.length : Int) < 0) by omega)]
end Go.Proofs.YtgoblgmidejdgaaX
