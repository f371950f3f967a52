/- FnExactLoadsFrom is true on every input: the plain side. -/
import Derived.Test.YtgoblgmidejdgaaYH
namespace Go.Proofs.YtgoblgmidejdgaaX
open Go
set_option linter.unusedVariables false
set_option linter.unusedSimpArgs false
theorem LoadsFrom_same {N : Nat} {F : Fe} (hF : InF F) {b : Bk} (hb : 0 ≤ b.f_Near ∧ b.f_Near ≤ 65535) (hN : 2000 < N) : ∃ l c, spec_LoadsFrom.f N F b = some (l, c) ∧ impl_LoadsFrom.f N F b = some (l, c) ∧ l.length ≤ 256 := by
  simp only [spec_LoadsFrom.f, impl_LoadsFrom.f, impl_ValidBank.f, F_eta, okF_spec hF (show 40 < N by omega), okF_impl hF (show 40 < N by omega), Option.bind_some]
  by_cases hk : okF F = true
  · have h := okF_iff.1 hk
    simp only [if_pos hk, bank_spec h.t8 h.len (show 40 < N by omega), bank_impl h.t8 h.len (show 40 < N by omega), Option.bind_some]
    by_cases hc : bankF F b = true
    · have hr := bankF_range h.t8 hc hb
      simp only [if_pos hc, loads_spec h (show 300 < N by omega) ⟨hr.1, hr.2.2⟩, loads_impl h (show 300 < N by omega) ⟨hr.1, hr.2.2⟩, Option.bind_some]
      exact ⟨_, _, rfl, rfl, loadsF_len h.t8 b⟩
    · simp only [if_neg hc]
      exact ⟨_, _, rfl, rfl, by simp⟩
  · simp only [if_neg hk, Option.bind_some, Bool.false_eq_true, if_false]
    exact ⟨_, _, rfl, rfl, by simp⟩
theorem laws_FnExactLoadsFrom.told (a0 : S_laws_Ferry) (h0_0 : IntKind.min .i8 ≤ a0.f_Things ∧ a0.f_Things ≤ IntKind.max .i8) (h0_1 : IntKind.min .i8 ≤ a0.f_Boat ∧ a0.f_Boat ≤ IntKind.max .i8) (h0_2 : ∀ x ∈ a0.f_Rules, IntKind.min .u16 ≤ x ∧ x ≤ IntKind.max .u16) (l0_2 : a0.f_Rules.length ≤ 9223372036854775807) (a1 : S_impl_Bank) (h1_0 : IntKind.min .u16 ≤ a1.f_Near ∧ a1.f_Near ≤ IntKind.max .u16) : ∃ N, laws_FnExactLoadsFrom.f N a0 a1 = some true := by
  rw [min_i8, max_i8] at h0_0 h0_1
  rw [min_u16, max_u16] at h0_2 h1_0
  have hF : InF a0 := ⟨h0_0, h0_1, h0_2⟩
  by_cases h' : a0.f_Rules.length > 1048576
  · exact ⟨0, by simp only [laws_FnExactLoadsFrom.f, F_eta, szFerry_neg h' l0_2, Option.bind_some]; rfl⟩
  obtain ⟨N, hN⟩ : ∃ N, N = a0.f_Rules.length + 3000 := ⟨_, rfl⟩
  refine ⟨N, ?_⟩
  have hl : a0.f_Rules.length ≤ 1048576 := by omega
  obtain ⟨l, c, e1, e2, hll⟩ := LoadsFrom_same (N := N) hF h1_0 (by omega)
  obtain ⟨l1, m1⟩ := markFerry_eq (N := N) (F := a0) (k := 1) (by omega) hl (by omega)
  simp only [laws_FnExactLoadsFrom.f, F_eta, szFerry_pos hl, Option.bind_some, if_neg (show ¬ (1048576 - (a0.f_Rules.length : Int)) < 0 by omega), toFerry_eq (N := N) hl (by omega), toBank_eq, e1, e2, eqUint16S_same (N := N) (a := l) (by omega) (by omega), if_true, eqFerry_same (N := N) hl (by omega), m1, if_neg (show ¬ (1 + (a0.f_Rules.length : Int)) < 0 by omega), markUint16S_eq (N := N) (a := l) (k := 1) (by omega) (by omega) (by omega), heldUint16S_eq (N := N) (n := l.length) (k := 1) (by omega) (by omega) (by omega), if_neg (show ¬ (1 + (l.length : Int) < 0) by omega)]
end Go.Proofs.YtgoblgmidejdgaaX
