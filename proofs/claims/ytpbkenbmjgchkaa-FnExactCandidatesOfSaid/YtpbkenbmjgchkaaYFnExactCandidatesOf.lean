/- FnExactCandidatesOf is true on every input: the plain side. -/
import Derived.Test.YtpbkenbmjgchkaaYF
namespace Go.Proofs.YtpbkenbmjgchkaaX
open Go
set_option linter.unusedVariables false
set_option linter.unusedSimpArgs false
theorem laws_FnExactCandidatesOf.told (a0 : S_laws_Game) (h0_0 : IntKind.min .i8 ≤ a0.f_Numbers ∧ a0.f_Numbers ≤ IntKind.max .i8) (h0_1 : IntKind.min .i8 ≤ a0.f_Lies ∧ a0.f_Lies ≤ IntKind.max .i8) (h0_2 : ∀ x ∈ a0.f_Asked, (IntKind.min .u64 ≤ x.f_Set ∧ x.f_Set ≤ IntKind.max .u64) ∧ (True)) (l0_2 : a0.f_Asked.length ≤ 9223372036854775807) : ∃ N, laws_FnExactCandidatesOf.f N a0 = some true := by
  rw [min_i8, max_i8] at h0_0 h0_1
  have hG : InG (gm a0) := ⟨h0_0, h0_1⟩
  by_cases h' : a0.f_Asked.length > 1048576
  · exact ⟨0, by simp only [laws_FnExactCandidatesOf.f, L_eta, szGame_neg h' l0_2, Option.bind_some]; rfl⟩
  obtain ⟨N, hN⟩ : ∃ N, N = a0.f_Asked.length + 100 := ⟨_, rfl⟩
  refine ⟨N, ?_⟩
  have hl : a0.f_Asked.length ≤ 1048576 := by omega
  obtain ⟨l, c, e1, e2, hll⟩ := Cand_same (N := N) hG (by omega)
  have hg : (gm a0).f_Asked = a0.f_Asked := rfl
  have hmk := markGame_eq (N := N) (G := gm a0) (k := 1) (by omega) (by rw [hg]; exact hl) (by rw [hg]; omega)
  rw [hg] at hmk
  simp only [laws_FnExactCandidatesOf.f, L_eta, G_eta, szGame_pos hl, Option.bind_some, if_neg (show ¬ (1048576 - (a0.f_Asked.length : Int)) < 0 by omega), toGame_eq (N := N) hl (by omega), e1, e2, eqInt64S_same (N := N) (a := l) (by omega) (by omega), if_true, eqGame_same (N := N) (G := gm a0) hl (by rw [hg]; omega), hmk, if_neg (show ¬ (1 + 2 * (a0.f_Asked.length : Int)) < 0 by omega), markInt64S_eq (N := N) (a := l) (k := 1) (by omega) (by omega) (by omega), heldInt64S_eq (N := N) (n := l.length) (k := 1) (by omega) (by omega) (by omega), if_neg (show ¬ (1 + (l.length : Int) < 0) by omega)]
end Go.Proofs.YtpbkenbmjgchkaaX
