/- FnExactFoundIn is true on every input: the plain side. -/
import Derived.Test.YtpbkenbmjgchkaaYF
namespace Go.Proofs.YtpbkenbmjgchkaaX
open Go
set_option linter.unusedVariables false
set_option linter.unusedSimpArgs false
theorem laws_FnExactFoundIn.told (a0 : S_laws_Game) (h0_0 : IntKind.min .i8 ≤ a0.f_Numbers ∧ a0.f_Numbers ≤ IntKind.max .i8) (h0_1 : IntKind.min .i8 ≤ a0.f_Lies ∧ a0.f_Lies ≤ IntKind.max .i8) (h0_2 : ∀ x ∈ a0.f_Asked, (IntKind.min .u64 ≤ x.f_Set ∧ x.f_Set ≤ IntKind.max .u64) ∧ (True)) (l0_2 : a0.f_Asked.length ≤ 9223372036854775807) : ∃ N, laws_FnExactFoundIn.f N a0 = some true := by
  rw [min_i8, max_i8] at h0_0 h0_1
  have hG : InG (gm a0) := ⟨h0_0, h0_1⟩
  by_cases h' : a0.f_Asked.length > 1048576
  · exact ⟨0, by simp only [laws_FnExactFoundIn.f, L_eta, szGame_neg h' l0_2, Option.bind_some]; rfl⟩
  obtain ⟨N, hN⟩ : ∃ N, N = a0.f_Asked.length + 100 := ⟨_, rfl⟩
  refine ⟨N, ?_⟩
  have hl : a0.f_Asked.length ≤ 1048576 := by omega
  obtain ⟨r, c, e1, e2⟩ := Found_same (N := N) hG (by omega)
  have hg : (gm a0).f_Asked = a0.f_Asked := rfl
  simp only [laws_FnExactFoundIn.f, L_eta, G_eta, szGame_pos hl, Option.bind_some, if_neg (show ¬ (1048576 - (a0.f_Asked.length : Int)) < 0 by omega), toGame_eq (N := N) hl (by omega), e1, e2, if_true, eqGame_same (N := N) (G := gm a0) hl (by rw [hg]; omega)]
end Go.Proofs.YtpbkenbmjgchkaaX
