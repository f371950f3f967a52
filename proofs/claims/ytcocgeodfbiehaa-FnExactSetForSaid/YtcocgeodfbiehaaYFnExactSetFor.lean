/- FnExactSetFor is true on every input: the plain side. -/
import Derived.Test.YtcocgeodfbiehaaYE
namespace Go.Proofs.YtcocgeodfbiehaaX
open Go
set_option linter.unusedVariables false
set_option linter.unusedSimpArgs false
theorem toState_eq {N : Nat} (hN : 70 < N) (a : Ar Int 4) : laws_toState.f N a = some a := by
  obtain ⟨N, rfl⟩ : ∃ M, N = M + 5 := ⟨N - 5, by omega⟩
  obtain ⟨l, h⟩ := a
  match l, h with
  | [p, q, r, s], h =>
  have w1 : i64w (0 + 1) = 1 := by decide
  have w2 : i64w (1 + 1) = 2 := by decide
  have w3 : i64w (2 + 1) = 3 := by decide
  have w4 : i64w (3 + 1) = 4 := by decide
  have e0 : laws_toState.b0 (N + 5) ⟨[p, q, r, s], h⟩ (Ar.rep 4 0) 0 = some (.next (⟨[p, 0, 0, 0], rfl⟩, 1)) := by
    simp only [laws_toState.b0, w1]; rfl
  have e1 : laws_toState.b0 (N + 5) ⟨[p, q, r, s], h⟩ ⟨[p, 0, 0, 0], rfl⟩ 1 = some (.next (⟨[p, q, 0, 0], rfl⟩, 2)) := by
    simp only [laws_toState.b0, w2]; rfl
  have e2 : laws_toState.b0 (N + 5) ⟨[p, q, r, s], h⟩ ⟨[p, q, 0, 0], rfl⟩ 2 = some (.next (⟨[p, q, r, 0], rfl⟩, 3)) := by
    simp only [laws_toState.b0, w3]; rfl
  have e3 : laws_toState.b0 (N + 5) ⟨[p, q, r, s], h⟩ ⟨[p, q, r, 0], rfl⟩ 3 = some (.next (⟨[p, q, r, s], rfl⟩, 4)) := by
    simp only [laws_toState.b0, w4]; rfl
  have e4 : laws_toState.b0 (N + 5) ⟨[p, q, r, s], h⟩ ⟨[p, q, r, s], rfl⟩ 4 = some (.out (.go ⟨[p, q, r, s], rfl⟩)) := by
    simp only [laws_toState.b0]; rfl
  unfold laws_toState.f
  rw [rounds_next e0, rounds_next e1, rounds_next e2, rounds_next e3, rounds_out e4]
  rfl
theorem laws_FnExactSetFor.told (a0 : S_laws_Game) (h0_0 : IntKind.min .i8 ≤ a0.f_Numbers ∧ a0.f_Numbers ≤ IntKind.max .i8) (h0_1 : IntKind.min .i8 ≤ a0.f_Lies ∧ a0.f_Lies ≤ IntKind.max .i8) (h0_2 : ∀ x ∈ a0.f_Asked, (IntKind.min .u64 ≤ x.f_Set ∧ x.f_Set ≤ IntKind.max .u64) ∧ (True)) (l0_2 : a0.f_Asked.length ≤ 9223372036854775807) (a1 : Ar Int 4) (h1 : ∀ x ∈ a1.l, IntKind.min .i64 ≤ x ∧ x ≤ IntKind.max .i64) : ∃ N, laws_FnExactSetFor.f N a0 a1 = some true := by
  rw [min_i8, max_i8] at h0_0 h0_1
  have hG : InG (gm a0) := ⟨h0_0, h0_1⟩
  by_cases h' : a0.f_Asked.length > 1048576
  · exact ⟨0, by simp only [laws_FnExactSetFor.f, L_eta, szGame_neg h' l0_2, Option.bind_some]; rfl⟩
  obtain ⟨N, hN⟩ : ∃ N, N = a0.f_Asked.length + 100 := ⟨_, rfl⟩
  refine ⟨N, ?_⟩
  have hl : a0.f_Asked.length ≤ 1048576 := by omega
  obtain ⟨r, c, e1, e2⟩ := SetFor_same (N := N) hG (by omega) a1
  have hg : (gm a0).f_Asked = a0.f_Asked := rfl
  simp only [laws_FnExactSetFor.f, L_eta, G_eta, szGame_pos hl, Option.bind_some, if_neg (show ¬ (1048576 - (a0.f_Asked.length : Int)) < 0 by omega), toGame_eq (N := N) hl (by omega), toState_eq (N := N) (by omega), e1, e2, if_true, eqGame_same (N := N) (G := gm a0) hl (by rw [hg]; omega)]
end Go.Proofs.YtcocgeodfbiehaaX
