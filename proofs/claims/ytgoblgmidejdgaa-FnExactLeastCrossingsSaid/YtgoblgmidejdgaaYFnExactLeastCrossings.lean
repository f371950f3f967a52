/- FnExactLeastCrossings is true on every input: the plain side. -/
import Derived.Test.YtgoblgmidejdgaaYK
namespace Go.Proofs.YtgoblgmidejdgaaX
open Go
set_option linter.unusedVariables false
set_option linter.unusedSimpArgs false
theorem LeastCrossings_same' {N : Nat} {F : Fe} (hF : InF F) {t : List Int} (ht : ∀ x ∈ t, -32768 ≤ x ∧ x ≤ 32767) (hN : 600 < N) : ∃ r c, spec_LeastCrossings.f N F t = some (r, c) ∧ impl_LeastCrossings.f N F t = some (r, c) := by
  obtain ⟨r, c, _, e2, e3, e4⟩ := Check_same hF ht hN
  simp only [spec_LeastCrossings.f, impl_LeastCrossings.f, F_eta, e2, e4, Option.bind_some]
  by_cases hc : c = 0
  · subst hc
    obtain ⟨h, hl, hp⟩ := e3 rfl
    have hall := all_range h.t8
    simp only [if_true, hp, Option.bind_some]
    cases r with
    | false => exact ⟨_, _, rfl, rfl⟩
    | true =>
      have hn : numF F ⟨0, true⟩ = allF F + 1 := by simp [numF]
      have hk := rd_range ht (allF F + 1)
      -- the proof holds: no number is less than -1
      rw [proof_spec h ht hl hN] at hp
      have hp := Option.some.inj hp
      rw [Bool.and_eq_true, Bool.not_eq_true'] at hp
      have hm : (allF F + 1) ∈ idx t.length := List.mem_map.2 ⟨(allF F + 1).toNat, List.mem_range.2 (by omega), by omega⟩
      have hb : badS F t (allF F + 1) = false := by
        have := hp.2
        rw [List.any_eq_false] at this
        simpa using this _ hm
      have hge : ¬ rdL t (allF F + 1) 0 < -1 := by
        intro hlt
        simp [badS, hlt] at hb
      simp only [if_true, spec_l05Last.f, F_eta, spec_all N h.t8, Option.bind_some, number_impl h.t8 (N := N) (b := ⟨0, true⟩) ⟨Int.le_refl 0, show (0 : Int) ≤ 255 by omega⟩, hn, i64w_id (x := allF F) (by omega) (by omega), i64w_id (x := allF F + 1) (by omega) (by omega)]
      simp only [if_pos (show (0 : Int) ≤ allF F + 1 ∧ allF F + 1 < (t.length : Int) from ⟨by omega, by omega⟩), i64w_id (x := rdL t (allF F + 1) 0) (by omega) (by omega)]
      by_cases c1 : rdL t (allF F + 1) 0 < 0
      · have c2 : rdL t (allF F + 1) 0 = -1 := by omega
        simp only [if_pos c1, if_pos c2]
        exact ⟨_, _, rfl, rfl⟩
      · have c2 : ¬ rdL t (allF F + 1) 0 = -1 := by omega
        simp only [if_neg c1, if_neg c2]
        exact ⟨_, _, rfl, rfl⟩
  · simp only [if_neg hc]
    exact ⟨_, _, rfl, rfl⟩
theorem laws_FnExactLeastCrossings.told (a0 : S_laws_Ferry) (h0_0 : IntKind.min .i8 ≤ a0.f_Things ∧ a0.f_Things ≤ IntKind.max .i8) (h0_1 : IntKind.min .i8 ≤ a0.f_Boat ∧ a0.f_Boat ≤ IntKind.max .i8) (h0_2 : ∀ x ∈ a0.f_Rules, IntKind.min .u16 ≤ x ∧ x ≤ IntKind.max .u16) (l0_2 : a0.f_Rules.length ≤ 9223372036854775807) (a1 : List Int) (h1 : ∀ x ∈ a1, IntKind.min .i16 ≤ x ∧ x ≤ IntKind.max .i16) (l1 : a1.length ≤ 9223372036854775807) : ∃ N, laws_FnExactLeastCrossings.f N a0 a1 = some true := by
  rw [min_i8, max_i8] at h0_0 h0_1
  rw [min_u16, max_u16] at h0_2
  rw [min_i16, max_i16] at h1
  have hF : InF a0 := ⟨h0_0, h0_1, h0_2⟩
  by_cases h : (a1.length : Int) > 1048576
  · exact ⟨0, by simp only [laws_FnExactLeastCrossings.f, if_pos h]⟩
  by_cases h' : a0.f_Rules.length > 1048576
  · exact ⟨0, by simp only [laws_FnExactLeastCrossings.f, if_neg h, F_eta, szFerry_neg h' l0_2, Option.bind_some]; rfl⟩
  obtain ⟨N, hN⟩ : ∃ N, N = a0.f_Rules.length + a1.length + 3000 := ⟨_, rfl⟩
  refine ⟨N, ?_⟩
  have hl : a0.f_Rules.length ≤ 1048576 := by omega
  have hl' : a1.length ≤ 1048576 := by omega
  obtain ⟨r, c, e1, e2⟩ := LeastCrossings_same' (N := N) hF h1 (by omega)
  simp only [laws_FnExactLeastCrossings.f, if_neg h, F_eta, szFerry_pos hl, Option.bind_some, if_neg (show ¬ (1048576 - (a0.f_Rules.length : Int)) < 0 by omega), toFerry_eq (N := N) hl (by omega), toInt16S_eq (N := N) hl' (by omega), e1, e2, if_true, eqFerry_same (N := N) hl (by omega), eqInt16S_same (N := N) hl' (by omega)]
end Go.Proofs.YtgoblgmidejdgaaX
