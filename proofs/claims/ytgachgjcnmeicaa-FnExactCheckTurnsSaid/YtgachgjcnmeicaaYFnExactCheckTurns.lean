/- FnExactCheckTurns is true on every input: the plain side. -/
import Derived.Test.YtgachgjcnmeicaaYV
namespace Go.Proofs.YtgachgjcnmeicaaX
open Go
set_option linter.unusedVariables false
theorem Check_same {N : Nat} {a p : List Int} {c : Ar Int 4} {x : Int} (ha : ∀ x ∈ a, -32768 ≤ x ∧ x ≤ 32767) (h : a.length ≤ 1048576) (hb : ∀ x ∈ p, 0 ≤ x ∧ x ≤ 255) (hN : a.length + 80 < N) :
    ∃ r, spec_CheckTurns.f N a c p x = some r ∧ impl_CheckTurns.f N a c p x = some r := by
  classical
  simp only [spec_CheckTurns.f, impl_CheckTurns.f, spec_l07Asked.f, impl_timeCode.f, okT_spec ha (show 5 < N by omega), okT_impl ha h (show a.length + 5 < N by omega), Option.bind_some, decide_eq_true_eq]
  by_cases hk : okT a c
  · obtain ⟨l, d, k, q1, q2, h60⟩ := Run_same (N := N) ha h hk hb hN
    simp only [if_pos hk, spec_l00In.f, impl_within.f, impl_unless.f]
    by_cases h1 : x ≥ 0
    · rw [if_pos h1]
      simp only [Option.bind_some, decide_eq_true_eq]
      by_cases h2 : x ≤ 120
      · simp only [if_pos h2, Option.bind_some, if_true, q1, q2]
        have g1 : [(0 : Nat)].length + l.length ≤ 17592186044416 := by simp; omega
        have g2 : (0 : Int) ≤ (l.length : Int) ∧ (l.length : Int) < (([(0 : Int)] ++ l).length : Int) := by simp; omega
        rw [if_pos g1, if_pos g2]
        by_cases hz : k = 0
        · rw [if_pos hz, if_pos hz]
          by_cases hl : (l.length : Int) = 0
          · rw [if_pos hl]
            have : l = [] := by
              cases l with
              | nil => rfl
              | cons y ys => simp at hl; omega
            subst this
            refine ⟨_, rfl, ?_⟩
            by_cases e : x = 0
            · subst e; rfl
            · have e' : (0 == x) = (x == 0) := BEq.comm
              simp [rdL, e']
          · have e1 : i64w ((l.length : Int) - 1) = ((l.length - 1 : Nat) : Int) := by
              rw [i64w_id (by omega) (by omega)]; omega
            rw [if_neg hl, e1, if_pos ⟨by omega, by omega⟩]
            refine ⟨_, rfl, ?_⟩
            have e2 : rdL ([(0 : Int)] ++ l) (l.length : Int) 0 = rdL l ((l.length - 1 : Nat) : Int) 0 := by
              obtain ⟨n, hn⟩ : ∃ n, l.length = n + 1 := ⟨l.length - 1, by omega⟩
              simp only [rdL, Int.toNat_natCast, hn]
              simp [List.getD]
            rw [e2]
        · rw [if_neg hz, if_neg hz]
          exact ⟨_, rfl, rfl⟩
      · simp only [if_neg h2, Option.bind_some]
        exact ⟨_, rfl, rfl⟩
    · rw [if_neg h1]
      exact ⟨_, rfl, rfl⟩
  · rw [if_neg hk, if_neg hk]
    exact ⟨_, rfl, rfl⟩
theorem laws_FnExactCheckTurns.told (a0 : List Int) (h0 : ∀ x ∈ a0, IntKind.min .i16 ≤ x ∧ x ≤ IntKind.max .i16) (l0 : a0.length ≤ 9223372036854775807) (a1 : Ar Int 4) (h1 : ∀ x ∈ a1.l, IntKind.min .i16 ≤ x ∧ x ≤ IntKind.max .i16) (a2 : List Int) (h2 : ∀ x ∈ a2, IntKind.min .u8 ≤ x ∧ x ≤ IntKind.max .u8) (l2 : a2.length ≤ 9223372036854775807) (a3 : Int) (h3 : IntKind.min .i64 ≤ a3 ∧ a3 ≤ IntKind.max .i64) : ∃ N, laws_FnExactCheckTurns.f N a0 a1 a2 a3 = some true := by
  rw [min_i16, max_i16] at h0
  rw [min_u8, max_u8] at h2
  by_cases h : (a0.length : Int) > 1048576
  · exact ⟨0, by simp only [laws_FnExactCheckTurns.f, if_pos h]⟩
  by_cases h' : (a2.length : Int) > 1048576
  · exact ⟨0, by simp only [laws_FnExactCheckTurns.f, if_neg h, if_pos h']⟩
  refine ⟨a0.length + a2.length + 100, ?_⟩
  have hl : a0.length ≤ 1048576 := by omega
  have hl' : a2.length ≤ 1048576 := by omega
  obtain ⟨r, e1, e2⟩ := Check_same (N := a0.length + a2.length + 100) (c := a1) (x := a3) h0 hl h2 (by omega)
  simp only [laws_FnExactCheckTurns.f, if_neg h, if_neg h', toGlasses_eq hl (show a0.length < a0.length + a2.length + 100 by omega), toTops_eq a1 (show 4 < a0.length + a2.length + 100 by omega), toBytes_eq hl' (show a2.length < a0.length + a2.length + 100 by omega), Option.bind_some, e1, e2, eqGlasses_eq (c := a0) hl (show a0.length < a0.length + a2.length + 100 by omega), eqBytes_eq (c := a2) hl' (show a2.length < a0.length + a2.length + 100 by omega)]
  simp
end Go.Proofs.YtgachgjcnmeicaaX
