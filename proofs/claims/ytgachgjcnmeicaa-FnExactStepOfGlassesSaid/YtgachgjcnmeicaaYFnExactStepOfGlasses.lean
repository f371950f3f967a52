/- FnExactStepOfGlasses is true on every input: the plain side. -/
import Derived.Test.YtgachgjcnmeicaaYU
namespace Go.Proofs.YtgachgjcnmeicaaX
open Go
set_option linter.unusedVariables false

theorem gcd_eq {N : Nat} : ∀ (n : Nat) (x y : Int), 0 ≤ x → 0 ≤ y → y.toNat < n → ∃ r, 0 ≤ r ∧ (∀ k, n ≤ k → spec_l01Gcd.g N k x y = some r) ∧ (∀ k, n ≤ k → rounds (fun s => impl_divisor.b0 N s.1 s.2) k (x, y) = some (.go r))
  | 0, x, y, _, _, h => absurd h (Nat.not_lt_zero _)
  | n + 1, x, y, hx, hy, h => by
    by_cases e : y = 0
    · subst e
      refine ⟨x, hx, fun k hk => ?_, fun k hk => ?_⟩
      · obtain ⟨k, rfl⟩ : ∃ m, k = m + 1 := ⟨k - 1, by omega⟩
        simp only [spec_l01Gcd.g, spec_l01Gcd.body, if_true]
      · obtain ⟨k, rfl⟩ : ∃ m, k = m + 1 := ⟨k - 1, by omega⟩
        exact rounds_out (by simp only [impl_divisor.b0, if_true])
    · have h1 : 0 ≤ x.tmod y := Int.tmod_nonneg _ hx
      have h2 : x.tmod y < y := Int.tmod_lt_of_pos _ (by omega)
      obtain ⟨r, h0, hs, hi⟩ := gcd_eq n y (x.tmod y) hy h1 (by omega)
      refine ⟨r, h0, fun k hk => ?_, fun k hk => ?_⟩
      · obtain ⟨k, rfl⟩ : ∃ m, k = m + 1 := ⟨k - 1, by omega⟩
        simp only [spec_l01Gcd.g, spec_l01Gcd.body, if_neg e]
        rw [if_pos e, hs k (by omega)]
        rfl
      · obtain ⟨k, rfl⟩ : ∃ m, k = m + 1 := ⟨k - 1, by omega⟩
        rw [rounds_next (s' := (y, x.tmod y)) (by simp only [impl_divisor.b0, if_neg e]; rw [if_pos e])]
        exact hi k (by omega)
theorem gcd_both {N : Nat} {x y : Int} (hx : 0 ≤ x) (hy : 0 ≤ y) (h40 : y ≤ 40) (hN : 50 < N) : ∃ r, 0 ≤ r ∧ spec_l01Gcd.f N x y = some r ∧ impl_divisor.f N x y = some r := by
  obtain ⟨r, h0, h1, h2⟩ := gcd_eq (N := N) 41 x y hx hy (by omega)
  refine ⟨r, h0, h1 N (by omega), ?_⟩
  simp only [impl_divisor.f, h2 N (by omega)]
  rfl
theorem Step_same {N : Nat} {a : List Int} {c : Ar Int 4} (hb : ∀ x ∈ a, -32768 ≤ x ∧ x ≤ 32767) (h : a.length ≤ 1048576) (hN : a.length + 60 < N) : ∃ r, spec_StepOfGlasses.f N a c = some r ∧ impl_StepOfGlasses.f N a c = some r := by
  classical
  simp only [spec_StepOfGlasses.f, impl_StepOfGlasses.f, okT_spec hb (show 5 < N by omega), okT_impl hb h (show a.length + 5 < N by omega), Option.bind_some, decide_eq_true_eq]
  by_cases hk : okT a c
  · rw [if_pos hk, if_pos hk]
    obtain ⟨l1, l4, ho⟩ := okT_len hk
    have hf := hk.2
    obtain ⟨e, e', he, he', r, hr, hr'⟩ := rounds_both (b := fun s => spec_StepOfGlasses.b0 N a c s.1 s.2) (b' := fun s => impl_StepOfGlasses.b0 N a c s.1 s.2)
      (R := fun s t => s = t ∧ 0 ≤ s.1 ∧ ∃ i : Nat, s.2 = i ∧ i ≤ a.length) (m := fun s => a.length - s.2.toNat)
      (Q := fun e e' => ∃ r, e = .go r ∧ e' = .go r)
      (by
        rintro ⟨m, _⟩ _ ⟨rfl, hm, i, rfl, hi⟩
        simp only at hm
        by_cases hl' : i < a.length
        · right
          have g1 : (i : Int) < a.length := by omega
          have g2 : (0 : Int) ≤ i := by omega
          have g3 : (i : Int) < 4 := by omega
          have hc := hf i (by omega)
          have ha := getD_le ho i
          rw [getD_in hl'] at hc ha
          obtain ⟨r1, p1, q1, q1'⟩ := gcd_both (N := N) hm ha.1 ha.2 (by omega)
          obtain ⟨r2, p2, q2, q2'⟩ := gcd_both (N := N) (y := c.l.getD i 0) p1 (by omega) (by omega) (by omega)
          refine ⟨(r2, ((i + 1 : Nat) : Int)), _, ?_, ?_, ⟨rfl, p2, i + 1, rfl, by omega⟩, by simp only [Int.toNat_natCast]; omega⟩
          · simp only [spec_StepOfGlasses.b0, g1, g2, g3, and_self, if_true, rdL_nat hl', ar_get, i64w_id (x := a[i]) (by omega) (by omega), i64w_id (x := c.l.getD i 0) (by omega) (by omega), q1, q2, Option.bind_some, i64w_succ (show i < 4 by omega) (by decide)]
          · simp only [impl_StepOfGlasses.b0, g1, g2, g3, and_self, if_true, rdL_nat hl', ar_get, i64w_id (x := a[i]) (by omega) (by omega), i64w_id (x := c.l.getD i 0) (by omega) (by omega), q1', q2', Option.bind_some, i64w_succ (show i < 4 by omega) (by decide)]
        · left
          have g1 : ¬ (i : Int) < a.length := by omega
          exact ⟨.go m, .go m, by simp only [spec_StepOfGlasses.b0, if_neg g1], by simp only [impl_StepOfGlasses.b0, if_neg g1], m, rfl, rfl⟩)
      N N (0, 0) (0, 0) ⟨rfl, by decide, 0, rfl, Nat.zero_le _⟩ (by simp only [Int.toNat_zero]; omega) (by simp only [Int.toNat_zero]; omega)
    subst hr hr'
    rw [he, he']
    exact ⟨_, rfl, rfl⟩
  · rw [if_neg hk, if_neg hk]
    exact ⟨_, rfl, rfl⟩

theorem laws_FnExactStepOfGlasses.told (a0 : List Int) (h0 : ∀ x ∈ a0, IntKind.min .i16 ≤ x ∧ x ≤ IntKind.max .i16) (l0 : a0.length ≤ 9223372036854775807) (a1 : Ar Int 4) (h1 : ∀ x ∈ a1.l, IntKind.min .i16 ≤ x ∧ x ≤ IntKind.max .i16) : ∃ N, laws_FnExactStepOfGlasses.f N a0 a1 = some true := by
  rw [min_i16, max_i16] at h0
  by_cases h : (a0.length : Int) > 1048576
  · exact ⟨0, by simp only [laws_FnExactStepOfGlasses.f, if_pos h]⟩
  · refine ⟨a0.length + 80, ?_⟩
    have hl : a0.length ≤ 1048576 := by omega
    obtain ⟨r, e1, e2⟩ := Step_same (c := a1) h0 hl (show a0.length + 60 < a0.length + 80 by omega)
    simp only [laws_FnExactStepOfGlasses.f, if_neg h, toGlasses_eq hl (show a0.length < a0.length + 80 by omega), toTops_eq a1 (show 4 < a0.length + 80 by omega), Option.bind_some, e1, e2, eqGlasses_eq (c := a0) hl (show a0.length < a0.length + 80 by omega)]
    simp
end Go.Proofs.YtgachgjcnmeicaaX
