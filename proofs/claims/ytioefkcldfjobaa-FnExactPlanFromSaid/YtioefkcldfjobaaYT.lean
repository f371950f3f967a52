/- Plain laws of the tops: the check of the tops, in the specification and in the code. -/
import Derived.Test.YtioefkcldfjobaaYG
namespace Go.Proofs.YtioefkcldfjobaaX
open Go
set_option linter.unusedVariables false
/-- The tops fit the glasses. -/
def fits (a : List Int) (c : Ar Int 4) : Prop := ∀ i : Nat, i < 4 → 0 ≤ c.l.getD i 0 ∧ c.l.getD i 0 ≤ a.getD i 0
/-- Valid glasses and tops that fit. -/
def okT (a : List Int) (c : Ar Int 4) : Prop := st a > 0 ∧ fits a c

theorem ar_get {c : Ar Int 4} (i : Nat) : c.get (i : Int) 0 = c.l.getD i 0 := by simp [Ar.get]
theorem getD_in {a : List Int} {i : Nat} (h : i < a.length) : a.getD i 0 = a[i] := by simp [List.getD, h]
theorem getD_out {a : List Int} {i : Nat} (h : ¬ i < a.length) : a.getD i 0 = 0 := by simp [List.getD, h]

theorem tops_loop {b : Int → Option (Bd Bool Unit Int)} {a : List Int} {c : Ar Int 4} {N : Nat} (hN : 4 < N)
    (hs : ∀ i : Nat, i < 4 → b (i : Int) = if c.l.getD i 0 < 0 then some (.out (.ret false)) else if c.l.getD i 0 > a.getD i 0 then some (.out (.ret false)) else some (.next ((i + 1 : Nat) : Int)))
    (he : b 4 = some (.out (.go ()))) : ∃ e, rounds b N 0 = some e ∧ ((fits a c ∧ e = .go ()) ∨ (¬ fits a c ∧ e = .ret false)) := by
  have main : ∀ (n k : Nat), k ≤ 4 → 4 - k < n → (∀ i, i < k → 0 ≤ c.l.getD i 0 ∧ c.l.getD i 0 ≤ a.getD i 0) → ∃ e, rounds b n (k : Int) = some e ∧ ((fits a c ∧ e = .go ()) ∨ (¬ fits a c ∧ e = .ret false)) := by
    intro n
    induction n with
    | zero => intro k _ h; exact absurd h (Nat.not_lt_zero _)
    | succ n ih =>
      intro k hk hn hb
      by_cases hkn : k = 4
      · subst hkn
        exact ⟨_, rounds_out he, .inl ⟨hb, rfl⟩⟩
      · have hi : k < 4 := by omega
        by_cases h1 : c.l.getD k 0 < 0
        · refine ⟨_, rounds_out (by rw [hs k hi, if_pos h1]), .inr ⟨fun f => ?_, rfl⟩⟩
          have := f k hi
          omega
        · by_cases h2 : c.l.getD k 0 > a.getD k 0
          · refine ⟨_, rounds_out (by rw [hs k hi, if_neg h1, if_pos h2]), .inr ⟨fun f => ?_, rfl⟩⟩
            have := f k hi
            omega
          · rw [rounds_next (by rw [hs k hi, if_neg h1, if_neg h2])]
            refine ih (k + 1) (by omega) (by omega) fun i h => ?_
            by_cases e : i = k
            · subst e; omega
            · exact hb i (by omega)
  exact main N 0 (by omega) (by omega) (fun i h => absurd h (Nat.not_lt_zero _))

open Classical in
theorem okT_spec {N : Nat} {a : List Int} {c : Ar Int 4} (hb : ∀ x ∈ a, -32768 ≤ x ∧ x ≤ 32767) (hN : 5 < N) : spec_l07Ok.f N a c = some (decide (okT a c)) := by
  simp only [spec_l07Ok.f, states_eq hb hN, Option.bind_some]
  by_cases h : st a = 0
  · rw [if_pos h, decide_eq_false (fun f => by have := f.1; omega)]
  · rw [if_neg h]
    have hp : st a > 0 := by
      have : 0 ≤ st a := by
        by_cases hk : 1 ≤ a.length ∧ a.length ≤ 4 ∧ okG a
        · rw [st_ok hk]
          have := prod_pos hk.2.2
          split <;> omega
        · rw [st_bad hk]; omega
      omega
    obtain ⟨e, he, hh⟩ := tops_loop (b := fun s => spec_l07Ok.b0 N a c s) (a := a) (c := c) (N := N) (by omega)
      (by
        intro i hi
        have g1 : (i : Int) < 4 := by omega
        have g2 : (0 : Int) ≤ i := by omega
        by_cases hl : i < a.length
        · have g3 : (i : Int) < a.length := by omega
          simp only [spec_l07Ok.b0, spec_l07Ok.j2, g1, g2, g3, and_self, if_true, rdL_nat hl, ar_get, i64w_succ hi (by decide), getD_in hl]
        · have g3 : ¬ (i : Int) < a.length := by omega
          simp only [spec_l07Ok.b0, spec_l07Ok.j2, g1, g2, g3, and_self, if_true, if_false, ar_get, i64w_succ hi (by decide), getD_out hl])
      (by simp only [spec_l07Ok.b0]; rfl)
    rw [he]
    rcases hh with ⟨f, rfl⟩ | ⟨f, rfl⟩
    · rw [decide_eq_true ⟨hp, f⟩]; rfl
    · rw [decide_eq_false (fun g => f g.2)]; rfl

open Classical in
theorem okT_impl {N : Nat} {a : List Int} {c : Ar Int 4} (hb : ∀ x ∈ a, -32768 ≤ x ∧ x ≤ 32767) (h : a.length ≤ 1048576) (hN : a.length + 5 < N) : impl_ValidTops.f N a c = some (decide (okT a c)) := by
  simp only [impl_ValidTops.f, validG_eq hb h hN, Option.bind_some, decide_eq_true_eq]
  by_cases hp : st a > 0
  · rw [if_pos hp]
    obtain ⟨e, he, hh⟩ := tops_loop (b := fun s => _impl_Puzzle_holds.b0 N (⟨a, (Ar.rep 4 0), false⟩ : S_impl_Puzzle) c s) (a := a) (c := c) (N := N) (by omega)
      (by
        intro i hi
        have g1 : (i : Int) < 4 := by omega
        have g2 : (0 : Int) ≤ i := by omega
        by_cases hl : i < a.length
        · have g3 : (i : Int) < a.length := by omega
          simp only [_impl_Puzzle_holds.b0, _impl_Puzzle_holds.j2, g1, g2, g3, and_self, if_true, rdL_nat hl, ar_get, i64w_succ hi (by decide), getD_in hl]
        · have g3 : ¬ (i : Int) < a.length := by omega
          simp only [_impl_Puzzle_holds.b0, _impl_Puzzle_holds.j2, g1, g2, g3, and_self, if_true, if_false, ar_get, i64w_succ hi (by decide), getD_out hl])
      (by simp only [_impl_Puzzle_holds.b0]; rfl)
    simp only [_impl_Puzzle_holds.f, he]
    rcases hh with ⟨f, rfl⟩ | ⟨f, rfl⟩
    · rw [decide_eq_true ⟨hp, f⟩]; rfl
    · rw [decide_eq_false (fun g => f g.2)]; rfl
  · rw [if_neg hp, decide_eq_false (fun g => hp g.1)]
end Go.Proofs.YtioefkcldfjobaaX
