/- What is known of coins, plainly: whether so many weighings can find all; a loop that looks for one that does. -/
import Derived.Test.YtgpdpedpmhonkaaXR
import Derived.Test.YtgpdpedpmhonkaaXWalk
namespace Go.Proofs.YtgpdpedpmhonkaaX
open Go
set_option linter.unusedVariables false
set_option linter.unusedSimpArgs false
theorem idb {x : Int} (h : -1000000 ≤ x ∧ x ≤ 1000000) : i64w x = x := i64w_id (by omega) (by omega)
/-- How many coins are open, may be heavier, may be lighter; whether there may be none. -/
structure Kn where
  o : Nat
  h : Nat
  l : Nat
  n : Bool
def Kn.c (x : Kn) : Nat := 2 * x.o + x.h + x.l + (if x.n = true then 1 else 0)
/-- So many coins of each sort are on the left and on the right pan. -/
structure Mv where
  a : Nat
  b : Nat
  c : Nat
  d : Nat
  e : Nat
  f : Nat
def aftL (m : Mv) : Kn := ⟨0, m.a + m.c, m.b + m.f, false⟩
def aftR (m : Mv) : Kn := ⟨0, m.b + m.d, m.a + m.e, false⟩
def aftM (x : Kn) (m : Mv) : Kn := ⟨x.o - m.a - m.b, x.h - m.c - m.d, x.l - m.e - m.f, x.n⟩
/-- A weighing that can be made, of T coins. -/
def may (T : Nat) (x : Kn) (m : Mv) : Prop := 0 < m.a + m.b + m.c + m.d + m.e + m.f ∧ m.a + m.c + m.e + (x.o + x.h + x.l) ≤ T + (m.b + m.d + m.f) ∧ m.b + m.d + m.f + (x.o + x.h + x.l) ≤ T + (m.a + m.c + m.e)
def fits (x : Kn) (m : Mv) : Prop := m.a + m.b ≤ x.o ∧ m.c + m.d ≤ x.h ∧ m.e + m.f ≤ x.l
/-- So many weighings can find all. -/
def canP (T : Nat) : Nat → Kn → Prop
  | 0, x => x.c ≤ 1
  | k + 1, x => x.c ≤ 1 ∨ x.c ≤ 3 ^ (k + 1) ∧ ∃ m, fits x m ∧ may T x m ∧ canP T k (aftL m) ∧ canP T k (aftM x m) ∧ canP T k (aftR m)
def doesP (T k : Nat) (x : Kn) (m : Mv) : Prop := may T x m ∧ canP T k (aftL m) ∧ canP T k (aftM x m) ∧ canP T k (aftR m)
noncomputable instance decCan (T k : Nat) (x : Kn) : Decidable (canP T k x) := Classical.propDecidable _
noncomputable def canB (T k : Nat) (x : Kn) : Bool := decide (canP T k x)
theorem canB_t {T k : Nat} {x : Kn} (h : canP T k x) : canB T k x = true := by unfold canB; exact decide_eq_true h
theorem canB_f {T k : Nat} {x : Kn} (h : ¬ canP T k x) : canB T k x = false := by unfold canB; exact decide_eq_false h
theorem of_canB {T k : Nat} {x : Kn} (h : canB T k x = true) : canP T k x := by unfold canB at h; exact of_decide_eq_true h
theorem of_canB_f {T k : Nat} {x : Kn} (h : canB T k x = false) : ¬ canP T k x := by unfold canB at h; exact of_decide_eq_false h
theorem canP_le {T k : Nat} {x : Kn} (h : canP T k x) : x.c ≤ 3 ^ k := by
  cases k with
  | zero => exact h
  | succ k =>
    rcases h with h | h
    · have := Nat.one_le_two_pow (n := 0)
      have : 1 ≤ 3 ^ (k + 1) := Nat.one_le_pow _ _ (by omega)
      omega
    · exact h.1
theorem canP_succ {T : Nat} : ∀ {k : Nat} {x : Kn}, canP T k x → canP T (k + 1) x
  | 0, x, h => .inl h
  | k + 1, x, h => by
    rcases h with h | ⟨h, m, f, y, a, b, c⟩
    · exact .inl h
    · refine .inr ⟨?_, m, f, y, canP_succ a, canP_succ b, canP_succ c⟩
      have : 3 ^ (k + 1 + 1) = 3 ^ (k + 1) * 3 := Nat.pow_succ ..
      omega
theorem canP_mono {T j k : Nat} {x : Kn} (h : canP T j x) (hk : j ≤ k) : canP T k x := by
  induction k with
  | zero =>
    obtain rfl : j = 0 := by omega
    exact h
  | succ k ih =>
    by_cases e : j = k + 1
    · subst e; exact h
    · exact canP_succ (ih (by omega))
/-- A loop that looks for one that does. -/
theorem loop_find {ρ σ τ : Type} {b : τ → Option (Bd ρ σ τ)} {n : Nat} (S : Nat → τ → Prop) (E : σ → Prop) (R : ρ → Prop) (P : Nat → Prop)
    (step : ∀ i s, i < n → S i s → (∃ s', b s = some (.next s') ∧ S (i + 1) s' ∧ ¬ P i) ∨ (∃ r, b s = some (.out (.ret r)) ∧ R r ∧ P i))
    (done : ∀ s, S n s → ∃ e, b s = some (.out (.go e)) ∧ E e) :
    ∀ (M i : Nat) (s : τ), i ≤ n → n - i < M → S i s →
      (∃ e, rounds b M s = some (.go e) ∧ E e ∧ ∀ j, i ≤ j → j < n → ¬ P j) ∨ (∃ r, rounds b M s = some (.ret r) ∧ R r ∧ ∃ j, i ≤ j ∧ j < n ∧ P j) := by
  intro M
  induction M with
  | zero => intro i s _ h; exact absurd h (Nat.not_lt_zero _)
  | succ M ih =>
    intro i s hi hM hS
    by_cases c : i < n
    · rcases step i s c hS with ⟨s', e, hS', hn⟩ | ⟨r, e, hr, hp⟩
      · rw [rounds_next e]
        rcases ih (i + 1) s' (by omega) (by omega) hS' with ⟨e', g1, g2, g3⟩ | ⟨r, g1, g2, j, j1, j2, j3⟩
        · refine .inl ⟨e', g1, g2, fun j h1 h2 => ?_⟩
          by_cases ej : j = i
          · subst ej; exact hn
          · exact g3 j (by omega) h2
        · exact .inr ⟨r, g1, g2, j, by omega, j2, j3⟩
      · exact .inr ⟨r, rounds_out e, hr, i, Nat.le_refl _, c, hp⟩
    · obtain rfl : i = n := by omega
      obtain ⟨e, he, hE⟩ := done s hS
      exact .inl ⟨e, rounds_out he, hE, fun j h1 h2 => absurd h2 (by omega)⟩
/-- The same, for what a body makes of the loop within it. -/
theorem find_in {ρ σ σ' τ' : Type} {o : Option (Ex ρ σ)} {a : σ → Option (Bd ρ σ' τ')} {E : σ → Prop} {R : ρ → Prop} {P : Prop} {S : τ' → Prop}
    (h : (∃ e, o = some (.go e) ∧ E e ∧ ¬ P) ∨ (∃ r, o = some (.ret r) ∧ R r ∧ P)) (ha : ∀ e, E e → ∃ s', a e = some (.next s') ∧ S s') :
    (∃ s', o.bind (Ex.finB a) = some (.next s') ∧ S s' ∧ ¬ P) ∨ (∃ r, o.bind (Ex.finB a) = some (.out (.ret r)) ∧ R r ∧ P) := by
  rcases h with ⟨e, rfl, hE, hp⟩ | ⟨r, rfl, hr, hp⟩
  · obtain ⟨s', h1, h2⟩ := ha e hE
    exact .inl ⟨s', h1, h2, hp⟩
  · exact .inr ⟨r, rfl, hr, hp⟩
end Go.Proofs.YtgpdpedpmhonkaaX
