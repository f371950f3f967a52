/- The least number of a row of the specification's table. -/
import Derived.Test.YtioefkcldfjobaaYI
namespace Go.Proofs.YtioefkcldfjobaaX
open Go
set_option linter.unusedVariables false
set_option linter.unusedSimpArgs false
section
variable {a : List Int} {n T N : Nat}
theorem row_least {L : List Int} {f : Nat → Option Nat} (hl : L.length = n) (hn : n ≤ 3000) (hv : ∀ k : Nat, k < n → rdL L (k : Int) 0 = vi (f k)) :
    ∀ (m k : Nat), k ≤ n → n - k < m → rounds (fun q => spec_l07Least.b0 N L q.1 q.2) m (vi (Om tt f k), (k : Int)) = some (.go (vi (Om tt f n))) := by
  intro m
  induction m with
  | zero => intro k _ hm; exact absurd hm (Nat.not_lt_zero _)
  | succ m ih =>
    intro k hk hm
    by_cases c : k < n
    · have e1 : i64w ((k : Int) + 1) = ((k + 1 : Nat) : Int) := i64w_id (by omega) (by omega)
      rw [rounds_next (s' := (vi (Om tt f (k + 1)), ((k + 1 : Nat) : Int)))]
      · exact ih (k + 1) (by omega) (by omega)
      · show spec_l07Least.b0 N L (vi (Om tt f k)) (k : Int) = _
        unfold spec_l07Least.b0 spec_l07Least.j2
        rw [if_pos (by omega), if_pos ⟨by omega, by omega⟩, hv k c, e1, Om_step]
        cases e : f k with
        | none => rw [if_neg (show ¬ vi none ≥ 0 by decide), om_none]
        | some v =>
          rw [if_pos (show vi (some v) ≥ 0 by simp only [vi]; omega)]
          cases e2 : Om tt f k with
          | none => rw [if_pos (show vi none < 0 by decide), if_pos ⟨by omega, by omega⟩]; rfl
          | some u =>
            rw [if_neg (show ¬ vi (some u) < 0 by simp only [vi]; omega), if_pos ⟨by omega, by omega⟩]
            by_cases cl : vi (some v) < vi (some u)
            · rw [if_pos cl, if_pos ⟨by omega, by omega⟩]
              simp only [vi] at cl
              show some (Bd.next ((v : Int), _)) = some (.next (((min u v : Nat) : Int), _))
              rw [Nat.min_eq_right (by omega)]
            · rw [if_neg cl]
              simp only [vi] at cl
              show some (Bd.next ((u : Int), _)) = some (.next (((min u v : Nat) : Int), _))
              rw [Nat.min_eq_left (by omega)]
    · have : k = n := by omega
      subst this
      refine rounds_out ?_
      show spec_l07Least.b0 N L _ (k : Int) = _
      unfold spec_l07Least.b0
      rw [if_neg (by omega)]
theorem least_row (h : Se a n T) (hN : 4000 < N) {L : List (List Int)} {F : Tb} (r : RepT n T L F) {t : Nat} (ht : t ≤ T) : spec_l07Least.f N (rdL L (t : Int) []) = some (vi (Om tt (F t) n)) := by
  have g := row_least (N := N) (r.row t ht) h.n3 (r.val t ht) N 0 (Nat.zero_le _) (by have := h.n3; omega)
  unfold spec_l07Least.f
  rw [show rounds (fun s => spec_l07Least.b0 N (rdL L (t : Int) []) s.1 s.2) N (-1, 0) = _ from g]
  rfl
end
end Go.Proofs.YtioefkcldfjobaaX
