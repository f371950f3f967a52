/- Placings and weights, copied, compared, marked and held. -/
import Derived.Test.YtekcbhgojjdcoaaYB
import Derived.Test.YtekcbhgojjdcoaaXMark
namespace Go.Proofs.YtekcbhgojjdcoaaX
open Go
set_option linter.unusedVariables false
theorem toWeights_eq {N : Nat} {a : List Int} (h : a.length ≤ 1048576) (hN : a.length < N) : laws_toWeights.f N a = some a := by
  unfold laws_toWeights.f
  rw [if_pos ⟨by omega, by omega⟩, Int.toNat_natCast, rounds_copy a 0 hN ?_ ?_]
  · rfl
  · intro x i hi hx
    simp only [laws_toWeights.b0]
    rw [if_pos (by omega), if_pos ⟨by omega, by omega⟩, if_pos ⟨by omega, by omega⟩, rdL_nat hi, stL_nat, i64w_succ hi (by omega)]
  · intro x hx
    simp only [laws_toWeights.b0]
    rw [if_neg (by omega)]

theorem markWeights_eq {N : Nat} {a : List Int} {k : Int} (hk : 0 ≤ k ∧ k ≤ 1048578) (h : a.length ≤ 1048576) (hN : a.length < N) : ∃ l, laws_markWeights.f N a k = some (k + a.length, l) := by
  refine ⟨marked i16w k a.length, ?_⟩
  unfold laws_markWeights.f
  rw [rounds_mark i16w a k hN ?_ ?_]
  · rfl
  · intro x i hi hx
    simp only [laws_markWeights.b0]
    rw [if_pos (by omega), if_pos ⟨by omega, by omega⟩, stL_nat, i64w_succ hi (by omega), i64w_id (x := k + (i : Int) + 1) (by omega) (by omega), show k + (i : Int) + 1 = k + ((i + 1 : Nat) : Int) by omega]
  · intro x hx
    simp only [laws_markWeights.b0]
    rw [if_neg (by omega)]
theorem eqPlacing_same {N : Nat} {a : List Int} (h : a.length ≤ 1048576) (hN : a.length < N) : laws_eqPlacing.f N a a = some true := by
  unfold laws_eqPlacing.f
  rw [if_pos rfl, rounds_same a a rfl hN ?_ ?_]
  · simp [Ex.fin, laws_eqPlacing.a0]
  · intro i hi
    have g1 : (i : Int) < a.length := by omega
    have g2 : (0 : Int) ≤ i := by omega
    simp only [laws_eqPlacing.b0, g1, g2, and_self, if_true, i64w_succ hi (show a.length ≤ 9223372036854775807 by omega)]
  · simp only [laws_eqPlacing.b0]
    rw [if_neg (by omega)]
theorem markPlacing_eq {N : Nat} {a : List Int} {k : Int} (hk : 0 ≤ k ∧ k ≤ 1048578) (h : a.length ≤ 1048576) (hN : a.length < N) : laws_markPlacing.f N a k = some (k + a.length, marked i8w k a.length) := by
  unfold laws_markPlacing.f
  rw [rounds_mark i8w a k hN ?_ ?_]
  · rfl
  · intro x i hi hx
    simp only [laws_markPlacing.b0]
    rw [if_pos (by omega), if_pos ⟨by omega, by omega⟩, stL_nat, i64w_succ hi (by omega), i64w_id (x := k + (i : Int) + 1) (by omega) (by omega), show k + (i : Int) + 1 = k + ((i + 1 : Nat) : Int) by omega]
  · intro x hx
    simp only [laws_markPlacing.b0]
    rw [if_neg (by omega)]
theorem heldPlacing_eq {N n : Nat} {k : Int} (hk : 0 ≤ k ∧ k ≤ 1048578) (h : n ≤ 1048576) (hN : n < N) : laws_heldPlacing.f N (marked i8w k n) k = some (k + n) := by
  unfold laws_heldPlacing.f
  have hl := marked_len i8w k n
  rw [rounds_held n k hN ?_ ?_]
  · rfl
  · intro i hi
    simp only [laws_heldPlacing.b0]
    rw [if_pos (by omega), if_pos ⟨by omega, by omega⟩, rdL_nat (by omega), marked_get, if_pos rfl, i64w_succ hi (by omega), i64w_id (x := k + (i : Int) + 1) (by omega) (by omega), show k + (i : Int) + 1 = k + ((i + 1 : Nat) : Int) by omega]
  · simp only [laws_heldPlacing.b0]
    rw [if_neg (by omega)]
end Go.Proofs.YtekcbhgojjdcoaaX
