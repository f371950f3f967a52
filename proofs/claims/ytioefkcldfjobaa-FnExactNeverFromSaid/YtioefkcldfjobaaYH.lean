/- Lists compared, marked and held. -/
import Derived.Test.YtioefkcldfjobaaYG
import Derived.Test.YtioefkcldfjobaaXMark
namespace Go.Proofs.YtioefkcldfjobaaX
open Go
set_option linter.unusedVariables false
theorem eqInt64S_same {N : Nat} {a : List Int} (h : a.length ≤ 1048576) (hN : a.length < N) : laws_eqInt64S.f N a a = some true := by
  unfold laws_eqInt64S.f
  rw [if_pos rfl, rounds_same a a rfl hN ?_ ?_]
  · simp [Ex.fin, laws_eqInt64S.a0]
  · intro i hi
    have g1 : (i : Int) < a.length := by omega
    have g2 : (0 : Int) ≤ i := by omega
    simp only [laws_eqInt64S.b0, g1, g2, and_self, if_true, i64w_succ hi (show a.length ≤ 9223372036854775807 by omega)]
  · simp only [laws_eqInt64S.b0]
    rw [if_neg (by omega)]
theorem markGlasses_eq {N : Nat} {a : List Int} {k : Int} (hk : 0 ≤ k ∧ k ≤ 1048578) (h : a.length ≤ 1048576) (hN : a.length < N) : ∃ l, laws_markGlasses.f N a k = some (k + a.length, l) := by
  refine ⟨marked i16w k a.length, ?_⟩
  unfold laws_markGlasses.f
  rw [rounds_mark i16w a k hN ?_ ?_]
  · rfl
  · intro x i hi hx
    simp only [laws_markGlasses.b0]
    rw [if_pos (by omega), if_pos ⟨by omega, by omega⟩, stL_nat, i64w_succ hi (by omega), i64w_id (x := k + (i : Int) + 1) (by omega) (by omega), show k + (i : Int) + 1 = k + ((i + 1 : Nat) : Int) by omega]
  · intro x hx
    simp only [laws_markGlasses.b0]
    rw [if_neg (by omega)]
theorem markInt64S_eq {N : Nat} {a : List Int} {k : Int} (hk : 0 ≤ k ∧ k ≤ 1048578) (h : a.length ≤ 1048576) (hN : a.length < N) : laws_markInt64S.f N a k = some (k + a.length, marked (fun n => n) k a.length) := by
  unfold laws_markInt64S.f
  rw [rounds_mark (fun n => n) a k hN ?_ ?_]
  · rfl
  · intro x i hi hx
    simp only [laws_markInt64S.b0]
    rw [if_pos (by omega), if_pos ⟨by omega, by omega⟩, stL_nat, i64w_succ hi (by omega), i64w_id (x := k + (i : Int) + 1) (by omega) (by omega), show k + (i : Int) + 1 = k + ((i + 1 : Nat) : Int) by omega]
  · intro x hx
    simp only [laws_markInt64S.b0]
    rw [if_neg (by omega)]
theorem heldInt64S_eq {N n : Nat} {k : Int} (hk : 0 ≤ k ∧ k ≤ 1048578) (h : n ≤ 1048576) (hN : n < N) : laws_heldInt64S.f N (marked (fun n => n) k n) k = some (k + n) := by
  unfold laws_heldInt64S.f
  have hl := marked_len (fun n : Int => n) k n
  rw [rounds_held n k hN ?_ ?_]
  · rfl
  · intro i hi
    simp only [laws_heldInt64S.b0]
    rw [if_pos (by omega), if_pos ⟨by omega, by omega⟩, rdL_nat (by omega), marked_get, if_pos rfl, i64w_succ hi (by omega), i64w_id (x := k + (i : Int) + 1) (by omega) (by omega), show k + (i : Int) + 1 = k + ((i + 1 : Nat) : Int) by omega]
  · simp only [laws_heldInt64S.b0]
    rw [if_neg (by omega)]
end Go.Proofs.YtioefkcldfjobaaX
