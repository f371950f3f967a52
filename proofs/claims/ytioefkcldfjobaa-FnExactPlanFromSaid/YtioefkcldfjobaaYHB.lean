/- Lists of bytes compared, marked and held. -/
import Derived.Test.YtioefkcldfjobaaYG
import Derived.Test.YtioefkcldfjobaaXMark
namespace Go.Proofs.YtioefkcldfjobaaX
open Go
set_option linter.unusedVariables false
theorem eqBytes_eq {N : Nat} {a c : List Int} (h : a.length ≤ 1048576) (hN : a.length < N) : laws_eqByteS.f N a c = some (decide (a = c)) := by
  unfold laws_eqByteS.f
  by_cases hl : a.length = c.length
  · rw [if_pos (by omega), rounds_same a c hl hN ?_ ?_]
    · by_cases e : a = c
      · subst e; simp [Ex.fin, laws_eqByteS.a0]
      · simp [e, Ex.fin]
    · intro i hi
      simp only [laws_eqByteS.b0]
      rw [if_pos (by omega), if_pos ⟨by omega, by omega⟩, if_pos ⟨by omega, by omega⟩, rdL_nat hi, rdL_nat (hl ▸ hi), i64w_succ hi (by omega)]
    · simp only [laws_eqByteS.b0]
      rw [if_neg (by omega)]
  · rw [if_neg (by omega)]
    have : ¬ a = c := fun e => hl (by rw [e])
    simp [this]


theorem markByteS_eq {N : Nat} {a : List Int} {k : Int} (hk : 0 ≤ k ∧ k ≤ 1048578) (h : a.length ≤ 1048576) (hN : a.length < N) : laws_markByteS.f N a k = some (k + a.length, marked u8w k a.length) := by
  unfold laws_markByteS.f
  rw [rounds_mark u8w a k hN ?_ ?_]
  · rfl
  · intro x i hi hx
    simp only [laws_markByteS.b0]
    rw [if_pos (by omega), if_pos ⟨by omega, by omega⟩, stL_nat, i64w_succ hi (by omega), i64w_id (x := k + (i : Int) + 1) (by omega) (by omega), show k + (i : Int) + 1 = k + ((i + 1 : Nat) : Int) by omega]
  · intro x hx
    simp only [laws_markByteS.b0]
    rw [if_neg (by omega)]
theorem heldByteS_eq {N n : Nat} {k : Int} (hk : 0 ≤ k ∧ k ≤ 1048578) (h : n ≤ 1048576) (hN : n < N) : laws_heldByteS.f N (marked u8w k n) k = some (k + n) := by
  unfold laws_heldByteS.f
  have hl := marked_len u8w k n
  rw [rounds_held n k hN ?_ ?_]
  · rfl
  · intro i hi
    simp only [laws_heldByteS.b0]
    rw [if_pos (by omega), if_pos ⟨by omega, by omega⟩, rdL_nat (by omega), marked_get, if_pos rfl, i64w_succ hi (by omega), i64w_id (x := k + (i : Int) + 1) (by omega) (by omega), show k + (i : Int) + 1 = k + ((i + 1 : Nat) : Int) by omega]
  · simp only [laws_heldByteS.b0]
    rw [if_neg (by omega)]
theorem markGlasses_eq {N : Nat} {a : List Int} {k : Int} (hk : 0 ≤ k ∧ k ≤ 1048578) (h : a.length ≤ 1048576) (hN : a.length < N) : ∃ l, laws_markGlasses.f N a k = some (k + a.length, l) := by
  refine ⟨marked i16w k a.length, ?_⟩
  unfold laws_markGlasses.f
  rw [rounds_mark i16w a k hN ?_ ?_]
  · rfl
  · intro x i hi hx
    simp only [laws_markGlasses.b0]
    rw [if_pos (by omega), if_pos ⟨by omega, by omega⟩, stL_nat, i64w_succ hi (by omega), i64w_id (x := k + (i : Int) + 1) (by omega) (by omega), show k + (i : Int) + 1 = k + ((i + 1 : Nat) : Int) by omega]
  · intro x hx
    simp only [laws_markGlasses.b0]
    rw [if_neg (by omega)]
end Go.Proofs.YtioefkcldfjobaaX
