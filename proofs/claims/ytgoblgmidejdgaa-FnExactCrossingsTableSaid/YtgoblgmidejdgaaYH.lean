/- What the laws about ferries do besides: copies, comparisons, marks. -/
import Derived.Test.YtgoblgmidejdgaaYG
namespace Go.Proofs.YtgoblgmidejdgaaX
open Go
set_option linter.unusedVariables false
set_option linter.unusedSimpArgs false
theorem min_i8 : IntKind.min .i8 = -128 := rfl
theorem max_i8 : IntKind.max .i8 = 127 := rfl
theorem szFerry_pos {N : Nat} {F : Fe} (h : F.f_Rules.length ≤ 1048576) : laws_szFerry.f N F 1048576 = some (1048576 - (F.f_Rules.length : Int)) := by
  simp only [laws_szFerry.f, laws_szUint16S.f, i64w_id (x := 1048576 - (F.f_Rules.length : Int)) (by omega) (by omega)]
  rw [if_neg (by omega)]
  simp only [Option.bind_some]
  rw [if_neg (by omega)]
theorem szFerry_neg {N : Nat} {F : Fe} (h : F.f_Rules.length > 1048576) (h' : F.f_Rules.length ≤ 9223372036854775807) : laws_szFerry.f N F 1048576 = some (-1) := by
  simp only [laws_szFerry.f, laws_szUint16S.f, i64w_id (x := 1048576 - (F.f_Rules.length : Int)) (by omega) (by omega)]
  rw [if_pos (by omega)]
  rfl
theorem toUint16S_eq {N : Nat} {a : List Int} (h : a.length ≤ 1048576) (hN : a.length < N) : laws_toUint16S.f N a = some a := by
  unfold laws_toUint16S.f
  rw [if_pos ⟨by omega, by omega⟩, Int.toNat_natCast, rounds_copy a 0 hN ?_ ?_]
  · rfl
  · intro x i hi hx
    simp only [laws_toUint16S.b0]
    rw [if_pos (by omega), if_pos ⟨by omega, by omega⟩, if_pos ⟨by omega, by omega⟩, rdL_nat hi, stL_nat, i64w_succ hi (by omega)]
  · intro x hx
    simp only [laws_toUint16S.b0]
    rw [if_neg (by omega)]
theorem toInt16S_eq {N : Nat} {a : List Int} (h : a.length ≤ 1048576) (hN : a.length < N) : laws_toInt16S.f N a = some a := by
  unfold laws_toInt16S.f
  rw [if_pos ⟨by omega, by omega⟩, Int.toNat_natCast, rounds_copy a 0 hN ?_ ?_]
  · rfl
  · intro x i hi hx
    simp only [laws_toInt16S.b0]
    rw [if_pos (by omega), if_pos ⟨by omega, by omega⟩, if_pos ⟨by omega, by omega⟩, rdL_nat hi, stL_nat, i64w_succ hi (by omega)]
  · intro x hx
    simp only [laws_toInt16S.b0]
    rw [if_neg (by omega)]
theorem toFerry_eq {N : Nat} {F : Fe} (h : F.f_Rules.length ≤ 1048576) (hN : F.f_Rules.length < N) : laws_toFerry.f N F = some F := by
  simp only [laws_toFerry.f, toUint16S_eq h hN, Option.bind_some]
theorem toBank_eq (N : Nat) (b : Bk) : laws_toBank.f N b = some b := rfl
theorem eqUint16S_same {N : Nat} {a : List Int} (h : a.length ≤ 1048576) (hN : a.length < N) : laws_eqUint16S.f N a a = some true := by
  unfold laws_eqUint16S.f
  rw [if_pos rfl, rounds_same a a rfl hN ?_ ?_]
  · simp [Ex.fin, laws_eqUint16S.a0]
  · intro i hi
    have g1 : (i : Int) < a.length := by omega
    have g2 : (0 : Int) ≤ i := by omega
    simp only [laws_eqUint16S.b0, g1, g2, and_self, if_true, i64w_succ hi (show a.length ≤ 9223372036854775807 by omega)]
  · simp only [laws_eqUint16S.b0]
    rw [if_neg (by omega)]
theorem eqInt16S_same {N : Nat} {a : List Int} (h : a.length ≤ 1048576) (hN : a.length < N) : laws_eqInt16S.f N a a = some true := by
  unfold laws_eqInt16S.f
  rw [if_pos rfl, rounds_same a a rfl hN ?_ ?_]
  · simp [Ex.fin, laws_eqInt16S.a0]
  · intro i hi
    have g1 : (i : Int) < a.length := by omega
    have g2 : (0 : Int) ≤ i := by omega
    simp only [laws_eqInt16S.b0, g1, g2, and_self, if_true, i64w_succ hi (show a.length ≤ 9223372036854775807 by omega)]
  · simp only [laws_eqInt16S.b0]
    rw [if_neg (by omega)]
theorem eqFerry_same {N : Nat} {F : Fe} (h : F.f_Rules.length ≤ 1048576) (hN : F.f_Rules.length < N) : laws_eqFerry.f N F F = some true := by
  simp only [laws_eqFerry.f, if_true, eqUint16S_same h hN, Option.bind_some]
theorem eqBank_same (N : Nat) (b : Bk) : laws_eqBank.f N b b = some true := by
  simp only [laws_eqBank.f, if_true]
theorem markUint16S_eq {N : Nat} {a : List Int} {k : Int} (hk : 0 ≤ k ∧ k ≤ 1048578) (h : a.length ≤ 1048576) (hN : a.length < N) : laws_markUint16S.f N a k = some (k + a.length, marked u16w k a.length) := by
  unfold laws_markUint16S.f
  rw [rounds_mark u16w a k hN ?_ ?_]
  · rfl
  · intro x i hi hx
    simp only [laws_markUint16S.b0]
    rw [if_pos (by omega), if_pos ⟨by omega, by omega⟩, stL_nat, i64w_succ hi (by omega), i64w_id (x := k + (i : Int) + 1) (by omega) (by omega), show k + (i : Int) + 1 = k + ((i + 1 : Nat) : Int) by omega]
  · intro x hx
    simp only [laws_markUint16S.b0]
    rw [if_neg (by omega)]
theorem markFerry_eq {N : Nat} {F : Fe} {k : Int} (hk : 0 ≤ k ∧ k ≤ 1048578) (h : F.f_Rules.length ≤ 1048576) (hN : F.f_Rules.length < N) : ∃ l, laws_markFerry.f N F k = some (k + F.f_Rules.length, l) := by
  exact ⟨marked u16w k F.f_Rules.length, by simp only [laws_markFerry.f, markUint16S_eq hk h hN, Option.bind_some]⟩
theorem heldUint16S_eq {N n : Nat} {k : Int} (hk : 0 ≤ k ∧ k ≤ 1048578) (h : n ≤ 1048576) (hN : n < N) : laws_heldUint16S.f N (marked u16w k n) k = some (k + n) := by
  unfold laws_heldUint16S.f
  have hl := marked_len u16w k n
  rw [rounds_held n k hN ?_ ?_]
  · rfl
  · intro i hi
    simp only [laws_heldUint16S.b0]
    rw [if_pos (by omega), if_pos ⟨by omega, by omega⟩, rdL_nat (by omega), marked_get, if_pos rfl, i64w_succ hi (by omega), i64w_id (x := k + (i : Int) + 1) (by omega) (by omega), show k + (i : Int) + 1 = k + ((i + 1 : Nat) : Int) by omega]
  · simp only [laws_heldUint16S.b0]
    rw [if_neg (by omega)]
end Go.Proofs.YtgoblgmidejdgaaX
