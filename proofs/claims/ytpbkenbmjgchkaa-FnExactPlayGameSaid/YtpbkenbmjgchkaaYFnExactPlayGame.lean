/- FnExactPlayGame is true on every input: the plain side. -/
import Derived.Test.YtpbkenbmjgchkaaYG
namespace Go.Proofs.YtpbkenbmjgchkaaX
open Go
set_option linter.unusedVariables false
set_option linter.unusedSimpArgs false
theorem toBoolS_eq {N : Nat} {a : List Bool} (h : a.length ≤ 1048576) (hN : a.length < N) : laws_toBoolS.f N a = some a := by
  unfold laws_toBoolS.f
  rw [if_pos ⟨by omega, by omega⟩, Int.toNat_natCast, rounds_copy a false hN ?_ ?_]
  · rfl
  · intro x i hi hx
    simp only [laws_toBoolS.b0]
    rw [if_pos (by omega), if_pos ⟨by omega, by omega⟩, if_pos ⟨by omega, by omega⟩, rdL_nat hi, stL_nat, i64w_succ hi (by omega)]
  · intro x hx
    simp only [laws_toBoolS.b0]
    rw [if_neg (by omega)]
theorem eqBoolS_same {N : Nat} {a : List Bool} (h : a.length ≤ 1048576) (hN : a.length < N) : laws_eqBoolS.f N a a = some true := by
  unfold laws_eqBoolS.f
  rw [if_pos rfl, rounds_same a a rfl hN ?_ ?_]
  · simp [Ex.fin, laws_eqBoolS.a0]
  · intro i hi
    have g1 : (i : Int) < a.length := by omega
    have g2 : (0 : Int) ≤ i := by omega
    simp only [laws_eqBoolS.b0, g1, g2, and_self, if_true, i64w_succ hi (show a.length ≤ 9223372036854775807 by omega)]
  · simp only [laws_eqBoolS.b0]
    rw [if_neg (by omega)]
theorem markBoolS_eq {N : Nat} {a : List Bool} {k : Int} (hk : 0 ≤ k ∧ k ≤ 1048578) (h : a.length ≤ 1048576) (hN : a.length < N) : laws_markBoolS.f N a k = some (k + a.length, marked (fun x : Int => x.tmod 3 == 0) k a.length) := by
  unfold laws_markBoolS.f
  rw [rounds_mark (fun x : Int => x.tmod 3 == 0) a k hN ?_ ?_]
  · rfl
  · intro x i hi hx
    simp only [laws_markBoolS.b0]
    rw [if_pos (by omega), if_pos ⟨by omega, by omega⟩, stL_nat, i64w_succ hi (by omega), i64w_id (x := k + (i : Int) + 1) (by omega) (by omega), show k + (i : Int) + 1 = k + ((i + 1 : Nat) : Int) by omega]
  · intro x hx
    simp only [laws_markBoolS.b0]
    rw [if_neg (by omega)]
theorem heldAskS_eq {N n : Nat} {k : Int} (hk : 0 ≤ k ∧ k ≤ 1000) (h : n ≤ 1048576) (hN : n < N) : laws_heldAskS.f N (mkA k n) k = some (k + 2 * n) := by
  have hl := mkA_len k n
  have q := rounds_for (b := fun s => laws_heldAskS.b0 N (mkA k n) s.1 s.2) (e := .go (k + 2 * (n : Int))) (fun i => (k + 2 * (i : Int), (i : Int))) n 0 N (Nat.zero_le _) (by simpa using hN) (by
    intro i _ hi
    have g1 : (i : Int) < ((mkA k n).length : Int) := by rw [hl]; omega
    have g2 : (0 : Int) ≤ (i : Int) ∧ (i : Int) < ((mkA k n).length : Int) := ⟨by omega, g1⟩
    have e0 : rdL (mkA k n) (i : Int) z_S_impl_Ask = fA k (i : Int) := by
      rw [rdL_nat (by rw [hl]; exact hi)]
      unfold mkA
      rw [marked_get, Int.zero_add]
    have e1 : i64w (k + 2 * (i : Int) + 1) = k + 2 * (i : Int) + 1 := i64w_id (by omega) (by omega)
    have e2 : i64w (k + 2 * (i : Int) + 1 + 1) = k + 2 * ((i + 1 : Nat) : Int) := by rw [i64w_id (by omega) (by omega)]; omega
    simp only [laws_heldAskS.b0, if_pos g1, if_pos g2, e0, fA, if_true, e1, e2, i64w_succ hi (show n ≤ 9223372036854775807 by omega)]) (by
    simp only [laws_heldAskS.b0]
    rw [if_neg (by rw [hl]; omega)])
  unfold laws_heldAskS.f
  have q' : rounds (fun s => laws_heldAskS.b0 N (mkA k n) s.1 s.2) N (k, 0) = some (.go (k + 2 * (n : Int))) := by simpa using q
  rw [q']; rfl
theorem laws_FnExactPlayGame.told (a0 : Int) (h0 : IntKind.min .i64 ≤ a0 ∧ a0 ≤ IntKind.max .i64) (a1 : Int) (h1 : IntKind.min .i64 ≤ a1 ∧ a1 ≤ IntKind.max .i64) (a2 : Int) (h2 : IntKind.min .i64 ≤ a2 ∧ a2 ≤ IntKind.max .i64) (a3 : List (Bool)) (h3 : ∀ x ∈ a3, True) (l3 : a3.length ≤ 9223372036854775807) : ∃ N, laws_FnExactPlayGame.f N a0 a1 a2 a3 = some true := by
  by_cases h' : (a3.length : Int) > 1048576
  · exact ⟨0, by simp only [laws_FnExactPlayGame.f, if_pos h']⟩
  obtain ⟨N, hN⟩ : ∃ N, N = a3.length + 1000 := ⟨_, rfl⟩
  refine ⟨N, ?_⟩
  obtain ⟨⟨G, x, c⟩, e1, e2, hr⟩ := Play_same (N := N) (by omega) (n := a0) (l := a1) (m := a2) a3
  simp only at hr
  have hmk := markGame_eq (N := N) (G := G) (k := 1) (by omega) (by omega) (by omega)
  have hhe : laws_heldGame.f N ⟨G.f_Numbers, G.f_Lies, mkA 1 G.f_Asked.length⟩ 1 = some (1 + 2 * (G.f_Asked.length : Int)) := by
    simp only [laws_heldGame.f, heldAskS_eq (N := N) (n := G.f_Asked.length) (k := 1) (by omega) (by omega) (by omega), Option.bind_some]
    rw [if_neg (by omega)]
  simp only [laws_FnExactPlayGame.f, if_neg h', G_eta, toBoolS_eq (N := N) (a := a3) (by omega) (by omega), Option.bind_some, e1, e2, eqGame_same (N := N) (G := G) (by omega) (by omega), if_true, eqBoolS_same (N := N) (a := a3) (by omega) (by omega), markBoolS_eq (N := N) (a := a3) (k := 1) (by omega) (by omega) (by omega), if_neg (show ¬ (1 + (a3.length : Int)) < 0 by omega), hmk, hhe, if_neg (show ¬ (1 + 2 * (G.f_Asked.length : Int)) < 0 by omega)]
end Go.Proofs.YtpbkenbmjgchkaaX
