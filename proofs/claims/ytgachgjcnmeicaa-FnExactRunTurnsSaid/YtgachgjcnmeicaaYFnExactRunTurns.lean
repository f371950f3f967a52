/- FnExactRunTurns is true on every input: the plain side. -/
import Derived.Test.YtgachgjcnmeicaaYV
namespace Go.Proofs.YtgachgjcnmeicaaX
open Go
set_option linter.unusedVariables false
theorem eqInt64S_same {N : Nat} {a : List Int} (h : a.length ≤ 1048576) (hN : a.length < N) : laws_eqInt64S.f N a a = some true := by
  unfold laws_eqInt64S.f
  rw [if_pos rfl, rounds_same a a rfl hN ?_ ?_]
  · simp [Ex.fin, laws_eqInt64S.a0]
  · intro i hi
    have g1 : (i : Int) < a.length := by omega
    have g2 : (0 : Int) ≤ i := by omega
    simp only [laws_eqInt64S.b0, g1, g2, and_self, if_true, i64w_succ hi (show a.length ≤ 9223372036854775807 by omega)]
  · simp only [laws_eqInt64S.b0]
    rw [if_neg (by omega)]
theorem markGlasses_eq {N : Nat} {a : List Int} {k : Int} (hk : 0 ≤ k ∧ k ≤ 1048578) (h : a.length ≤ 1048576) (hN : a.length < N) : ∃ l, laws_markGlasses.f N a k = some (k + a.length, l) := by
  refine ⟨marked i16w k a.length, ?_⟩
  unfold laws_markGlasses.f
  rw [rounds_mark i16w a k hN ?_ ?_]
  · rfl
  · intro x i hi hx
    simp only [laws_markGlasses.b0]
    rw [if_pos (by omega), if_pos ⟨by omega, by omega⟩, stL_nat, i64w_succ hi (by omega), i64w_id (x := k + (i : Int) + 1) (by omega) (by omega), show k + (i : Int) + 1 = k + ((i + 1 : Nat) : Int) by omega]
  · intro x hx
    simp only [laws_markGlasses.b0]
    rw [if_neg (by omega)]
theorem markByteS_eq {N : Nat} {a : List Int} {k : Int} (hk : 0 ≤ k ∧ k ≤ 1048578) (h : a.length ≤ 1048576) (hN : a.length < N) : ∃ l, laws_markByteS.f N a k = some (k + a.length, l) := by
  refine ⟨marked u8w k a.length, ?_⟩
  unfold laws_markByteS.f
  rw [rounds_mark u8w a k hN ?_ ?_]
  · rfl
  · intro x i hi hx
    simp only [laws_markByteS.b0]
    rw [if_pos (by omega), if_pos ⟨by omega, by omega⟩, stL_nat, i64w_succ hi (by omega), i64w_id (x := k + (i : Int) + 1) (by omega) (by omega), show k + (i : Int) + 1 = k + ((i + 1 : Nat) : Int) by omega]
  · intro x hx
    simp only [laws_markByteS.b0]
    rw [if_neg (by omega)]
theorem markInt64S_eq {N : Nat} {a : List Int} {k : Int} (hk : 0 ≤ k ∧ k ≤ 1048578) (h : a.length ≤ 1048576) (hN : a.length < N) : laws_markInt64S.f N a k = some (k + a.length, marked (fun n => n) k a.length) := by
  unfold laws_markInt64S.f
  rw [rounds_mark (fun n => n) a k hN ?_ ?_]
  · rfl
  · intro x i hi hx
    simp only [laws_markInt64S.b0]
    rw [if_pos (by omega), if_pos ⟨by omega, by omega⟩, stL_nat, i64w_succ hi (by omega), i64w_id (x := k + (i : Int) + 1) (by omega) (by omega), show k + (i : Int) + 1 = k + ((i + 1 : Nat) : Int) by omega]
  · intro x hx
    simp only [laws_markInt64S.b0]
    rw [if_neg (by omega)]
theorem heldInt64S_eq {N n : Nat} {k : Int} (hk : 0 ≤ k ∧ k ≤ 1048578) (h : n ≤ 1048576) (hN : n < N) : laws_heldInt64S.f N (marked (fun n => n) k n) k = some (k + n) := by
  unfold laws_heldInt64S.f
  have hl := marked_len (fun n : Int => n) k n
  rw [rounds_held n k hN ?_ ?_]
  · rfl
  · intro i hi
    simp only [laws_heldInt64S.b0]
    rw [if_pos (by omega), if_pos ⟨by omega, by omega⟩, rdL_nat (by omega), marked_get, if_pos rfl, i64w_succ hi (by omega), i64w_id (x := k + (i : Int) + 1) (by omega) (by omega), show k + (i : Int) + 1 = k + ((i + 1 : Nat) : Int) by omega]
  · simp only [laws_heldInt64S.b0]
    rw [if_neg (by omega)]
theorem RunT_same {N : Nat} {a p : List Int} {c : Ar Int 4} (ha : ∀ x ∈ a, -32768 ≤ x ∧ x ≤ 32767) (h : a.length ≤ 1048576) (hb : ∀ x ∈ p, 0 ≤ x ∧ x ≤ 255) (hN : a.length + 80 < N) :
    ∃ l d k, spec_RunTurns.f N a c p = some (l, d, k) ∧ impl_RunTurns.f N a c p = some (l, d, k) ∧ l.length ≤ 60 := by
  classical
  by_cases hk : okT a c
  · obtain ⟨l, d, k, q1, q2, h60⟩ := Run_same (N := N) ha h hk hb hN
    refine ⟨l, d, k, ?_, q2, h60⟩
    simp only [spec_RunTurns.f, okT_spec ha (show 5 < N by omega), Option.bind_some, decide_eq_true_eq, if_pos hk, q1]
  · refine ⟨[], Ar.rep 4 0, 1, ?_, ?_, by simp⟩
    · simp only [spec_RunTurns.f, okT_spec ha (show 5 < N by omega), Option.bind_some, decide_eq_true_eq, if_neg hk]
    · simp only [impl_RunTurns.f, okT_impl ha h (show a.length + 5 < N by omega), Option.bind_some, decide_eq_true_eq, if_neg hk]
theorem laws_FnExactRunTurns.told (a0 : List Int) (h0 : ∀ x ∈ a0, IntKind.min .i16 ≤ x ∧ x ≤ IntKind.max .i16) (l0 : a0.length ≤ 9223372036854775807) (a1 : Ar Int 4) (h1 : ∀ x ∈ a1.l, IntKind.min .i16 ≤ x ∧ x ≤ IntKind.max .i16) (a2 : List Int) (h2 : ∀ x ∈ a2, IntKind.min .u8 ≤ x ∧ x ≤ IntKind.max .u8) (l2 : a2.length ≤ 9223372036854775807) : ∃ N, laws_FnExactRunTurns.f N a0 a1 a2 = some true := by
  rw [min_i16, max_i16] at h0
  rw [min_u8, max_u8] at h2
  by_cases h : (a0.length : Int) > 1048576
  · exact ⟨0, by simp only [laws_FnExactRunTurns.f, if_pos h]⟩
  by_cases h' : (a2.length : Int) > 1048576
  · exact ⟨0, by simp only [laws_FnExactRunTurns.f, if_neg h, if_pos h']⟩
  obtain ⟨N, hN⟩ : ∃ N, N = a0.length + a2.length + 100 := ⟨_, rfl⟩
  refine ⟨N, ?_⟩
  have hl : a0.length ≤ 1048576 := by omega
  have hl' : a2.length ≤ 1048576 := by omega
  obtain ⟨l, d, k, e1, e2, h60⟩ := RunT_same (N := N) (c := a1) h0 hl h2 (by omega)
  obtain ⟨l1, m1⟩ := markGlasses_eq (N := N) (a := a0) (k := 1) (by omega) hl (by omega)
  obtain ⟨l2, m2⟩ := markByteS_eq (N := N) (a := a2) (k := 1 + a0.length) (by omega) hl' (by omega)
  simp only [laws_FnExactRunTurns.f, if_neg h, if_neg h', toGlasses_eq hl (show a0.length < N by omega), toTops_eq a1 (show 4 < N by omega), toBytes_eq hl' (show a2.length < N by omega), Option.bind_some, e1, e2, eqGlasses_eq (c := a0) hl (show a0.length < N by omega), eqBytes_eq (c := a2) hl' (show a2.length < N by omega),
    eqInt64S_same (a := l) (N := N) (by omega) (by omega), eqTops_eq d d (show 4 < N by omega), decide_true, if_true, m1, m2, if_neg (show ¬ (1 + (a0.length : Int) + (a2.length : Int) < 0) by omega), markInt64S_eq (N := N) (a := l) (k := 1) (by omega) (by omega) (by omega), heldInt64S_eq (N := N) (n := l.length) (k := 1) (by omega) (by omega) (by omega), if_neg (show ¬ (1 + (l.length : Int) < 0) by omega)]
end Go.Proofs.YtgachgjcnmeicaaX
