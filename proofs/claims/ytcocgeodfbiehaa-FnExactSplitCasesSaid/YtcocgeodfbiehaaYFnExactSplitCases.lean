/- FnExactSplitCases is true on every input: the plain side. -/
import Derived.Test.YtcocgeodfbiehaaYV
import Derived.Test.YtcocgeodfbiehaaXMark
namespace Go.Proofs.YtcocgeodfbiehaaX
open Go
set_option linter.unusedVariables false
set_option linter.unusedSimpArgs false
theorem Split_same {N : Nat} {t : Tk} (ht : InT t) {w : We} {cs : List Cs} (hc : cs.length ≤ 1048576) (hN : cs.length + 300 < N) :
    ∃ (x y z : List Cs) (c : Int), spec_SplitCases.f N t w cs = some (⟨[x, y, z], rfl⟩, c) ∧ impl_SplitCases.f N t w cs = some (⟨[x, y, z], rfl⟩, c) ∧ x.length ≤ 27 ∧ y.length ≤ 27 ∧ z.length ≤ 27 := by
  simp only [spec_SplitCases.f, impl_SplitCases.f, spec_ValidWeighing.f, okT_spec N ht, code_impl (N := N) (ws := [w]) (cs := cs) ht (by simp; omega) hc (by simp), Option.bind_some]
  by_cases hk : okT t = true
  · have hw := wv_spec (N := N) (by omega) ht hk w
    simp only [hk, if_true, hw.1, Option.bind_some, List.all_cons, List.all_nil, Bool.and_true, true_and]
    by_cases hv : wv N t w = true
    · simp only [if_pos hv, given_spec hk (show cs.length + 40 < N by omega) hc, Option.bind_some]
      by_cases h0 : givenC t cs = 0
      · obtain ⟨c27, hcs⟩ := given_ok hk h0
        obtain ⟨x, y, z, hp, l1, l2, l3⟩ := split_some (N := N) (hw.2.2 hv) hcs c27 (by omega)
        simp only [if_pos h0, split_eq, hp, Option.bind_some]
        exact ⟨x, y, z, 0, rfl, rfl, l1, l2, l3⟩
      · simp only [if_neg h0]
        exact ⟨[], [], [], _, rfl, rfl, by simp, by simp, by simp⟩
    · simp only [if_neg hv, if_neg (show ¬ ((1 : Int) = 0) by decide)]
      exact ⟨[], [], [], _, rfl, rfl, by simp, by simp, by simp⟩
  · simp only [if_neg hk, hk, false_and, if_false, if_neg (show ¬ ((1 : Int) = 0) by decide)]
    exact ⟨[], [], [], _, rfl, rfl, by simp, by simp, by simp⟩
/- marks on cases -/
def fC (k j : Int) : Cs := ⟨i8w (k + 2 * j), (k + 2 * j + 1).tmod 3 == 0⟩
def mkC (k : Int) (n : Nat) : List Cs := marked (fC k) 0 n
theorem mkC_len (k : Int) (n : Nat) : (mkC k n).length = n := marked_len _ _ _
theorem stL_twice {α : Type} (xs : List α) (i : Int) (a b : α) : stL (stL xs i a) i b = stL xs i b := by
  unfold stL
  rw [List.set_set]
theorem rdL_stL_self {α : Type} (xs : List α) (i : Int) (a z : α) (h : i.toNat < xs.length) : rdL (stL xs i a) i z = a := by
  unfold stL rdL
  simp [List.getD_eq_getElem?_getD, h]
theorem markCaseS_eq {N : Nat} {a : List Cs} {k : Int} (hk : 0 ≤ k ∧ k ≤ 1000) (h : a.length ≤ 1048576) (hN : a.length < N) : laws_markCaseS.f N a k = some (k + 2 * a.length, mkC k a.length) := by
  have q := rounds_for (b := fun s => laws_markCaseS.b0 N s.1 s.2.1 s.2.2) (e := .go (k + 2 * (a.length : Int), mkC k a.length)) (fun i => (marked (fC k) 0 i ++ a.drop i, k + 2 * (i : Int), (i : Int))) a.length 0 N (Nat.zero_le _) (by simpa using hN) (by
    intro i _ hi
    have hl : (marked (fC k) 0 i ++ a.drop i).length = a.length := by simp [marked_len]; omega
    have g1 : (i : Int) < ((marked (fC k) 0 i ++ a.drop i).length : Int) := by rw [hl]; omega
    have g2 : (0 : Int) ≤ (i : Int) ∧ (i : Int) < ((marked (fC k) 0 i ++ a.drop i).length : Int) := ⟨by omega, g1⟩
    have g3 : ∀ v : Cs, (0 : Int) ≤ (i : Int) ∧ (i : Int) < ((stL (marked (fC k) 0 i ++ a.drop i) (i : Int) v).length : Int) := fun v => ⟨by omega, by simp only [stL, List.length_set]; exact g1⟩
    have hm := mark_set (fC k) 0 a i hi
    have e1 : i64w (k + 2 * (i : Int) + 1) = k + 2 * (i : Int) + 1 := i64w_id (by omega) (by omega)
    have e2 : i64w (k + 2 * (i : Int) + 1 + 1) = k + 2 * ((i + 1 : Nat) : Int) := by rw [i64w_id (by omega) (by omega)]; omega
    simp only [laws_markCaseS.b0, if_pos g1, if_pos g2, if_pos (g3 _), stL_twice, rdL_stL_self _ (i : Int) _ _ (show ((i : Int)).toNat < (marked (fC k) 0 i ++ a.drop i).length by rw [hl]; simpa using hi), e1, e2, i64w_succ hi (show a.length ≤ 9223372036854775807 by omega)]
    rw [← hm, stL_nat]
    simp only [fC, Int.zero_add]) (by
    simp only [laws_markCaseS.b0]
    have hl : (marked (fC k) 0 a.length ++ a.drop a.length).length = a.length := by simp [marked_len]
    rw [if_neg (by rw [hl]; omega)]
    simp [mkC])
  unfold laws_markCaseS.f
  have q' : rounds (fun s => laws_markCaseS.b0 N s.1 s.2.1 s.2.2) N (a, k, 0) = some (.go (k + 2 * (a.length : Int), mkC k a.length)) := by
    have := q
    simpa [marked] using this
  rw [q']; rfl
theorem heldCaseS_eq {N n : Nat} {k : Int} (hk : 0 ≤ k ∧ k ≤ 1000) (h : n ≤ 1048576) (hN : n < N) : laws_heldCaseS.f N (mkC k n) k = some (k + 2 * n) := by
  have hl := mkC_len k n
  have q := rounds_for (b := fun s => laws_heldCaseS.b0 N (mkC k n) s.1 s.2) (e := .go (k + 2 * (n : Int))) (fun i => (k + 2 * (i : Int), (i : Int))) n 0 N (Nat.zero_le _) (by simpa using hN) (by
    intro i _ hi
    have g1 : (i : Int) < ((mkC k n).length : Int) := by rw [hl]; omega
    have g2 : (0 : Int) ≤ (i : Int) ∧ (i : Int) < ((mkC k n).length : Int) := ⟨by omega, g1⟩
    have e0 : rdL (mkC k n) (i : Int) z_S_impl_Case = fC k (i : Int) := by
      rw [rdL_nat (by rw [hl]; exact hi)]
      unfold mkC
      rw [marked_get, Int.zero_add]
    have e1 : i64w (k + 2 * (i : Int) + 1) = k + 2 * (i : Int) + 1 := i64w_id (by omega) (by omega)
    have e2 : i64w (k + 2 * (i : Int) + 1 + 1) = k + 2 * ((i + 1 : Nat) : Int) := by rw [i64w_id (by omega) (by omega)]; omega
    simp only [laws_heldCaseS.b0, if_pos g1, if_pos g2, e0, fC, if_true, e1, e2, i64w_succ hi (show n ≤ 9223372036854775807 by omega)]) (by
    simp only [laws_heldCaseS.b0]
    rw [if_neg (by rw [hl]; omega)])
  unfold laws_heldCaseS.f
  have q' : rounds (fun s => laws_heldCaseS.b0 N (mkC k n) s.1 s.2) N (k, 0) = some (.go (k + 2 * (n : Int))) := by simpa using q
  rw [q']; rfl
theorem g3 (a b c : List Cs) : (⟨[a, b, c], rfl⟩ : Ar (List Cs) 3).get 0 [] = a ∧ (⟨[a, b, c], rfl⟩ : Ar (List Cs) 3).get 1 [] = b ∧ (⟨[a, b, c], rfl⟩ : Ar (List Cs) 3).get 2 [] = c := ⟨rfl, rfl, rfl⟩
theorem markA3 {N : Nat} {x y z : List Cs} (lx : x.length ≤ 27) (ly : y.length ≤ 27) (lz : z.length ≤ 27) (hN : 300 < N) :
    laws_markCaseSA3.f N ⟨[x, y, z], rfl⟩ 1 = some (1 + 2 * (x.length : Int) + 2 * (y.length : Int) + 2 * (z.length : Int), mkC 1 x.length, mkC (1 + 2 * (x.length : Int)) y.length, mkC (1 + 2 * (x.length : Int) + 2 * (y.length : Int)) z.length) := by
  obtain ⟨M, hM⟩ : ∃ M, N = M + 4 := ⟨N - 4, by omega⟩
  have m1 := markCaseS_eq (N := N) (a := x) (k := 1) (by omega) (by omega) (by omega)
  have m2 := markCaseS_eq (N := N) (a := y) (k := 1 + 2 * (x.length : Int)) (by omega) (by omega) (by omega)
  have m3 := markCaseS_eq (N := N) (a := z) (k := 1 + 2 * (x.length : Int) + 2 * (y.length : Int)) (by omega) (by omega) (by omega)
  have n1 : i64w (0 + 1) = 1 := by decide
  have n2 : i64w (1 + 1) = 2 := by decide
  have n3 : i64w (2 + 1) = 3 := by decide
  have b1 : laws_markCaseSA3.b0 N 1 x y z 0 = some (.next (1 + 2 * (x.length : Int), mkC 1 x.length, y, z, 1)) := by
    simp only [laws_markCaseSA3.b0, show (0 : Int) < 3 by decide, if_true, m1, Option.bind_some, laws_markCaseSA3.j2, n1]
  have b2 : laws_markCaseSA3.b0 N (1 + 2 * (x.length : Int)) (mkC 1 x.length) y z 1 = some (.next (1 + 2 * (x.length : Int) + 2 * (y.length : Int), mkC 1 x.length, mkC (1 + 2 * (x.length : Int)) y.length, z, 2)) := by
    simp only [laws_markCaseSA3.b0, show (1 : Int) < 3 by decide, show ¬ (1 : Int) = 0 by decide, if_true, if_false, m2, Option.bind_some, laws_markCaseSA3.j2, n2]
  have b3 : laws_markCaseSA3.b0 N (1 + 2 * (x.length : Int) + 2 * (y.length : Int)) (mkC 1 x.length) (mkC (1 + 2 * (x.length : Int)) y.length) z 2 = some (.next (1 + 2 * (x.length : Int) + 2 * (y.length : Int) + 2 * (z.length : Int), mkC 1 x.length, mkC (1 + 2 * (x.length : Int)) y.length, mkC (1 + 2 * (x.length : Int) + 2 * (y.length : Int)) z.length, 3)) := by
    simp only [laws_markCaseSA3.b0, show (2 : Int) < 3 by decide, show ¬ (2 : Int) = 0 by decide, show ¬ (2 : Int) = 1 by decide, if_true, if_false, m3, Option.bind_some, laws_markCaseSA3.j2, n3]
  have b4 : ∀ k a b c, laws_markCaseSA3.b0 N k a b c 3 = some (.out (.go (k, a, b, c))) := by
    intro k a b c
    simp only [laws_markCaseSA3.b0, show ¬ (3 : Int) < 3 by decide, if_false]
  unfold laws_markCaseSA3.f
  rw [(g3 x y z).1, (g3 x y z).2.1, (g3 x y z).2.2]
  have : rounds (fun s => laws_markCaseSA3.b0 N s.1 s.2.1 s.2.2.1 s.2.2.2.1 s.2.2.2.2) N (1, x, y, z, 0) = some (.go (1 + 2 * (x.length : Int) + 2 * (y.length : Int) + 2 * (z.length : Int), mkC 1 x.length, mkC (1 + 2 * (x.length : Int)) y.length, mkC (1 + 2 * (x.length : Int) + 2 * (y.length : Int)) z.length)) := by
    conv => lhs; arg 2; rw [hM]
    rw [rounds_next (s' := _) b1, rounds_next (s' := _) b2, rounds_next (s' := _) b3, rounds_out (b4 _ _ _ _)]
  rw [this]; rfl
theorem heldA3 {N nx ny nz : Nat} (lx : nx ≤ 27) (ly : ny ≤ 27) (lz : nz ≤ 27) (hN : 300 < N) :
    laws_heldCaseSA3.f N ⟨[mkC 1 nx, mkC (1 + 2 * (nx : Int)) ny, mkC (1 + 2 * (nx : Int) + 2 * (ny : Int)) nz], rfl⟩ 1 = some (1 + 2 * (nx : Int) + 2 * (ny : Int) + 2 * (nz : Int)) := by
  obtain ⟨M, hM⟩ : ∃ M, N = M + 4 := ⟨N - 4, by omega⟩
  have m1 := heldCaseS_eq (N := N) (n := nx) (k := 1) (by omega) (by omega) (by omega)
  have m2 := heldCaseS_eq (N := N) (n := ny) (k := 1 + 2 * (nx : Int)) (by omega) (by omega) (by omega)
  have m3 := heldCaseS_eq (N := N) (n := nz) (k := 1 + 2 * (nx : Int) + 2 * (ny : Int)) (by omega) (by omega) (by omega)
  have n1 : i64w (0 + 1) = 1 := by decide
  have n2 : i64w (1 + 1) = 2 := by decide
  have n3 : i64w (2 + 1) = 3 := by decide
  generalize hx : mkC 1 nx = X at *
  generalize hy : mkC (1 + 2 * (nx : Int)) ny = Y at *
  generalize hz : mkC (1 + 2 * (nx : Int) + 2 * (ny : Int)) nz = Z at *
  have gg := g3 X Y Z
  have b1 : laws_heldCaseSA3.b0 N ⟨[X, Y, Z], rfl⟩ 1 0 = some (.next (1 + 2 * (nx : Int), 1)) := by
    simp only [laws_heldCaseSA3.b0, gg.1, show (0 : Int) < 3 by decide, if_true, m1, Option.bind_some, laws_heldCaseSA3.j2, n1]
    rw [if_neg (by omega)]
  have b2 : laws_heldCaseSA3.b0 N ⟨[X, Y, Z], rfl⟩ (1 + 2 * (nx : Int)) 1 = some (.next (1 + 2 * (nx : Int) + 2 * (ny : Int), 2)) := by
    simp only [laws_heldCaseSA3.b0, gg.2.1, show (1 : Int) < 3 by decide, show ¬ (1 : Int) = 0 by decide, if_true, if_false, m2, Option.bind_some, laws_heldCaseSA3.j2, n2]
    rw [if_neg (by omega)]
  have b3 : laws_heldCaseSA3.b0 N ⟨[X, Y, Z], rfl⟩ (1 + 2 * (nx : Int) + 2 * (ny : Int)) 2 = some (.next (1 + 2 * (nx : Int) + 2 * (ny : Int) + 2 * (nz : Int), 3)) := by
    simp only [laws_heldCaseSA3.b0, gg.2.2, show (2 : Int) < 3 by decide, show ¬ (2 : Int) = 0 by decide, show ¬ (2 : Int) = 1 by decide, if_true, if_false, m3, Option.bind_some, laws_heldCaseSA3.j2, n3]
    rw [if_neg (by omega)]
  have b4 : ∀ k, laws_heldCaseSA3.b0 N ⟨[X, Y, Z], rfl⟩ k 3 = some (.out (.go k)) := by
    intro k
    simp only [laws_heldCaseSA3.b0, show ¬ (3 : Int) < 3 by decide, if_false]
  unfold laws_heldCaseSA3.f
  have : rounds (fun s => laws_heldCaseSA3.b0 N ⟨[X, Y, Z], rfl⟩ s.1 s.2) N (1, 0) = some (.go (1 + 2 * (nx : Int) + 2 * (ny : Int) + 2 * (nz : Int))) := by
    conv => lhs; arg 2; rw [hM]
    rw [rounds_next (s' := _) b1, rounds_next (s' := _) b2, rounds_next (s' := _) b3, rounds_out (b4 _)]
  rw [this]; rfl
theorem eqA3 {N : Nat} {x y z : List Cs} (lx : x.length ≤ 27) (ly : y.length ≤ 27) (lz : z.length ≤ 27) (hN : 300 < N) : laws_eqCaseSA3.f N ⟨[x, y, z], rfl⟩ ⟨[x, y, z], rfl⟩ = some true := by
  obtain ⟨M, hM⟩ : ∃ M, N = M + 4 := ⟨N - 4, by omega⟩
  have m1 := eqCaseS_same (N := N) (a := x) (by omega) (by omega)
  have m2 := eqCaseS_same (N := N) (a := y) (by omega) (by omega)
  have m3 := eqCaseS_same (N := N) (a := z) (by omega) (by omega)
  have n1 : i64w (0 + 1) = 1 := by decide
  have n2 : i64w (1 + 1) = 2 := by decide
  have n3 : i64w (2 + 1) = 3 := by decide
  have gg := g3 x y z
  have b1 : laws_eqCaseSA3.b0 N ⟨[x, y, z], rfl⟩ ⟨[x, y, z], rfl⟩ 0 = some (.next 1) := by
    simp only [laws_eqCaseSA3.b0, gg.1, show (0 : Int) < 3 by decide, if_true, m1, Option.bind_some, laws_eqCaseSA3.j2, n1]
  have b2 : laws_eqCaseSA3.b0 N ⟨[x, y, z], rfl⟩ ⟨[x, y, z], rfl⟩ 1 = some (.next 2) := by
    simp only [laws_eqCaseSA3.b0, gg.2.1, show (1 : Int) < 3 by decide, show ¬ (1 : Int) = 0 by decide, if_true, if_false, m2, Option.bind_some, laws_eqCaseSA3.j2, n2]
  have b3 : laws_eqCaseSA3.b0 N ⟨[x, y, z], rfl⟩ ⟨[x, y, z], rfl⟩ 2 = some (.next 3) := by
    simp only [laws_eqCaseSA3.b0, gg.2.2, show (2 : Int) < 3 by decide, show ¬ (2 : Int) = 0 by decide, show ¬ (2 : Int) = 1 by decide, if_true, if_false, m3, Option.bind_some, laws_eqCaseSA3.j2, n3]
  have b4 : laws_eqCaseSA3.b0 N ⟨[x, y, z], rfl⟩ ⟨[x, y, z], rfl⟩ 3 = some (.out (.go ())) := by
    simp only [laws_eqCaseSA3.b0, show ¬ (3 : Int) < 3 by decide, if_false]
  unfold laws_eqCaseSA3.f
  have : rounds (fun s => laws_eqCaseSA3.b0 N ⟨[x, y, z], rfl⟩ ⟨[x, y, z], rfl⟩ s) N 0 = some (.go ()) := by
    conv => lhs; arg 2; rw [hM]
    rw [rounds_next (s' := _) b1, rounds_next (s' := _) b2, rounds_next (s' := _) b3, rounds_out b4]
  rw [this]; rfl
theorem laws_FnExactSplitCases.told (a0 : S_laws_Task) (h0_0 : IntKind.min .i8 ≤ a0.f_Coins ∧ a0.f_Coins ≤ IntKind.max .i8) (h0_1 : IntKind.min .i8 ≤ a0.f_Kind ∧ a0.f_Kind ≤ IntKind.max .i8) (a1 : Ar Int 14) (h1 : ∀ y ∈ a1.l, IntKind.min .i8 ≤ y ∧ y ≤ IntKind.max .i8) (a2 : List (S_impl_Case)) (h2 : ∀ x ∈ a2, (IntKind.min .i8 ≤ x.f_Coin ∧ x.f_Coin ≤ IntKind.max .i8) ∧ (True)) (l2 : a2.length ≤ 9223372036854775807) : ∃ N, laws_FnExactSplitCases.f N a0 a1 a2 = some true := by
  rw [min_i8, max_i8] at h0_0 h0_1
  have ht : InT a0 := ⟨h0_0, h0_1⟩
  by_cases h' : a2.length ≤ 1048576
  · obtain ⟨N, hN⟩ : ∃ N, N = a2.length + 1000 := ⟨_, rfl⟩
    refine ⟨N, ?_⟩
    obtain ⟨x, y, z, c, e1, e2, lx, ly, lz⟩ := Split_same (N := N) ht (w := a1) (cs := a2) h' (by omega)
    have gg := g3 x y z
    have hmk := markA3 (N := N) lx ly lz (by omega)
    have hhe := heldA3 (N := N) lx ly lz (by omega)
    have heq := eqA3 (N := N) lx ly lz (by omega)
    have hm0 := markCaseS_eq (N := N) (a := a2) (k := 1) (by omega) h' (by omega)
    simp only [laws_FnExactSplitCases.f, szCaseS_eq l2, if_pos h', Option.bind_some, if_neg (show ¬ (1048576 - (a2.length : Int)) < 0 by omega), toTask_eq, toCaseS_eq (N := N) h' (by omega), toWeighing_eq (N := N) (by omega), e1, e2, gg.1, gg.2.1, gg.2.2, heq, if_true, eqCaseS_same (N := N) h' (by omega), hm0, hmk, hhe]
    rw [if_neg (by omega)]
    simp only [if_neg (show ¬ (1 + 2 * (x.length : Int) + 2 * (y.length : Int) + 2 * (z.length : Int)) < 0 by omega)]
  · exact ⟨0, by simp only [laws_FnExactSplitCases.f, szCaseS_eq l2, if_neg h', Option.bind_some]; rfl⟩
end Go.Proofs.YtcocgeodfbiehaaX
