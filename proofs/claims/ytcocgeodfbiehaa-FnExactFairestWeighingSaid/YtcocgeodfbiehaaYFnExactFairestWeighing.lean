/- FnExactFairestWeighing is true on every input: the plain side. -/
import Derived.Test.YtcocgeodfbiehaaYV
namespace Go.Proofs.YtcocgeodfbiehaaX
open Go
set_option linter.unusedVariables false
set_option linter.unusedSimpArgs false
theorem toWeighingS_eq {N : Nat} {a : List We} (h : a.length ≤ 1048576) (hN : a.length + 40 < N) : laws_toWeighingS.f N a = some a := by
  unfold laws_toWeighingS.f
  rw [if_pos ⟨by omega, by omega⟩, Int.toNat_natCast, rounds_copy a (Ar.rep 14 0) (by omega) ?_ ?_]
  · rfl
  · intro x i hi hx
    simp only [laws_toWeighingS.b0, toWeighing_eq (N := N) (by omega), Option.bind_some]
    rw [if_pos (by omega), if_pos ⟨by omega, by omega⟩, if_pos ⟨by omega, by omega⟩, rdL_nat hi, stL_nat, i64w_succ hi (by omega)]
  · intro x hx
    simp only [laws_toWeighingS.b0]
    rw [if_neg (by omega)]
theorem eqWeighing_same {N : Nat} (hN : 40 < N) (w : We) : laws_eqWeighing.f N w w = some true := by
  have q := rounds_for (b := fun s => laws_eqWeighing.b0 N w w s) (e := .go ()) (fun k => (k : Int)) 14 0 N (by omega) (by omega) (by
    intro i _ hi
    have g1 : ((i : Nat) : Int) < 14 := by omega
    have g2 : (0 : Int) ≤ (i : Int) := by omega
    have hn : i64w ((i : Int) + 1) = ((i + 1 : Nat) : Int) := by rw [i64w_id (by omega) (by omega)]; omega
    simp only [laws_eqWeighing.b0, g1, g2, and_self, if_true, hn]) (by
    simp only [laws_eqWeighing.b0]
    rw [if_neg (by omega)])
  have q' : rounds (fun s => laws_eqWeighing.b0 N w w s) N 0 = some (.go ()) := q
  unfold laws_eqWeighing.f
  rw [q']; rfl
theorem eqWeighingS_same {N : Nat} {a : List We} (h : a.length ≤ 1048576) (hN : a.length + 40 < N) : laws_eqWeighingS.f N a a = some true := by
  unfold laws_eqWeighingS.f
  rw [if_pos rfl, rounds_same a a rfl (by omega) ?_ ?_]
  · simp [Ex.fin, laws_eqWeighingS.a0]
  · intro i hi
    have g1 : (i : Int) < a.length := by omega
    have g2 : (0 : Int) ≤ i := by omega
    simp only [laws_eqWeighingS.b0, g1, g2, and_self, if_true, eqWeighing_same (N := N) (by omega), Option.bind_some, i64w_succ hi (show a.length ≤ 9223372036854775807 by omega)]
  · simp only [laws_eqWeighingS.b0]
    rw [if_neg (by omega)]
theorem mx_eq (N : Nat) (a b : Int) : spec_l00Max.f N a b = some (mxI a b) := by
  unfold spec_l00Max.f mxI
  by_cases h : a > b
  · rw [if_pos h, if_neg (by omega)]
  · rw [if_neg h]
    by_cases h2 : b > a
    · rw [if_pos h2]
    · rw [if_neg h2]; congr 1; omega
theorem best_both {N : Nat} {ws : List We} {cs : List Cs} (hs : ∀ w ∈ ws, ∀ j : Nat, j < 14 → side w j) (hc : ∀ c ∈ cs, -1 ≤ c.f_Coin ∧ c.f_Coin ≤ 12) (hl : cs.length ≤ 27) (hw : ws.length ≤ 60) (hN : 200 < N) :
    ∃ x y, rounds (fun s => spec_FairestWeighing.b3 N ws cs s.1 s.2.1 s.2.2) N (0, (-1), 0) = some (.go (x, y)) ∧ rounds (fun s => impl_FairestWeighing.b1 N ws cs s.1 s.2.1 s.2.2) N (0, (-1), 0) = some (.go (x, y)) := by
  obtain ⟨e, e', h1, h2, h3⟩ := rounds_both (b := fun s => spec_FairestWeighing.b3 N ws cs s.1 s.2.1 s.2.2) (b' := fun s => impl_FairestWeighing.b1 N ws cs s.1 s.2.1 s.2.2)
    (fun s s' => s = s' ∧ 0 ≤ s.2.2 ∧ s.2.2 ≤ (ws.length : Int)) (fun s => ((ws.length : Int) - s.2.2).toNat) (fun e e' => ∃ x y, e = .go (x, y) ∧ e' = .go (x, y)) (by
    rintro ⟨x, y, i⟩ ⟨x', y', i'⟩ ⟨r1, r2, r3⟩
    cases r1
    simp only at r2 r3
    obtain ⟨i, rfl⟩ := Int.eq_ofNat_of_zero_le r2
    by_cases hi : i < ws.length
    · right
      have g1 : (i : Int) < ws.length := by omega
      have g2 : (0 : Int) ≤ i := by omega
      obtain ⟨p, q, r, hp, _, _, _⟩ := split_some (N := N) (hs _ (List.getElem_mem hi)) hc hl (by omega)
      have g3 : ∀ (a b c : List Cs), (⟨[a, b, c], rfl⟩ : Ar (List Cs) 3).get 0 [] = a ∧ (⟨[a, b, c], rfl⟩ : Ar (List Cs) 3).get 1 [] = b ∧ (⟨[a, b, c], rfl⟩ : Ar (List Cs) 3).get 2 [] = c := fun _ _ _ => ⟨rfl, rfl, rfl⟩
      have hz : ∀ a, impl_size_impl_Case.f N a = some (a.length : Int) := fun _ => rfl
      simp only [spec_FairestWeighing.b3, impl_FairestWeighing.b1, g1, g2, and_self, if_true, rdL_nat hi, split_eq, hp, Option.bind_some, (g3 p q r).1, (g3 p q r).2.1, (g3 p q r).2.2, mx_eq, hz, spec_FairestWeighing.j5, impl_FairestWeighing.j3, i64w_succ hi (show ws.length ≤ 9223372036854775807 by omega)]
      by_cases d1 : y < 0
      · simp only [if_pos d1]
        exact ⟨_, _, rfl, rfl, ⟨rfl, by dsimp only; omega, by dsimp only; omega⟩, by dsimp only; omega⟩
      · by_cases d2 : mxI (mxI (p.length : Int) (q.length : Int)) (r.length : Int) < y
        · simp only [if_neg d1, if_pos d2]
          exact ⟨_, _, rfl, rfl, ⟨rfl, by dsimp only; omega, by dsimp only; omega⟩, by dsimp only; omega⟩
        · simp only [if_neg d1, if_neg d2]
          exact ⟨_, _, rfl, rfl, ⟨rfl, by dsimp only; omega, by dsimp only; omega⟩, by dsimp only; omega⟩
    · left
      have g1 : ¬ (i : Int) < ws.length := by omega
      simp only [spec_FairestWeighing.b3, impl_FairestWeighing.b1, g1, if_false]
      exact ⟨_, _, rfl, rfl, _, _, rfl, rfl⟩) N N (0, (-1), 0) (0, (-1), 0) ⟨rfl, by simp, by simp⟩ (by simp; omega) (by simp; omega)
  obtain ⟨x, y, rfl, rfl⟩ := h3
  exact ⟨x, y, h1, h2⟩
theorem Fairest_same {N : Nat} {t : Tk} (ht : InT t) {cs : List Cs} {ws : List We} (hc : cs.length ≤ 1048576) (hw : ws.length ≤ 1048576) (hN : cs.length + ws.length + 300 < N) :
    ∃ r, spec_FairestWeighing.f N t cs ws = some r ∧ impl_FairestWeighing.f N t cs ws = some r := by
  simp only [spec_FairestWeighing.f, impl_FairestWeighing.f, okT_spec N ht, code_impl ht (show cs.length + ws.length + 40 < N by omega) hc hw, Option.bind_some]
  by_cases hk : okT t = true
  · have q := rounds_all (b := fun s => spec_FairestWeighing.b0 N ws t s.1 s.2) ws (wv N t) (N := N) (by omega) (by
      intro i hi
      have g1 : (i : Int) < ws.length := by omega
      have g2 : (0 : Int) ≤ i := by omega
      simp only [spec_FairestWeighing.b0, g1, g2, and_self, if_true, rdL_nat hi, (wv_spec (N := N) (by omega) ht hk ws[i]).1, Option.bind_some, i64w_succ hi (show ws.length ≤ 9223372036854775807 by omega)]) (by
      intro i
      simp only [spec_FairestWeighing.b0, Bool.false_eq_true, if_false]
      split <;> rfl) (by
      simp only [spec_FairestWeighing.b0]
      rw [if_neg (by omega)])
    rw [hk, q]
    by_cases ha : ws.all (wv N t) = true
    · simp only [ha, Option.bind_some, Ex.fin, spec_FairestWeighing.a0, if_true, given_spec hk (show cs.length + 40 < N by omega) hc, and_self]
      by_cases h0 : givenC t cs = 0
      · have hz : impl_size_impl_Weighing.f N ws = some (ws.length : Int) := rfl
        simp only [h0, if_true, l00In_eq, Option.bind_some, hz, within_eq, impl_unless.f]
        by_cases h60 : (1 : Int) ≤ (ws.length : Int) ∧ (ws.length : Int) ≤ 60
        · obtain ⟨c27, hcs⟩ := given_ok hk h0
          obtain ⟨x, y, e1, e2⟩ := best_both (N := N) (ws := ws) (cs := cs) (fun w hw => (wv_spec (N := N) (by omega) ht hk w).2.2 (List.all_eq_true.1 ha w hw)) hcs c27 (by omega) (by omega)
          simp only [h60, and_self, decide_true, if_true, Option.bind_some, spec_FairestWeighing.j2, impl_FairestWeighing.j0, e1, e2]
          exact ⟨_, rfl, rfl⟩
        · simp only [h60, decide_false, Bool.false_eq_true, if_false, Option.bind_some, spec_FairestWeighing.j2, impl_FairestWeighing.j0, show ¬ ((2 : Int) = 0) by decide]
          exact ⟨_, rfl, rfl⟩
      · simp only [h0, if_false, spec_FairestWeighing.j2, impl_FairestWeighing.j0]
        exact ⟨_, rfl, rfl⟩
    · rw [Bool.not_eq_true] at ha
      simp only [ha, Option.bind_some, Ex.fin, spec_FairestWeighing.a0, Bool.false_eq_true, if_false, and_false, impl_FairestWeighing.j0, show ¬ ((1 : Int) = 0) by decide]
      exact ⟨_, rfl, rfl⟩
  · rw [Bool.not_eq_true] at hk
    have q : rounds (fun s => spec_FairestWeighing.b0 N ws t s.1 s.2) N (false, 0) = some (.go false) := by
      obtain ⟨M, rfl⟩ : ∃ M, N = M + 1 := ⟨N - 1, by omega⟩
      refine rounds_out ?_
      simp only [spec_FairestWeighing.b0, Bool.false_eq_true, if_false]
      split <;> rfl
    rw [hk, q]
    simp only [Option.bind_some, Ex.fin, spec_FairestWeighing.a0, Bool.false_eq_true, if_false, false_and, impl_FairestWeighing.j0, show ¬ ((1 : Int) = 0) by decide]
    exact ⟨_, rfl, rfl⟩
theorem szWeighingS_eq {N : Nat} {a : List We} {k : Int} (hk : 0 ≤ k ∧ k ≤ 1048576) (h : a.length ≤ 9223372036854775807) : laws_szWeighingS.f N a k = some (if (a.length : Int) ≤ k then k - (a.length : Int) else -1) := by
  simp only [laws_szWeighingS.f, i64w_id (x := k - (a.length : Int)) (by omega) (by omega)]
  by_cases c : (a.length : Int) ≤ k
  · rw [if_neg (by omega), if_pos c]
  · rw [if_pos (by omega), if_neg c]
theorem laws_FnExactFairestWeighing.told (a0 : S_laws_Task) (h0_0 : IntKind.min .i8 ≤ a0.f_Coins ∧ a0.f_Coins ≤ IntKind.max .i8) (h0_1 : IntKind.min .i8 ≤ a0.f_Kind ∧ a0.f_Kind ≤ IntKind.max .i8) (a1 : List S_impl_Case) (h1 : ∀ x ∈ a1, (IntKind.min .i8 ≤ x.f_Coin ∧ x.f_Coin ≤ IntKind.max .i8) ∧ (True)) (l1 : a1.length ≤ 9223372036854775807) (a2 : List (Ar Int 14)) (h2 : ∀ x ∈ a2, ∀ y ∈ x.l, IntKind.min .i8 ≤ y ∧ y ≤ IntKind.max .i8) (l2 : a2.length ≤ 9223372036854775807) : ∃ N, laws_FnExactFairestWeighing.f N a0 a1 a2 = some true := by
  rw [min_i8, max_i8] at h0_0 h0_1
  have ht : InT a0 := ⟨h0_0, h0_1⟩
  by_cases h' : a1.length ≤ 1048576
  · by_cases h'' : (a2.length : Int) ≤ 1048576 - (a1.length : Int)
    · obtain ⟨N, hN⟩ : ∃ N, N = a1.length + a2.length + 1000 := ⟨_, rfl⟩
      refine ⟨N, ?_⟩
      obtain ⟨r, e1, e2⟩ := Fairest_same (N := N) ht (cs := a1) (ws := a2) h' (by omega) (by omega)
      simp only [laws_FnExactFairestWeighing.f, szCaseS_eq l1, if_pos h', Option.bind_some, if_neg (show ¬ (1048576 - (a1.length : Int)) < 0 by omega), szWeighingS_eq (N := N) (k := 1048576 - (a1.length : Int)) ⟨by omega, by omega⟩ l2, if_pos h'', if_neg (show ¬ (1048576 - (a1.length : Int) - (a2.length : Int)) < 0 by omega), toTask_eq, toCaseS_eq (N := N) h' (by omega), toWeighingS_eq (N := N) (a := a2) (by omega) (by omega), e1, e2, if_true, eqCaseS_same (N := N) h' (by omega), eqWeighingS_same (N := N) (a := a2) (by omega) (by omega)]
    · exact ⟨0, by simp only [laws_FnExactFairestWeighing.f, szCaseS_eq l1, if_pos h', Option.bind_some, if_neg (show ¬ (1048576 - (a1.length : Int)) < 0 by omega), szWeighingS_eq (N := 0) (k := 1048576 - (a1.length : Int)) ⟨by omega, by omega⟩ l2, if_neg h'']; rfl⟩
  · exact ⟨0, by simp only [laws_FnExactFairestWeighing.f, szCaseS_eq l1, if_neg h', Option.bind_some]; rfl⟩
end Go.Proofs.YtcocgeodfbiehaaX
