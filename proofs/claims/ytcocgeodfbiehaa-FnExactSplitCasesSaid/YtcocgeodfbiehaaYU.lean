/- False coins, plainly: codes and splits. -/
import Derived.Test.YtcocgeodfbiehaaYS
namespace Go.Proofs.YtcocgeodfbiehaaX
open Go
set_option linter.unusedVariables false
set_option linter.unusedSimpArgs false
/-- The code of cases. -/
def givenC (t : Tk) (cs : List Cs) : Int := if (cs.any fun c => !has (csL t) c) = true then 6 else if cs.length ≤ 27 then 0 else 2
theorem given_spec {N : Nat} {t : Tk} (hk : okT t = true) {cs : List Cs} (hN : cs.length + 40 < N) (hl : cs.length ≤ 1048576) : spec_l03Given.f N t cs = some (givenC t cs) := by
  obtain ⟨e, he, hq⟩ := rounds_any (b := fun s => spec_l03Given.b0 N cs t s) cs (fun c => !has (csL t) c) (fun _ => (6 : Int)) (N := N) (by omega) (by
    intro i hi
    have g1 : (i : Int) < cs.length := by omega
    have g2 : (0 : Int) ≤ i := by omega
    obtain ⟨r, h1, h2⟩ := find_spec (N := N) (by omega) hk cs[i]
    simp only [spec_l03Given.b0, g1, g2, and_self, if_true, rdL_nat hi, h1, Option.bind_some, i64w_succ hi (show cs.length ≤ 9223372036854775807 by omega)]
    rw [← h2]
    simp only [decide_eq_true_eq]) (by
    simp only [spec_l03Given.b0]
    rw [if_neg (by omega)])
  simp only [spec_l03Given.f, he, givenC]
  by_cases c4 : (cs.any fun c => !has (csL t) c) = true
  · rw [if_pos c4] at hq
    obtain ⟨i, rfl⟩ := hq
    rw [if_pos c4]; rfl
  · rw [if_neg c4] at hq
    subst hq
    rw [if_neg c4]
    simp only [Option.bind_some, Ex.fin, spec_l03Given.a0]
    by_cases c5 : cs.length ≤ 27
    · rw [if_neg (by omega), if_pos c5]
    · rw [if_pos (by omega), if_neg c5]
theorem code_impl {N : Nat} {t : Tk} (ht : InT t) {ws : List We} {cs : List Cs} (hN : cs.length + ws.length + 40 < N) (hl : cs.length ≤ 1048576) (hw : ws.length ≤ 1048576) :
    impl_splitCode.f N t ws cs = some (if okT t = true ∧ ws.all (wv N t) = true then givenC t cs else 1) := by
  simp only [impl_splitCode.f, okT_impl N ht, Option.bind_some]
  by_cases hk : okT t = true
  · rw [if_pos hk]
    obtain ⟨e, he, hq⟩ := rounds_any (b := fun s => slices_IndexFunc_impl_Weighing_impl_Weighing_at_impl_splitCode_1.b0 N ws t s) ws (fun w => !wv N t w) (fun i => (i : Int)) (N := N) (by omega) (by
      intro i hi
      have g1 : (i : Int) < ws.length := by omega
      have g2 : (0 : Int) ≤ i := by omega
      simp only [slices_IndexFunc_impl_Weighing_impl_Weighing_at_impl_splitCode_1.b0, impl_splitCode_1.f, g1, g2, and_self, if_true, rdL_nat hi, (wv_spec (N := N) (by omega) ht hk ws[i]).2.1, Option.bind_some, i64w_succ hi (show ws.length ≤ 9223372036854775807 by omega)]) (by
      simp only [slices_IndexFunc_impl_Weighing_impl_Weighing_at_impl_splitCode_1.b0]
      rw [if_neg (by omega)])
    have ha : ws.all (wv N t) = !(ws.any fun w => !wv N t w) := by rw [List.all_eq_not_any_not]
    simp only [slices_ContainsFunc_impl_Weighing_impl_Weighing_at_impl_splitCode_1.f, slices_IndexFunc_impl_Weighing_impl_Weighing_at_impl_splitCode_1.f, he]
    by_cases c4 : (ws.any fun w => !wv N t w) = true
    · rw [if_pos c4] at hq
      obtain ⟨i, rfl⟩ := hq
      rw [ha, c4]
      simp only [Option.bind_some, Ex.fin, decide_eq_true (show (i : Int) ≥ 0 by omega), if_true, Bool.not_true, Bool.false_eq_true, and_false, if_false]
    · rw [if_neg c4] at hq
      subst hq
      rw [Bool.not_eq_true] at c4
      rw [ha, c4]
      obtain ⟨e, he, hq⟩ := rounds_any (b := fun s => slices_IndexFunc_impl_Case_impl_Case_at_impl_splitCode_2.b0 N cs (csL t) s) cs (fun c => !has (csL t) c) (fun i => (i : Int)) (N := N) (by omega) (by
        intro i hi
        have g1 : (i : Int) < cs.length := by omega
        have g2 : (0 : Int) ≤ i := by omega
        simp only [slices_IndexFunc_impl_Case_impl_Case_at_impl_splitCode_2.b0, impl_splitCode_2.f, g1, g2, and_self, if_true, rdL_nat hi, contains_impl (cases_at hk).2.2.1 (show 40 < N by omega), Option.bind_some, i64w_succ hi (show cs.length ≤ 9223372036854775807 by omega)]) (by
        simp only [slices_IndexFunc_impl_Case_impl_Case_at_impl_splitCode_2.b0]
        rw [if_neg (by omega)])
      simp only [Option.bind_some, Ex.fin, slices_IndexFunc_impl_Weighing_impl_Weighing_at_impl_splitCode_1.a0, show decide ((-1 : Int) ≥ 0) = false by decide, Bool.false_eq_true, if_false, cases_impl (show 40 < N by omega) hk, slices_ContainsFunc_impl_Case_impl_Case_at_impl_splitCode_2.f, slices_IndexFunc_impl_Case_impl_Case_at_impl_splitCode_2.f, he, hk, Bool.not_false, and_self, if_true, givenC]
      by_cases c5 : (cs.any fun c => !has (csL t) c) = true
      · rw [if_pos c5] at hq
        obtain ⟨i, rfl⟩ := hq
        rw [if_pos c5]
        simp only [Option.bind_some, decide_eq_true (show (i : Int) ≥ 0 by omega), if_true]
      · rw [if_neg c5] at hq
        subst hq
        rw [if_neg c5]
        simp only [Option.bind_some, slices_IndexFunc_impl_Case_impl_Case_at_impl_splitCode_2.a0, show decide ((-1 : Int) ≥ 0) = false by decide, Bool.false_eq_true, if_false, impl_unless.f]
        by_cases c6 : cs.length ≤ 27
        · rw [if_pos (by simpa using (by omega : (cs.length : Int) ≤ 27)), if_pos c6]; rfl
        · rw [if_neg (by simpa using (by omega : ¬ (cs.length : Int) ≤ 27)), if_neg c6]; rfl
  · rw [if_neg hk]
    simp [hk]
/-- Cases of a task: their coins are among 14. -/
theorem given_ok {t : Tk} (hk : okT t = true) {cs : List Cs} (h : givenC t cs = 0) : cs.length ≤ 27 ∧ ∀ c ∈ cs, -1 ≤ c.f_Coin ∧ c.f_Coin ≤ 12 := by
  unfold givenC at h
  by_cases c4 : (cs.any fun c => !has (csL t) c) = true
  · rw [if_pos c4] at h; omega
  · rw [if_neg c4] at h
    by_cases c5 : cs.length ≤ 27
    · refine ⟨c5, fun c hc => ?_⟩
      rw [Bool.not_eq_true, List.any_eq_false] at c4
      have := c4 c hc
      simp only [Bool.not_eq_true', Bool.not_eq_false] at this
      unfold has at this
      rw [List.any_eq_true] at this
      obtain ⟨x, hx, he⟩ := this
      obtain rfl := of_decide_eq_true he
      exact (cases_at hk).2.2.2 x hx
    · rw [if_neg c5] at h; omega
/- splits -/
theorem split_eq (N : Nat) (w : We) (cs : List Cs) : spec_l03Split.f N w cs = impl_split.f N w cs := by
  have hr : ∀ c, spec_l03Result.f N w c = impl_resultOf.f N w c := fun c => rfl
  have e : (fun s : List Cs × List Cs × List Cs × Int => spec_l03Split.b0 N cs w s.1 s.2.1 s.2.2.1 s.2.2.2) = (fun s => impl_split.b0 N cs w s.1 s.2.1 s.2.2.1 s.2.2.2) := by
    funext s
    obtain ⟨x, y, z, i⟩ := s
    simp only [spec_l03Split.b0, impl_split.b0, hr]
    by_cases g : (0 : Int) ≤ i ∧ i < (cs.length : Int)
    · simp only [if_pos g]; rfl
    · simp only [if_neg g]
  unfold spec_l03Split.f impl_split.f
  rw [e]; rfl
theorem result_some {N : Nat} {w : We} (hw : ∀ j : Nat, j < 14 → side w j) {c : Cs} (hc : -1 ≤ c.f_Coin ∧ c.f_Coin ≤ 12) : ∃ r, impl_resultOf.f N w c = some r ∧ -1 ≤ r ∧ r ≤ 1 := by
  unfold impl_resultOf.f
  by_cases h0 : c.f_Coin < 0
  · exact ⟨0, by rw [if_pos h0], by decide, by decide⟩
  · have hs := hw c.f_Coin.toNat (by omega)
    unfold side at hs
    rw [Int.toNat_of_nonneg (by omega)] at hs
    have e1 := i64w_id (x := w.get c.f_Coin 0) (by omega) (by omega)
    have e2 := i64w_id (x := 0 - w.get c.f_Coin 0) (by omega) (by omega)
    rw [if_neg h0, e1, e2]
    have g : (0 : Int) ≤ c.f_Coin ∧ c.f_Coin < 14 := ⟨by omega, by omega⟩
    cases c.f_Heavy with
    | true => exact ⟨w.get c.f_Coin 0, by simp [g], hs.1, hs.2⟩
    | false => exact ⟨0 - w.get c.f_Coin 0, by simp [g], by omega, by omega⟩
theorem split_some {N : Nat} {w : We} (hw : ∀ j : Nat, j < 14 → side w j) {cs : List Cs} (hc : ∀ c ∈ cs, -1 ≤ c.f_Coin ∧ c.f_Coin ≤ 12) (hl : cs.length ≤ 27) (hN : 40 < N) :
    ∃ x y z : List Cs, impl_split.f N w cs = some ⟨[x, y, z], rfl⟩ ∧ x.length ≤ 27 ∧ y.length ≤ 27 ∧ z.length ≤ 27 := by
  obtain ⟨e, h1, h2⟩ := rounds_ends (b := fun s => impl_split.b0 N cs w s.1 s.2.1 s.2.2.1 s.2.2.2) (fun s => 0 ≤ s.2.2.2 ∧ s.2.2.2 ≤ (cs.length : Int) ∧ (s.1.length : Int) ≤ s.2.2.2 ∧ (s.2.1.length : Int) ≤ s.2.2.2 ∧ (s.2.2.1.length : Int) ≤ s.2.2.2)
    (fun s => ((cs.length : Int) - s.2.2.2).toNat) (fun e => ∃ x y z, e = .go (x, y, z) ∧ x.length ≤ 27 ∧ y.length ≤ 27 ∧ z.length ≤ 27) (by
    rintro ⟨x, y, z, i⟩ ⟨r1, r2, r3, r4, r5⟩
    simp only at r1 r2 r3 r4 r5
    obtain ⟨i, rfl⟩ := Int.eq_ofNat_of_zero_le r1
    by_cases hi : i < cs.length
    · right
      have g1 : (i : Int) < cs.length := by omega
      have g2 : (0 : Int) ≤ i := by omega
      obtain ⟨r, q1, q2, q3⟩ := result_some (N := N) hw (hc _ (List.getElem_mem hi))
      simp only [impl_split.b0, impl_split.j2, g1, g2, and_self, if_true, rdL_nat hi, q1, Option.bind_some, i64w_id (x := r + 1) (by omega) (by omega), i64w_succ hi (show cs.length ≤ 9223372036854775807 by omega), List.length_singleton]
      obtain rfl | rfl | rfl : r = -1 ∨ r = 0 ∨ r = 1 := by omega
      · rw [if_pos (by decide), if_pos (by omega)]
        exact ⟨_, rfl, ⟨by dsimp only; omega, by dsimp only; omega, by dsimp only; rw [List.length_append]; simp; omega, by dsimp only; omega, by dsimp only; omega⟩, by dsimp only; omega⟩
      · rw [if_neg (by decide), if_pos (by decide), if_pos (by omega)]
        exact ⟨_, rfl, ⟨by dsimp only; omega, by dsimp only; omega, by dsimp only; omega, by dsimp only; rw [List.length_append]; simp; omega, by dsimp only; omega⟩, by dsimp only; omega⟩
      · rw [if_neg (by decide), if_neg (by decide), if_pos (by decide), if_pos (by omega)]
        exact ⟨_, rfl, ⟨by dsimp only; omega, by dsimp only; omega, by dsimp only; omega, by dsimp only; omega, by dsimp only; rw [List.length_append]; simp; omega⟩, by dsimp only; omega⟩
    · left
      have g1 : ¬ (i : Int) < cs.length := by omega
      simp only [impl_split.b0, g1, if_false]
      exact ⟨_, rfl, _, _, _, rfl, by omega, by omega, by omega⟩) N ([], [], [], 0) ⟨by simp, by simp, by simp, by simp, by simp⟩ (by simp; omega)
  obtain ⟨x, y, z, rfl, l1, l2, l3⟩ := h2
  refine ⟨x, y, z, ?_, l1, l2, l3⟩
  unfold impl_split.f
  rw [h1]; rfl
end Go.Proofs.YtcocgeodfbiehaaX
