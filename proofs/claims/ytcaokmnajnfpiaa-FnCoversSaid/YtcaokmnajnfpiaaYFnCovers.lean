/- FnCovers is true on every input: the plain side. -/
import Derived.Test.YtcaokmnajnfpiaaYB
namespace Go.Proofs.YtcaokmnajnfpiaaX
open Go
set_option linter.unusedVariables false
set_option linter.unusedSimpArgs false
theorem same_self {N : Nat} {G : Fe} (hl : G.f_Rules.length ≤ 20) (hN : 2000 < N) : spec_SameFerry.f N G G = some true := by
  have q := rounds_for (b := fun s => spec_l05Same.b0 N G G s) (e := .go ()) (fun k => (k : Int)) G.f_Rules.length 0 N (by omega) (by omega) (by
    intro i _ hi
    have hnx : i64w ((i : Int) + 1) = ((i + 1 : Nat) : Int) := i64w_succ hi (by omega)
    simp only [spec_l05Same.b0, if_pos (show (i : Int) < (G.f_Rules.length : Int) by omega), if_pos (show (0 : Int) ≤ (i : Int) ∧ (i : Int) < (G.f_Rules.length : Int) by omega), if_true, hnx]) (by
    simp only [spec_l05Same.b0]
    rw [if_neg (by omega)])
  have q' : rounds (fun s => spec_l05Same.b0 N G G s) N 0 = some (.go ()) := q
  simp only [spec_SameFerry.f, spec_l05Same.f, F_eta, if_true, q', Option.bind_some, Ex.fin, spec_l05Same.a0]
theorem count_eq {N : Nat} (hN : 10 ≤ N) {x : Int} (h : 0 ≤ x ∧ x ≤ 255) : spec_A2Count.f N x = some (cnt x) := by
  simp only [spec_A2Count.f, size_eq hN h, Option.bind_some]
theorem covers_wb (F : Fe) (d l : Int) : covers (wb F d) l = covers F l := rfl
theorem boat_bounds {F : Fe} (D : Drawn F) {d m : Int} (d0 : 0 ≤ d) (d1 : d ≤ F.f_Things) (hd : Rch (wb F d) endB) (hmin : ∀ x, 0 ≤ x → x < d → ¬ Rch (wb F x) endB) (hm : Least F m) : cnt m ≤ d ∧ d ≤ cnt m + 1 := by
  obtain ⟨hF, hok⟩ := D.ok
  have hall := all_range hok.t8
  have ht := D.t
  obtain ⟨m0, m1, m2, m3⟩ := hm
  have hc0 := (cnt_at (x := m) ⟨m0, by omega⟩).2.2
  constructor
  · rcases hd.first (wb_ok hok d0 d1) with h | ⟨l, hl⟩
    · exact absurd (show true = false from congrArg S_impl_Bank.f_Far h) (by decide)
    · obtain ⟨c1, c2, c3, c4⟩ := first_covers (wb_in hF d0 (by omega)) (wb_ok hok d0 d1) hl
      rw [covers_wb] at c1
      have c2 : cnt l ≤ d := c2
      have := m3 l c3 c4 c1
      omega
  · by_cases c : cnt m + 1 ≤ F.f_Things
    · have hw := wb_ok hok (x := cnt m + 1) (by omega) c
      have := over_all (wb_in hF (x := cnt m + 1) (by omega) (by omega)) hw (c := m) m2 m0 m1 (sub_all hok m0 m1) (Int.le_refl _)
      have hh := hmin (cnt m + 1) (by omega)
      by_cases c2 : cnt m + 1 < d
      · exact absurd this (hh c2)
      · omega
    · omega
theorem phi_zero : ∀ x : Nat, x < 5 → phi x 0 = 0 := by decide +kernel
theorem fewer {F : Fe} (D : Drawn F) {x : Nat} (hx : (x : Int) < F.f_Things) {d e : Int} (d0 : 0 ≤ d) (hd : Rch (wb F d) endB) (e1 : e ≤ F.f_Things - 1) (hmin : ∀ y, 0 ≤ y → y < e → ¬ Rch (wb (wo F x) y) endB) : e ≤ d := by
  obtain ⟨hF, hok⟩ := D.ok
  have ht := D.t
  by_cases c : d ≤ F.f_Things - 1
  · by_cases c2 : d < e
    · have hs := sim (F := wb F d) (G := wb (wo F x) d) (x := x) (wb_in hF d0 (by omega)) (wb_ok hok d0 (by omega)) ht.1 ht.2 (by omega) hx rfl rfl rfl c hd
      have : Rch (wb (wo F x) d) ⟨phi x 0, true⟩ := hs
      rw [phi_zero x (by omega)] at this
      exact absurd this (hmin d d0 c2)
    · omega
  · omega
theorem wo_ok {F : Fe} (D : Drawn F) {x : Nat} (hx : (x : Int) < F.f_Things) : InF (wo F x) ∧ OkF (wo F x) := by
  obtain ⟨hF, hok⟩ := D.ok
  have ht := D.t
  have hb := D.boat
  refine without_ok hF hok ht.1 ht.2 (by omega) hx rfl rfl ?_
  simp only [wo]
  split <;> omega
theorem loop_law {F : Fe} (D : Drawn F) {m : Int} (hm : Least F m) {N : Nat} (hN : 2000 < N) :
    rounds (fun s => laws_FnCovers.b0 N F (cnt m) (m, 0) s.1 s.2) N (0, 0) = some (.go (cntTo (safeN F) ((allF F).toNat + 1) : Int)) := by
  obtain ⟨hF, hok⟩ := D.ok
  have hall := all_range hok.t8
  have ht := D.t
  obtain ⟨m0, m1, m2, m3⟩ := hm
  have hA : u16w ((shlI .u16 1 (u64w F.f_Things)) - 1) = allF F := by
    have := (all_tab F.f_Things.toNat (by omega)).1
    rw [Int.toNat_of_nonneg (by omega)] at this
    exact Option.some.inj (ite_get this).2
  have q := rounds_for (b := fun s => laws_FnCovers.b0 N F (cnt m) (m, 0) s.1 s.2) (e := .go (cntTo (fun i => covers F (i : Int)) ((allF F).toNat + 1) : Int)) (fun k => ((cntTo (fun i => covers F (i : Int)) k : Int), (k : Int))) ((allF F).toNat + 1) 0 N (by omega) (by omega) (by
    intro i _ hi
    have hw : u16w ((i : Int) + 1) = ((i + 1 : Nat) : Int) := by rw [u16w_id (by omega) (by omega)]; omega
    have hle := cntTo_le (fun i => covers F (i : Int)) i
    have hr := andNot_range (x := allF F) (y := (i : Int)) ⟨by omega, by omega⟩
    have s1 : bAndNot .u16 (i : Int) (allF F) = 0 := (sub_iff ⟨by omega, by omega⟩).2 (sub_all hok (by omega) (by omega))
    have s2 : bAndNot .u16 (bAndNot .u16 (allF F) (i : Int)) (allF F) = 0 := (sub_iff ⟨hr.1, by omega⟩).2 fun j hj hjb => by
      rw [bit_andNot _ _ hj] at hjb
      simp only [Bool.and_eq_true] at hjb
      exact hjb.1
    have hcs : safe F.f_Rules (bAndNot .u16 (allF F) (i : Int)) = covers F (i : Int) := rfl
    have hci := m3 (i : Int) (by omega) (by omega)
    simp only [laws_FnCovers.b0, hA, F_eta, if_pos (show (i : Int) ≤ allF F by omega), isCover_eq hF hok (show 40 < N by omega) s1, isSafe_eq hF hok (show 40 < N by omega) s2, Option.bind_some, if_true, hcs, laws_FnCovers.j4, laws_FnCovers.j3, hw, cntTo, count_eq (show 10 ≤ N by omega) (x := (i : Int)) ⟨by omega, by omega⟩, i64w_id (x := (cntTo (fun i => covers F (i : Int)) i : Int) + 1) (by omega) (by omega)]
    by_cases c : covers F (i : Int) = true
    · have := hci c
      simp only [if_pos c, if_neg (show ¬ cnt (i : Int) < cnt m by omega)]
      by_cases c2 : cnt (i : Int) = cnt m
      · simp only [if_pos c2, if_neg (show ¬ (i : Int) < m by omega)]; rfl
      · simp only [if_neg c2]; rfl
    · simp only [if_neg c]; rfl) (by
    simp only [laws_FnCovers.b0, hA]
    rw [if_neg (by omega)])
  have hsame : cntTo (fun i => covers F (i : Int)) ((allF F).toNat + 1) = cntTo (safeN F) ((allF F).toNat + 1) := by
    rw [← cntTo_rev (safeN F)]
    refine cntTo_congr _ fun i hi => ?_
    show safe F.f_Rules (bAndNot .u16 (allF F) (i : Int)) = safe F.f_Rules (((allF F).toNat + 1 - 1 - i : Nat) : Int)
    rw [rest_eq hok (by omega) (by omega)]
    congr 1
    omega
  rw [hsame] at q
  exact q
theorem laws_FnCovers.told (a0 : List (Int)) (h0 : ∀ x ∈ a0, IntKind.min .u8 ≤ x ∧ x ≤ IntKind.max .u8) (l0 : a0.length ≤ 9223372036854775807) (a1 : List (Int)) (h1 : ∀ x ∈ a1, IntKind.min .u8 ≤ x ∧ x ≤ IntKind.max .u8) (l1 : a1.length ≤ 9223372036854775807) : ∃ N, laws_FnCovers.f N a0 a1 = some true := by
  have h0 : ∀ x ∈ a0, 0 ≤ x ∧ x ≤ 255 := h0
  have h1 : ∀ x ∈ a1, 0 ≤ x ∧ x ≤ 255 := h1
  by_cases c0 : (a0.length : Int) > 3000
  · exact ⟨0, by simp only [laws_FnCovers.f, laws_a2Long.f, if_pos c0, Option.bind_some, if_true]⟩
  by_cases c1 : (a1.length : Int) > 3000
  · exact ⟨0, by simp only [laws_FnCovers.f, laws_a2Long.f, if_neg c0, decide_eq_true c1, Option.bind_some, if_true]⟩
  refine ⟨6000, ?_⟩
  obtain ⟨F, eF, D⟩ := drawnF (N := 6000) h0 (by omega) (by decide)
  obtain ⟨hF, hok⟩ := D.ok
  have hall := all_range hok.t8
  have hall5 := all_small hok.t8 D.t.2
  have ht := D.t
  obtain ⟨d, b1, b2, d0, d1, hd, hmin⟩ := least_eq (N := 6000) hF hok (by decide)
  obtain ⟨m, k1, k2, hm⟩ := cover_eq (N := 6000) hF hok (by decide)
  obtain ⟨q1, q2⟩ := boat_bounds D d0 d1 hd hmin hm
  have hc0 := (cnt_at (x := m) ⟨hm.1, by have := hm.2.1; omega⟩).2.2
  have ecm := count_eq (N := 6000) (by decide) (x := m) ⟨hm.1, by have := hm.2.1; omega⟩
  have hloop := loop_law D hm (N := 6000) (by decide)
  have hss := safeSets_eq (N := 6000) hF hok (by decide)
  have w1 : i64w (cnt m + 1) = cnt m + 1 := i64w_id (by omega) (by omega)
  have w2 : i8w d = d := i8w_id (by omega) (by omega)
  have w3 : i8w (d - 1) = d - 1 := i8w_id (by omega) (by omega)
  have w4 : i64w F.f_Things = F.f_Things := i64w_id (by omega) (by omega)
  have g1 : (0 : Int) ≤ u64w F.f_Things := by rw [u64w_id (by omega) (by omega)]; omega
  obtain ⟨sl, sc, s1, s2, s3⟩ := short_eq (N := 6000) (wb_in hF d0 (by omega)) (wb_ok hok d0 d1) (by decide)
  obtain rfl : sc = 0 := s2.2 hd
  have s1 : impl_ShortestCrossing.f 6000 (⟨F.f_Things, d, F.f_Rules⟩ : S_impl_Ferry) = some (sl, 0) := s1
  have hsmall : ∀ z : 0 < d, ∃ l, impl_ShortestCrossing.f 6000 (⟨F.f_Things, d - 1, F.f_Rules⟩ : S_impl_Ferry) = some (l, 6) := by
    intro z
    obtain ⟨tl, tc, t1, t2, t3⟩ := short_eq (N := 6000) (wb_in hF (x := d - 1) (by omega) (by omega)) (wb_ok hok (x := d - 1) (by omega) (by omega)) (by decide)
    have hno := hmin (d - 1) (by omega) (by omega)
    rcases t3 with rfl | rfl
    · exact absurd (t2.1 rfl) hno
    · exact ⟨tl, t1⟩
  obtain ⟨x, ex, x0, x1⟩ := at_in (N := 6000) h1 0 F.f_Things (by omega)
  have ex : laws_a2At.f 6000 a1 0 F.f_Things = some x := ex
  obtain ⟨X, rfl⟩ := Int.eq_ofNat_of_zero_le x0
  obtain ⟨gI, gO⟩ := wo_ok D x1
  obtain ⟨e, _, e2, e0, eT, eR, emin⟩ := least_eq (N := 6000) gI gO (by decide)
  have hfew := fewer D x1 d0 hd eT emin
  obtain ⟨t, t1, t2⟩ := text_ok (m := m) ⟨hm.1, by have := hm.2.1; omega⟩
  have hsame := same_self (N := 6000) (G := wo F X) gO.len (by decide)
  have wsp := without_spec (N := 6000) D (by decide) x1
  have wim := without_impl (N := 6000) D (by decide) x1
  have hj2 : laws_FnCovers.j2 6000 a1 F (m, 0) (d, 0) = some true := by
    simp only [laws_FnCovers.j2, F_eta, w4, ex, Option.bind_some, wsp, wim, e2, t1, t2, if_true, hsame, if_pos hfew]
    simp
  have ha0 : laws_FnCovers.a0 6000 F (d, 0) a1 (m, 0) (cntTo (safeN F) ((allF F).toNat + 1) : Int) = some true := by
    simp only [laws_FnCovers.a0, F_eta, hss, Option.bind_some, if_true, w2, s1, w3]
    by_cases z : d > 0
    · obtain ⟨l, hl⟩ := hsmall z
      simp only [if_pos z, hl, Option.bind_some, if_true, hj2]
    · simp only [if_neg z, hj2]
  simp only [laws_FnCovers.f, laws_a2Long.f, if_neg c0, decide_eq_false c1, Option.bind_some, Bool.false_eq_true, if_false, eF, F_eta, b1, b2, k1, k2, ecm, if_true, w1, if_neg (show ¬ d < cnt m by omega), if_neg (show ¬ d > cnt m + 1 by omega), if_pos g1, hloop, Ex.fin, ha0]
end Go.Proofs.YtcaokmnajnfpiaaX
