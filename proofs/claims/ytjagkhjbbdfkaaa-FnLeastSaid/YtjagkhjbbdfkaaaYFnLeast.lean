/- The law of the least weights, plainly. -/
import Derived.Test.YtjagkhjbbdfkaaaYM
namespace Go.Proofs.YtjagkhjbbdfkaaaX
open Go
set_option linter.unusedVariables false
set_option linter.unusedSimpArgs false
theorem placed_same {N : Nat} {l : List Int} (h : l.length ≤ 5000) (hN : l.length < N) : spec_A2Placed.f N l l = some true := by
  unfold spec_A2Placed.f
  rw [if_pos rfl, rounds_same l l rfl hN ?_ ?_]
  · simp [Ex.fin, spec_A2Placed.a0]
  · intro i hi
    have g1 : (i : Int) < l.length := by omega
    have g2 : (0 : Int) ≤ i := by omega
    simp only [spec_A2Placed.b0, g1, g2, and_self, if_true, i64w_succ hi (show l.length ≤ 9223372036854775807 by omega)]
  · simp only [spec_A2Placed.b0]
    rw [if_neg (by omega)]
theorem weights_same {N : Nat} {l : List Int} (h : l.length ≤ 5000) (hN : l.length < N) : spec_A2SameWeights.f N l l = some true := by
  unfold spec_A2SameWeights.f
  rw [if_pos rfl, rounds_same l l rfl hN ?_ ?_]
  · simp [Ex.fin, spec_A2SameWeights.a0]
  · intro i hi
    have g1 : (i : Int) < l.length := by omega
    have g2 : (0 : Int) ≤ i := by omega
    simp only [spec_A2SameWeights.b0, g1, g2, and_self, if_true, i64w_succ hi (show l.length ≤ 9223372036854775807 by omega)]
  · simp only [spec_A2SameWeights.b0]
    rw [if_neg (by omega)]
theorem at_in {N : Nat} {a : List Int} (h : ∀ x ∈ a, 0 ≤ x ∧ x ≤ 255) (i : Nat) (n : Int) (hn : 1 ≤ n) : ∃ v, laws_a2At.f N a (i : Int) n = some v ∧ 0 ≤ v ∧ v < n := by
  unfold laws_a2At.f
  by_cases c : (i : Int) ≥ (a.length : Int)
  · rw [if_pos c]; exact ⟨0, rfl, by omega, by omega⟩
  · have hi : i < a.length := by omega
    rw [if_neg c, if_neg (by omega), if_pos ⟨by omega, by omega⟩, if_pos (by omega), rdL_nat hi]
    have := h _ (List.getElem_mem hi)
    rw [i64w_id (by omega) (by omega)]
    exact ⟨_, rfl, Int.tmod_nonneg _ this.1, Int.tmod_lt_of_pos _ (by omega)⟩
theorem need_impl {N : Nat} (hN : 5000 < N) {w : List Int} {b : Bool} {most : Int} (h : OkW w) (hv : impl_ValidWeights.f N w = some true) (m1 : 1 ≤ most) (m2 : most ≤ 2000) (hf : full b w most) (hl : ∀ i, i < w.length → w.length = 1 ∨ ¬ full b (less w i) most) {Q : Int × Int → Prop} (hQ : Q (0, 6)) : impl_NeedlessWeight.f N w most b Q := by
  have h16 := h.l16
  have hcl : slices_Clone_impl_Weights_int16.f N w = some w := by
    unfold slices_Clone_impl_Weights_int16.f
    rw [if_pos (by simp; omega)]
    rfl
  have main : ∀ (M k : Nat) (Kf : Ex (Int × Int) Unit → Prop), Kf (.go ()) → k ≤ w.length → w.length - k < M → roundsD (fun s => impl_NeedlessWeight.b0 N w b most s) M (k : Int) Kf := by
    intro M
    induction M with
    | zero => intro k Kf _ _ g; exact absurd g (Nat.not_lt_zero _)
    | succ M ih =>
      intro k Kf hK hk hM
      show impl_NeedlessWeight.b0 N w b most (k : Int) _
      unfold impl_NeedlessWeight.b0
      by_cases c : k < w.length
      · have e1 : i64w ((k : Int) + 1) = ((k + 1 : Nat) : Int) := i64w_id (by omega) (by omega)
        have edel : delL w (k : Int) ((k + 1 : Nat) : Int) = less w k := by simp only [delL, less, Int.toNat_natCast]
        have elen := less_len c
        rw [if_pos (by omega)]
        refine ⟨w, hcl, ?_⟩
        rw [e1, if_pos ⟨by omega, by omega, by omega, by omega⟩, edel]
        by_cases c1 : 1 < w.length
        · rw [if_pos (by omega)]
          refine upTo_all (N := N) (less_ok h c c1) hN b fun r hr => ?_
          rw [if_neg (fun z => ((hl k c).resolve_left (by omega)) ((hr most m1).1 z))]
          unfold impl_NeedlessWeight.j2
          rw [e1]
          exact ih (k + 1) Kf hK (by omega) (by omega)
        · rw [if_neg (by omega)]
          unfold impl_NeedlessWeight.j2
          rw [e1]
          exact ih (k + 1) Kf hK (by omega) (by omega)
      · rw [if_neg (by omega)]
        exact hK
  unfold impl_NeedlessWeight.f
  refine ⟨_, hv, ?_⟩
  rw [if_pos rfl]
  refine ⟨true, by unfold impl_within.f; rw [if_pos (by omega)]; simp; omega, ?_⟩
  rw [if_pos rfl]
  refine upTo_all (N := N) h hN b fun r hr => ?_
  rw [if_neg (by have := (hr most m1).2 hf; omega)]
  exact main N 0 (Ex.finD (fun s => impl_NeedlessWeight.a0 N Q) Q) hQ (Nat.zero_le _) (by omega)
theorem pow_range {base : Int} (hb : base = 2 ∨ base = 3) {k : Nat} (hk : k ≤ 16) : 1 ≤ base ^ k ∧ base ^ k ≤ 43046721 := by
  have a : ∀ k : Fin 17, (1 : Int) ≤ 2 ^ k.val ∧ (2 : Int) ^ k.val ≤ 43046721 := by decide
  have b : ∀ k : Fin 17, (1 : Int) ≤ 3 ^ k.val ∧ (3 : Int) ^ k.val ≤ 43046721 := by decide
  rcases hb with rfl | rfl
  · exact a ⟨k, by omega⟩
  · exact b ⟨k, by omega⟩
theorem pow_walk {N : Nat} {r : List Int × Int} {base : Int} (hb : base = 2 ∨ base = 3) (hl : r.1.length ≤ 16) {Kf : Ex Bool Int → Prop} (hK : Kf (.go (base ^ r.1.length))) (hN : 16 < N) : roundsD (fun s => laws_FnLeast.b1 N r base s.1 s.2) N (1, 0) Kf := by
  have main : ∀ (M k : Nat), k ≤ r.1.length → r.1.length - k < M → roundsD (fun s => laws_FnLeast.b1 N r base s.1 s.2) M (base ^ k, (k : Int)) Kf := by
    intro M
    induction M with
    | zero => intro k _ g; exact absurd g (Nat.not_lt_zero _)
    | succ M ih =>
      intro k hk hM
      show laws_FnLeast.b1 N r base (base ^ k) (k : Int) _
      unfold laws_FnLeast.b1
      by_cases c : k < r.1.length
      · have p := pow_range hb (k := k + 1) (by omega)
        have ep : base ^ k * base = base ^ (k + 1) := (Int.pow_succ base k).symm
        rw [if_pos (by omega), i64w_id (x := (k : Int) + 1) (by omega) (by omega), ep, i64w_id (by omega) (by omega)]
        exact ih (k + 1) (by omega) (by omega)
      · have : k = r.1.length := by omega
        rw [if_neg (by omega)]
        subst this
        exact hK
  have := main N 0 (Nat.zero_le _) (by omega)
  rw [Int.pow_zero] at this
  exact this
theorem neg_walk {N : Nat} {r : List Int × Int} (hl : r.1.length ≤ 30) {Kf : Ex Bool (List Int) → Prop} (hK : Kf (.go (r.1.map fun x => i8w (0 - x)))) (hN : 30 < N) : roundsD (fun s => laws_FnLeast.b5 N r s.1 s.2) N (([] : List Int), 0) Kf := by
  have main : ∀ (M k : Nat), k ≤ r.1.length → r.1.length - k < M → roundsD (fun s => laws_FnLeast.b5 N r s.1 s.2) M ((r.1.take k).map fun x => i8w (0 - x), (k : Int)) Kf := by
    intro M
    induction M with
    | zero => intro k _ g; exact absurd g (Nat.not_lt_zero _)
    | succ M ih =>
      intro k hk hM
      show laws_FnLeast.b5 N r ((r.1.take k).map fun x => i8w (0 - x)) (k : Int) _
      unfold laws_FnLeast.b5
      by_cases c : k < r.1.length
      · rw [if_pos (by omega), if_pos ⟨by omega, by omega⟩, if_pos (by simp; omega), i64w_id (x := (k : Int) + 1) (by omega) (by omega), rdL_nat c]
        have e : ((r.1.take k).map fun x => i8w (0 - x)) ++ [i8w (0 - r.1[k])] = (r.1.take (k + 1)).map fun x => i8w (0 - x) := by
          rw [List.take_succ_eq_append_getElem c, List.map_append]; rfl
        rw [e]
        exact ih (k + 1) (by omega) (by omega)
      · have : k = r.1.length := by omega
        rw [if_neg (by omega)]
        subst this
        rw [List.take_length]
        exact hK
  exact main N 0 (Nat.zero_le _) (by omega)
theorem digits_law {c : Int} (hc : digOk c = true) {a : List Int} {base bound power : Int} (ha : laws_a2At.f 6000 a 1 256 = some c) (c0 : 0 ≤ c) (c1 : c < 256) (h1 : power > bound) (hb0 : base ≠ 0) (h2 : power.tdiv base ≤ bound) (h3 : -9223372036854775808 ≤ power.tdiv base) (h4 : power.tdiv base ≤ 9223372036854775807) : laws_FnLeast.a1 6000 bound base a power (fun r => r = true) := by
  have en : i64w (7 * c) = 7 * c := i64w_id (by omega) (by omega)
  have en2 : i64w (7 * c - 900) = 7 * c - 900 := i64w_id (by omega) (by omega)
  have en3 : i64w (0 - (7 * c - 900)) = 0 - (7 * c - 900) := i64w_id (by omega) (by omega)
  unfold digOk at hc
  cases hs : spec_BalancedDigits.f 6000 (7 * c - 900) with
  | none => rw [hs] at hc; cases hc
  | some p =>
    obtain ⟨l, q⟩ := p
    rw [hs] at hc
    split at hc
    · rename_i l' hh
      cases hh
      simp only [Bool.and_eq_true, beq_iff_eq, Bool.or_eq_true, bne_iff_ne, decide_eq_true_eq] at hc
      obtain ⟨⟨⟨⟨⟨k1, k2⟩, k3⟩, k4⟩, k5⟩, k6⟩ := hc
      have j4 : laws_FnLeast.j4 6000 (l, 0) c (fun r => r = true) := by
        unfold laws_FnLeast.j4
        refine neg_walk (r := (l, 0)) k6 ?_ (by decide)
        show laws_FnLeast.a5 6000 c (l.map fun x => i8w (0 - x)) _
        unfold laws_FnLeast.a5
        rw [en, en2, en3]
        refine ⟨_, k5, ?_⟩
        rw [if_pos rfl]
        exact ⟨_, placed_same (by simp; omega) (by simp; omega), rfl⟩
      have j3 : laws_FnLeast.j3 6000 (l, 0) c (fun r => r = true) := by
        unfold laws_FnLeast.j3
        by_cases g : ((l, (0 : Int)).1.length : Int) > 0
        · have g' : (l.length : Int) > 0 := g
          have e : i64w ((l.length : Int) - 1) = (l.length : Int) - 1 := i64w_id (by omega) (by omega)
          rw [if_pos g]
          show (if (0 : Int) ≤ i64w ((l.length : Int) - 1) ∧ i64w ((l.length : Int) - 1) < (l.length : Int) then (if rdL l (i64w ((l.length : Int) - 1)) 0 = 0 then _ else _) else _)
          rw [e, if_pos ⟨by omega, by omega⟩, if_neg (k4.resolve_left (by omega))]
          exact j4
        · rw [if_neg g]
          exact j4
      unfold laws_FnLeast.a1
      rw [if_neg (by omega), if_pos hb0, i64w_id h3 h4, if_neg (by omega)]
      refine ⟨c, ha, ?_⟩
      rw [en, en2]
      refine ⟨_, k1, _, hs, _, k2, ?_⟩
      rw [if_pos rfl, if_pos rfl]
      refine ⟨_, placed_same (by show l.length ≤ 5000; omega) (by show l.length < 6000; omega), ?_⟩
      rw [if_pos rfl, if_pos rfl, if_pos rfl]
      by_cases g : 7 * c - 900 = 0
      · rw [if_pos g, if_pos (by show (l.length : Int) = 0; have := k3.resolve_left (fun z => z g); omega)]
        exact j3
      · rw [if_neg g]
        exact j3
    · cases hc
theorem laws_FnLeast.told (a0 : List (Int)) (h0 : ∀ x ∈ a0, IntKind.min .u8 ≤ x ∧ x ≤ IntKind.max .u8) (l0 : a0.length ≤ 9223372036854775807) (a1 : List (Int)) (h1 : ∀ x ∈ a1, IntKind.min .u8 ≤ x ∧ x ≤ IntKind.max .u8) (l1 : a1.length ≤ 9223372036854775807) : ∃ N, laws_FnLeast.f N a0 a1 (fun r => r = true) := by
  refine ⟨6000, ?_⟩
  have hb0 : ∀ x ∈ a0, 0 ≤ x ∧ x ≤ 255 := h0
  have hb1 : ∀ x ∈ a1, 0 ≤ x ∧ x ≤ 255 := h1
  obtain ⟨c, ec, c0, c1⟩ : ∃ v, laws_a2At.f 6000 a0 0 120 = some v ∧ 0 ≤ v ∧ v < 120 := at_in hb0 0 120 (by decide)
  obtain ⟨d, ed, d0, d1⟩ : ∃ v, laws_a2At.f 6000 a1 0 2 = some v ∧ 0 ≤ v ∧ v < 2 := at_in hb1 0 2 (by decide)
  obtain ⟨g, eg, g0, g1⟩ : ∃ v, laws_a2At.f 6000 a0 1 256 = some v ∧ 0 ≤ v ∧ v < 256 := at_in hb0 1 256 (by decide)
  have hdig : digOk g = true := by
    have := dig_all ⟨g.toNat, by omega⟩
    rwa [show ((g.toNat : Nat) : Int) = g by omega] at this
  obtain ⟨n, rfl⟩ := Int.eq_ofNat_of_zero_le c0
  have hn : n < 120 := by omega
  have hle := least_all ⟨n, hn⟩ (d == 1)
  have em : i64w (1 + (n : Int)) = 1 + (n : Int) := i64w_id (by omega) (by omega)
  have em2 : i64w (2 * (1 + (n : Int))) = 2 * (1 + (n : Int)) := i64w_id (by omega) (by omega)
  unfold laws_FnLeast.f
  obtain ⟨q, eq⟩ : ∃ q, laws_a2Long.f 6000 a0 a1 = some q := by
    unfold laws_a2Long.f
    split
    · exact ⟨_, rfl⟩
    · exact ⟨_, rfl⟩
  refine ⟨q, eq, ?_⟩
  cases q with
  | true => rw [if_pos rfl]
  | false =>
    rw [if_neg Bool.false_ne_true]
    refine ⟨_, ec, _, ed, ?_⟩
    rw [em, em2]
    generalize hbd : (d == 1) = b at hle
    simp only [leastOk] at hle
    cases hs : spec_LeastWeights.f 6000 (1 + (n : Int)) b with
    | none => rw [hs] at hle; cases hle
    | some p =>
      obtain ⟨w, z⟩ := p
      rw [hs] at hle
      split at hle
      · rename_i w' hh
        cases hh
        simp only [Bool.and_eq_true, beq_iff_eq, decide_eq_true_eq, List.all_eq_true, Bool.or_eq_true, Bool.not_eq_true', List.mem_range] at hle
        obtain ⟨⟨⟨⟨⟨⟨⟨⟨⟨⟨k1, k2⟩, k3⟩, k4⟩, k5⟩, k6⟩, k7⟩, k8⟩, k9⟩, k10⟩, k11⟩ := hle
        have ho : OkW w := ⟨k2, k3, k4, by omega⟩
        have ecast : ((1 + n : Nat) : Int) = 1 + (n : Int) := by omega
        have hf : full b w (1 + (n : Int)) := by rw [← ecast]; exact (fullB_iff k4 (by omega)).1 k8
        have hl : ∀ i, i < w.length → w.length = 1 ∨ ¬ full b (less w i) (1 + (n : Int)) := by
          intro i hi
          rcases k9 i hi with g | g
          · exact .inl g
          · by_cases c1 : w.length = 1
            · exact .inl c1
            · right
              have hoi := less_ok ho hi (by omega)
              have hsi : (less w i).sum ≤ 128 := by
                have h0 := ho.pos _ (List.getElem_mem hi)
                have e3 : w.sum = (w.take i).sum + (w.drop i).sum := by rw [← List.sum_append, List.take_append_drop]
                rw [drop_at hi, List.sum_cons] at e3
                have e4 : (less w i).sum = (w.take i).sum + (w.drop (i + 1)).sum := by simp [less, List.sum_append]
                omega
              rw [← ecast]
              intro z
              rw [(fullB_iff hoi.pos hsi).2 z] at g
              cases g
        refine ⟨_, k1, _, rfl, ?_⟩
        unfold impl_AllUpTo.f
        refine ⟨_, k6, ?_⟩
        rw [if_pos rfl]
        refine upTo_all (N := 6000) ho (by decide) b fun r hr => ?_
        have r1 := (hr (1 + (n : Int)) (by omega)).2 hf
        have r2 : ¬ r ≥ 1 + (n : Int) + 1 := by
          intro z
          have := (hr (1 + (n : Int) + 1) (by omega)).1 z (n + 2) (by omega) (by omega)
          cases e : bd (loOf b) (LOf b) w 0 ((n + 2 : Nat) : Int) with
          | none => exact this e
          | some v =>
            have e' : bal (loOf b) (LOf b) w ((n + 2 : Nat) : Int) = some v := e
            have := bal_range (sdOf b) k4 e'
            omega
        have hr' : r = 1 + (n : Int) := by omega
        refine need_impl (by decide) ho k6 (by omega) (by omega) hf hl ?_
        refine ⟨_, k7, ?_⟩
        rw [if_pos rfl, if_pos rfl]
        refine ⟨_, weights_same (by show w.length ≤ 5000; omega) (by show w.length < 6000; omega), ?_⟩
        rw [if_pos rfl, if_pos rfl, if_pos hr', if_pos rfl, if_pos rfl, if_pos rfl]
        by_cases cd : d = 1
        · have hb : b = true := by rw [← hbd]; simp [cd]
          subst hb
          rw [if_pos cd]
          unfold laws_FnLeast.j0
          have pr := pow_range (base := 3) (.inr rfl) (k := w.length) k3
          refine pow_walk (r := (w, 0)) (.inr rfl) k3 ?_ (by decide)
          have e3 : ((3 : Int) ^ w.length).tdiv 3 ≤ 2 * (1 + (n : Int)) := by simpa using k11
          show laws_FnLeast.a1 6000 (2 * (1 + (n : Int))) 3 a0 ((3 : Int) ^ w.length) _
          refine digits_law hdig eg g0 g1 (by simpa using k10) (by decide) e3 ?_ (by omega)
          have := Int.tdiv_nonneg (a := (3 : Int) ^ w.length) (b := 3) (by omega) (by decide)
          omega
        · have hb : b = false := by rw [← hbd]; simp [cd]
          subst hb
          rw [if_neg cd]
          unfold laws_FnLeast.j0
          have pr := pow_range (base := 2) (.inl rfl) (k := w.length) k3
          refine pow_walk (r := (w, 0)) (.inl rfl) k3 ?_ (by decide)
          have e3 : ((2 : Int) ^ w.length).tdiv 2 ≤ 1 + (n : Int) := by simpa using k11
          show laws_FnLeast.a1 6000 (1 + (n : Int)) 2 a0 ((2 : Int) ^ w.length) _
          refine digits_law hdig eg g0 g1 (by simpa using k10) (by decide) e3 ?_ (by omega)
          have := Int.tdiv_nonneg (a := (2 : Int) ^ w.length) (b := 2) (by omega) (by decide)
          omega
      · cases hle
end Go.Proofs.YtjagkhjbbdfkaaaX
