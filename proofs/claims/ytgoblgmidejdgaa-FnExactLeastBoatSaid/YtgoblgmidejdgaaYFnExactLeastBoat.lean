/- FnExactLeastBoat is true on every input: the plain side. -/
import Derived.Test.YtgoblgmidejdgaaYO
namespace Go.Proofs.YtgoblgmidejdgaaX
open Go
set_option linter.unusedVariables false
set_option linter.unusedSimpArgs false
/-- The ferry with another boat. -/
def wb (F : Fe) (x : Int) : Fe := ⟨F.f_Things, x, F.f_Rules⟩
theorem wb_ok {F : Fe} (h : OkF F) {x : Int} (h0 : 0 ≤ x) (h1 : x ≤ F.f_Things) : OkF (wb F x) := ⟨h.t8, ⟨h0, h1⟩, h.len, h.rules⟩
theorem wb_in {F : Fe} (hF : InF F) {x : Int} (h0 : 0 ≤ x) (h1 : x ≤ 127) : InF (wb F x) := ⟨hF.1, ⟨by show -128 ≤ x; omega, h1⟩, hF.2.2⟩
/-- The greatest boat takes all at once. -/
theorem all_tabs : ∀ t : Nat, t < 9 → 1 ≤ t → bAndNot .u16 ((2 : Int) ^ t - 1) ((2 : Int) ^ t - 1) = 0 ∧ cnt ((2 : Int) ^ t - 1) = (t : Int) ∧ bXor .u16 ((2 : Int) ^ t - 1) ((2 : Int) ^ t - 1) = 0 ∧ bAndNot .u16 0 ((2 : Int) ^ t - 1) = 0 := by decide +kernel
theorem cnt_zero : cnt 0 = 0 := by decide +kernel
theorem great {F : Fe} (hF : InF F) (h : OkF F) : codeF (wb F F.f_Things) ⟨allF F, false⟩ (allF F) = 0 := by
  have ht := h.t8
  unfold T8 at ht
  obtain ⟨a1, a2, a3, a4⟩ := all_tabs F.f_Things.toNat (by omega) (by omega)
  rw [Int.toNat_of_nonneg (by omega)] at a2
  have hall := all_range h.t8
  have e : (2 : Int) ^ F.f_Things.toNat - 1 = allF F := rfl
  rw [e] at a1 a2 a3 a4
  have hsafe : safe F.f_Rules 0 = true := by
    unfold safe
    rw [Bool.not_eq_true', List.any_eq_false]
    intro r hr hz
    have hb := h.rules
    rw [List.any_eq_false] at hb
    have := hb r hr
    unfold bad at this
    simp only [Bool.or_eq_true, Bool.not_eq_true', decide_eq_true_eq, not_or] at this
    have hz := eq_of_beq hz
    have hr0 := andNot_le (hF.2.2 r hr) ⟨Int.le_refl 0, by decide⟩ hz
    have hr1 := (hF.2.2 r hr).1
    have : r = 0 := by omega
    subst this
    have := cnt_zero
    omega
  have hbank : bankF (wb F F.f_Things) (crossedB ⟨allF F, false⟩ (allF F)) = true := by
    unfold bankF crossedB alone
    show (bAndNot .u16 (bXor .u16 (allF F) (allF F)) (allF F) == 0 && safe F.f_Rules (if (!false) = true then bXor .u16 (allF F) (allF F) else _)) = true
    rw [a3, a4]
    simp [hsafe]
  unfold codeF here
  show (if bAndNot .u16 (allF F) (if false = true then _ else allF F) = 0 then (if cnt (allF F) > F.f_Things then 3 else if bankF (wb F F.f_Things) (crossedB ⟨allF F, false⟩ (allF F)) = true then 0 else 4) else 2) = (0 : Int)
  rw [if_neg (show ¬ (false = true) by decide), if_pos a1, if_neg (by rw [a2]; omega), if_pos hbank]
theorem Least_same {N : Nat} {F : Fe} (hF : InF F) (hN : 3000 < N) : ∃ r, spec_LeastBoat.f N F = some r ∧ impl_LeastBoat.f N F = some r := by
  simp only [spec_LeastBoat.f, impl_LeastBoat.f, F_eta, okF_spec hF (show 40 < N by omega), okF_impl hF (show 40 < N by omega), Option.bind_some]
  by_cases hk : okF F = true
  · have h := okF_iff.1 hk
    have ht := h.t8
    unfold T8 at ht
    have hall := all_range h.t8
    simp only [if_pos hk]
    obtain ⟨e, e', h1, h2, h3⟩ := rounds_both (b := fun s => spec_LeastBoat.b0 N F s) (b' := fun s => impl_LeastBoat.b0 N F s) (fun s s' => s = s' ∧ 0 ≤ s ∧ s ≤ F.f_Things) (fun s => (20 - s).toNat)
      (fun e e' => ∃ r, e = .ret r ∧ e' = .ret r) (by
      rintro x x' ⟨rfl, r1, r2⟩
      have hw := wb_ok h r1 r2
      have hwin := wb_in hF r1 (by omega)
      have hokw : okF (wb F x) = true := okF_iff.2 hw
      obtain ⟨tb, wy, fr, ba, qu, out, met, e1, e2, hR, ⟨ext, hext⟩, hcl⟩ := search_both hw (show 2000 < N by omega)
      obtain ⟨l, c, q1, q2, q3, q4⟩ := Short_ok hw hN e1 e2 hR (by rw [okF_spec hwin (by omega), hokw]) (by rw [okF_impl hwin (by omega), hokw])
      have hlt := hR.lt
      have hA : allF (wb F x) = allF F := rfl
      have hlast : spec_l05Last.f N (wb F x) = some (allF F + 1) := by
        simp only [spec_l05Last.f, F_eta, spec_all N hw.t8, Option.bind_some, hA, i64w_id (x := allF F) (by omega) (by omega), i64w_id (x := allF F + 1) (by omega) (by omega)]
      have hgl : (0 : Int) ≤ allF F + 1 ∧ allF F + 1 < (tb.length : Int) := ⟨by omega, by have := hlt.1; unfold nB at this; rw [hA] at this; omega⟩
      have htell := (hR.tells hw.t8 (end_near hw.t8)).trans (not_congr (hR.met endB))
      rw [num_end, hA] at htell
      have g1 : x < i8w (F.f_Things + 1) := by rw [i8w_id (by omega) (by omega)]; omega
      have e1' : spec_l05Find.f N (⟨F.f_Things, x, F.f_Rules⟩ : S_laws_Ferry) = some ⟨tb, wy, fr, ba⟩ := e1
      have q2' : impl_ShortestCrossing.f N (⟨F.f_Things, x, F.f_Rules⟩ : S_laws_Ferry) = some (l, c) := q2
      have hlast' : spec_l05Last.f N (⟨F.f_Things, x, F.f_Rules⟩ : S_laws_Ferry) = some (allF F + 1) := hlast
      simp only [spec_LeastBoat.b0, impl_LeastBoat.b0, if_pos g1, e1', q2', hlast', Option.bind_some, if_pos hgl]
      by_cases hin : endB ∈ out.map (·.f_bank)
      · left
        have d1 : rdL tb (allF F + 1) 0 ≥ 0 := by
          have := not_congr htell
          have h5 := this.2 (fun x => x hin)
          omega
        rw [if_pos d1, if_pos (q4.2 hin)]
        exact ⟨_, _, rfl, rfl, _, rfl, rfl⟩
      · right
        have d1 : ¬ rdL tb (allF F + 1) 0 ≥ 0 := by have := htell.2 hin; omega
        rw [if_neg d1, if_neg (fun x => hin (q4.1 x)), i8w_id (by omega) (by omega)]
        have hlt2 : x < F.f_Things := by
          by_cases ex : x = F.f_Things
          · exfalso
            subst ex
            have hg := great hF h
            have hmem : allF F ∈ loadsF (wb F F.f_Things) ⟨allF F, false⟩ := by
              unfold loadsF loadsTo
              rw [List.mem_filter]
              refine ⟨List.mem_map.2 ⟨(allF F).toNat, List.mem_range.2 (by rw [hA]; omega), by omega⟩, by rw [hg]; rfl⟩
            have hpos : ((0 : Nat) : Int) < (out.length : Int) := by rw [hext]; simp
            have e0 : rdL out ((0 : Nat) : Int) zc = c0F (wb F F.f_Things) := by rw [hext]; rfl
            have := hcl 0 hpos (allF F) (by rw [e0]; exact hmem)
            rw [e0] at this
            have eb : crossedB (c0F (wb F F.f_Things)).f_bank (allF F) = endB := by
              have ht3 := (all_tabs F.f_Things.toNat (by omega) (by omega)).2.2.1
              show (⟨bXor .u16 (allF F) (allF F), true⟩ : Bk) = ⟨0, true⟩
              have : bXor .u16 (allF F) (allF F) = 0 := ht3
              rw [this]
            rw [eb] at this
            exact hin this
          · omega
        exact ⟨_, _, rfl, rfl, ⟨rfl, by omega, by omega⟩, by omega⟩) N N 0 0 ⟨rfl, Int.le_refl _, by omega⟩ (by omega) (by omega)
    obtain ⟨r, rfl, rfl⟩ := h3
    rw [h1, h2]
    exact ⟨r, rfl, rfl⟩
  · simp only [if_neg hk]
    exact ⟨_, rfl, rfl⟩
theorem laws_FnExactLeastBoat.told (a0 : S_laws_Ferry) (h0_0 : IntKind.min .i8 ≤ a0.f_Things ∧ a0.f_Things ≤ IntKind.max .i8) (h0_1 : IntKind.min .i8 ≤ a0.f_Boat ∧ a0.f_Boat ≤ IntKind.max .i8) (h0_2 : ∀ x ∈ a0.f_Rules, IntKind.min .u16 ≤ x ∧ x ≤ IntKind.max .u16) (l0_2 : a0.f_Rules.length ≤ 9223372036854775807) : ∃ N, laws_FnExactLeastBoat.f N a0 = some true := by
  rw [min_i8, max_i8] at h0_0 h0_1
  rw [min_u16, max_u16] at h0_2
  have hF : InF a0 := ⟨h0_0, h0_1, h0_2⟩
  by_cases h' : a0.f_Rules.length > 1048576
  · exact ⟨0, by simp only [laws_FnExactLeastBoat.f, F_eta, szFerry_neg h' l0_2, Option.bind_some]; rfl⟩
  obtain ⟨N, hN⟩ : ∃ N, N = a0.f_Rules.length + 4000 := ⟨_, rfl⟩
  refine ⟨N, ?_⟩
  have hl : a0.f_Rules.length ≤ 1048576 := by omega
  obtain ⟨r, e1, e2⟩ := Least_same (N := N) hF (by omega)
  simp only [laws_FnExactLeastBoat.f, F_eta, szFerry_pos hl, Option.bind_some, if_neg (show ¬ (1048576 - (a0.f_Rules.length : Int)) < 0 by omega), toFerry_eq (N := N) hl (by omega), e1, e2, if_true, eqFerry_same (N := N) hl (by omega)]
end Go.Proofs.YtgoblgmidejdgaaX
