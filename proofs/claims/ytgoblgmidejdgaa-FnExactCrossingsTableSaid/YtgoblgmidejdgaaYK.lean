/- Ferries, plainly: numbers of banks, and tables as proofs. -/
import Derived.Test.YtgoblgmidejdgaaYH
namespace Go.Proofs.YtgoblgmidejdgaaX
open Go
set_option linter.unusedVariables false
set_option linter.unusedSimpArgs false
def numF (F : Fe) (b : Bk) : Int := if b.f_Far = true then b.f_Near + allF F + 1 else b.f_Near
def atF (F : Fe) (i : Int) : Bk := ⟨i % (allF F + 1), decide (i ≥ allF F + 1)⟩
theorem index_spec {N : Nat} {F : Fe} (h : T8 F) {b : Bk} (hb : 0 ≤ b.f_Near ∧ b.f_Near ≤ 255) : spec_l05Index.f N F b = some (numF F b) := by
  have hall := all_range h
  simp only [spec_l05Index.f, F_eta, spec_all N h, Option.bind_some, numF]
  rw [i64w_id (x := b.f_Near) (by omega) (by omega), i64w_id (x := allF F) (by omega) (by omega), i64w_id (x := b.f_Near + allF F) (by omega) (by omega), i64w_id (by omega) (by omega)]
  cases b.f_Far <;> rfl
theorem shl_tab : ∀ t : Nat, t < 9 → shlI .i64 1 (t : Int) = (2 : Int) ^ t ∧ shlI .i64 2 (t : Int) = 2 * (2 : Int) ^ t := by decide +kernel
theorem shl_one {F : Fe} (h : T8 F) : shlI .i64 1 F.f_Things = allF F + 1 ∧ shlI .i64 2 F.f_Things = 2 * (allF F + 1) := by
  have := shl_tab F.f_Things.toNat (by have := h.2; omega)
  rw [Int.toNat_of_nonneg (by have := h.1; omega)] at this
  unfold allF
  exact ⟨by rw [this.1]; omega, by rw [this.2]; omega⟩
theorem number_impl {N : Nat} {F : Fe} (h : T8 F) {b : Bk} (hb : 0 ≤ b.f_Near ∧ b.f_Near ≤ 255) : _impl_Ferry_number.f N F b = some (numF F b) := by
  have hall := all_range h
  have h0 := h.1
  simp only [_impl_Ferry_number.f, (shl_one h).1, if_pos (show (0 : Int) ≤ F.f_Things by omega), numF]
  rw [i64w_id (x := b.f_Near) (by omega) (by omega), i64w_id (by omega) (by omega)]
  cases b.f_Far
  · rfl
  · simp only [if_true]
    rw [show b.f_Near + (allF F + 1) = b.f_Near + allF F + 1 by omega]
theorem at_tab : ∀ t : Nat, t < 9 → ∀ i : Nat, i < 512 → i < 2 * 2 ^ t → u16w (Int.tmod (i : Int) ((2 : Int) ^ t)) = (i : Int) % ((2 : Int) ^ t) ∧ bAnd .u16 (u16w (i : Int)) ((2 : Int) ^ t - 1) = (i : Int) % ((2 : Int) ^ t) ∧ (shrI .i64 (i : Int) (t : Int) == 1) = decide ((i : Int) ≥ (2 : Int) ^ t) := by decide +kernel
theorem at_both {F : Fe} (h : T8 F) {i : Nat} (hi : (i : Int) < 2 * (allF F + 1)) : u16w (Int.tmod (i : Int) (allF F + 1)) = (i : Int) % (allF F + 1) ∧ bAnd .u16 (u16w (i : Int)) (allF F) = (i : Int) % (allF F + 1) ∧ (shrI .i64 (i : Int) F.f_Things == 1) = decide ((i : Int) ≥ allF F + 1) := by
  have hall := all_range h
  have e : (2 : Int) ^ F.f_Things.toNat = allF F + 1 := by unfold allF; omega
  have e2 : ((2 ^ F.f_Things.toNat : Nat) : Int) = allF F + 1 := by rw [← e]; simp
  have := at_tab F.f_Things.toNat (by have := h.2; omega) i (by omega) (by omega)
  rw [Int.toNat_of_nonneg (by have := h.1; omega), e, show allF F + 1 - 1 = allF F by omega] at this
  exact this
theorem at_spec {N : Nat} {F : Fe} (h : T8 F) {i : Nat} (hi : (i : Int) < 2 * (allF F + 1)) : spec_l05At.f N F (i : Int) = some (atF F i) := by
  have hall := all_range h
  simp only [spec_l05At.f, F_eta, spec_all N h, Option.bind_some]
  rw [i64w_id (x := allF F) (by omega) (by omega), i64w_id (by omega) (by omega), if_pos (by omega), (at_both h hi).1]
  rfl
theorem at_impl {N : Nat} {F : Fe} (h : T8 F) {i : Nat} (hi : (i : Int) < 2 * (allF F + 1)) : _impl_Ferry_bank.f N F (i : Int) = some (atF F i) := by
  have hall := all_range h
  have h0 := h.1
  simp only [_impl_Ferry_bank.f, F_eta, impl_all N h, Option.bind_some, if_pos (show (0 : Int) ≤ F.f_Things by omega), (at_both h hi).2.1, (at_both h hi).2.2]
  rfl
theorem atF_range {F : Fe} (h : T8 F) (i : Int) : 0 ≤ (atF F i).f_Near ∧ (atF F i).f_Near ≤ 255 := by
  have hall := all_range h
  have h1 := Int.emod_nonneg i (show allF F + 1 ≠ 0 by omega)
  have h2 := Int.emod_lt_of_pos i (show 0 < allF F + 1 by omega)
  exact ⟨h1, show i % (allF F + 1) ≤ 255 by omega⟩
theorem numF_range {F : Fe} (h : T8 F) {b : Bk} (hb : 0 ≤ b.f_Near ∧ b.f_Near ≤ allF F) : 0 ≤ numF F b ∧ numF F b < 2 * (allF F + 1) := by
  have hall := all_range h
  unfold numF
  split <;> omega
/-- What the table says of the bank behind a crossing. -/
def toF (F : Fe) (t : List Int) (i l : Int) : Int := rdL t (numF F (crossedB (atF F i) l)) 0
def badS (F : Fe) (t : List Int) (i : Int) : Bool := decide (rdL t i 0 < -1) || (decide (0 ≤ rdL t i 0) && bankF F (atF F i) && (loadsF F (atF F i)).any fun l => decide (toF F t i l < 0) || decide (toF F t i l > rdL t i 0 + 1))
def badI (F : Fe) (t : List Int) (i : Int) : Bool := decide (rdL t i 0 < -1) || (decide (0 ≤ rdL t i 0) && bankF F (atF F i) && (loadsF F (atF F i)).any fun l => decide (toF F t i l = -1) || decide (toF F t i l > rdL t i 0 + 1))
def idx (n : Nat) : List Int := (List.range n).map fun (i : Nat) => (i : Int)
theorem idx_len (n : Nat) : (idx n).length = n := by simp [idx]
theorem idx_get {n i : Nat} (h : i < (idx n).length) : (idx n)[i] = (i : Int) := by simp [idx]
theorem rd_range {t : List Int} (ht : ∀ x ∈ t, -32768 ≤ x ∧ x ≤ 32767) (i : Int) : -32768 ≤ rdL t i 0 ∧ rdL t i 0 ≤ 32767 := by
  unfold rdL
  rw [List.getD_eq_getElem?_getD]
  by_cases h : i.toNat < t.length
  · rw [List.getElem?_eq_getElem h]; exact ht _ (List.getElem_mem h)
  · rw [List.getElem?_eq_none_iff.2 (by omega)]; simp
theorem step_code {F : Fe} (h : OkF F) {b : Bk} {i : Nat} (hi : i < (loadsF F b).length) : codeF F b (loadsF F b)[i] = 0 ∧ 0 ≤ (loadsF F b)[i] ∧ (loadsF F b)[i] ≤ 255 ∧ 0 ≤ (crossedB b (loadsF F b)[i]).f_Near ∧ (crossedB b (loadsF F b)[i]).f_Near ≤ allF F := by
  have hall := all_range h.t8
  rcases loadsF_mem (List.getElem_mem hi) with q | q
  · have := crossedB_range h.t8 q.1
    exact ⟨q.1, q.2.1, by omega, this.1, this.2.1⟩
  · omega
theorem proof_spec {N : Nat} {F : Fe} (h : OkF F) {t : List Int} (ht : ∀ x ∈ t, -32768 ≤ x ∧ x ≤ 32767) (hl : (t.length : Int) = 2 * (allF F + 1)) (hN : 600 < N) :
    spec_l05Proof.f N F t = some (decide (rdL t (allF F) 0 = 0) && !((idx t.length).any (badS F t))) := by
  have hall := all_range h.t8
  obtain ⟨e, he, hq⟩ := rounds_any (b := fun s => spec_l05Proof.b0 N t F s) (idx t.length) (badS F t) (fun _ => false) (N := N) (by rw [idx_len]; omega) (by
    intro i hi
    rw [idx_get]
    rw [idx_len] at hi
    have g1 : (i : Int) < t.length := by omega
    have g2 : (0 : Int) ≤ i := by omega
    have hk := rd_range ht (i : Int)
    simp only [spec_l05Proof.b0, g1, g2, and_self, if_true, i64w_id (x := rdL t (i : Int) 0) (by omega) (by omega), F_eta, at_spec h.t8 (show (i : Int) < 2 * (allF F + 1) by omega), Option.bind_some, bank_spec h.t8 h.len (show 40 < N by omega), loads_spec h (show 300 < N by omega) (atF_range h.t8 i), spec_l05Proof.j2, i64w_succ hi (show t.length ≤ 9223372036854775807 by omega), badS]
    by_cases c1 : rdL t (i : Int) 0 < -1
    · simp [c1]
    · by_cases c2 : rdL t (i : Int) 0 < 0
      · have c2' : ¬ 0 ≤ rdL t (i : Int) 0 := by omega
        simp [c1, c2, c2']
      · have c2' : 0 ≤ rdL t (i : Int) 0 := by omega
        simp only [c1, c2, c2', if_false, decide_true, decide_false, Bool.false_or, Bool.true_and]
        by_cases c3 : bankF F (atF F i) = true
        · have hll := loadsF_len h.t8 (atF F i)
          obtain ⟨e, he, hq⟩ := rounds_any (b := fun s => spec_l05Proof.b3 N (loadsF F (atF F i)) F (atF F i) t (i : Int) s) (loadsF F (atF F i)) (fun l => decide (toF F t i l < 0) || decide (toF F t i l > rdL t i 0 + 1)) (fun _ => false) (N := N) (by omega) (by
            intro j hj
            have g1 : (j : Int) < (loadsF F (atF F i)).length := by omega
            have g2 : (0 : Int) ≤ j := by omega
            have hs := step_code h hj
            have hn := numF_range h.t8 ⟨hs.2.2.2.1, hs.2.2.2.2⟩
            have hto := rd_range ht (numF F (crossedB (atF F i) (loadsF F (atF F i))[j]))
            simp only [spec_l05Proof.b3, g1, g2, and_self, if_true, rdL_nat hj, F_eta, cross_spec h (show 40 < N by omega) (atF_range h.t8 i) ⟨hs.2.1, show (loadsF F (atF F i))[j] ≤ 65535 by omega⟩, hs.1, Option.bind_some, index_spec h.t8 (N := N) ⟨hs.2.2.2.1, show (crossedB (atF F i) (loadsF F (atF F i))[j]).f_Near ≤ 255 by omega⟩, i64w_succ hj (show (loadsF F (atF F i)).length ≤ 9223372036854775807 by omega)]
            rw [if_pos (by omega)]
            simp only [i64w_id (x := rdL t (numF F (crossedB (atF F i) (loadsF F (atF F i))[j])) 0) (by omega) (by omega), i64w_id (x := rdL t (i : Int) 0) (by omega) (by omega), i64w_id (x := rdL t (i : Int) 0 + 1) (by omega) (by omega), toF]
            by_cases d1 : rdL t (numF F (crossedB (atF F i) (loadsF F (atF F i))[j])) 0 < 0
            · simp [d1]
            · by_cases d2 : rdL t (numF F (crossedB (atF F i) (loadsF F (atF F i))[j])) 0 > rdL t (i : Int) 0 + 1
              · simp [d1, d2]
              · simp [d1, d2]) (by
            simp only [spec_l05Proof.b3]
            rw [if_neg (by omega)])
          rw [if_pos c3, he, c3, Bool.true_and]
          by_cases c4 : ((loadsF F (atF F i)).any fun l => decide (toF F t i l < 0) || decide (toF F t i l > rdL t i 0 + 1)) = true
          · rw [if_pos c4] at hq
            obtain ⟨_, rfl⟩ := hq
            rw [if_pos c4]; rfl
          · rw [if_neg c4] at hq
            subst hq
            rw [if_neg c4]
            show spec_l05Proof.a3 N (i : Int) = _
            simp only [spec_l05Proof.a3, spec_l05Proof.j2, i64w_succ hi (show t.length ≤ 9223372036854775807 by omega)]
        · rw [if_neg c3]
          simp [c3]) (by
    rw [idx_len]
    simp only [spec_l05Proof.b0]
    rw [if_neg (by omega)])
  simp only [spec_l05Proof.f, F_eta, spec_all N h.t8, Option.bind_some]
  rw [if_pos ⟨by omega, by omega⟩]
  by_cases c : rdL t (allF F) 0 = 0
  · rw [if_pos c, he]
    simp only [c, decide_true, Bool.true_and]
    by_cases c4 : (idx t.length).any (badS F t) = true
    · rw [if_pos c4] at hq
      obtain ⟨_, rfl⟩ := hq
      rw [c4]; rfl
    · rw [if_neg c4] at hq
      subst hq
      rw [Bool.not_eq_true] at c4
      rw [c4]; rfl
  · rw [if_neg c]
    simp [c]
theorem proof_impl {N : Nat} {F : Fe} (h : OkF F) {t : List Int} (ht : ∀ x ∈ t, -32768 ≤ x ∧ x ≤ 32767) (hl : (t.length : Int) = 2 * (allF F + 1)) (hN : 600 < N) :
    _impl_Ferry_isProof.f N F t = some (decide (rdL t (allF F) 0 = 0) && !((idx t.length).any (badI F t))) := by
  have hall := all_range h.t8
  obtain ⟨e, he, hq⟩ := rounds_any (b := fun s => _impl_Ferry_isProof.b0 N t F s) (idx t.length) (badI F t) (fun _ => false) (N := N) (by rw [idx_len]; omega) (by
    intro i hi
    rw [idx_get]
    rw [idx_len] at hi
    have g1 : (i : Int) < t.length := by omega
    have g2 : (0 : Int) ≤ i := by omega
    have hk := rd_range ht (i : Int)
    simp only [_impl_Ferry_isProof.b0, g1, g2, and_self, if_true, F_eta, at_impl h.t8 (show (i : Int) < 2 * (allF F + 1) by omega), Option.bind_some, bank_impl h.t8 h.len (show 40 < N by omega), loads_impl h (show 300 < N by omega) (atF_range h.t8 i), _impl_Ferry_isProof.j2, i64w_succ hi (show t.length ≤ 9223372036854775807 by omega), badI]
    by_cases c1 : rdL t (i : Int) 0 < -1
    · simp [c1]
    · by_cases c2 : rdL t (i : Int) 0 = -1
      · have c2' : ¬ 0 ≤ rdL t (i : Int) 0 := by omega
        simp [c1, c2, c2']
      · have c2' : 0 ≤ rdL t (i : Int) 0 := by omega
        simp only [c1, c2, c2', if_false, decide_true, decide_false, Bool.false_or, Bool.true_and]
        by_cases c3 : bankF F (atF F i) = true
        · have hll := loadsF_len h.t8 (atF F i)
          obtain ⟨e, he, hq⟩ := rounds_any (b := fun s => _impl_Ferry_isProof.b3 N (loadsF F (atF F i)) (atF F i) F t (i : Int) s) (loadsF F (atF F i)) (fun l => decide (toF F t i l = -1) || decide (toF F t i l > rdL t i 0 + 1)) (fun _ => false) (N := N) (by omega) (by
            intro j hj
            have g1 : (j : Int) < (loadsF F (atF F i)).length := by omega
            have g2 : (0 : Int) ≤ j := by omega
            have hs := step_code h hj
            have hn := numF_range h.t8 ⟨hs.2.2.2.1, hs.2.2.2.2⟩
            have hto := rd_range ht (numF F (crossedB (atF F i) (loadsF F (atF F i))[j]))
            have hcr : ∀ b l, impl_crossed.f N b l = some (crossedB b l) := fun _ _ => rfl
            simp only [_impl_Ferry_isProof.b3, g1, g2, and_self, if_true, rdL_nat hj, F_eta, hcr, Option.bind_some, number_impl h.t8 (N := N) ⟨hs.2.2.2.1, show (crossedB (atF F i) (loadsF F (atF F i))[j]).f_Near ≤ 255 by omega⟩, i64w_succ hj (show (loadsF F (atF F i)).length ≤ 9223372036854775807 by omega)]
            rw [if_pos (by omega)]
            simp only [i64w_id (x := rdL t (numF F (crossedB (atF F i) (loadsF F (atF F i))[j])) 0) (by omega) (by omega), i64w_id (x := rdL t (i : Int) 0) (by omega) (by omega), i64w_id (x := rdL t (i : Int) 0 + 1) (by omega) (by omega), toF]
            by_cases d1 : rdL t (numF F (crossedB (atF F i) (loadsF F (atF F i))[j])) 0 = -1
            · simp [d1]
            · by_cases d2 : rdL t (numF F (crossedB (atF F i) (loadsF F (atF F i))[j])) 0 > rdL t (i : Int) 0 + 1
              · simp [d1, d2]
              · simp [d1, d2]) (by
            simp only [_impl_Ferry_isProof.b3]
            rw [if_neg (by omega)])
          rw [if_pos c3, he, c3, Bool.true_and]
          by_cases c4 : ((loadsF F (atF F i)).any fun l => decide (toF F t i l = -1) || decide (toF F t i l > rdL t i 0 + 1)) = true
          · rw [if_pos c4] at hq
            obtain ⟨_, rfl⟩ := hq
            rw [if_pos c4]; rfl
          · rw [if_neg c4] at hq
            subst hq
            rw [if_neg c4]
            show _impl_Ferry_isProof.a3 N (i : Int) = _
            simp only [_impl_Ferry_isProof.a3, _impl_Ferry_isProof.j2, i64w_succ hi (show t.length ≤ 9223372036854775807 by omega)]
        · rw [if_neg c3]
          simp [c3]) (by
    rw [idx_len]
    simp only [_impl_Ferry_isProof.b0]
    rw [if_neg (by omega)])
  have hnum : numF F ⟨allF F, false⟩ = allF F := rfl
  simp only [_impl_Ferry_isProof.f, F_eta, impl_all N h.t8, Option.bind_some, number_impl h.t8 (N := N) (b := ⟨allF F, false⟩) ⟨show 0 ≤ allF F by omega, show allF F ≤ 255 by omega⟩, hnum]
  rw [if_pos ⟨by omega, by omega⟩]
  by_cases c : rdL t (allF F) 0 = 0
  · rw [if_pos c, he]
    simp only [c, decide_true, Bool.true_and]
    by_cases c4 : (idx t.length).any (badI F t) = true
    · rw [if_pos c4] at hq
      obtain ⟨_, rfl⟩ := hq
      rw [c4]; rfl
    · rw [if_neg c4] at hq
      subst hq
      rw [Bool.not_eq_true] at c4
      rw [c4]; rfl
  · rw [if_neg c]
    simp [c]
theorem any_congr {α : Type} {p q : α → Bool} : ∀ (l : List α), (∀ x ∈ l, p x = q x) → l.any p = l.any q
  | [], _ => rfl
  | a :: l, h => by rw [List.any_cons, List.any_cons, h a (by simp), any_congr l fun x hx => h x (by simp [hx])]
theorem bad_same {F : Fe} (h : OkF F) {t : List Int} (hl : (t.length : Int) = 2 * (allF F + 1)) : (idx t.length).any (badS F t) = (idx t.length).any (badI F t) := by
  have hall := all_range h.t8
  by_cases c : ∃ i : Nat, i < t.length ∧ rdL t (i : Int) 0 < -1
  · obtain ⟨i, hi, hc⟩ := c
    have hm : (i : Int) ∈ idx t.length := List.mem_map.2 ⟨i, List.mem_range.2 hi, rfl⟩
    rw [List.any_eq_true.2 ⟨_, hm, by simp [badS, hc]⟩, List.any_eq_true.2 ⟨_, hm, by simp [badI, hc]⟩]
  · refine any_congr _ fun x hx => ?_
    unfold badS badI
    congr 2
    refine any_congr _ fun l hl' => ?_
    obtain ⟨j, hj, rfl⟩ := List.mem_iff_getElem.1 hl'
    have hs := step_code h hj
    have hn := numF_range h.t8 ⟨hs.2.2.2.1, hs.2.2.2.2⟩
    have : ¬ toF F t x (loadsF F (atF F x))[j] < -1 := fun hlt => c ⟨(numF F (crossedB (atF F x) (loadsF F (atF F x))[j])).toNat, by omega, by rw [Int.toNat_of_nonneg hn.1]; exact hlt⟩
    congr 1
    exact decide_eq_decide.2 (by omega)
theorem proof_same {N : Nat} {F : Fe} (h : OkF F) {t : List Int} (ht : ∀ x ∈ t, -32768 ≤ x ∧ x ≤ 32767) (hl : (t.length : Int) = 2 * (allF F + 1)) (hN : 600 < N) : ∃ r, spec_l05Proof.f N F t = some r ∧ _impl_Ferry_isProof.f N F t = some r :=
  ⟨_, proof_spec h ht hl hN, by rw [proof_impl h ht hl hN, bad_same h hl]⟩
theorem tabled_eq {N : Nat} {F : Fe} (hF : InF F) (t : List Int) (hN : 600 < N) : spec_l05Tabled.f N F t = some (if okF F = true then (if (t.length : Int) = 2 * (allF F + 1) then 0 else 2) else 1) := by
  simp only [spec_l05Tabled.f, F_eta, okF_spec hF (show 40 < N by omega), Option.bind_some]
  by_cases hk : okF F = true
  · have h := okF_iff.1 hk
    have hall := all_range h.t8
    simp only [if_pos hk, spec_all N h.t8, Option.bind_some]
    rw [i64w_id (x := allF F) (by omega) (by omega), i64w_id (x := allF F + 1) (by omega) (by omega), i64w_id (by omega) (by omega)]
    split <;> rfl
  · simp only [if_neg hk]
theorem Check_same {N : Nat} {F : Fe} (hF : InF F) {t : List Int} (ht : ∀ x ∈ t, -32768 ≤ x ∧ x ≤ 32767) (hN : 600 < N) : ∃ r c, spec_CheckCrossings.f N F t = some (r, c) ∧ impl_CheckCrossings.f N F t = some (r, c) ∧ (c = 0 → OkF F ∧ (t.length : Int) = 2 * (allF F + 1) ∧ spec_l05Proof.f N F t = some r) ∧ spec_l05Tabled.f N F t = some c := by
  simp only [spec_CheckCrossings.f, impl_CheckCrossings.f, F_eta, tabled_eq hF t hN, okF_impl hF (show 40 < N by omega), Option.bind_some]
  by_cases hk : okF F = true
  · have h := okF_iff.1 hk
    have h0 := h.t8.1
    simp only [if_pos hk, if_pos (show (0 : Int) ≤ F.f_Things by omega), (shl_one h.t8).2]
    by_cases c : (t.length : Int) = 2 * (allF F + 1)
    · obtain ⟨r, e1, e2⟩ := proof_same h ht c hN
      simp only [if_pos c, if_true, e1, e2, Option.bind_some]
      exact ⟨_, _, rfl, rfl, fun _ => ⟨h, c, rfl⟩, rfl⟩
    · simp only [if_neg c, show ¬ ((2 : Int) = 0) by omega, if_false]
      exact ⟨_, _, rfl, rfl, fun h => absurd h (by omega), rfl⟩
  · simp only [if_neg hk, show ¬ ((1 : Int) = 0) by omega, if_false]
    exact ⟨_, _, rfl, rfl, fun h => absurd h (by omega), rfl⟩
end Go.Proofs.YtgoblgmidejdgaaX
