/- Ferries, plainly: banks, crossings, loads. -/
import Derived.Test.YtgoblgmidejdgaaYF
namespace Go.Proofs.YtgoblgmidejdgaaX
open Go
set_option linter.unusedVariables false
set_option linter.unusedSimpArgs false
def safe (R : List Int) (t : Int) : Bool := !(R.any fun r => bAndNot .u16 r t == 0)
theorem safe_spec {N : Nat} {F : Fe} (hl : F.f_Rules.length ≤ 20) (hN : 40 < N) (t : Int) : spec_l05Safe.f N F t = some (safe F.f_Rules t) := by
  obtain ⟨e, he, hq⟩ := rounds_any (b := fun s => spec_l05Safe.b0 N F t s) F.f_Rules (fun r => bAndNot .u16 r t == 0) (fun _ => false) (N := N) (by omega) (by
    intro i hi
    have g1 : (i : Int) < F.f_Rules.length := by omega
    have g2 : (0 : Int) ≤ i := by omega
    simp only [spec_l05Safe.b0, g1, g2, and_self, if_true, rdL_nat hi, i64w_succ hi (show F.f_Rules.length ≤ 9223372036854775807 by omega), beq_iff_eq]) (by
    simp only [spec_l05Safe.b0]
    rw [if_neg (by omega)])
  unfold spec_l05Safe.f safe
  rw [he]
  by_cases c4 : (F.f_Rules.any fun r => bAndNot .u16 r t == 0) = true
  · rw [if_pos c4] at hq
    obtain ⟨i, rfl⟩ := hq
    simp only [Option.bind_some, Ex.fin, c4, Bool.not_true]
  · rw [if_neg c4] at hq
    subst hq
    rw [Bool.not_eq_true] at c4
    simp only [Option.bind_some, Ex.fin, c4, Bool.not_false, spec_l05Safe.a0]
theorem safe_impl {N : Nat} {F : Fe} (hl : F.f_Rules.length ≤ 20) (hN : 40 < N) (t : Int) : _impl_Ferry_isSafe.f N F t = some (safe F.f_Rules t) := by
  obtain ⟨e, he, hq⟩ := rounds_any (b := fun s => slices_IndexFunc_uint16_uint16_at__impl_Ferry_isSafe_1.b0 N F.f_Rules t s) F.f_Rules (fun r => bAndNot .u16 r t == 0) (fun i => (i : Int)) (N := N) (by omega) (by
    intro i hi
    have g1 : (i : Int) < F.f_Rules.length := by omega
    have g2 : (0 : Int) ≤ i := by omega
    simp only [slices_IndexFunc_uint16_uint16_at__impl_Ferry_isSafe_1.b0, _impl_Ferry_isSafe_1.f, impl_inside.f, g1, g2, and_self, if_true, rdL_nat hi, i64w_succ hi (show F.f_Rules.length ≤ 9223372036854775807 by omega), Option.bind_some]) (by
    simp only [slices_IndexFunc_uint16_uint16_at__impl_Ferry_isSafe_1.b0]
    rw [if_neg (by omega)])
  simp only [_impl_Ferry_isSafe.f, slices_ContainsFunc_uint16_uint16_at__impl_Ferry_isSafe_1.f, slices_IndexFunc_uint16_uint16_at__impl_Ferry_isSafe_1.f, he, safe]
  by_cases c4 : (F.f_Rules.any fun r => bAndNot .u16 r t == 0) = true
  · rw [if_pos c4] at hq
    obtain ⟨i, rfl⟩ := hq
    simp only [Option.bind_some, Ex.fin, c4, Bool.not_true, decide_eq_true (show (i : Int) ≥ 0 by omega)]
  · rw [if_neg c4] at hq
    subst hq
    rw [Bool.not_eq_true] at c4
    simp only [Option.bind_some, Ex.fin, c4, Bool.not_false, slices_IndexFunc_uint16_uint16_at__impl_Ferry_isSafe_1.a0]
    rfl
def alone (F : Fe) (b : Bk) : Int := if b.f_Far = true then b.f_Near else bAndNot .u16 (allF F) b.f_Near
def here (F : Fe) (b : Bk) : Int := if b.f_Far = true then bAndNot .u16 (allF F) b.f_Near else b.f_Near
def bankF (F : Fe) (b : Bk) : Bool := (bAndNot .u16 b.f_Near (allF F) == 0) && safe F.f_Rules (alone F b)
theorem bank_spec {N : Nat} {F : Fe} (hT : T8 F) (hl : F.f_Rules.length ≤ 20) (hN : 40 < N) (b : Bk) : spec_l05Bank.f N F b = some (bankF F b) := by
  simp only [spec_l05Bank.f, F_eta, spec_all N hT, Option.bind_some, safe_spec hl hN, bankF, alone]
  by_cases c : bAndNot .u16 b.f_Near (allF F) = 0
  · rw [if_pos c]
    cases b.f_Far <;> simp [c]
  · rw [if_neg c]
    simp [c]
theorem bank_impl {N : Nat} {F : Fe} (hT : T8 F) (hl : F.f_Rules.length ≤ 20) (hN : 40 < N) (b : Bk) : _impl_Ferry_isBank.f N F b = some (bankF F b) := by
  simp only [_impl_Ferry_isBank.f, _impl_Ferry_sides.f, impl_inside.f, F_eta, impl_all N hT, Option.bind_some, safe_impl hl hN, bankF, alone]
  cases b.f_Far <;> by_cases c : bAndNot .u16 b.f_Near (allF F) = 0 <;> simp [c, safe_impl hl hN]
def crossedB (b : Bk) (l : Int) : Bk := ⟨bXor .u16 b.f_Near l, !b.f_Far⟩
def codeF (F : Fe) (b : Bk) (l : Int) : Int := if bAndNot .u16 l (here F b) = 0 then (if cnt l > F.f_Boat then 3 else if bankF F (crossedB b l) = true then 0 else 4) else 2
/-- A ferry that can be one. -/
structure OkF (F : Fe) : Prop where
  t8 : T8 F
  boat : 0 ≤ F.f_Boat ∧ F.f_Boat ≤ F.f_Things
  len : F.f_Rules.length ≤ 20
  rules : F.f_Rules.any (bad (allF F)) = false
theorem okF_iff {F : Fe} : okF F = true ↔ OkF F := by
  unfold okF
  simp only [Bool.and_eq_true, decide_eq_true_eq, Bool.not_eq_true']
  exact ⟨fun h => ⟨h.1, h.2.1, h.2.2.1, h.2.2.2⟩, fun h => ⟨h.1, h.2, h.3, h.4⟩⟩
theorem here_range {F : Fe} (hT : T8 F) {b : Bk} (hb : 0 ≤ b.f_Near ∧ b.f_Near ≤ 255) : 0 ≤ here F b ∧ here F b ≤ 255 := by
  have hall := all_range hT
  unfold here
  by_cases c : b.f_Far = true
  · rw [if_pos c]
    have := @andNot_range (allF F) b.f_Near ⟨by omega, by omega⟩
    omega
  · rw [if_neg c]; exact hb
theorem cross_spec {N : Nat} {F : Fe} (h : OkF F) (hN : 40 < N) {b : Bk} (hb : 0 ≤ b.f_Near ∧ b.f_Near ≤ 255) {l : Int} (hl : 0 ≤ l ∧ l ≤ 65535) :
    spec_l05Cross.f N F b l = some (if codeF F b l = 0 then (crossedB b l, 0) else (⟨0, false⟩, codeF F b l)) := by
  have hr := here_range h.t8 hb
  have hh : spec_l05Here.f N F b = some (here F b) := by
    simp only [spec_l05Here.f, F_eta, spec_all N h.t8, Option.bind_some, here]
    cases b.f_Far <;> simp
  simp only [spec_l05Cross.f, F_eta, hh, Option.bind_some, bank_spec h.t8 h.len hN]
  by_cases c : bAndNot .u16 l (here F b) = 0
  · have := andNot_le hl ⟨hr.1, by omega⟩ c
    have ht := h.t8
    have hbo := h.boat
    unfold T8 at ht
    simp only [if_pos c, size_eq (N := N) (by omega) ⟨hl.1, show l ≤ 255 by omega⟩, Option.bind_some]
    rw [i64w_id (by omega) (by omega)]
    by_cases c2 : cnt l > F.f_Boat
    · have hv : codeF F b l = 3 := by unfold codeF; rw [if_pos c, if_pos c2]
      rw [if_pos c2, hv]; rfl
    · rw [if_neg c2]
      by_cases c3 : bankF F (crossedB b l) = true
      · have hv : codeF F b l = 0 := by unfold codeF; rw [if_pos c, if_neg c2, if_pos c3]
        have c3' : bankF F ⟨bXor .u16 b.f_Near l, !b.f_Far⟩ = true := c3
        rw [if_pos c3', hv]; rfl
      · have hv : codeF F b l = 4 := by unfold codeF; rw [if_pos c, if_neg c2, if_neg c3]
        have c3' : ¬ bankF F ⟨bXor .u16 b.f_Near l, !b.f_Far⟩ = true := c3
        rw [if_neg c3', hv]; rfl
  · have hv : codeF F b l = 2 := by unfold codeF; rw [if_neg c]
    rw [if_neg c, hv]; rfl
theorem cross_impl {N : Nat} {F : Fe} (h : OkF F) (hN : 40 < N) {b : Bk} (hb : 0 ≤ b.f_Near ∧ b.f_Near ≤ 255) {l : Int} (hl : 0 ≤ l ∧ l ≤ 65535) :
    _impl_Ferry_crossCode.f N F b l = some (codeF F b l) := by
  have hr := here_range h.t8 hb
  have hh : ∃ y, _impl_Ferry_sides.f N F b = some (here F b, y) := by
    simp only [_impl_Ferry_sides.f, F_eta, impl_all N h.t8, Option.bind_some, here]
    cases b.f_Far
    · exact ⟨_, rfl⟩
    · exact ⟨_, rfl⟩
  obtain ⟨y, hh⟩ := hh
  simp only [_impl_Ferry_crossCode.f, F_eta, hh, Option.bind_some, codeF, bank_impl h.t8 h.len hN, impl_inside.f, impl_crossed.f, impl_unless.f]
  by_cases c : bAndNot .u16 l (here F b) = 0
  · have := andNot_le hl ⟨hr.1, by omega⟩ c
    have ht := h.t8
    have hbo := h.boat
    unfold T8 at ht
    simp only [c, beq_self_eq_true, if_true, ones_eq N ⟨hl.1, show l ≤ 255 by omega⟩, Option.bind_some]
    rw [i64w_id (by omega) (by omega)]
    by_cases c2 : cnt l > F.f_Boat
    · rw [if_pos c2, if_pos c2]
    · rw [if_neg c2, if_neg c2]
      show (if bankF F (crossedB b l) = true then some 0 else some 4).bind _ = _
      by_cases c3 : bankF F (crossedB b l) = true
      · rw [if_pos c3, if_pos c3]; rfl
      · rw [if_neg c3, if_neg c3]; rfl
  · simp [c]
theorem codeF_bank {F : Fe} {b : Bk} {l : Int} (h : codeF F b l = 0) : bankF F (crossedB b l) = true ∧ bAndNot .u16 l (here F b) = 0 := by
  unfold codeF at h
  by_cases c : bAndNot .u16 l (here F b) = 0
  · rw [if_pos c] at h
    by_cases c2 : cnt l > F.f_Boat
    · rw [if_pos c2] at h; omega
    · rw [if_neg c2] at h
      by_cases c3 : bankF F (crossedB b l) = true
      · exact ⟨c3, c⟩
      · rw [if_neg c3] at h; omega
  · rw [if_neg c] at h; omega
theorem bankF_range {F : Fe} (hT : T8 F) {b : Bk} (h : bankF F b = true) (hb : 0 ≤ b.f_Near ∧ b.f_Near ≤ 65535) : 0 ≤ b.f_Near ∧ b.f_Near ≤ allF F ∧ b.f_Near ≤ 255 := by
  have hall := all_range hT
  unfold bankF at h
  simp only [Bool.and_eq_true, beq_iff_eq] at h
  have := andNot_le hb ⟨by omega, by omega⟩ h.1
  omega
theorem crossedB_range {F : Fe} (hT : T8 F) {b : Bk} {l : Int} (h : codeF F b l = 0) : 0 ≤ (crossedB b l).f_Near ∧ (crossedB b l).f_Near ≤ allF F ∧ (crossedB b l).f_Near ≤ 255 :=
  bankF_range hT (codeF_bank h).1 (bXor_range _ _)
/-- The loads with which a crossing can be made, below n. -/
def loadsTo (F : Fe) (b : Bk) (n : Nat) : List Int := ((List.range n).map fun (i : Nat) => (i : Int)).filter fun l => codeF F b l == 0
theorem loadsTo_succ (F : Fe) (b : Bk) (n : Nat) : loadsTo F b (n + 1) = if codeF F b (n : Int) = 0 then loadsTo F b n ++ [(n : Int)] else loadsTo F b n := by
  unfold loadsTo
  rw [List.range_succ, List.map_append, List.filter_append]
  by_cases c : codeF F b (n : Int) = 0
  · rw [if_pos c]; simp [c]
  · rw [if_neg c]; simp [c]
theorem loadsTo_len (F : Fe) (b : Bk) (n : Nat) : (loadsTo F b n).length ≤ n := by
  unfold loadsTo
  exact Nat.le_trans (List.length_filter_le _ _) (by simp)
def loadsF (F : Fe) (b : Bk) : List Int := loadsTo F b ((allF F).toNat + 1)
theorem loadsF_len {F : Fe} (hT : T8 F) (b : Bk) : (loadsF F b).length ≤ 256 := by
  have := loadsTo_len F b ((allF F).toNat + 1)
  have := all_range hT
  unfold loadsF
  omega
theorem loadsF_mem {F : Fe} {b : Bk} {l : Int} (h : l ∈ loadsF F b) : codeF F b l = 0 ∧ 0 ≤ l ∧ l ≤ allF F ∨ allF F < 0 := by
  unfold loadsF loadsTo at h
  simp only [List.mem_filter, List.mem_map, List.mem_range, beq_iff_eq] at h
  obtain ⟨⟨i, hi, rfl⟩, hc⟩ := h
  by_cases c : allF F < 0
  · exact Or.inr c
  · exact Or.inl ⟨hc, by omega, by omega⟩
theorem loads_spec {N : Nat} {F : Fe} (h : OkF F) (hN : 300 < N) {b : Bk} (hb : 0 ≤ b.f_Near ∧ b.f_Near ≤ 255) : spec_l05Loads.f N F b = some (loadsF F b) := by
  have hall := all_range h.t8
  unfold spec_l05Loads.f
  have q := rounds_for (b := fun s => spec_l05Loads.b0 N F b s.1 s.2) (e := .go (loadsF F b)) (fun k => (loadsTo F b k, (k : Int))) ((allF F).toNat + 1) 0 N (by omega) (by omega) (by
    intro i _ hi
    have hlen := loadsTo_len F b i
    have hw : u16w ((i : Int) + 1) = ((i + 1 : Nat) : Int) := by rw [u16w_id (by omega) (by omega)]; omega
    simp only [spec_l05Loads.b0, F_eta, spec_all N h.t8, Option.bind_some]
    rw [if_pos (by omega), cross_spec h (by omega) hb ⟨by omega, by omega⟩, loadsTo_succ]
    simp only [Option.bind_some, spec_l05Loads.j2, hw, List.length_singleton]
    by_cases c : codeF F b (i : Int) = 0
    · simp only [if_pos c, if_true]; rw [if_pos (by omega)]
    · simp only [if_neg c]) (by
    simp only [spec_l05Loads.b0, F_eta, spec_all N h.t8, Option.bind_some]
    rw [if_neg (by omega)]; rfl)
  have q' : rounds (fun s => spec_l05Loads.b0 N F b s.1 s.2) N (([] : List Int), 0) = some (.go (loadsF F b)) := q
  rw [q']; rfl
theorem loads_impl {N : Nat} {F : Fe} (h : OkF F) (hN : 300 < N) {b : Bk} (hb : 0 ≤ b.f_Near ∧ b.f_Near ≤ 255) : _impl_Ferry_loads.f N F b = some (loadsF F b) := by
  have hall := all_range h.t8
  unfold _impl_Ferry_loads.f
  simp only [F_eta, impl_all N h.t8, Option.bind_some]
  have hw1 : u16w (allF F + 1) = allF F + 1 := u16w_id (by omega) (by omega)
  have q := rounds_for (b := fun s => _impl_Ferry_loads.b0 N (allF F) F b s.1 s.2) (e := .go (loadsF F b)) (fun k => (loadsTo F b k, (k : Int))) ((allF F).toNat + 1) 0 N (by omega) (by omega) (by
    intro i _ hi
    have hlen := loadsTo_len F b i
    have hw : u16w ((i : Int) + 1) = ((i + 1 : Nat) : Int) := by rw [u16w_id (by omega) (by omega)]; omega
    simp only [_impl_Ferry_loads.b0, F_eta, hw1]
    rw [if_pos (by omega), cross_impl h (by omega) hb ⟨by omega, by omega⟩, loadsTo_succ]
    simp only [Option.bind_some, _impl_Ferry_loads.j2, hw, List.length_singleton]
    by_cases c : codeF F b (i : Int) = 0
    · simp only [if_pos c]; rw [if_pos (by omega)]
    · simp only [if_neg c]) (by
    simp only [_impl_Ferry_loads.b0, F_eta, hw1]
    rw [if_neg (by omega)]; rfl)
  have q' : rounds (fun s => _impl_Ferry_loads.b0 N (allF F) F b s.1 s.2) N (([] : List Int), 0) = some (.go (loadsF F b)) := q
  rw [q']; rfl
end Go.Proofs.YtgoblgmidejdgaaX
