/- Ferries, plainly: the table of the crossings. -/
import Derived.Test.YtgoblgmidejdgaaYO
namespace Go.Proofs.YtgoblgmidejdgaaX
open Go
set_option linter.unusedVariables false
set_option linter.unusedSimpArgs false
theorem mul_tab : ∀ n : Nat, n < 513 → bits_Mul64.f 0 1 (n : Int) = some (0, (n : Int)) := by decide +kernel
theorem mul_eq (N : Nat) {n : Nat} (h : n < 513) : bits_Mul.f N 1 (n : Int) = some (0, (n : Int)) := by
  have : bits_Mul64.f N 1 (n : Int) = some (0, (n : Int)) := mul_tab n h
  simp only [bits_Mul.f, this, Option.bind_some]
def fillL (n k : Nat) (v : Int) : List Int := List.replicate k v ++ List.replicate (n - k) 0
theorem fillL_len {n k : Nat} (h : k ≤ n) (v : Int) : (fillL n k v).length = n := by simp [fillL]; omega
theorem fill_step {n k : Nat} (h : k ≤ n) (v : Int) : cpL (fillL n k v) ((fillL n k v).take k) (k : Int) (n : Int) = fillL n (min (k + k) n) v := by
  have e1 : (fillL n k v).take k = List.replicate k v := by simp [fillL, List.take_append]
  have e2 : cpN (fillL n k v) (List.replicate k v) (k : Int) (n : Int) = min (n - k) k := by simp [cpN]
  unfold cpL
  rw [e1, e2]
  rw [show (k : Int).toNat = k from Int.toNat_natCast k, e1]
  simp only [fillL, List.take_replicate, List.drop_append, List.drop_replicate, List.length_replicate]
  rw [List.replicate_append_replicate]
  congr 1
  · congr 1; omega
  · rw [show k - (k + min (n - k) k) = 0 by omega, List.replicate_zero, List.nil_append]
    congr 1; omega
theorem repeat_eq {N n : Nat} (h1 : 1 ≤ n) (hn : n ≤ 512) (hN : 600 < N) (v : Int) : slices_Repeat_int16_int16.f N [v] (n : Int) = some (List.replicate n v) := by
  have hm := mul_eq N (n := n) (by omega)
  obtain ⟨e, he, rfl⟩ := rounds_ends (b := fun s => slices_Repeat_int16_int16.b0 N s.1 s.2) (fun s => ∃ k : Nat, 1 ≤ k ∧ k ≤ n ∧ s = (fillL n k v, (k : Int))) (fun s => n - s.2.toNat) (fun e => e = .go (List.replicate n v)) (by
    rintro s ⟨k, k1, k2, rfl⟩
    have hl := fillL_len k2 v
    by_cases hk : k < n
    · right
      refine ⟨(fillL n (min (k + k) n) v, ((min (k + k) n : Nat) : Int)), ?_, ⟨min (k + k) n, by omega, by omega, rfl⟩, by simp only [Int.toNat_natCast]; omega⟩
      have e0 : (cpN (fillL n k v) ((fillL n k v).take k) (k : Int) (n : Int)) = min (n - k) k := by
        simp [cpN, hl]; omega
      have g1 : (k : Int) < (n : Int) := by omega
      have g2 : (0 : Int) ≤ (k : Int) ∧ (k : Int) ≤ (n : Int) ∧ (n : Int) ≤ (n : Int) := ⟨by omega, by omega, by omega⟩
      have g3 : (0 : Int) ≤ (0 : Int) ∧ (0 : Int) ≤ (k : Int) ∧ (k : Int) ≤ (n : Int) := ⟨by omega, by omega, by omega⟩
      simp only [slices_Repeat_int16_int16.b0, hl, if_pos g1, if_pos g2, if_pos g3, Int.toNat_natCast, Int.toNat_zero, List.drop_zero, Nat.sub_zero, fill_step k2, e0]
      rw [i64w_id (by omega) (by omega)]
      congr 4
      omega
    · left
      obtain rfl : k = n := by omega
      refine ⟨_, ?_, rfl⟩
      simp only [slices_Repeat_int16_int16.b0, hl]
      rw [if_neg (by omega)]
      simp [fillL]) N ([v] ++ List.replicate (n - 1) 0, 1) ⟨1, by omega, by omega, rfl⟩ (by simp only; omega)
  have e1 : u64w (([v] : List Int).length : Int) = 1 := by
    rw [List.length_singleton]
    decide
  have e2 : u64w (n : Int) = (n : Int) := u64w_id (by omega) (by omega)
  have e3 : i64w (n : Int) = (n : Int) := i64w_id (by omega) (by omega)
  have e4 : cpN (List.replicate n (0 : Int)) [v] 0 ((List.replicate n (0 : Int)).length : Int) = 1 := by simp [cpN]; omega
  have e5 : cpL (List.replicate n (0 : Int)) [v] 0 ((List.replicate n (0 : Int)).length : Int) = [v] ++ List.replicate (n - 1) 0 := by
    unfold cpL
    rw [e4]; simp
  simp only [slices_Repeat_int16_int16.f, e1, e2, hm, Option.bind_some, e3, if_neg (show ¬ (n : Int) < 0 by omega), if_neg (show ¬ (0 : Int) > 0 by omega), if_neg (show ¬ (n : Int) > 9223372036854775807 by omega), if_pos (show (0 : Int) ≤ (n : Int) ∧ (n : Int) ≤ 140737488355328 by omega), Int.toNat_natCast, e4, e5]
  have he' : rounds (fun s => slices_Repeat_int16_int16.b0 N s.1 s.2) N ([v] ++ List.replicate (n - 1) 0, ((1 : Nat) : Int)) = some (.go (List.replicate n v)) := he
  rw [he']
  rfl
theorem table_eq {N : Nat} {F : Fe} (h : OkF F) (hN : 2000 < N) {tb fr ba qu : List Int} {out : List Cr} {met : List (Bk × Bool)} (e2 : _impl_Ferry_search.f N F = some out) (hR : Rel F out met tb fr ba qu) : _impl_Ferry_table.f N F = some tb := by
  have hall := all_range h.t8
  have h0 := h.t8.1
  obtain ⟨n, hn⟩ : ∃ n : Nat, 2 * (allF F + 1) = (n : Int) := Int.eq_ofNat_of_zero_le (by omega)
  have hlen := hR.len h.t8
  have hlt := hR.lt.1
  unfold nB at hlen hlt
  have hrep := repeat_eq (N := N) (n := n) (by omega) (by omega) (by omega) (-1)
  obtain ⟨e, he, rfl⟩ := rounds_ends (b := fun s => _impl_Ferry_table.b0 N out F s.1 s.2)
    (fun s => ∃ p : Nat, s.2 = (p : Int) ∧ p ≤ out.length ∧ s.1.length = n ∧ ∀ j : Int, 0 ≤ j → j < n → rdL s.1 j 0 = if j ∈ (out.take p).map (fun c => numF F c.f_bank) then rdL tb j 0 else -1)
    (fun s => out.length - s.2.toNat) (fun e => e = .go tb) (by
    rintro ⟨x, p⟩ ⟨p', hp, p1, p2, p3⟩
    simp only at hp p2 p3
    subst hp
    by_cases hp : p' < out.length
    · right
      have hc := rdL_memb (z := zc) hp
      have hnr := numF_range h.t8 (hR.near _ hc)
      have hmn := hR.tb_nonneg hp
      have hy := (hR.yes p' hp).1
      have g0 : (p' : Int) < (out.length : Int) := by omega
      have g1 : (0 : Int) ≤ (p' : Int) ∧ (p' : Int) < (out.length : Int) := ⟨by omega, g0⟩
      have g2 : 0 ≤ numF F (rdL out (p' : Int) zc).f_bank ∧ numF F (rdL out (p' : Int) zc).f_bank < (x.length : Int) := ⟨hnr.1, by omega⟩
      have hb : 0 ≤ (rdL out (p' : Int) zc).f_bank.f_Near ∧ (rdL out (p' : Int) zc).f_bank.f_Near ≤ 255 := by
        have := hR.near _ hc
        unfold nearOk at this
        omega
      refine ⟨(stL x (numF F (rdL out (p' : Int) zc).f_bank) (rdL out (p' : Int) zc).f_many, ((p' + 1 : Nat) : Int)), ?_, ⟨p' + 1, rfl, hp, by simp only [stL_len]; exact p2, ?_⟩, by simp only [Int.toNat_natCast]; omega⟩
      · simp only [_impl_Ferry_table.b0, if_pos g0, if_pos g1, F_eta, number_impl h.t8 (N := N) hb, Option.bind_some, if_pos g2, i16w_id (x := (rdL out (p' : Int) zc).f_many) (by omega) (by omega), i64w_succ hp (show out.length ≤ 9223372036854775807 by omega)]
      · intro j j0 j1
        simp only
        rw [rdL_st g2 ⟨j0, by omega⟩, List.take_succ_eq_append_getElem hp, List.map_append]
        have he : rdL out (p' : Int) zc = out[p'] := rdL_nat hp
        by_cases hj : j = numF F (rdL out (p' : Int) zc).f_bank
        · rw [if_pos hj, if_pos (List.mem_append.2 (.inr (by rw [hj, he]; simp))), hj, hy]
        · rw [if_neg hj, p3 j j0 j1]
          by_cases hm : j ∈ (out.take p').map (fun c => numF F c.f_bank)
          · rw [if_pos hm, if_pos (List.mem_append.2 (.inl hm))]
          · rw [if_neg hm, if_neg]
            intro q
            rcases List.mem_append.1 q with q | q
            · exact hm q
            · simp only [List.map_cons, List.map_nil, List.mem_singleton] at q
              exact hj (by rw [he]; exact q)
    · left
      obtain rfl : p' = out.length := by omega
      have hx : x = tb := by
        apply List.ext_getElem (by omega)
        intro j j1 j2
        have := p3 (j : Int) (by omega) (by omega)
        rw [List.take_length] at this
        rw [← rdL_nat (z := 0) j1, ← rdL_nat (z := 0) j2, this]
        by_cases hm : (j : Int) ∈ out.map (fun c => numF F c.f_bank)
        · rw [if_pos hm]
        · rw [if_neg hm, hR.no (j : Int) (by omega) (by unfold nB; omega) hm]
      refine ⟨_, ?_, rfl⟩
      simp only [_impl_Ferry_table.b0]
      rw [if_neg (by omega), hx]) N (List.replicate n (-1), 0) ⟨0, rfl, by omega, by simp, by
        intro j j0 j1
        simp only [List.take_zero, List.map_nil, List.not_mem_nil, if_false]
        exact repl_rd j0 j1⟩ (by simp only; omega)
  simp only [_impl_Ferry_table.f, F_eta, if_pos (show (0 : Int) ≤ F.f_Things by omega), (shl_one h.t8).2, hn, hrep, Option.bind_some, e2, he]
  rfl
theorem Table_same {N : Nat} {F : Fe} (hF : InF F) (hN : 3000 < N) : ∃ l c, spec_CrossingsTable.f N F = some (l, c) ∧ impl_CrossingsTable.f N F = some (l, c) ∧ l.length ≤ 512 := by
  by_cases hk : okF F = true
  · have h := okF_iff.1 hk
    have hall := all_range h.t8
    obtain ⟨tb, wy, fr, ba, qu, out, met, e1, e2, hR, _, _⟩ := search_both h (show 2000 < N by omega)
    have ht := table_eq h (show 2000 < N by omega) e2 hR
    have hlt := hR.lt.1
    unfold nB at hlt
    simp only [spec_CrossingsTable.f, impl_CrossingsTable.f, F_eta, okF_spec hF (show 40 < N by omega), okF_impl hF (show 40 < N by omega), Option.bind_some, if_pos hk, e1, ht]
    exact ⟨_, _, rfl, rfl, by omega⟩
  · simp only [spec_CrossingsTable.f, impl_CrossingsTable.f, F_eta, okF_spec hF (show 40 < N by omega), okF_impl hF (show 40 < N by omega), Option.bind_some, if_neg hk]
    exact ⟨_, _, rfl, rfl, by simp⟩
theorem markInt16S_eq {N : Nat} {a : List Int} {k : Int} (hk : 0 ≤ k ∧ k ≤ 1048578) (h : a.length ≤ 1048576) (hN : a.length < N) : laws_markInt16S.f N a k = some (k + a.length, marked i16w k a.length) := by
  unfold laws_markInt16S.f
  rw [rounds_mark i16w a k hN ?_ ?_]
  · rfl
  · intro x i hi hx
    simp only [laws_markInt16S.b0]
    rw [if_pos (by omega), if_pos ⟨by omega, by omega⟩, stL_nat, i64w_succ hi (by omega), i64w_id (x := k + (i : Int) + 1) (by omega) (by omega), show k + (i : Int) + 1 = k + ((i + 1 : Nat) : Int) by omega]
  · intro x hx
    simp only [laws_markInt16S.b0]
    rw [if_neg (by omega)]
theorem heldInt16S_eq {N n : Nat} {k : Int} (hk : 0 ≤ k ∧ k ≤ 1048578) (h : n ≤ 1048576) (hN : n < N) : laws_heldInt16S.f N (marked i16w k n) k = some (k + n) := by
  unfold laws_heldInt16S.f
  have hl := marked_len i16w k n
  rw [rounds_held n k hN ?_ ?_]
  · rfl
  · intro i hi
    simp only [laws_heldInt16S.b0]
    rw [if_pos (by omega), if_pos ⟨by omega, by omega⟩, rdL_nat (by omega), marked_get, if_pos rfl, i64w_succ hi (by omega), i64w_id (x := k + (i : Int) + 1) (by omega) (by omega), show k + (i : Int) + 1 = k + ((i + 1 : Nat) : Int) by omega]
  · simp only [laws_heldInt16S.b0]
    rw [if_neg (by omega)]
end Go.Proofs.YtgoblgmidejdgaaX
