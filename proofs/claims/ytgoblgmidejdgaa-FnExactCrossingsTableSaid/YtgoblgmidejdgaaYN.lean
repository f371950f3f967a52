/- Ferries, plainly: the two searches side by side. -/
import Derived.Test.YtgoblgmidejdgaaYM
namespace Go.Proofs.YtgoblgmidejdgaaX
open Go
set_option linter.unusedVariables false
set_option linter.unusedSimpArgs false
theorem rdL_map {α : Type} (g : α → Int) (xs : List α) (z : α) {p : Nat} (hp : p < xs.length) : rdL (xs.map g) (p : Int) 0 = g (rdL xs (p : Int) z) := by
  rw [rdL_nat (by simpa using hp), rdL_nat hp, List.getElem_map]
theorem rdL_pre {α : Type} (xs ys : List α) (z : α) {p : Nat} (hp : p < xs.length) : rdL (xs ++ ys) (p : Int) z = rdL xs (p : Int) z := by
  unfold rdL
  simp [List.getD_eq_getElem?_getD, List.getElem?_append_left hp]
theorem j7_next {N : Nat} {to k j : Int} {qu0 ways tb fr ba qu : List Int} {n : Int} (h1 : 0 ≤ to ∧ to < n) (h2 : 0 ≤ rdL qu0 k 0 ∧ rdL qu0 k 0 < n) (ht : (tb.length : Int) = n) (hw : (ways.length : Int) = n) :
    ∃ ways', (ways'.length : Int) = n ∧ spec_l05Find.j7 N to qu0 k ways j tb fr ba qu = some (.next (tb, ways', fr, ba, qu, i64w (j + 1))) := by
  unfold spec_l05Find.j7
  rw [if_pos ⟨h1.1, by omega⟩, if_pos ⟨h2.1, by omega⟩]
  by_cases c : rdL tb to 0 = i16w (rdL tb (rdL qu0 k 0) 0 + 1)
  · rw [if_pos c, if_pos ⟨h1.1, by omega⟩, if_pos ⟨h2.1, by omega⟩, if_pos ⟨h1.1, by omega⟩]
    exact ⟨_, by rw [stL_len]; exact hw, rfl⟩
  · rw [if_neg c]
    exact ⟨_, hw, rfl⟩
/-- All crossings from the first i banks lead to banks that are met. -/
def Closed (F : Fe) (out : List Cr) (i : Int) : Prop := ∀ p : Nat, (p : Int) < i → ∀ l ∈ loadsF F (rdL out (p : Int) zc).f_bank, crossedB (rdL out (p : Int) zc).f_bank l ∈ out.map (·.f_bank)
theorem inner {N : Nat} {F : Fe} (h : OkF F) (hN : 2000 < N) {out0 : List Cr} {met0 : List (Bk × Bool)} {tb0 fr0 ba0 qu0 wy0 : List Int} (hR : Rel F out0 met0 tb0 fr0 ba0 qu0) (hw0 : (wy0.length : Int) = nB F) {i : Nat} (hi : i < out0.length) :
    ∃ tb wy fr ba qu out met, rounds (fun s => spec_l05Find.b4 N (loadsF F (rdL out0 (i : Int) zc).f_bank) F (rdL out0 (i : Int) zc).f_bank qu0 (i : Int) s.1 s.2.1 s.2.2.1 s.2.2.2.1 s.2.2.2.2.1 s.2.2.2.2.2) N (tb0, wy0, fr0, ba0, qu0, 0) = some (.go (tb, wy, fr, ba, qu)) ∧
      rounds (fun s => _impl_Ferry_search.b2 N (loadsF F (rdL out0 (i : Int) zc).f_bank) (i : Int) s.1 s.2.1 s.2.2) N (out0, met0, 0) = some (.go (out, met)) ∧ Rel F out met tb fr ba qu ∧ (wy.length : Int) = nB F ∧ (∃ ext, out = out0 ++ ext) ∧
      ∀ l ∈ loadsF F (rdL out0 (i : Int) zc).f_bank, crossedB (rdL out0 (i : Int) zc).f_bank l ∈ out.map (·.f_bank) := by
  have hall := all_range h.t8
  generalize hb : (rdL out0 (i : Int) zc).f_bank = b
  have hbn : nearOk F b := by rw [← hb]; exact hR.near _ (rdL_memb hi)
  have hb255 : 0 ≤ b.f_Near ∧ b.f_Near ≤ 255 := ⟨hbn.1, by have := hbn.2; omega⟩
  have hll := loadsF_len h.t8 b
  have hat : rdL qu0 (i : Int) 0 = numF F b := by rw [hR.q, rdL_map _ _ zc hi, hb]
  have hnb := numF_range h.t8 hbn
  obtain ⟨e, e', h1, h2, h3⟩ := rounds_both (b := fun s => spec_l05Find.b4 N (loadsF F b) F b qu0 (i : Int) s.1 s.2.1 s.2.2.1 s.2.2.2.1 s.2.2.2.2.1 s.2.2.2.2.2) (b' := fun s => _impl_Ferry_search.b2 N (loadsF F b) (i : Int) s.1 s.2.1 s.2.2)
    (fun s s' => s.2.2.2.2.2 = s'.2.2 ∧ 0 ≤ s'.2.2 ∧ s'.2.2 ≤ ((loadsF F b).length : Int) ∧ Rel F s'.1 s'.2.1 s.1 s.2.2.1 s.2.2.2.1 s.2.2.2.2.1 ∧ (s.2.1.length : Int) = nB F ∧ (∃ ext, s'.1 = out0 ++ ext) ∧ ∀ m : Nat, (hm : m < (loadsF F b).length) → (m : Int) < s'.2.2 → crossedB b (loadsF F b)[m] ∈ s'.1.map (·.f_bank))
    (fun s => (((loadsF F b).length : Int) - s.2.2.2.2.2).toNat)
    (fun e e' => ∃ tb wy fr ba qu out met, e = .go (tb, wy, fr, ba, qu) ∧ e' = .go (out, met) ∧ Rel F out met tb fr ba qu ∧ (wy.length : Int) = nB F ∧ (∃ ext, out = out0 ++ ext) ∧ ∀ l ∈ loadsF F b, crossedB b l ∈ out.map (·.f_bank)) (by
    rintro ⟨tb, wy, fr, ba, qu, j⟩ ⟨out, met, j'⟩ ⟨r1, r2, r3, r4, r5, r6, r7⟩
    simp only at r1 r2 r3 r4 r5 r6 r7
    subst r1
    obtain ⟨j, rfl⟩ := Int.eq_ofNat_of_zero_le r2
    by_cases hj : j < (loadsF F b).length
    · right
      have g1 : (j : Int) < (loadsF F b).length := by omega
      have g2 : (0 : Int) ≤ j := by omega
      obtain ⟨hcode, hl0, hl1, hn0, hn1⟩ := step_code h hj
      have hnb' : nearOk F (crossedB b (loadsF F b)[j]) := ⟨hn0, hn1⟩
      have hto := numF_range h.t8 hnb'
      have hlt := r4.lt
      have hlen := r4.len h.t8
      obtain ⟨ext, hext⟩ := r6
      have hio : i < out.length := by rw [hext, List.length_append]; omega
      have hoi : rdL out (i : Int) zc = rdL out0 (i : Int) zc := by rw [hext]; exact rdL_pre _ _ _ hi
      have hmn := r4.tb_nonneg hio
      have hyes := (r4.yes i hio).1
      rw [hoi, hb] at hyes
      have hi512 : (i : Int) < 512 := by unfold nB at hlen; omega
      have hw1 : i16w ((rdL out0 (i : Int) zc).f_many + 1) = (rdL out0 (i : Int) zc).f_many + 1 := by rw [hoi] at hmn; exact i16w_id (by omega) (by omega)
      have hw2 : i64w ((rdL out0 (i : Int) zc).f_many + 1) = (rdL out0 (i : Int) zc).f_many + 1 := by rw [hoi] at hmn; exact i64w_id (by omega) (by omega)
      have hcr : ∀ b l, impl_crossed.f N b l = some (crossedB b l) := fun _ _ => rfl
      have hnext : i64w ((j : Int) + 1) = ((j + 1 : Nat) : Int) := i64w_succ hj (by omega)
      have gi : (0 : Int) ≤ (i : Int) ∧ (i : Int) < (out.length : Int) := ⟨by omega, by omega⟩
      have gT : 0 ≤ numF F (crossedB b (loadsF F b)[j]) ∧ numF F (crossedB b (loadsF F b)[j]) < (tb.length : Int) := ⟨hto.1, by unfold nB at hlt; omega⟩
      have gA : 0 ≤ numF F b ∧ numF F b < (tb.length : Int) := ⟨hnb.1, by unfold nB at hlt; omega⟩
      have gF : 0 ≤ numF F (crossedB b (loadsF F b)[j]) ∧ numF F (crossedB b (loadsF F b)[j]) < (fr.length : Int) := ⟨hto.1, by unfold nB at hlt; omega⟩
      have gB : 0 ≤ numF F (crossedB b (loadsF F b)[j]) ∧ numF F (crossedB b (loadsF F b)[j]) < (ba.length : Int) := ⟨hto.1, by unfold nB at hlt; omega⟩
      have hql : qu.length = out.length := by rw [r4.q, List.length_map]
      simp only [spec_l05Find.b4, _impl_Ferry_search.b2, g1, g2, and_self, if_true, rdL_nat hj, F_eta, cross_spec h (show 40 < N by omega) hb255 ⟨hl0, show (loadsF F b)[j] ≤ 65535 by omega⟩, hcode, Option.bind_some, index_spec h.t8 (N := N) ⟨hn0, show (crossedB b (loadsF F b)[j]).f_Near ≤ 255 by omega⟩, if_pos gi, hoi, hb, hcr, if_pos gT, hat, if_pos gA, if_pos gF, if_pos gB, List.length_singleton, hyes, hw1, hw2]
      by_cases hnew : rdL tb (numF F (crossedB b (loadsF F b)[j])) 0 < 0
      · have hmet := (r4.tells h.t8 hnb').1 hnew
        rw [if_pos hnew, if_neg hmet, if_pos (by unfold nB at hlen; omega), if_pos (by unfold nB at hlen; omega)]
        have hadd := r4.add h.t8 hnb' hmet hio (loadsF F b)[j]
        rw [hoi, hb] at hadd
        obtain ⟨wy', hwl, hj7⟩ := j7_next (N := N) (to := numF F (crossedB b (loadsF F b)[j])) (k := (i : Int)) (j := (j : Int)) (qu0 := qu0) (ways := wy) (tb := stL tb (numF F (crossedB b (loadsF F b)[j])) ((rdL out0 (i : Int) zc).f_many + 1)) (fr := stL fr (numF F (crossedB b (loadsF F b)[j])) (numF F b)) (ba := stL ba (numF F (crossedB b (loadsF F b)[j])) (loadsF F b)[j]) (qu := qu ++ [numF F (crossedB b (loadsF F b)[j])]) (n := nB F) hto (by rw [hat]; exact hnb) hadd.lt.1 r5
        rw [hj7]
        simp only [_impl_Ferry_search.j4, hnext]
        refine ⟨_, _, rfl, rfl, ⟨rfl, by dsimp only; omega, by dsimp only; omega, hadd, hwl, ⟨ext ++ [⟨crossedB b (loadsF F b)[j], (i : Int), (loadsF F b)[j], (rdL out0 (i : Int) zc).f_many + 1⟩], by rw [hext, List.append_assoc]⟩, ?_⟩, by dsimp only; omega⟩
        intro m hm hmj
        rw [List.map_append, List.mem_append]
        by_cases e : m = j
        · subst e; right; simp
        · left; exact r7 m hm (by dsimp only at hmj; omega)
      · have hmet : mGet met (crossedB b (loadsF F b)[j]) false = true := by
          have := (not_congr (r4.tells h.t8 hnb')).1 hnew
          simpa using this
        rw [if_neg hnew, if_pos hmet]
        obtain ⟨wy', hwl, hj7⟩ := j7_next (N := N) (to := numF F (crossedB b (loadsF F b)[j])) (k := (i : Int)) (j := (j : Int)) (qu0 := qu0) (ways := wy) (tb := tb) (fr := fr) (ba := ba) (qu := qu) (n := nB F) hto (by rw [hat]; exact hnb) hlt.1 r5
        rw [hj7]
        simp only [_impl_Ferry_search.j4, hnext]
        refine ⟨_, _, rfl, rfl, ⟨rfl, by dsimp only; omega, by dsimp only; omega, r4, hwl, ⟨ext, hext⟩, ?_⟩, by dsimp only; omega⟩
        intro m hm hmj
        by_cases e : m = j
        · subst e; exact (r4.met _).1 hmet
        · exact r7 m hm (by dsimp only at hmj; omega)
    · left
      have g1 : ¬ (j : Int) < (loadsF F b).length := by omega
      simp only [spec_l05Find.b4, _impl_Ferry_search.b2, g1, if_false]
      refine ⟨_, _, rfl, rfl, _, _, _, _, _, _, _, rfl, rfl, r4, r5, r6, ?_⟩
      intro l hl
      obtain ⟨m, hm, rfl⟩ := List.mem_iff_getElem.1 hl
      exact r7 m hm (by omega)) N N (tb0, wy0, fr0, ba0, qu0, 0) (out0, met0, 0) ⟨rfl, by simp, by simp, hR, hw0, ⟨[], by simp⟩, fun m hm hmj => by dsimp only at hmj; omega⟩ (by dsimp only; omega) (by dsimp only; omega)
  obtain ⟨tb, wy, fr, ba, qu, out, met, rfl, rfl, q1, q2, q3, q4⟩ := h3
  exact ⟨tb, wy, fr, ba, qu, out, met, h1, h2, q1, q2, q3, q4⟩
theorem outer {N : Nat} {F : Fe} (h : OkF F) (hN : 2000 < N) {out0 : List Cr} {met0 : List (Bk × Bool)} {tb0 fr0 ba0 qu0 wy0 : List Int} (hR : Rel F out0 met0 tb0 fr0 ba0 qu0) (hw0 : (wy0.length : Int) = nB F) :
    ∃ tb wy fr ba qu out met, rounds (fun s => spec_l05Find.b2 N F s.1 s.2.1 s.2.2.1 s.2.2.2.1 s.2.2.2.2.1 s.2.2.2.2.2) N (tb0, wy0, fr0, ba0, qu0, 0) = some (.go (tb, wy, fr, ba)) ∧
      rounds (fun s => _impl_Ferry_search.b0 N F s.1 s.2.1 s.2.2) N (out0, met0, 0) = some (.go out) ∧ Rel F out met tb fr ba qu ∧ (∃ ext, out = out0 ++ ext) ∧ Closed F out (out.length : Int) := by
  have hall := all_range h.t8
  obtain ⟨e, e', h1, h2, h3⟩ := rounds_both (b := fun s => spec_l05Find.b2 N F s.1 s.2.1 s.2.2.1 s.2.2.2.1 s.2.2.2.2.1 s.2.2.2.2.2) (b' := fun s => _impl_Ferry_search.b0 N F s.1 s.2.1 s.2.2)
    (fun s s' => s.2.2.2.2.2 = s'.2.2 ∧ 0 ≤ s'.2.2 ∧ s'.2.2 ≤ (s'.1.length : Int) ∧ Rel F s'.1 s'.2.1 s.1 s.2.2.1 s.2.2.2.1 s.2.2.2.2.1 ∧ (s.2.1.length : Int) = nB F ∧ (∃ ext, s'.1 = out0 ++ ext) ∧ Closed F s'.1 s'.2.2)
    (fun s => (513 - s.2.2.2.2.2).toNat)
    (fun e e' => ∃ tb wy fr ba qu out met, e = .go (tb, wy, fr, ba) ∧ e' = .go out ∧ Rel F out met tb fr ba qu ∧ (∃ ext, out = out0 ++ ext) ∧ Closed F out (out.length : Int)) (by
    rintro ⟨tb, wy, fr, ba, qu, i⟩ ⟨out, met, i'⟩ ⟨r1, r2, r3, r4, r5, r6, r7⟩
    simp only at r1 r2 r3 r4 r5 r6 r7
    subst r1
    obtain ⟨i, rfl⟩ := Int.eq_ofNat_of_zero_le r2
    have hlen := r4.len h.t8
    have hql : qu.length = out.length := by rw [r4.q, List.length_map]
    by_cases hi : i < out.length
    · right
      have g1 : (i : Int) < out.length := by omega
      have g1' : (i : Int) < qu.length := by omega
      have g2 : (0 : Int) ≤ i := by omega
      have hbn : nearOk F (rdL out (i : Int) zc).f_bank := r4.near _ (rdL_memb hi)
      have hat : rdL qu (i : Int) 0 = numF F (rdL out (i : Int) zc).f_bank := by rw [r4.q, rdL_map _ _ zc hi]
      have hnb := numF_range h.t8 hbn
      obtain ⟨n, hn⟩ := Int.eq_ofNat_of_zero_le hnb.1
      have hat2 : spec_l05At.f N F (numF F (rdL out (i : Int) zc).f_bank) = some (rdL out (i : Int) zc).f_bank := by
        rw [hn, at_spec h.t8 (by omega), ← hn, atF_num h.t8 hbn]
      have hb255 : 0 ≤ (rdL out (i : Int) zc).f_bank.f_Near ∧ (rdL out (i : Int) zc).f_bank.f_Near ≤ 255 := ⟨hbn.1, by have := hbn.2; omega⟩
      obtain ⟨tb', wy', fr', ba', qu', out', met', q1, q2, q3, q4, ⟨ext, q5⟩, q6⟩ := inner h hN r4 r5 hi
      have hnext : i64w ((i : Int) + 1) = ((i + 1 : Nat) : Int) := i64w_succ hi (by unfold nB at hlen; omega)
      have hlen' := q3.len h.t8
      simp only [spec_l05Find.b2, _impl_Ferry_search.b0, g1, g1', g2, and_self, if_true, hat, hat2, F_eta, Option.bind_some, loads_spec h (show 300 < N by omega) hb255, loads_impl h (show 300 < N by omega) hb255]
      rw [show (zc : Cr) = z_S_impl_crossing from rfl] at q1 q2
      rw [q1, q2]
      simp only [Option.bind_some, Ex.finB, spec_l05Find.a4, _impl_Ferry_search.a2, hnext]
      obtain ⟨ext0, r6⟩ := r6
      have hl2 : out.length ≤ out'.length := by rw [q5, List.length_append]; omega
      refine ⟨_, _, rfl, rfl, ⟨rfl, by dsimp only; omega, by dsimp only; omega, q3, q4, ⟨ext0 ++ ext, by dsimp only; rw [q5, r6, List.append_assoc]⟩, ?_⟩, by dsimp only; unfold nB at hlen; omega⟩
      intro p hp l hl
      dsimp only at hp hl ⊢
      have hpo : p < out.length := by omega
      have hpe : rdL out' (p : Int) zc = rdL out (p : Int) zc := by rw [q5]; exact rdL_pre _ _ _ hpo
      rw [hpe] at hl ⊢
      by_cases e : p = i
      · subst e; exact q6 l hl
      · rw [q5, List.map_append, List.mem_append]
        left; exact r7 p (by omega) l hl
    · left
      have g1 : ¬ (i : Int) < out.length := by omega
      have g1' : ¬ (i : Int) < qu.length := by omega
      simp only [spec_l05Find.b2, _impl_Ferry_search.b0, g1, g1', if_false]
      refine ⟨_, _, rfl, rfl, _, _, _, _, _, _, _, rfl, rfl, r4, r6, ?_⟩
      have : i = out.length := by omega
      rw [this] at r7
      exact r7) N N (tb0, wy0, fr0, ba0, qu0, 0) (out0, met0, 0) ⟨rfl, by simp, by simp, hR, hw0, ⟨[], by simp⟩, fun p hp => by dsimp only at hp; omega⟩ (by dsimp only; omega) (by dsimp only; omega)
  obtain ⟨tb, wy, fr, ba, qu, out, met, rfl, rfl, q1, q2, q3⟩ := h3
  exact ⟨tb, wy, fr, ba, qu, out, met, h1, h2, q1, q2, q3⟩
end Go.Proofs.YtgoblgmidejdgaaX
