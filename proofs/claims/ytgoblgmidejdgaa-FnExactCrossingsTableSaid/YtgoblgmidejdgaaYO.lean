/- Ferries, plainly: what the searches find; a list turned round; the shortest crossing. -/
import Derived.Test.YtgoblgmidejdgaaYN
namespace Go.Proofs.YtgoblgmidejdgaaX
open Go
set_option linter.unusedVariables false
set_option linter.unusedSimpArgs false
theorem rounds_first {α ρ : Type} {b : Int → Option (Bd ρ Unit Int)} (a : List α) (p : α → Bool) (r : Nat → ρ) {N : Nat} (hN : a.length < N)
    (h : ∀ i (hi : i < a.length), b (i : Int) = if p a[i] = true then some (.out (.ret (r i))) else some (.next ((i + 1 : Nat) : Int)))
    (he : b (a.length : Int) = some (.out (.go ()))) : ∃ e, rounds b N 0 = some e ∧ ((∃ i, ∃ hi : i < a.length, p a[i] = true ∧ e = .ret (r i)) ∨ ((∀ x ∈ a, p x = false) ∧ e = .go ())) := by
  have main : ∀ (n k : Nat), k ≤ a.length → a.length - k < n → (∀ m (hm : m < a.length), m < k → p a[m] = false) → ∃ e, rounds b n (k : Int) = some e ∧ ((∃ i, ∃ hi : i < a.length, p a[i] = true ∧ e = .ret (r i)) ∨ ((∀ x ∈ a, p x = false) ∧ e = .go ())) := by
    intro n
    induction n with
    | zero => intro k _ hk; omega
    | succ n ih =>
      intro k hk hn hpre
      by_cases hl : k < a.length
      · have hb := h k hl
        by_cases hp : p a[k] = true
        · rw [if_pos hp] at hb
          exact ⟨_, rounds_out hb, .inl ⟨k, hl, hp, rfl⟩⟩
        · rw [if_neg hp] at hb
          obtain ⟨e, h1, h2⟩ := ih (k + 1) hl (by omega) (fun m hm hmk => by
            by_cases c : m = k
            · subst c; simpa using hp
            · exact hpre m hm (by omega))
          exact ⟨e, (rounds_next hb).trans h1, h2⟩
      · obtain rfl : k = a.length := by omega
        refine ⟨_, rounds_out he, .inr ⟨fun x hx => ?_, rfl⟩⟩
        obtain ⟨m, hm, rfl⟩ := List.mem_iff_getElem.1 hx
        exact hpre m hm hm
  exact main N 0 (Nat.zero_le _) (by omega) (fun m _ hm => by omega)
def c0F (F : Fe) : Cr := ⟨⟨allF F, false⟩, -1, 0, 0⟩
theorem repl_len {F : Fe} (hT : T8 F) (v : Int) : ((List.replicate (nB F).toNat v).length : Int) = nB F := by
  have := all_range hT
  simp [nB]
  omega
theorem repl_rd {n : Nat} {v j : Int} (h0 : 0 ≤ j) (h1 : j < n) : rdL (List.replicate n v) j 0 = v := by
  obtain ⟨j, rfl⟩ := Int.eq_ofNat_of_zero_le h0
  rw [rdL_nat (by simp; omega), List.getElem_replicate]
theorem rel0 {F : Fe} (hT : T8 F) : Rel F [c0F F] (mSet [] (⟨allF F, false⟩ : Bk) true) (stL (List.replicate (nB F).toNat (-1)) (allF F) 0) (List.replicate (nB F).toNat 0) (List.replicate (nB F).toNat 0) [allF F] := by
  have hall := all_range hT
  have hn : numF F (c0F F).f_bank = allF F := rfl
  have hl1 := repl_len hT (-1)
  have hl0 := repl_len hT 0
  have hA : 0 ≤ allF F ∧ allF F < ((List.replicate (nB F).toNat (-1 : Int)).length : Int) := ⟨by omega, by rw [hl1]; unfold nB; omega⟩
  refine ⟨by simp, by simp [hn], ?_, by simp, ?_, ⟨by rw [stL_len]; exact hl1, hl0, hl0⟩, ?_, ?_⟩
  · intro c hc
    rw [List.mem_singleton] at hc
    subst hc
    exact ⟨show 0 ≤ allF F by omega, Int.le_refl _⟩
  · intro b
    rw [mGet_set]
    have e : mGet ([] : List (Bk × Bool)) b false = false := rfl
    rw [e]
    by_cases c : b = ⟨allF F, false⟩
    · rw [if_pos c]; simp [c, c0F]
    · rw [if_neg c]; simp [c, c0F]
  · intro j j0 j1 hj
    simp only [List.map_cons, List.map_nil, List.mem_singleton, hn] at hj
    rw [rdL_st hA ⟨j0, by rw [hl1]; exact j1⟩, if_neg hj]
    exact repl_rd j0 (by have := all_range hT; unfold nB at j1 ⊢; omega)
  · intro p hp
    simp only [List.length_singleton] at hp
    obtain rfl : p = 0 := by omega
    have e : rdL [c0F F] ((0 : Nat) : Int) zc = c0F F := rfl
    rw [e, hn, rdL_st hA hA, if_pos rfl]
    exact ⟨rfl, fun _ => ⟨rfl, rfl⟩, fun h => absurd h (by decide)⟩
theorem search_both {N : Nat} {F : Fe} (h : OkF F) (hN : 2000 < N) : ∃ tb wy fr ba qu out met, spec_l05Find.f N F = some ⟨tb, wy, fr, ba⟩ ∧ _impl_Ferry_search.f N F = some out ∧ Rel F out met tb fr ba qu ∧ (∃ ext, out = c0F F :: ext) ∧ Closed F out (out.length : Int) := by
  have hall := all_range h.t8
  have hl1 := repl_len h.t8 (-1)
  have hl0 := repl_len h.t8 0
  have hnB : (nB F).toNat ≤ 512 ∧ 0 ≤ nB F := by unfold nB; omega
  obtain ⟨tb, wy, fr, ba, qu, out, met, q1, q2, q3, ⟨ext, q4⟩, q5⟩ := outer h hN (rel0 h.t8) (wy0 := stL (List.replicate (nB F).toNat 0) (allF F) 1) (by rw [stL_len]; exact hl0)
  refine ⟨tb, wy, fr, ba, qu, out, met, ?_, ?_, q3, ⟨ext, by rw [q4]; rfl⟩, q5⟩
  · have e1 : i64w (2 * i64w (i64w (allF F) + 1)) = nB F := by
      rw [i64w_id (x := allF F) (by omega) (by omega), i64w_id (x := allF F + 1) (by omega) (by omega), i64w_id (by omega) (by omega)]; rfl
    have hf := rounds_copy (b := fun s => spec_l05Find.b0 N (allF F) s.1 s.2) (List.replicate (nB F).toNat (-1)) (0 : Int) (N := N) (by simp; omega) (by
      intro x i hi hx
      rw [List.length_replicate] at hi
      rw [List.length_replicate] at hx
      have g1 : (i : Int) < nB F := by omega
      have g2 : (0 : Int) ≤ (i : Int) ∧ (i : Int) < (x.length : Int) := ⟨by omega, by omega⟩
      simp only [spec_l05Find.b0, e1, if_pos g1, if_pos g2, stL_nat, List.getElem_replicate]
      rw [i64w_id (by omega) (by omega)]
      rfl) (by
      intro x hx
      rw [List.length_replicate] at hx ⊢
      simp only [spec_l05Find.b0, e1]
      rw [if_neg (by omega)])
    rw [List.length_replicate] at hf
    have e2 : i64w (2 * i64w (allF F + 1)) = nB F := by
      rw [i64w_id (x := allF F + 1) (by omega) (by omega), i64w_id (by omega) (by omega)]; rfl
    have hA : (0 : Int) ≤ allF F ∧ allF F < ((List.replicate (nB F).toNat (-1 : Int)).length : Int) := ⟨by omega, by rw [hl1]; unfold nB; omega⟩
    have hA0 : (0 : Int) ≤ allF F ∧ allF F < ((List.replicate (nB F).toNat (0 : Int)).length : Int) := ⟨by omega, by rw [hl0]; unfold nB; omega⟩
    have hg1 : (0 : Int) ≤ nB F ∧ nB F ≤ 140737488355328 := ⟨hnB.2, by omega⟩
    have hg2 : (0 : Int) ≤ nB F ∧ nB F ≤ 35184372088832 := ⟨hnB.2, by omega⟩
    simp only [spec_l05Find.f, F_eta, spec_all N h.t8, Option.bind_some, e1, e2, if_pos hg1, if_pos hg2, hf, Ex.fin, spec_l05Find.a0, i64w_id (x := allF F) (by omega) (by omega), if_pos hA, if_pos hA0, q1, spec_l05Find.a2]
  · simp only [_impl_Ferry_search.f, F_eta, impl_all N h.t8, Option.bind_some]
    have e : ([(⟨(⟨allF F, false⟩ : S_impl_Bank), (-1), 0, 0⟩ : S_impl_crossing)] : List Cr) = [c0F F] := rfl
    rw [e, q2]
    rfl
/- turning round -/
def rvf (xs : List Int) (k m : Nat) : Int := if m < k ∨ xs.length - k ≤ m then xs.getD (xs.length - 1 - m) 0 else xs.getD m 0
def rv (xs : List Int) (k : Nat) : List Int := (List.range xs.length).map (rvf xs k)
theorem rv_len (xs : List Int) (k : Nat) : (rv xs k).length = xs.length := by simp [rv]
theorem rv_rd {xs : List Int} {k m : Nat} (hm : m < xs.length) : rdL (rv xs k) (m : Int) 0 = rvf xs k m := by
  rw [rdL_nat (by rw [rv_len]; exact hm)]
  simp [rv]
theorem map_set (f : Nat → Int) (n k : Nat) (v : Int) : ((List.range n).map f).set k v = (List.range n).map fun m => if m = k then v else f m := by
  apply List.ext_getElem
  · simp
  · intro m h1 h2
    rw [List.getElem_set]
    simp only [List.getElem_map, List.getElem_range]
    by_cases c : k = m
    · rw [if_pos c, if_pos c.symm]
    · rw [if_neg c, if_neg (fun e => c e.symm)]
theorem rev_eq {N : Nat} (xs : List Int) (hl : xs.length ≤ 1000) (hN : 2000 < N) : slices_Reverse_uint16_uint16.f N xs = some xs.reverse := by
  have q := rounds_for (b := fun s => slices_Reverse_uint16_uint16.b0 N s.1 s.2.1 s.2.2) (e := .go xs.reverse) (fun k => (rv xs k, (k : Int), (xs.length : Int) - 1 - (k : Int))) (xs.length / 2) 0 N (by omega) (by omega) (by
    intro k _ hk
    have g0 : (k : Int) < (xs.length : Int) - 1 - (k : Int) := by omega
    have gk : (0 : Int) ≤ (k : Int) ∧ (k : Int) < ((rv xs k).length : Int) := ⟨by omega, by rw [rv_len]; omega⟩
    obtain ⟨j, hj⟩ : ∃ j : Nat, (xs.length : Int) - 1 - (k : Int) = (j : Int) := ⟨xs.length - 1 - k, by omega⟩
    have gj : (0 : Int) ≤ (j : Int) ∧ (j : Int) < ((rv xs k).length : Int) := ⟨by omega, by rw [rv_len]; omega⟩
    have gj2 : ∀ v, (0 : Int) ≤ (j : Int) ∧ (j : Int) < ((stL (rv xs k) (k : Int) v).length : Int) := fun v => ⟨by omega, by rw [stL_len, rv_len]; omega⟩
    rw [hj] at g0 ⊢
    simp only [slices_Reverse_uint16_uint16.b0, if_pos g0, if_pos gk, if_pos gj, if_pos (gj2 _)]
    rw [rv_rd (by omega), rv_rd (by omega), i64w_id (by omega) (by omega), i64w_id (by omega) (by omega)]
    have e1 : stL (stL (rv xs k) (k : Int) (rvf xs k j)) (j : Int) (rvf xs k k) = rv xs (k + 1) := by
      rw [stL_nat, stL_nat]
      unfold rv
      rw [map_set, map_set]
      apply List.map_congr_left
      intro m hm
      have := List.mem_range.1 hm
      have hjn : j = xs.length - 1 - k := by omega
      unfold rvf
      by_cases c1 : m = j
      · rw [if_pos c1, if_neg (by omega), if_pos (by omega)]
        congr 1; omega
      · rw [if_neg c1]
        by_cases c2 : m = k
        · rw [if_pos c2, if_neg (by omega), if_pos (by omega)]
          congr 1; omega
        · rw [if_neg c2]
          by_cases c3 : m < k ∨ xs.length - k ≤ m
          · rw [if_pos c3, if_pos (by omega)]
          · rw [if_neg c3, if_neg (by omega)]
    rw [e1, show (k : Int) + 1 = ((k + 1 : Nat) : Int) by omega, show (j : Int) - 1 = (xs.length : Int) - 1 - ((k + 1 : Nat) : Int) by omega]) (by
    simp only [slices_Reverse_uint16_uint16.b0]
    rw [if_neg (by omega)]
    have : rv xs (xs.length / 2) = xs.reverse := by
      apply List.ext_getElem
      · simp [rv]
      · intro m h1 h2
        rw [rv_len] at h1
        simp only [rv, List.getElem_map, List.getElem_range, List.getElem_reverse]
        unfold rvf
        by_cases c : m < xs.length / 2 ∨ xs.length - xs.length / 2 ≤ m
        · rw [if_pos c]
          simp [List.getD_eq_getElem?_getD, List.getElem?_eq_getElem (show xs.length - 1 - m < xs.length by omega)]
        · rw [if_neg c]
          have e : xs.length - 1 - m = m := by omega
          simp only [e]
          simp [List.getD_eq_getElem?_getD, List.getElem?_eq_getElem h1]
    rw [this])
  have e0 : rv xs 0 = xs := by
    apply List.ext_getElem
    · simp [rv]
    · intro m h1 h2
      simp only [rv, List.getElem_map, List.getElem_range]
      unfold rvf
      rw [if_neg (by omega)]
      simp [List.getD_eq_getElem?_getD, List.getElem?_eq_getElem h2]
  have q' : rounds (fun s => slices_Reverse_uint16_uint16.b0 N s.1 s.2.1 s.2.2) N (xs, 0, i64w ((xs.length : Int) - 1)) = some (.go xs.reverse) := by
    rw [i64w_id (by omega) (by omega)]
    have := q
    simp only [e0] at this
    simpa using this
  unfold slices_Reverse_uint16_uint16.f
  rw [q']; rfl
/- the shortest crossing -/
def endB : Bk := ⟨0, true⟩
theorem end_near {F : Fe} (hT : T8 F) : nearOk F endB := ⟨Int.le_refl _, by have := all_range hT; show (0 : Int) ≤ allF F; omega⟩
theorem num_end (F : Fe) : numF F endB = allF F + 1 := by simp [numF, endB]
theorem Short_ok {N : Nat} {F : Fe} (h : OkF F) (hN : 3000 < N) {tb wy fr ba qu : List Int} {out : List Cr} {met : List (Bk × Bool)} (e1 : spec_l05Find.f N F = some ⟨tb, wy, fr, ba⟩) (e2 : _impl_Ferry_search.f N F = some out) (hR : Rel F out met tb fr ba qu) (hok1 : spec_l05Ok.f N F = some true) (hok2 : impl_ValidFerry.f N F = some true) :
    ∃ l c, spec_ShortestCrossing.f N F = some (l, c) ∧ impl_ShortestCrossing.f N F = some (l, c) ∧ l.length ≤ 512 ∧ (c = 0 ↔ endB ∈ out.map (·.f_bank)) := by
  have hall := all_range h.t8
  have hlen := hR.len h.t8
  have hlt := hR.lt
  have hlen512 : out.length ≤ 512 := by unfold nB at hlen; omega
  have hlast : spec_l05Last.f N F = some (allF F + 1) := by
    simp only [spec_l05Last.f, F_eta, spec_all N h.t8, Option.bind_some, i64w_id (x := allF F) (by omega) (by omega), i64w_id (x := allF F + 1) (by omega) (by omega)]
  have hgl : (0 : Int) ≤ allF F + 1 ∧ allF F + 1 < (tb.length : Int) := ⟨by omega, by unfold nB at hlt; omega⟩
  have htell := (hR.tells h.t8 (end_near h.t8)).trans (not_congr (hR.met endB))
  rw [num_end] at htell
  obtain ⟨e, he, hq⟩ := rounds_first (b := fun s => slices_IndexFunc_impl_crossing_impl_crossing_at_impl_ShortestCrossing_1.b0 N out s) out (fun c => decide (c.f_bank = endB)) (fun i => (i : Int)) (N := N) (by omega) (by
    intro i hi
    have g1 : (i : Int) < out.length := by omega
    have g2 : (0 : Int) ≤ i := by omega
    simp only [slices_IndexFunc_impl_crossing_impl_crossing_at_impl_ShortestCrossing_1.b0, impl_ShortestCrossing_1.f, g1, g2, and_self, if_true, rdL_nat hi, Option.bind_some, i64w_succ hi (show out.length ≤ 9223372036854775807 by omega)]
    rfl) (by
    simp only [slices_IndexFunc_impl_crossing_impl_crossing_at_impl_ShortestCrossing_1.b0]
    rw [if_neg (by omega)])
  simp only [spec_ShortestCrossing.f, impl_ShortestCrossing.f, F_eta, hok1, hok2, Option.bind_some, if_true, e1, e2, hlast, if_pos hgl, slices_IndexFunc_impl_crossing_impl_crossing_at_impl_ShortestCrossing_1.f, he]
  rcases hq with ⟨p, hp, hpb, rfl⟩ | ⟨hno, rfl⟩
  · -- found
    have hpb := of_decide_eq_true hpb
    have hin : endB ∈ out.map (·.f_bank) := List.mem_map.2 ⟨out[p], List.getElem_mem hp, hpb⟩
    have hnl : ¬ rdL tb (allF F + 1) 0 < 0 := fun x => (htell.1 x) hin
    simp only [if_neg hnl, Option.bind_some, Ex.fin, if_neg (show ¬ (p : Int) < 0 by omega)]
    obtain ⟨f, f', h1, h2, h3⟩ := rounds_both (b := fun s => impl_ShortestCrossing.b0 N out s.1 s.2) (b' := fun s => spec_ShortestCrossing.b0 N ⟨tb, wy, fr, ba⟩ s.1 s.2)
      (fun s s' => ∃ k : Nat, s.1 = (k : Int) ∧ k < out.length ∧ s'.1 = numF F (rdL out (k : Int) zc).f_bank ∧ s'.2 = s.2.reverse ∧ s.2.length + k ≤ 512) (fun s => s.1.toNat) (fun f f' => ∃ l : List Int, f = .go l ∧ f' = .go l.reverse ∧ l.length ≤ 512) (by
      rintro ⟨i, acc⟩ ⟨a, acc'⟩ ⟨k, r1, r2, r3, r4, r5⟩
      simp only at r1 r2 r3 r4 r5
      subst r1 r3 r4
      have hy := hR.yes k r2
      have hnr := numF_range h.t8 (hR.near _ (rdL_memb (z := zc) r2))
      have gk : (0 : Int) ≤ (k : Int) ∧ (k : Int) < (out.length : Int) := ⟨by omega, by omega⟩
      have gT : 0 ≤ numF F (rdL out (k : Int) zc).f_bank ∧ numF F (rdL out (k : Int) zc).f_bank < (tb.length : Int) := ⟨hnr.1, by unfold nB at hlt; omega⟩
      have gF : 0 ≤ numF F (rdL out (k : Int) zc).f_bank ∧ numF F (rdL out (k : Int) zc).f_bank < (fr.length : Int) := ⟨hnr.1, by unfold nB at hlt; omega⟩
      have gB : 0 ≤ numF F (rdL out (k : Int) zc).f_bank ∧ numF F (rdL out (k : Int) zc).f_bank < (ba.length : Int) := ⟨hnr.1, by unfold nB at hlt; omega⟩
      by_cases hk : k = 0
      · left
        obtain ⟨z1, z2⟩ := hy.2.1 hk
        have d1 : ¬ (rdL out (k : Int) zc).f_before ≥ 0 := by omega
        have d2 : ¬ rdL tb (numF F (rdL out (k : Int) zc).f_bank) 0 > 0 := by rw [hy.1]; omega
        simp only [impl_ShortestCrossing.b0, spec_ShortestCrossing.b0, if_pos gk, if_pos gT]
        refine ⟨.go acc, .go acc.reverse, ?_, ?_, acc, rfl, rfl, by omega⟩
        · exact if_neg d1
        · exact if_neg d2
      · right
        obtain ⟨z1, z2, z3, z4, z5, z6⟩ := hy.2.2 (by omega)
        obtain ⟨q, hq⟩ := Int.eq_ofNat_of_zero_le z1
        have d1 : (rdL out (k : Int) zc).f_before ≥ 0 := z1
        have d2 : rdL tb (numF F (rdL out (k : Int) zc).f_bank) 0 > 0 := by rw [hy.1]; omega
        have d3 : acc.length + ([(rdL out (k : Int) zc).f_load]).length ≤ 70368744177664 := by simp; omega
        have d4 : ([(rdL out (k : Int) zc).f_load]).length + acc.reverse.length ≤ 70368744177664 := by simp; omega
        refine ⟨((rdL out (k : Int) zc).f_before, acc ++ [(rdL out (k : Int) zc).f_load]), (numF F (rdL out ((rdL out (k : Int) zc).f_before) zc).f_bank, [(rdL out (k : Int) zc).f_load] ++ acc.reverse), ?_, ?_, ⟨q, by dsimp only; exact hq, by omega, by dsimp only; rw [hq], by simp, by simp; omega⟩, by dsimp only; omega⟩
        · simp only [impl_ShortestCrossing.b0, if_pos gk]
          rw [if_pos d1, if_pos d3]
        · simp only [spec_ShortestCrossing.b0, if_pos gT, if_pos gF, if_pos gB, z5, z6]
          rw [if_pos d2, if_pos d4]) N N ((p : Int), []) (allF F + 1, []) ⟨p, rfl, hp, by dsimp only; rw [rdL_nat hp, hpb, num_end], rfl, by simp; omega⟩ (by dsimp only; omega) (by dsimp only; omega)
    obtain ⟨l, rfl, rfl, hl⟩ := h3
    rw [h1, h2]
    simp only [Option.bind_some, Ex.fin, spec_ShortestCrossing.a0, impl_ShortestCrossing.a0, rev_eq l (by omega) (show 2000 < N by omega)]
    exact ⟨_, _, rfl, rfl, by simp; exact hl, ⟨fun _ => hin, fun _ => rfl⟩⟩
  · have hni : ¬ endB ∈ out.map (·.f_bank) := by
      intro hm
      obtain ⟨c, hc, hb⟩ := List.mem_map.1 hm
      have := hno c hc
      rw [decide_eq_false_iff_not] at this
      exact this hb
    simp only [if_pos (htell.2 hni), Option.bind_some, Ex.fin, slices_IndexFunc_impl_crossing_impl_crossing_at_impl_ShortestCrossing_1.a0, show ((-1 : Int) < 0) from by decide, if_true]
    exact ⟨_, _, rfl, rfl, by simp, ⟨fun x => absurd x (by decide), fun x => absurd x hni⟩⟩
theorem Short_same {N : Nat} {F : Fe} (hF : InF F) (hN : 3000 < N) : ∃ l c, spec_ShortestCrossing.f N F = some (l, c) ∧ impl_ShortestCrossing.f N F = some (l, c) ∧ l.length ≤ 512 := by
  by_cases hk : okF F = true
  · have h := okF_iff.1 hk
    obtain ⟨tb, wy, fr, ba, qu, out, met, e1, e2, hR, _, _⟩ := search_both h (show 2000 < N by omega)
    obtain ⟨l, c, q1, q2, q3, _⟩ := Short_ok h hN e1 e2 hR (by rw [okF_spec hF (by omega), hk]) (by rw [okF_impl hF (by omega), hk])
    exact ⟨l, c, q1, q2, q3⟩
  · simp only [spec_ShortestCrossing.f, impl_ShortestCrossing.f, F_eta, okF_spec hF (show 40 < N by omega), okF_impl hF (show 40 < N by omega), Option.bind_some, if_neg hk]
    exact ⟨_, _, rfl, rfl, by simp⟩
end Go.Proofs.YtgoblgmidejdgaaX
