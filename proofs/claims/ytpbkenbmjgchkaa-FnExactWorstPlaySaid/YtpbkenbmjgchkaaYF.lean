/- Games of questions and lies, plainly: the candidates. -/
import Derived.Test.YtpbkenbmjgchkaaYE
import Derived.Test.YtpbkenbmjgchkaaXMark
namespace Go.Proofs.YtpbkenbmjgchkaaX
open Go
set_option linter.unusedVariables false
set_option linter.unusedSimpArgs false
def cd (G : Ga) (k : Nat) : List Int := (idx k).filter fun m => decide (W G m ≤ G.f_Lies)
theorem cd_succ (G : Ga) (k : Nat) : cd G (k + 1) = if W G (k : Int) ≤ G.f_Lies then cd G k ++ [(k : Int)] else cd G k := by
  unfold cd
  rw [idx_succ, List.filter_append]
  by_cases c : W G (k : Int) ≤ G.f_Lies
  · rw [if_pos c]; simp [c]
  · rw [if_neg c]; simp [c]
theorem cd_len (G : Ga) (k : Nat) : (cd G k).length ≤ k := by
  have := List.length_filter_le (fun m => decide (W G m ≤ G.f_Lies)) (idx k)
  rwa [idx_len] at this
theorem cd_mem {G : Ga} {k : Nat} {x : Int} (h : x ∈ cd G k) : 0 ≤ x ∧ x < k := idx_mem (List.mem_filter.1 h).1
theorem idx_sorted (n : Nat) : (idx n).Pairwise (· ≤ ·) := by
  unfold idx
  rw [List.pairwise_map]
  exact List.Pairwise.imp (fun h => by omega) (List.pairwise_lt_range)
theorem cd_sorted (G : Ga) (k : Nat) : (cd G k).Pairwise (· ≤ ·) := (idx_sorted k).filter _
theorem cand_spec {N : Nat} {G : Ga} (h : OkG G) (hN : 70 < N) : spec_l06Candidates.f N G = some (cd G (nG G)) := by
  have hn := h.n60
  have hl := h.l3
  unfold B60 at hn
  have e1 : i64w G.f_Numbers = G.f_Numbers := i64w_id (by omega) (by omega)
  have e2 : i64w G.f_Lies = G.f_Lies := i64w_id (by omega) (by omega)
  have hnG : (nG G : Int) = G.f_Numbers := by unfold nG; omega
  have q := rounds_for (b := fun s => spec_l06Candidates.b0 N G s.1 s.2) (e := .go (cd G (nG G))) (fun k => (cd G k, (k : Int))) (nG G) 0 N (Nat.zero_le _) (by unfold nG; omega) (by
    intro k _ hk
    have hlen := cd_len G k
    simp only [spec_l06Candidates.b0, spec_l06Candidates.j2, e1, e2, if_pos (show (k : Int) < G.f_Numbers by omega), G_eta, lies_spec h.len hN (m := (k : Int)) (by omega), Option.bind_some, List.length_singleton, if_pos (show (cd G k).length + 1 ≤ 17592186044416 by omega), i64w_succ hk (show nG G ≤ 9223372036854775807 by omega)]
    rw [cd_succ]
    by_cases c : W G (k : Int) ≤ G.f_Lies
    · rw [if_pos c, if_pos c]
    · rw [if_neg c, if_neg c]) (by
    simp only [spec_l06Candidates.b0, e1]
    rw [if_neg (by omega)])
  unfold spec_l06Candidates.f
  have q' : rounds (fun s => spec_l06Candidates.b0 N G s.1 s.2) N ([], 0) = some (.go (cd G (nG G))) := q
  rw [q']; rfl
/- the library's Concat -/
theorem grow_ok {N : Nat} {n : Int} (h0 : 0 ≤ n) (h1 : n ≤ 1000) : slices_Grow_int64_int64_at_nil.f N n = some [] := by
  have e : i64w (n - (i64w (0 - (([] : List Int).length : Int)))) = n := by
    rw [show (([] : List Int).length : Int) = 0 from rfl, i64w_id (x := 0 - 0) (by decide) (by decide), i64w_id (by omega) (by omega)]; omega
  unfold slices_Grow_int64_int64_at_nil.f
  rw [if_neg (by omega), e]
  by_cases c : n > 0
  · rw [if_pos c, if_pos ⟨by omega, by omega⟩, if_pos ⟨by decide, by simp, by simp; omega⟩]
    simp
  · rw [if_neg c]
theorem concat_ok {N : Nat} {xs : List (List Int)} (h : (xs.map List.length).sum ≤ 1000) (hl : xs.length ≤ 50) (hN : 70 < N) : slices_Concat_int64_int64.f N xs = some xs.flatten := by
  have hb : ∀ i : Nat, i ≤ xs.length → ((xs.take i).map List.length).sum ≤ 1000 := by
    intro i hi
    have : ((xs.take i).map List.length).sum + ((xs.drop i).map List.length).sum = (xs.map List.length).sum := by
      rw [← List.sum_append, ← List.map_append, List.take_append_drop]
    omega
  have q1 := rounds_for (b := fun s => slices_Concat_int64_int64.b0 N xs s.1 s.2) (e := .go (((xs.map List.length).sum : Nat) : Int)) (fun i => (((((xs.take i).map List.length).sum : Nat) : Int), (i : Int))) xs.length 0 N (Nat.zero_le _) (by omega) (by
    intro i _ hi
    have h1 := hb i (by omega)
    have h2 := hb (i + 1) (by omega)
    have e1 : ((xs.take (i + 1)).map List.length).sum = ((xs.take i).map List.length).sum + xs[i].length := by
      rw [List.take_succ_eq_append_getElem hi, List.map_append, List.sum_append]; simp
    have e2 : i64w (((((xs.take i).map List.length).sum : Nat) : Int) + (xs[i].length : Int)) = ((((xs.take (i + 1)).map List.length).sum : Nat) : Int) := by
      rw [i64w_id (by omega) (by omega)]; omega
    simp only [slices_Concat_int64_int64.b0, if_pos (show (i : Int) < (xs.length : Int) by omega), if_pos (show (0 : Int) ≤ (i : Int) ∧ (i : Int) < (xs.length : Int) from ⟨by omega, by omega⟩), rdL_nat hi, e2, i64w_succ hi (show xs.length ≤ 9223372036854775807 by omega)]
    rw [if_neg (by omega)]) (by
    simp only [slices_Concat_int64_int64.b0, List.take_length]
    rw [if_neg (by omega)])
  have q1' : rounds (fun s => slices_Concat_int64_int64.b0 N xs s.1 s.2) N (0, 0) = some (.go (((xs.map List.length).sum : Nat) : Int)) := q1
  have hfl : ∀ i : Nat, i ≤ xs.length → (xs.take i).flatten.length ≤ 1000 := by
    intro i hi
    rw [List.length_flatten]
    exact hb i hi
  have q2 := rounds_for (b := fun s => slices_Concat_int64_int64.b2 N xs s.1 s.2) (e := .go xs.flatten) (fun i => ((xs.take i).flatten, (i : Int))) xs.length 0 N (Nat.zero_le _) (by omega) (by
    intro i _ hi
    have h1 := hfl i (by omega)
    have h2 := hfl (i + 1) (by omega)
    have e1 : (xs.take (i + 1)).flatten = (xs.take i).flatten ++ xs[i] := by
      rw [List.take_succ_eq_append_getElem hi, List.flatten_append]; simp
    rw [e1, List.length_append] at h2
    simp only [slices_Concat_int64_int64.b2, if_pos (show (i : Int) < (xs.length : Int) by omega), if_pos (show (0 : Int) ≤ (i : Int) ∧ (i : Int) < (xs.length : Int) from ⟨by omega, by omega⟩), rdL_nat hi, if_pos (show (xs.take i).flatten.length + xs[i].length ≤ 17592186044416 by omega), i64w_succ hi (show xs.length ≤ 9223372036854775807 by omega), e1]) (by
    simp only [slices_Concat_int64_int64.b2, List.take_length]
    rw [if_neg (by omega)])
  have q2' : rounds (fun s => slices_Concat_int64_int64.b2 N xs s.1 s.2) N ([], 0) = some (.go xs.flatten) := q2
  simp only [slices_Concat_int64_int64.f, q1', Option.bind_some, Ex.fin, slices_Concat_int64_int64.a0, grow_ok (N := N) (n := (((xs.map List.length).sum : Nat) : Int)) (by omega) (by omega), q2', slices_Concat_int64_int64.a2]
/- sorted -/
theorem sl_perm {G : Ga} (h : OkG G) : ∀ k : Nat, (sl G k 0 ++ (sl G k 1 ++ (sl G k 2 ++ sl G k 3))).Perm (cd G k)
  | 0 => by simp [sl, cd, idx]
  | k + 1 => by
    have ih := List.perm_iff_count.1 (sl_perm h k)
    rw [List.perm_iff_count]
    intro x
    have q := ih x
    rw [sl_succ, sl_succ, sl_succ, sl_succ, cd_succ]
    simp only [List.count_append] at q ⊢
    by_cases c : W G (k : Int) ≤ G.f_Lies
    · rcases W_four h c with e | e | e | e
      all_goals
        simp only [e, c, true_and, false_and, if_true, if_false, List.count_append, show ¬ ((0 : Int) = 1) by decide, show ¬ ((0 : Int) = 2) by decide, show ¬ ((0 : Int) = 3) by decide, show ¬ ((1 : Int) = 0) by decide, show ¬ ((1 : Int) = 2) by decide, show ¬ ((1 : Int) = 3) by decide, show ¬ ((2 : Int) = 0) by decide, show ¬ ((2 : Int) = 1) by decide, show ¬ ((2 : Int) = 3) by decide, show ¬ ((3 : Int) = 0) by decide, show ¬ ((3 : Int) = 1) by decide, show ¬ ((3 : Int) = 2) by decide]
        have c' := c
        rw [e] at c'
        simp only [c', if_true, List.count_append]
        omega
    · simp only [c, and_false, if_false]
      exact q
theorem sort_eq {l l' : List Int} (hp : l.Perm l') (hs : l'.Pairwise (· ≤ ·)) : (l.mergeSort fun x y => decide (x ≤ y)) = l' := by
  refine List.Perm.eq_of_pairwise (le := fun a b => a ≤ b) (fun a b _ _ h1 h2 => Int.le_antisymm h1 h2) ?_ hs ((List.mergeSort_perm l _).trans hp)
  have := List.pairwise_mergeSort (le := fun x y : Int => decide (x ≤ y)) (fun a b c h1 h2 => by simp at h1 h2 ⊢; omega) (fun a b => by simp; omega) l
  exact this.imp (fun h => by simpa using h)
theorem cand_impl {N : Nat} {G : Ga} (h : OkG G) (hN : 70 < N) : _impl_Game_candidates.f N G = some (cd G (nG G)) := by
  have hn := h.n60
  unfold B60 at hn
  have hnG : nG G ≤ 60 := by unfold nG; omega
  have h0 := sl_len G (nG G) 0
  have h1 := sl_len G (nG G) 1
  have h2 := sl_len G (nG G) 2
  have h3 := sl_len G (nG G) 3
  have g : (srS G).get 0 [] = sl G (nG G) 0 ∧ (srS G).get 1 [] = sl G (nG G) 1 ∧ (srS G).get 2 [] = sl G (nG G) 2 ∧ (srS G).get 3 [] = sl G (nG G) 3 := ⟨rfl, rfl, rfl, rfl⟩
  have hc := concat_ok (N := N) (xs := [sl G (nG G) 0, sl G (nG G) 1, sl G (nG G) 2, sl G (nG G) 3]) (by simp; omega) (by simp) hN
  have hflat : [sl G (nG G) 0, sl G (nG G) 1, sl G (nG G) 2, sl G (nG G) 3].flatten = sl G (nG G) 0 ++ (sl G (nG G) 1 ++ (sl G (nG G) 2 ++ sl G (nG G) 3)) := by simp
  rw [hflat] at hc
  have hlen : (sl G (nG G) 0 ++ (sl G (nG G) 1 ++ (sl G (nG G) 2 ++ sl G (nG G) 3))).length < 4611686018427387904 := by simp only [List.length_append]; omega
  simp only [_impl_Game_candidates.f, G_eta, sorts_impl h hN, Option.bind_some, g.1, g.2.1, g.2.2.1, g.2.2.2, hc, slices_Sort_int64_int64.f, if_pos hlen, sort_eq (sl_perm h (nG G)) (cd_sorted G (nG G))]
theorem Cand_same {N : Nat} {G : Ga} (hG : InG G) (hN : 70 < N) : ∃ l c, spec_CandidatesOf.f N G = some (l, c) ∧ impl_CandidatesOf.f N G = some (l, c) ∧ l.length ≤ 60 := by
  simp only [spec_CandidatesOf.f, impl_CandidatesOf.f, G_eta, okG_spec hG hN, okG_impl hG hN, Option.bind_some]
  by_cases hk : okG G = true
  · have h := okG_iff hk
    have hn := h.n60
    unfold B60 at hn
    have hlen := cd_len G (nG G)
    simp only [if_pos hk, cand_spec h hN, cand_impl h hN, Option.bind_some]
    exact ⟨_, _, rfl, rfl, by unfold nG at hlen ⊢; omega⟩
  · simp only [if_neg hk]
    exact ⟨_, _, rfl, rfl, by simp⟩
theorem found_spec {N : Nat} {G : Ga} (h : OkG G) (hN : 70 < N) : spec_l06Found.f N G = some (if (cd G (nG G)).length = 0 then (0, 8) else if (cd G (nG G)).length = 1 then (rdL (cd G (nG G)) 0 0, 0) else (0, 4)) := by
  simp only [spec_l06Found.f, G_eta, cand_spec h hN, Option.bind_some]
  by_cases c0 : (cd G (nG G)).length = 0
  · rw [if_pos (by omega), if_pos c0]
  · rw [if_neg (by omega), if_neg c0]
    by_cases c1 : (cd G (nG G)).length = 1
    · rw [if_pos (by omega), if_pos c1, if_pos ⟨by omega, by omega⟩]
    · rw [if_neg (by omega), if_neg c1]
theorem Found_same {N : Nat} {G : Ga} (hG : InG G) (hN : 70 < N) : ∃ l c, spec_FoundIn.f N G = some (l, c) ∧ impl_FoundIn.f N G = some (l, c) := by
  simp only [spec_FoundIn.f, impl_FoundIn.f, G_eta, okG_spec hG hN, okG_impl hG hN, Option.bind_some]
  by_cases hk : okG G = true
  · have h := okG_iff hk
    have fs := found_spec h hN
    by_cases c0 : (cd G (nG G)).length = 0
    · rw [if_pos c0] at fs
      simp only [if_pos hk, fs, cand_impl h hN, Option.bind_some, if_pos (show ((cd G (nG G)).length : Int) = 0 by omega)]
      exact ⟨_, _, rfl, rfl⟩
    · rw [if_neg c0] at fs
      by_cases c1 : (cd G (nG G)).length = 1
      · rw [if_pos c1] at fs
        simp only [if_pos hk, fs, cand_impl h hN, Option.bind_some, if_neg (show ¬ ((cd G (nG G)).length : Int) = 0 by omega), if_pos (show ((cd G (nG G)).length : Int) = 1 by omega), if_pos (show (0 : Int) ≤ 0 ∧ 0 < ((cd G (nG G)).length : Int) by omega)]
        exact ⟨_, _, rfl, rfl⟩
      · rw [if_neg c1] at fs
        simp only [if_pos hk, fs, cand_impl h hN, Option.bind_some, if_neg (show ¬ ((cd G (nG G)).length : Int) = 0 by omega), if_neg (show ¬ ((cd G (nG G)).length : Int) = 1 by omega)]
        exact ⟨_, _, rfl, rfl⟩
  · simp only [if_neg hk]
    exact ⟨_, _, rfl, rfl⟩
/- marks -/
theorem eqInt64S_same {N : Nat} {a : List Int} (h : a.length ≤ 1048576) (hN : a.length < N) : laws_eqInt64S.f N a a = some true := by
  unfold laws_eqInt64S.f
  rw [if_pos rfl, rounds_same a a rfl hN ?_ ?_]
  · simp [Ex.fin, laws_eqInt64S.a0]
  · intro i hi
    have g1 : (i : Int) < a.length := by omega
    have g2 : (0 : Int) ≤ i := by omega
    simp only [laws_eqInt64S.b0, g1, g2, and_self, if_true, i64w_succ hi (show a.length ≤ 9223372036854775807 by omega)]
  · simp only [laws_eqInt64S.b0]
    rw [if_neg (by omega)]
theorem markInt64S_eq {N : Nat} {a : List Int} {k : Int} (hk : 0 ≤ k ∧ k ≤ 1048578) (h : a.length ≤ 1048576) (hN : a.length < N) : laws_markInt64S.f N a k = some (k + a.length, marked (fun x => x) k a.length) := by
  unfold laws_markInt64S.f
  rw [rounds_mark (fun x => x) a k hN ?_ ?_]
  · rfl
  · intro x i hi hx
    simp only [laws_markInt64S.b0]
    rw [if_pos (by omega), if_pos ⟨by omega, by omega⟩, stL_nat, i64w_succ hi (by omega), i64w_id (x := k + (i : Int) + 1) (by omega) (by omega), show k + (i : Int) + 1 = k + ((i + 1 : Nat) : Int) by omega]
  · intro x hx
    simp only [laws_markInt64S.b0]
    rw [if_neg (by omega)]
theorem heldInt64S_eq {N n : Nat} {k : Int} (hk : 0 ≤ k ∧ k ≤ 1048578) (h : n ≤ 1048576) (hN : n < N) : laws_heldInt64S.f N (marked (fun x => x) k n) k = some (k + n) := by
  unfold laws_heldInt64S.f
  have hl := marked_len (fun x : Int => x) k n
  rw [rounds_held n k hN ?_ ?_]
  · rfl
  · intro i hi
    simp only [laws_heldInt64S.b0]
    rw [if_pos (by omega), if_pos ⟨by omega, by omega⟩, rdL_nat (by omega), marked_get, if_pos rfl, i64w_succ hi (by omega), i64w_id (x := k + (i : Int) + 1) (by omega) (by omega), show k + (i : Int) + 1 = k + ((i + 1 : Nat) : Int) by omega]
  · simp only [laws_heldInt64S.b0]
    rw [if_neg (by omega)]
def fA (k j : Int) : As_ := ⟨u64w (k + 2 * j), (k + 2 * j + 1).tmod 3 == 0⟩
def mkA (k : Int) (n : Nat) : List As_ := marked (fA k) 0 n
theorem mkA_len (k : Int) (n : Nat) : (mkA k n).length = n := marked_len _ _ _
theorem stL_twice {α : Type} (xs : List α) (i : Int) (a b : α) : stL (stL xs i a) i b = stL xs i b := by
  unfold stL
  rw [List.set_set]
theorem rdL_stL_self {α : Type} (xs : List α) (i : Int) (a z : α) (h : i.toNat < xs.length) : rdL (stL xs i a) i z = a := by
  unfold stL rdL
  simp [List.getD_eq_getElem?_getD, h]
theorem markAskS_eq {N : Nat} {a : List As_} {k : Int} (hk : 0 ≤ k ∧ k ≤ 1000) (h : a.length ≤ 1048576) (hN : a.length < N) : laws_markAskS.f N a k = some (k + 2 * a.length, mkA k a.length) := by
  have q := rounds_for (b := fun s => laws_markAskS.b0 N s.1 s.2.1 s.2.2) (e := .go (k + 2 * (a.length : Int), mkA k a.length)) (fun i => (marked (fA k) 0 i ++ a.drop i, k + 2 * (i : Int), (i : Int))) a.length 0 N (Nat.zero_le _) (by simpa using hN) (by
    intro i _ hi
    have hl : (marked (fA k) 0 i ++ a.drop i).length = a.length := by simp [marked_len]; omega
    have g1 : (i : Int) < ((marked (fA k) 0 i ++ a.drop i).length : Int) := by rw [hl]; omega
    have g2 : (0 : Int) ≤ (i : Int) ∧ (i : Int) < ((marked (fA k) 0 i ++ a.drop i).length : Int) := ⟨by omega, g1⟩
    have g3 : ∀ v : As_, (0 : Int) ≤ (i : Int) ∧ (i : Int) < ((stL (marked (fA k) 0 i ++ a.drop i) (i : Int) v).length : Int) := fun v => ⟨by omega, by simp only [stL, List.length_set]; exact g1⟩
    have hm := mark_set (fA k) 0 a i hi
    have e1 : i64w (k + 2 * (i : Int) + 1) = k + 2 * (i : Int) + 1 := i64w_id (by omega) (by omega)
    have e2 : i64w (k + 2 * (i : Int) + 1 + 1) = k + 2 * ((i + 1 : Nat) : Int) := by rw [i64w_id (by omega) (by omega)]; omega
    simp only [laws_markAskS.b0, if_pos g1, if_pos g2, if_pos (g3 _), stL_twice, rdL_stL_self _ (i : Int) _ _ (show ((i : Int)).toNat < (marked (fA k) 0 i ++ a.drop i).length by rw [hl]; simpa using hi), e1, e2, i64w_succ hi (show a.length ≤ 9223372036854775807 by omega)]
    rw [← hm, stL_nat]
    simp only [fA, Int.zero_add]) (by
    simp only [laws_markAskS.b0]
    have hl : (marked (fA k) 0 a.length ++ a.drop a.length).length = a.length := by simp [marked_len]
    rw [if_neg (by rw [hl]; omega)]
    simp [mkA])
  unfold laws_markAskS.f
  have q' : rounds (fun s => laws_markAskS.b0 N s.1 s.2.1 s.2.2) N (a, k, 0) = some (.go (k + 2 * (a.length : Int), mkA k a.length)) := by
    have := q
    simpa [marked] using this
  rw [q']; rfl
theorem markGame_eq {N : Nat} {G : Ga} {k : Int} (hk : 0 ≤ k ∧ k ≤ 1000) (h : G.f_Asked.length ≤ 1048576) (hN : G.f_Asked.length < N) : laws_markGame.f N G k = some (k + 2 * G.f_Asked.length, mkA k G.f_Asked.length) := by
  simp only [laws_markGame.f, markAskS_eq hk h hN, Option.bind_some]
end Go.Proofs.YtpbkenbmjgchkaaX
