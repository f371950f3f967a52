/- The reference's split, and the words that both sides read. -/
import Derived.Test.YtmjkeidcoonghaaDoorYS
import Derived.Lib.Strings
namespace Go.Proofs.YtmjkeidcoonghaaDoorX
open Go
set_option linter.unusedVariables false
set_option linter.unusedSimpArgs false
theorem sub_data (s : ByteArray) (a b : Nat) : (subS s (a : Int) (b : Int)).data.toList = (s.data.toList.take b).drop a := by
  unfold subS
  simp [ByteArray.data_extract, List.extract_eq_take_drop, List.drop_take]
theorem btS_nat (s : ByteArray) {i : Nat} (h : i < s.data.toList.length) : btS s (i : Int) = ((s.data.toList[i]).toNat : Int) := by
  unfold btS
  rw [Int.toNat_natCast, List.getD_eq_getElem?_getD, List.getElem?_eq_getElem h]
  rfl
theorem sz (s : ByteArray) : s.size = s.data.toList.length := by rw [Array.length_toList]; rfl
theorem take_drop_succ {α : Type} {l : List α} {b i : Nat} (hb : b ≤ i) (hi : i < l.length) : (l.take (i + 1)).drop b = (l.take i).drop b ++ [l[i]] := by
  rw [List.take_add_one, List.getElem?_eq_getElem hi, List.drop_append_of_le_length (by rw [List.length_take]; omega)]
  rfl
theorem split_loop {N0 : Nat} {s : ByteArray} {c : UInt8} (hs : s.size ≤ 1048576) : ∀ (m i b : Nat) (out : List ByteArray), i ≤ s.size → s.size - i < m → b ≤ i → out.length ≤ i →
    out.map (·.data.toList) ++ spl c ((s.data.toList.take i).drop b) (s.data.toList.drop i) = spl c [] s.data.toList →
    ∃ (out' : List ByteArray) (b' : Nat), rounds (fun x => spec_l01Split.b0 N0 s (c.toNat : Int) x.1 x.2.1 x.2.2) m (out, (b : Int), (i : Int)) = some (.go (out', (b' : Int))) ∧ b' ≤ s.size ∧ out'.length ≤ s.size ∧ out'.map (·.data.toList) ++ [s.data.toList.drop b'] = spl c [] s.data.toList := by
  intro m
  induction m with
  | zero => intro i b out _ h; exact absurd h (Nat.not_lt_zero _)
  | succ m ih =>
    intro i b out hi hm hb ho hI
    have hL := sz s
    by_cases hl : i < s.size
    · have hl' : i < s.data.toList.length := by omega
      have g1 : (i : Int) < s.size := by omega
      have g2 : (0 : Int) ≤ i := by omega
      have hd : s.data.toList.drop i = s.data.toList[i] :: s.data.toList.drop (i + 1) := List.drop_eq_getElem_cons hl'
      have hw : i64w ((i : Int) + 1) = ((i + 1 : Nat) : Int) := i64w_succ (n := s.size) hl (by omega)
      rw [hd] at hI
      by_cases hc : s.data.toList[i] = c
      · have hn : rounds (fun x => spec_l01Split.b0 N0 s (c.toNat : Int) x.1 x.2.1 x.2.2) (m + 1) (out, (b : Int), (i : Int)) = rounds (fun x => spec_l01Split.b0 N0 s (c.toNat : Int) x.1 x.2.1 x.2.2) m (out ++ [subS s (b : Int) (i : Int)], ((i + 1 : Nat) : Int), ((i + 1 : Nat) : Int)) := by
          apply rounds_next
          show spec_l01Split.b0 N0 s (c.toNat : Int) out (b : Int) (i : Int) = _
          unfold spec_l01Split.b0 spec_l01Split.j2
          rw [if_pos g1, if_pos ⟨g2, g1⟩, btS_nat s hl', hc, if_pos rfl, if_pos ⟨by omega, by omega, by omega⟩, if_pos (by rw [List.length_singleton]; omega), hw]
        rw [hn]
        refine ih (i + 1) (i + 1) _ (by omega) (by omega) (Nat.le_refl _) (by rw [List.length_append, List.length_singleton]; omega) ?_
        rw [spl, if_pos hc] at hI
        have e0 : (s.data.toList.take (i + 1)).drop (i + 1) = [] := List.drop_eq_nil_of_le (by rw [List.length_take]; omega)
        rw [List.map_append, List.map_singleton, sub_data, e0, List.append_assoc]
        exact hI
      · have hn : rounds (fun x => spec_l01Split.b0 N0 s (c.toNat : Int) x.1 x.2.1 x.2.2) (m + 1) (out, (b : Int), (i : Int)) = rounds (fun x => spec_l01Split.b0 N0 s (c.toNat : Int) x.1 x.2.1 x.2.2) m (out, (b : Int), ((i + 1 : Nat) : Int)) := by
          apply rounds_next
          show spec_l01Split.b0 N0 s (c.toNat : Int) out (b : Int) (i : Int) = _
          have hne : ¬ ((s.data.toList[i]).toNat : Int) = (c.toNat : Int) := fun e => hc (UInt8.toNat_inj.1 (by omega))
          unfold spec_l01Split.b0 spec_l01Split.j2
          rw [if_pos g1, if_pos ⟨g2, g1⟩, btS_nat s hl', if_neg hne, hw]
        rw [hn]
        refine ih (i + 1) b out (by omega) (by omega) (by omega) (by omega) ?_
        rw [spl, if_neg hc] at hI
        rw [take_drop_succ hb hl']
        exact hI
    · obtain rfl : i = s.size := by omega
      refine ⟨out, b, rounds_out ?_, hb, ho, ?_⟩
      · show spec_l01Split.b0 N0 s (c.toNat : Int) out (b : Int) (s.size : Int) = _
        unfold spec_l01Split.b0
        rw [if_neg (by omega)]
      · rw [hL, List.take_length, List.drop_length, spl] at hI
        exact hI
theorem data_inj : ∀ {xs ys : List ByteArray}, xs.map (·.data.toList) = ys.map (·.data.toList) → xs = ys
  | [], [], _ => rfl
  | [], _ :: _, h => by simp at h
  | _ :: _, [], h => by simp at h
  | x :: xs, y :: ys, h => by
    rw [List.map_cons, List.map_cons, List.cons.injEq] at h
    obtain rfl : x = y := ByteArray.ext (Array.toList_inj.1 h.1)
    rw [data_inj h.2]
/-- Both sides split alike. -/
theorem split_spec {N : Nat} {s : ByteArray} {c : UInt8} (hs : s.size ≤ 1048576) (hN : s.size < N) : spec_l01Split.f N s (c.toNat : Int) = some (Lib.splitB ⟨#[c]⟩ 0 (Lib.countB s ⟨#[c]⟩) s) := by
  obtain ⟨out, b, h1, h2, h3, h4⟩ := split_loop (N0 := N) (c := c) hs N 0 0 [] (Nat.zero_le _) (by omega) (Nat.le_refl _) (Nat.zero_le _) (by simp)
  have h1' : rounds (fun x => spec_l01Split.b0 N s (c.toNat : Int) x.1 x.2.1 x.2.2) N (([] : List ByteArray), 0, 0) = some (.go (out, (b : Int))) := h1
  unfold spec_l01Split.f
  rw [h1', Option.bind_some]
  show spec_l01Split.a0 N s out (b : Int) = _
  unfold spec_l01Split.a0
  rw [if_pos ⟨by omega, by omega, Int.le_refl _⟩, if_pos (by rw [List.length_singleton]; omega)]
  refine congrArg some (data_inj ?_)
  rw [strings_split, List.map_append, List.map_singleton, sub_data, ← h4, sz, List.take_length]
/-- The pieces are no longer than the text. -/
theorem spl_len {c : UInt8} : ∀ (l cur p : List UInt8), p ∈ spl c cur l → p.length ≤ cur.length + l.length
  | [], cur, p, h => by
    simp only [spl, List.mem_singleton] at h
    subst h; simp
  | x :: l, cur, p, h => by
    unfold spl at h
    by_cases hx : x = c
    · rw [if_pos hx] at h
      rcases List.mem_cons.1 h with rfl | h
      · simp
      · have := spl_len l [] p h
        simp at this ⊢; omega
    · rw [if_neg hx] at h
      have := spl_len l (cur ++ [x]) p h
      simp at this ⊢; omega
theorem word_len {s p : ByteArray} {c : UInt8} (h : p ∈ Lib.splitB ⟨#[c]⟩ 0 (Lib.countB s ⟨#[c]⟩) s) : p.size ≤ s.size := by
  have h1 : p.data.toList ∈ (Lib.splitB ⟨#[c]⟩ 0 (Lib.countB s ⟨#[c]⟩) s).map (·.data.toList) := List.mem_map.2 ⟨p, h, rfl⟩
  rw [strings_split] at h1
  have := spl_len _ _ _ h1
  rw [sz, sz]
  simpa using this
theorem spl_count {c : UInt8} : ∀ (l cur : List UInt8), (spl c cur l).length ≤ l.length + 1
  | [], cur => by simp [spl]
  | x :: l, cur => by
    unfold spl
    by_cases hx : x = c
    · rw [if_pos hx]
      have := spl_count (c := c) l []
      simp; omega
    · rw [if_neg hx]
      have := spl_count (c := c) l (cur ++ [x])
      simp; omega
theorem words_len {s : ByteArray} {c : UInt8} : (Lib.splitB ⟨#[c]⟩ 0 (Lib.countB s ⟨#[c]⟩) s).length ≤ s.size + 1 := by
  have h := spl_count (c := c) s.data.toList []
  rw [← strings_split, List.length_map] at h
  rw [sz]; exact h
theorem split_impl {N : Nat} {s : ByteArray} {c : UInt8} (hs : s.size ≤ 1048576) : strings_Split.f N s ⟨#[c]⟩ = some (Lib.splitB ⟨#[c]⟩ 0 (Lib.countB s ⟨#[c]⟩) s) := by
  unfold strings_Split.f
  rw [if_pos ⟨by omega, Nat.le_refl 1⟩]
theorem ba_eq {a b : ByteArray} : (a.toList == b.toList) = decide (a = b) := by
  rw [Lib.toList_data, Lib.toList_data, Bool.eq_iff_iff, beq_iff_eq, decide_eq_true_eq]
  exact ⟨fun h => ByteArray.ext (Array.toList_inj.1 h), fun h => by rw [h]⟩
theorem ba_eqP {a b : ByteArray} : a.toList = b.toList ↔ a = b := by
  rw [Lib.toList_data, Lib.toList_data]
  exact ⟨fun h => ByteArray.ext (Array.toList_inj.1 h), fun h => by rw [h]⟩
end Go.Proofs.YtmjkeidcoonghaaDoorX
