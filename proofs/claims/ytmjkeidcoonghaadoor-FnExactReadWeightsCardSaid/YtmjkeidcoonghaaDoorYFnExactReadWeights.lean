/- FnExactReadWeights is true on every input: the plain side. -/
import Derived.Test.YtmjkeidcoonghaaDoorYN
import Derived.Test.YtmjkeidcoonghaaDoorYV
import Derived.Test.YtmjkeidcoonghaaDoorXMark
namespace Go.Proofs.YtmjkeidcoonghaaDoorX
open Go
set_option linter.unusedVariables false
set_option linter.unusedSimpArgs false
theorem markWeights_eq {N : Nat} {a : List Int} {k : Int} (hk : 0 ≤ k ∧ k ≤ 1048578) (h : a.length ≤ 1048576) (hN : a.length < N) : laws_markWeights.f N a k = some (k + a.length, marked i16w k a.length) := by
  unfold laws_markWeights.f
  rw [rounds_mark i16w a k hN ?_ ?_]
  · rfl
  · intro x i hi hx
    simp only [laws_markWeights.b0]
    rw [if_pos (by omega), if_pos ⟨by omega, by omega⟩, stL_nat, i64w_succ hi (by omega), i64w_id (x := k + (i : Int) + 1) (by omega) (by omega), show k + (i : Int) + 1 = k + ((i + 1 : Nat) : Int) by omega]
  · intro x hx
    simp only [laws_markWeights.b0]
    rw [if_neg (by omega)]
theorem heldWeights_eq {N n : Nat} {k : Int} (hk : 0 ≤ k ∧ k ≤ 1048578) (h : n ≤ 1048576) (hN : n < N) : laws_heldWeights.f N (marked i16w k n) k = some (k + n) := by
  unfold laws_heldWeights.f
  have hl := marked_len i16w k n
  rw [rounds_held n k hN ?_ ?_]
  · rfl
  · intro i hi
    simp only [laws_heldWeights.b0]
    rw [if_pos (by omega), if_pos ⟨by omega, by omega⟩, rdL_nat (by omega), marked_get, if_pos rfl, i64w_succ hi (by omega), i64w_id (x := k + (i : Int) + 1) (by omega) (by omega), show k + (i : Int) + 1 = k + ((i + 1 : Nat) : Int) by omega]
  · simp only [laws_heldWeights.b0]
    rw [if_neg (by omega)]
abbrev V := List Int × Int
abbrev rwS (acc : List Int) (w : ByteArray) : Ex (Ex V (List Int)) (List Int) := if (nuI 2000 w.data.toList).2 = true then .go (acc ++ [i16w (nuI 2000 w.data.toList).1]) else .ret (.ret ([], 5))
abbrev rF (acc : List Int) : Ex V (List Int) := .go acc
theorem spec_loopW {N : Nat} {ws : List ByteArray} (hw : ∀ w ∈ ws, w.size ≤ 1048576) (hl : ws.length ≤ 1048577) (hN : 3000000 < N) : rounds (fun s => spec_ReadWeights.b0 N ws s.1 s.2) N (([] : List Int), 0) = some (walk rwS rF [] ws) := by
  refine rounds_walk0 (fun acc i => (acc, i)) ws rwS rF (fun i acc => acc.length = i) (by omega) rfl ?_ ?_
  · intro acc i hi hI
    have g1 : (i : Int) < ws.length := by omega
    have g2 : (0 : Int) ≤ i := by omega
    have hb : spec_ReadWeights.b0 N ws acc (i : Int) = if (nuI 2000 (ws[i]).data.toList).2 = true then some (.next (acc ++ [i16w (nuI 2000 (ws[i]).data.toList).1], ((i + 1 : Nat) : Int))) else some (.out (.ret ([], 5))) := by
      unfold spec_ReadWeights.b0
      rw [if_pos g1, if_pos ⟨g2, g1⟩, rdL_nat hi, number_spec (by omega), Option.bind_some, i64w_succ hi (by omega)]
      by_cases c : (nuI 2000 (ws[i]).data.toList).2 = true
      · obtain ⟨e, h0, h1⟩ := nuS_of_nuI (by decide) c
        rw [if_pos c, e]
        show (if true = true then _ else _) = _
        rw [if_pos rfl, if_neg (by omega), if_pos (by rw [List.length_singleton]; omega)]
      · rw [if_neg c]
        by_cases c2 : (nuS (ws[i]).data.toList).2 = true
        · rw [if_pos c2]
          by_cases c3 : (nuS (ws[i]).data.toList).1 > 2000
          · rw [if_pos c3]
          · exact absurd (by rw [nuI_of_nuS (by decide) c2 (by omega)]) c
        · rw [if_neg c2]
    by_cases c : (nuI 2000 (ws[i]).data.toList).2 = true
    · rw [show rwS acc ws[i] = .go (acc ++ [i16w (nuI 2000 (ws[i]).data.toList).1]) from if_pos c]
      refine ⟨by rw [List.length_append, List.length_singleton, hI], ?_⟩
      show spec_ReadWeights.b0 N ws acc (i : Int) = _
      rw [hb, if_pos c]
    · rw [show rwS acc ws[i] = .ret (.ret ([], 5)) from if_neg c]
      show spec_ReadWeights.b0 N ws acc (i : Int) = _
      rw [hb, if_neg c]
  · intro acc _
    show spec_ReadWeights.b0 N ws acc (ws.length : Int) = _
    unfold spec_ReadWeights.b0
    rw [if_neg (by omega)]
theorem impl_loopW {N : Nat} {ws : List ByteArray} (hw : ∀ w ∈ ws, w.size ≤ 1048576) (hl : ws.length ≤ 1048577) (hN : 3000000 < N) : rounds (fun s => impl_ReadWeights.b0 N ws s.1 s.2) N (([] : List Int), 0) = some (walk rwS rF [] ws) := by
  refine rounds_walk0 (fun acc i => (acc, i)) ws rwS rF (fun i acc => acc.length = i) (by omega) rfl ?_ ?_
  · intro acc i hi hI
    have g1 : (i : Int) < ws.length := by omega
    have g2 : (0 : Int) ≤ i := by omega
    have hz := hw _ (List.getElem_mem hi)
    have hb : impl_ReadWeights.b0 N ws acc (i : Int) = if (nuI 2000 (ws[i]).data.toList).2 = true then some (.next (acc ++ [i16w (nuI 2000 (ws[i]).data.toList).1], ((i + 1 : Nat) : Int))) else some (.out (.ret ([], 5))) := by
      unfold impl_ReadWeights.b0
      rw [if_pos g1, if_pos ⟨g2, g1⟩, rdL_nat hi, number_impl N hz, Option.bind_some, i64w_succ hi (by omega)]
      by_cases c : (nuI 2000 (ws[i]).data.toList).2 = true
      · rw [if_pos c, if_pos c, if_pos (by rw [List.length_singleton]; omega)]
      · rw [if_neg c, if_neg c]
    by_cases c : (nuI 2000 (ws[i]).data.toList).2 = true
    · rw [show rwS acc ws[i] = .go (acc ++ [i16w (nuI 2000 (ws[i]).data.toList).1]) from if_pos c]
      refine ⟨by rw [List.length_append, List.length_singleton, hI], ?_⟩
      show impl_ReadWeights.b0 N ws acc (i : Int) = _
      rw [hb, if_pos c]
    · rw [show rwS acc ws[i] = .ret (.ret ([], 5)) from if_neg c]
      show impl_ReadWeights.b0 N ws acc (i : Int) = _
      rw [hb, if_neg c]
  · intro acc _
    show impl_ReadWeights.b0 N ws acc (ws.length : Int) = _
    unfold impl_ReadWeights.b0
    rw [if_neg (by omega)]
theorem rw_walk : ∀ (ws : List ByteArray) (acc : List Int), walk rwS rF acc ws = .ret ([], 5) ∨ ∃ out, walk rwS rF acc ws = .go out ∧ out.length = acc.length + ws.length
  | [], acc => .inr ⟨acc, rfl, rfl⟩
  | w :: ws, acc => by
    by_cases c : (nuI 2000 w.data.toList).2 = true
    · simp only [walk, rwS, if_pos c]
      rcases rw_walk ws (acc ++ [i16w (nuI 2000 w.data.toList).1]) with h | ⟨out, h, hl⟩
      · exact .inl h
      · exact .inr ⟨out, h, by rw [hl, List.length_append, List.length_singleton, List.length_cons]; omega⟩
    · simp only [walk, rwS, if_neg c]
      exact .inl trivial
theorem ReadWeights_same {N : Nat} {s : ByteArray} (hs : s.size ≤ 1048576) (hN : 4000000 < N) : ∃ r, spec_ReadWeights.f N s = some r ∧ impl_ReadWeights.f N s = some r ∧ r.1.length ≤ 60 := by
  unfold spec_ReadWeights.f impl_ReadWeights.f
  have e32 : (32 : Int) = (((32 : UInt8).toNat : Nat) : Int) := rfl
  have hw : ∀ w ∈ Lib.splitB ⟨#[32]⟩ 0 (Lib.countB s ⟨#[32]⟩) s, w.size ≤ 1048576 := fun w h => Nat.le_trans (word_len h) hs
  have hl : (Lib.splitB ⟨#[32]⟩ 0 (Lib.countB s ⟨#[32]⟩) s).length ≤ 1048577 := Nat.le_trans words_len (by omega)
  rw [e32, split_spec hs (show s.size < N by omega), split_impl hs, Option.bind_some, Option.bind_some]
  generalize Lib.splitB ⟨#[32]⟩ 0 (Lib.countB s ⟨#[32]⟩) s = ws at hw hl
  rw [spec_loopW hw hl (by omega), impl_loopW hw hl (by omega), Option.bind_some, Option.bind_some]
  rcases rw_walk ws [] with h | ⟨out, h, hol⟩
  · rw [h]; exact ⟨([], 5), rfl, rfl, by simp⟩
  · rw [h]
    obtain ⟨b, e1, e2, hv⟩ := valid_same (N := N) (a := out) (by simp at hol; omega)
    show ∃ r, spec_ReadWeights.a0 N out = some r ∧ impl_ReadWeights.a0 N out = some r ∧ _
    unfold spec_ReadWeights.a0 impl_ReadWeights.a0
    rw [e1, e2, Option.bind_some]
    cases b with
    | false => exact ⟨([], 5), rfl, rfl, by simp⟩
    | true => exact ⟨(out, 0), rfl, rfl, by have := (hv rfl).2.1; show out.length ≤ 60; omega⟩
theorem laws_FnExactReadWeights.told (a0 : ByteArray) : ∃ N, laws_FnExactReadWeights.f N a0 = some true := by
  by_cases h : (a0.size : Int) > 1048576
  · exact ⟨0, by simp only [laws_FnExactReadWeights.f, if_pos h]⟩
  · refine ⟨5000000, ?_⟩
    obtain ⟨r, e1, e2, hr⟩ := ReadWeights_same (N := 5000000) (s := a0) (by omega) (by omega)
    unfold laws_FnExactReadWeights.f
    rw [if_neg h, e1, e2, Option.bind_some, Option.bind_some, eqWeights_same (by omega) (by omega), Option.bind_some, if_pos rfl, if_pos rfl, markWeights_eq ⟨by omega, by omega⟩ (by omega) (by omega), Option.bind_some]
    have hn : ¬ (1 + (r.1.length : Int) < 0) := by omega
    simp only [heldWeights_eq (N := 5000000) (n := r.1.length) (k := 1) ⟨by omega, by omega⟩ (by omega) (by omega), Option.bind_some, hn, if_false, if_true, eqWeights_same (N := 5000000) (a := r.1) (by omega) (by omega)]
end Go.Proofs.YtmjkeidcoonghaaDoorX
