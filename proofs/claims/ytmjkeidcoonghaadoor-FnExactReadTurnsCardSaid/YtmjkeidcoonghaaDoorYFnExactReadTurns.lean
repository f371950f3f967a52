/- FnExactReadTurns is true on every input: the plain side. -/
import Derived.Test.YtmjkeidcoonghaaDoorYR
import Derived.Test.YtmjkeidcoonghaaDoorXMark
namespace Go.Proofs.YtmjkeidcoonghaaDoorX
open Go
set_option linter.unusedVariables false
set_option linter.unusedSimpArgs false
theorem eqByteS_same {N : Nat} {a : List Int} (h : a.length ≤ 1048576) (hN : a.length < N) : laws_eqByteS.f N a a = some true := by
  unfold laws_eqByteS.f
  rw [if_pos rfl, rounds_same a a rfl hN ?_ ?_]
  · simp [Ex.fin, laws_eqByteS.a0]
  · intro i hi
    have g1 : (i : Int) < a.length := by omega
    have g2 : (0 : Int) ≤ i := by omega
    simp only [laws_eqByteS.b0, g1, g2, and_self, if_true, i64w_succ hi (show a.length ≤ 9223372036854775807 by omega)]
  · simp only [laws_eqByteS.b0]
    rw [if_neg (by omega)]
theorem markByteS_eq {N : Nat} {a : List Int} {k : Int} (hk : 0 ≤ k ∧ k ≤ 1048578) (h : a.length ≤ 1048576) (hN : a.length < N) : laws_markByteS.f N a k = some (k + a.length, marked u8w k a.length) := by
  unfold laws_markByteS.f
  rw [rounds_mark u8w a k hN ?_ ?_]
  · rfl
  · intro x i hi hx
    simp only [laws_markByteS.b0]
    rw [if_pos (by omega), if_pos ⟨by omega, by omega⟩, stL_nat, i64w_succ hi (by omega), i64w_id (x := k + (i : Int) + 1) (by omega) (by omega), show k + (i : Int) + 1 = k + ((i + 1 : Nat) : Int) by omega]
  · intro x hx
    simp only [laws_markByteS.b0]
    rw [if_neg (by omega)]
theorem heldByteS_eq {N n : Nat} {k : Int} (hk : 0 ≤ k ∧ k ≤ 1048578) (h : n ≤ 1048576) (hN : n < N) : laws_heldByteS.f N (marked u8w k n) k = some (k + n) := by
  unfold laws_heldByteS.f
  have hl := marked_len u8w k n
  rw [rounds_held n k hN ?_ ?_]
  · rfl
  · intro i hi
    simp only [laws_heldByteS.b0]
    rw [if_pos (by omega), if_pos ⟨by omega, by omega⟩, rdL_nat (by omega), marked_get, if_pos rfl, i64w_succ hi (by omega), i64w_id (x := k + (i : Int) + 1) (by omega) (by omega), show k + (i : Int) + 1 = k + ((i + 1 : Nat) : Int) by omega]
  · simp only [laws_heldByteS.b0]
    rw [if_neg (by omega)]
abbrev plS (_ : Unit) (x : Int) : Ex (Ex Int Unit) Unit := if x ≥ 16 then .ret (.ret 2) else .go ()
abbrev plF (_ : Unit) : Ex Int Unit := .go ()
theorem planned_loop {N : Nat} {a : List Int} (h : a.length ≤ 1048577) (hN : a.length < N) : rounds (fun s => spec_l07Planned.b0 N a s) N 0 = some (walk plS plF () a) := by
  refine rounds_walk0 (fun _ i => i) a plS plF (fun _ _ => True) hN trivial ?_ ?_
  · intro acc i hi _
    have hq : spec_l07Planned.b0 N a (i : Int) = if a[i] ≥ 16 then some (.out (.ret 2)) else some (.next ((i + 1 : Nat) : Int)) := by
      simp only [spec_l07Planned.b0]
      rw [if_pos (by omega), if_pos ⟨by omega, by omega⟩, rdL_nat hi, i64w_succ hi (by omega)]
    rw [hq]
    by_cases hx : a[i] ≥ 16
    · simp only [plS, if_pos hx]
    · simp only [plS, if_neg hx]; exact ⟨trivial, trivial⟩
  · intro acc _
    simp only [spec_l07Planned.b0]
    rw [if_neg (by omega)]
theorem pl_low : ∀ (a : List Int), (∀ x ∈ a, x < 16) → walk plS plF () a = .go ()
  | [], _ => rfl
  | x :: a, h => by
    have hx : ¬ x ≥ 16 := by have := h x (by simp); omega
    simp only [walk, plS, if_neg hx]
    exact pl_low a (fun y hy => h y (by simp [hy]))
theorem pl_high : ∀ (a : List Int), (¬ ∀ x ∈ a, x < 16) → walk plS plF () a = .ret 2
  | [], h => absurd (by simp) h
  | x :: a, h => by
    by_cases hx : x ≥ 16
    · simp [walk, plS, hx]
    · simp only [walk, plS, if_neg hx]
      exact pl_high a (fun g => h (by
        intro y hy
        rcases List.mem_cons.1 hy with rfl | hy
        · omega
        · exact g y hy))
theorem planned_ok {N : Nat} {a : List Int} (h : a.length ≤ 1048577) (hN : a.length < N) : ∃ c, spec_l07Planned.f N a = some c ∧ (c = 0 ↔ (∀ x ∈ a, x < 16) ∧ a.length ≤ 60) := by
  unfold spec_l07Planned.f
  rw [planned_loop h hN]
  by_cases hl : ∀ x ∈ a, x < 16
  · rw [pl_low a hl]
    show ∃ c, spec_l07Planned.a0 N a = some c ∧ _
    unfold spec_l07Planned.a0
    by_cases h60 : (a.length : Int) > 60
    · rw [if_pos h60]; exact ⟨3, rfl, by constructor; intro h; omega; intro h; omega⟩
    · rw [if_neg h60]; exact ⟨0, rfl, by constructor; intro _; exact ⟨hl, by omega⟩; intro _; rfl⟩
  · rw [pl_high a hl]
    exact ⟨2, rfl, by constructor; intro h; omega; intro h; exact absurd h.1 hl⟩
/- the words -/
abbrev V := List Int × Int
abbrev rsS (acc : List Int) (w : ByteArray) : Ex (Ex V (List Int)) (List Int) := if (spR w.data.toList).2 = true then .go (acc ++ [u8w (spR w.data.toList).1]) else .ret (.ret ([], 5))
abbrev rF (acc : List Int) : Ex V (List Int) := .go acc
abbrev riS (acc : List Int) (w : ByteArray) : Ex (Ex V (List Int)) (List Int) := if (imR 4 w.data.toList).2 = true then (if acc.length = 60 then .ret (.ret ([], 5)) else .go (acc ++ [u8w (imR 4 w.data.toList).1])) else .ret (.ret ([], 5))
theorem spec_loop {N : Nat} {ws : List ByteArray} (hw : ∀ w ∈ ws, w.size ≤ 1048576) (hl : ws.length ≤ 1048577) (hN : 3000000 < N) : rounds (fun s => spec_ReadTurns.b0 N ws s.1 s.2) N (([] : List Int), 0) = some (walk rsS rF [] ws) := by
  refine rounds_walk0 (fun acc i => (acc, i)) ws rsS rF (fun i acc => acc.length = i) (by omega) rfl ?_ ?_
  · intro acc i hi hI
    have g1 : (i : Int) < ws.length := by omega
    have g2 : (0 : Int) ≤ i := by omega
    have hz := hw _ (List.getElem_mem hi)
    have hb : spec_ReadTurns.b0 N ws acc (i : Int) = if (spR (ws[i]).data.toList).2 = true then some (.next (acc ++ [u8w (spR (ws[i]).data.toList).1], ((i + 1 : Nat) : Int))) else some (.out (.ret ([], 5))) := by
      unfold spec_ReadTurns.b0
      rw [if_pos g1, if_pos ⟨g2, g1⟩, rdL_nat hi, read_spec hz (by omega), Option.bind_some, i64w_succ hi (by omega)]
      by_cases c : (spR (ws[i]).data.toList).2 = true
      · rw [if_pos c, if_pos c, if_pos (by rw [List.length_singleton]; omega)]
      · rw [if_neg c, if_neg c]
    by_cases c : (spR (ws[i]).data.toList).2 = true
    · rw [show rsS acc ws[i] = .go (acc ++ [u8w (spR (ws[i]).data.toList).1]) from if_pos c]
      refine ⟨by rw [List.length_append, List.length_singleton, hI], ?_⟩
      show spec_ReadTurns.b0 N ws acc (i : Int) = _
      rw [hb, if_pos c]
    · rw [show rsS acc ws[i] = .ret (.ret ([], 5)) from if_neg c]
      show spec_ReadTurns.b0 N ws acc (i : Int) = _
      rw [hb, if_neg c]
  · intro acc _
    show spec_ReadTurns.b0 N ws acc (ws.length : Int) = _
    unfold spec_ReadTurns.b0
    rw [if_neg (by omega)]
theorem impl_loop {N : Nat} {ws : List ByteArray} (hw : ∀ w ∈ ws, w.size ≤ 1048576) (hl : ws.length ≤ 1048577) (hN : 3000000 < N) : rounds (fun s => impl_ReadTurns.b0 N ws s.1 s.2) N (([] : List Int), 0) = some (walk riS rF [] ws) := by
  refine rounds_walk0 (fun acc i => (acc, i)) ws riS rF (fun i acc => acc.length = i) (by omega) rfl ?_ ?_
  · intro acc i hi hI
    have g1 : (i : Int) < ws.length := by omega
    have g2 : (0 : Int) ≤ i := by omega
    have hz := hw _ (List.getElem_mem hi)
    have hb : impl_ReadTurns.b0 N ws acc (i : Int) = if (imR 4 (ws[i]).data.toList).2 = true then (if acc.length = 60 then some (.out (.ret ([], 5))) else some (.next (acc ++ [u8w (imR 4 (ws[i]).data.toList).1], ((i + 1 : Nat) : Int)))) else some (.out (.ret ([], 5))) := by
      unfold impl_ReadTurns.b0
      rw [if_pos g1, if_pos ⟨g2, g1⟩, rdL_nat hi, read_impl (many := 4) (lim := 16) (.inl ⟨rfl, rfl⟩) hz (by omega), Option.bind_some, i64w_succ hi (by omega)]
      by_cases c : (imR 4 (ws[i]).data.toList).2 = true
      · rw [if_pos c, if_pos c]
        by_cases c2 : acc.length = 60
        · rw [if_pos (by omega), if_pos c2]
        · rw [if_neg (by omega), if_neg c2, if_pos (by rw [List.length_singleton]; omega)]
      · rw [if_neg c, if_neg c]
    by_cases c : (imR 4 (ws[i]).data.toList).2 = true
    · by_cases c2 : acc.length = 60
      · rw [show riS acc ws[i] = .ret (.ret ([], 5)) by unfold riS; rw [if_pos c, if_pos c2]]
        show impl_ReadTurns.b0 N ws acc (i : Int) = _
        rw [hb, if_pos c, if_pos c2]
      · rw [show riS acc ws[i] = .go (acc ++ [u8w (imR 4 (ws[i]).data.toList).1]) by unfold riS; rw [if_pos c, if_neg c2]]
        refine ⟨by rw [List.length_append, List.length_singleton, hI], ?_⟩
        show impl_ReadTurns.b0 N ws acc (i : Int) = _
        rw [hb, if_pos c, if_neg c2]
    · rw [show riS acc ws[i] = .ret (.ret ([], 5)) by unfold riS; rw [if_neg c]]
      show impl_ReadTurns.b0 N ws acc (i : Int) = _
      rw [hb, if_neg c]
  · intro acc _
    show impl_ReadTurns.b0 N ws acc (ws.length : Int) = _
    unfold impl_ReadTurns.b0
    rw [if_neg (by omega)]
def vals (ws : List ByteArray) : List Int := ws.map fun w => u8w (spR w.data.toList).1
theorem spec_walk : ∀ (ws : List ByteArray) (acc : List Int), walk rsS rF acc ws = .ret ([], 5) ∧ (∃ w ∈ ws, ¬ (spR w.data.toList).2 = true) ∨ walk rsS rF acc ws = .go (acc ++ vals ws) ∧ ∀ w ∈ ws, (spR w.data.toList).2 = true
  | [], acc => .inr ⟨by simp [walk, vals], by simp⟩
  | w :: ws, acc => by
    by_cases c : (spR w.data.toList).2 = true
    · simp only [walk, rsS, if_pos c]
      rcases spec_walk ws (acc ++ [u8w (spR w.data.toList).1]) with ⟨h, x, hx, hn⟩ | ⟨h, ha⟩
      · exact .inl ⟨h, x, List.mem_cons_of_mem _ hx, hn⟩
      · refine .inr ⟨by rw [h]; simp [vals], ?_⟩
        intro x hx
        rcases List.mem_cons.1 hx with rfl | hx
        · exact c
        · exact ha x hx
    · simp only [walk, rsS, if_neg c]
      exact .inl ⟨trivial, w, List.mem_cons_self, c⟩
theorem impl_walk : ∀ (ws : List ByteArray) (acc : List Int), acc.length ≤ 60 → walk riS rF acc ws = .ret ([], 5) ∧ (¬ (∀ w ∈ ws, (imR 4 w.data.toList).2 = true) ∨ 60 < acc.length + ws.length) ∨ walk riS rF acc ws = .go (acc ++ vals ws) ∧ (∀ w ∈ ws, (imR 4 w.data.toList).2 = true) ∧ acc.length + ws.length ≤ 60
  | [], acc, hl => .inr ⟨by simp [walk, vals], by simp, by simpa using hl⟩
  | w :: ws, acc, hl => by
    by_cases c : (imR 4 w.data.toList).2 = true
    · by_cases c2 : acc.length = 60
      · simp only [walk, riS, if_pos c, if_pos c2]
        exact .inl ⟨trivial, .inr (by rw [List.length_cons]; omega)⟩
      · simp only [walk, riS, if_pos c, if_neg c2]
        have e : spR w.data.toList = ((imR 4 w.data.toList).1, true) := sp_of_im (.inl ⟨rfl, rfl⟩) c
        have hlen : (acc ++ [u8w (imR 4 w.data.toList).1]).length = acc.length + 1 := by rw [List.length_append, List.length_singleton]
        rcases impl_walk ws (acc ++ [u8w (imR 4 w.data.toList).1]) (by omega) with ⟨h, hn⟩ | ⟨h, ha, hb⟩
        · refine .inl ⟨h, ?_⟩
          rcases hn with hn | hn
          · exact .inl fun g => hn fun x hx => g x (List.mem_cons_of_mem _ hx)
          · exact .inr (by rw [List.length_cons]; omega)
        · refine .inr ⟨by rw [h]; simp [vals, e], ?_, by rw [List.length_cons]; omega⟩
          intro x hx
          rcases List.mem_cons.1 hx with rfl | hx
          · exact c
          · exact ha x hx
    · simp only [walk, riS, if_neg c]
      exact .inl ⟨trivial, .inl fun g => c (g w List.mem_cons_self)⟩
theorem ReadTurns_same {N : Nat} {s : ByteArray} (hs : s.size ≤ 1048576) (hN : 4000000 < N) : ∃ r, spec_ReadTurns.f N s = some r ∧ impl_ReadTurns.f N s = some r ∧ r.1.length ≤ 60 := by
  unfold spec_ReadTurns.f impl_ReadTurns.f
  by_cases h0 : s.toList = (⟨#[]⟩ : ByteArray).toList
  · exact ⟨([], 0), by rw [if_pos h0], by rw [if_pos h0], by simp⟩
  · have e32 : (32 : Int) = (((32 : UInt8).toNat : Nat) : Int) := rfl
    have hw : ∀ w ∈ Lib.splitB ⟨#[32]⟩ 0 (Lib.countB s ⟨#[32]⟩) s, w.size ≤ 1048576 := fun w h => Nat.le_trans (word_len h) hs
    have hl : (Lib.splitB ⟨#[32]⟩ 0 (Lib.countB s ⟨#[32]⟩) s).length ≤ 1048577 := Nat.le_trans words_len (by omega)
    rw [if_neg h0, if_neg h0, e32, split_spec hs (show s.size < N by omega), split_impl hs, Option.bind_some, Option.bind_some]
    generalize Lib.splitB ⟨#[32]⟩ 0 (Lib.countB s ⟨#[32]⟩) s = ws at hw hl
    rw [spec_loop hw hl (by omega), impl_loop hw hl (by omega), Option.bind_some, Option.bind_some]
    have hvl : (vals ws).length = ws.length := by simp [vals]
    obtain ⟨c, hc, hcz⟩ := planned_ok (N := N) (a := vals ws) (by omega) (by omega)
    have himp : (∀ w ∈ ws, (imR 4 w.data.toList).2 = true) → (∀ w ∈ ws, (spR w.data.toList).2 = true) ∧ ∀ x ∈ vals ws, x < 16 := by
      intro h
      refine ⟨fun w hw => by rw [sp_of_im (.inl ⟨rfl, rfl⟩) (h w hw)], ?_⟩
      intro x hx
      obtain ⟨w, hw, rfl⟩ := List.mem_map.1 hx
      have e := sp_of_im (.inl ⟨rfl, rfl⟩) (h w hw)
      have hr := (im_ok (many := 4) (lim := 16) (.inl ⟨rfl, rfl⟩) (h w hw)).1
      rw [e]
      show u8w (imR 4 w.data.toList).1 < 16
      rw [u8w_id (by omega) (by omega)]
      omega
    have hsp : (∀ w ∈ ws, (spR w.data.toList).2 = true) → (∀ x ∈ vals ws, x < 16) → ∀ w ∈ ws, (imR 4 w.data.toList).2 = true := by
      intro h1 h2 w hw
      have hr := (sp_ok (h1 w hw)).1
      have h3 := h2 (u8w (spR w.data.toList).1) (List.mem_map.2 ⟨w, hw, rfl⟩)
      rw [u8w_id (by omega) (by omega)] at h3
      rw [im_of_sp4 (h1 w hw) h3]
    rcases spec_walk ws [] with ⟨q1, x, hx, hn⟩ | ⟨q1, ha⟩
    · have hno : ¬ ∀ w ∈ ws, (imR 4 w.data.toList).2 = true := fun g => hn ((himp g).1 x hx)
      rcases impl_walk ws [] (by simp) with ⟨q2, _⟩ | ⟨q2, hb, _⟩
      · rw [q1, q2]; exact ⟨([], 5), rfl, rfl, by simp⟩
      · exact absurd hb hno
    · have e1 : Ex.fin (fun s => spec_ReadTurns.a0 N s) (walk rsS rF [] ws) = (if c = 0 then some (vals ws, 0) else some ([], 5)) := by
        rw [q1]
        show spec_ReadTurns.a0 N ([] ++ vals ws) = _
        unfold spec_ReadTurns.a0
        rw [List.nil_append, hc, Option.bind_some]
      rw [e1]
      rcases impl_walk ws [] (by simp) with ⟨q2, hn⟩ | ⟨q2, hb, hb2⟩
      · have : ¬ c = 0 := by
          intro g
          have := hcz.1 g
          rcases hn with hn | hn
          · exact hn (hsp ha this.1)
          · simp at hn; omega
        rw [q2, if_neg this]; exact ⟨([], 5), rfl, rfl, by simp⟩
      · have : c = 0 := hcz.2 ⟨(himp hb).2, by simp at hb2; omega⟩
        rw [q2, if_pos this]
        exact ⟨(vals ws, 0), rfl, rfl, by simp at hb2; show (vals ws).length ≤ 60; omega⟩
theorem laws_FnExactReadTurns.told (a0 : ByteArray) : ∃ N, laws_FnExactReadTurns.f N a0 = some true := by
  by_cases h : (a0.size : Int) > 1048576
  · exact ⟨0, by simp only [laws_FnExactReadTurns.f, if_pos h]⟩
  · refine ⟨5000000, ?_⟩
    obtain ⟨r, e1, e2, hr⟩ := ReadTurns_same (N := 5000000) (s := a0) (by omega) (by omega)
    unfold laws_FnExactReadTurns.f
    rw [if_neg h, e1, e2, Option.bind_some, Option.bind_some, eqByteS_same (by omega) (by omega), Option.bind_some, if_pos rfl, if_pos rfl, markByteS_eq ⟨by omega, by omega⟩ (by omega) (by omega), Option.bind_some]
    have hn : ¬ (1 + (r.1.length : Int) < 0) := by omega
    simp only [heldByteS_eq (N := 5000000) (n := r.1.length) (k := 1) ⟨by omega, by omega⟩ (by omega) (by omega), Option.bind_some, hn, if_false, if_true, eqByteS_same (N := 5000000) (a := r.1) (by omega) (by omega)]
end Go.Proofs.YtmjkeidcoonghaaDoorX
