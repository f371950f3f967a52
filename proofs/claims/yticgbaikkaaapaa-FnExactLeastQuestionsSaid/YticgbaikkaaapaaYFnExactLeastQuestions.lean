/- LeastQuestions: the program and its reference answer alike. -/
import Derived.Test.YticgbaikkaaapaaYE
namespace Go.Proofs.YticgbaikkaaapaaX
open Go
set_option linter.unusedVariables false
set_option linter.unusedSimpArgs false
theorem toState_eq {N : Nat} (a : S4) (hN : 4 < N) : laws_toState.f N a = some a := by
  obtain ⟨x, y, z, t, rfl⟩ := ar4' a
  obtain ⟨N, rfl⟩ : ∃ M, N = M + 5 := ⟨N - 5, by omega⟩
  rfl
theorem InvS.back {L q : Nat} {s s' : List Int} (h : InvS L 20 s) (g : InvS L q s') (f : Frm q s s') : InvS L 20 s' := by
  refine ⟨g.1, fun y r h1 h2 h3 => ?_⟩
  by_cases c : r ≤ q
  · exact g.2 y r h1 c h3
  · rw [f y r h1 (by omega) h3]; exact h.2 y r h1 h2 h3
theorem lq_loop {M L : Nat} (hL : L ≤ 3) (hM : 8000 ≤ M) {x : Q4} (hx : tot x ≤ 8) : ∀ (m q : Nat) (kv : KV) (seen : List Int), q ≤ 21 → 21 - q < m → InvM L kv → InvS L 20 seen →
    (∃ r : Int, rounds (fun s => spec_LeastQuestions.b2 (M + 6) (sq x) s.1 s.2.1 s.2.2) m ((L : Int), seen, (q : Int)) = some (.ret (r, 0)) ∧ rounds (fun s => impl_LeastQuestions.b0 (M + 6) (L : Int) (sq x) s.1 s.2) m (kv, (q : Int)) = some (.ret (r, 0))) ∨
    (rounds (fun s => spec_LeastQuestions.b2 (M + 6) (sq x) s.1 s.2.1 s.2.2) m ((L : Int), seen, (q : Int)) = some (.go ()) ∧ rounds (fun s => impl_LeastQuestions.b0 (M + 6) (L : Int) (sq x) s.1 s.2) m (kv, (q : Int)) = some (.go ())) := by
  intro m
  induction m with
  | zero => intro q kv seen _ h; exact absurd h (Nat.not_lt_zero _)
  | succ m ih =>
    intro q kv seen hq hm hI hS
    by_cases c : q = 21
    · subst c
      refine .inr ⟨rounds_out ?_, rounds_out ?_⟩
      · show spec_LeastQuestions.b2 (M + 6) (sq x) (L : Int) seen ((21 : Nat) : Int) = _
        unfold spec_LeastQuestions.b2
        rw [if_neg (by omega)]
      · show impl_LeastQuestions.b0 (M + 6) (L : Int) (sq x) kv ((21 : Nat) : Int) = _
        unfold impl_LeastQuestions.b0
        rw [if_neg (by omega)]
    · obtain ⟨kv', e1, I1⟩ := can_impl (M := M) hL hM q (by omega) (M + 6) (by omega) kv x hI hx
      obtain ⟨s', e2, I2, F2⟩ := can_spec (M := M) hL hM q (by omega) (M + 6) (by omega) seen x (hS.mono (by omega)) hx
      have hw : i64w ((q : Int) + 1) = ((q + 1 : Nat) : Int) := i64w_id (by omega) (by omega)
      have b1 : impl_LeastQuestions.b0 (M + 6) (L : Int) (sq x) kv (q : Int) = if canV L q x = true then some (.out (.ret ((q : Int), 0))) else some (.next (kv', ((q + 1 : Nat) : Int))) := by
        unfold impl_LeastQuestions.b0
        rw [if_pos (by omega), show _impl_searcher_can.f (M + 6) (⟨(L : Int), kv⟩ : S_impl_searcher) (sq x) (q : Int) = _ from e1, Option.bind_some, hw]
      have b2 : spec_LeastQuestions.b2 (M + 6) (sq x) (L : Int) seen (q : Int) = if canV L q x = true then some (.out (.ret ((q : Int), 0))) else some (.next ((L : Int), s', ((q + 1 : Nat) : Int))) := by
        unfold spec_LeastQuestions.b2
        rw [if_pos (by omega), show _spec_l06Finder_can.f (M + 6) (⟨(L : Int), seen⟩ : S_spec_l06Finder) (sq x) (q : Int) = _ from e2, Option.bind_some, hw]
      by_cases hc : canV L q x = true
      · rw [if_pos hc] at b1 b2
        exact .inl ⟨(q : Int), rounds_out b2, rounds_out b1⟩
      · rw [if_neg hc] at b1 b2
        have n1 := rounds_next (n := m) (b := fun s : KV × Int => impl_LeastQuestions.b0 (M + 6) (L : Int) (sq x) s.1 s.2) (s := (kv, (q : Int))) b1
        have n2 := rounds_next (n := m) (b := fun s : Int × List Int × Int => spec_LeastQuestions.b2 (M + 6) (sq x) s.1 s.2.1 s.2.2) (s := ((L : Int), seen, (q : Int))) b2
        rw [n1, n2]
        exact ih (q + 1) kv' s' (by omega) (by omega) I1 (hS.back I2 F2)
theorem laws_FnExactLeastQuestions.told (a0 : Int) (h0 : IntKind.min .i64 ≤ a0 ∧ a0 ≤ IntKind.max .i64) (a1 : Ar Int 4) (h1 : ∀ y ∈ a1.l, IntKind.min .i64 ≤ y ∧ y ≤ IntKind.max .i64) : ∃ N, laws_FnExactLeastQuestions.f N a0 a1 = some true := by
  refine ⟨9000 + 6, ?_⟩
  have key : ∃ r, spec_LeastQuestions.f (9000 + 6) a0 a1 = some r ∧ impl_LeastQuestions.f (9000 + 6) a0 a1 = some r := by
    unfold spec_LeastQuestions.f impl_LeastQuestions.f
    rcases start_same (N := 9000 + 6) (by omega) a0 a1 0 with ⟨c, hc, e1, e2⟩ | ⟨e1, e2, _, hL, x, rfl, hx⟩
    · rw [e1, e2, Option.bind_some, Option.bind_some]
      dsimp only
      rw [if_neg hc, if_neg hc]
      exact ⟨_, rfl, rfl⟩
    · rw [e1, e2, Option.bind_some, Option.bind_some]
      dsimp only
      rw [if_pos rfl, if_pos rfl]
      obtain ⟨L, rfl⟩ := Int.eq_ofNat_of_zero_le hL.1
      rcases lq_loop (M := 9000) (L := L) (by omega) (by omega) hx (9000 + 6) 0 [] (List.replicate 137781 0) (by omega) (by omega) (invM_nil L) (inv_start L) with ⟨r, g1, g2⟩ | ⟨g1, g2⟩
      · exact ⟨(r, 0), by rw [show rounds _ _ ((L : Int), List.replicate 137781 (0 : Int), (0 : Int)) = _ from g1]; rfl, by rw [show rounds _ _ (([] : KV), (0 : Int)) = _ from g2]; rfl⟩
      · exact ⟨(0, 6), by rw [show rounds _ _ ((L : Int), List.replicate 137781 (0 : Int), (0 : Int)) = _ from g1]; rfl, by rw [show rounds _ _ (([] : KV), (0 : Int)) = _ from g2]; rfl⟩
  obtain ⟨r, e1, e2⟩ := key
  unfold laws_FnExactLeastQuestions.f
  rw [toState_eq a1 (by omega), Option.bind_some, e1, Option.bind_some, Option.bind_some, e2, Option.bind_some, if_pos rfl, if_pos rfl]
end Go.Proofs.YticgbaikkaaapaaX
