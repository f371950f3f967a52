/- The least questions by weight, and by trying; what can be found; the ask that does. -/
import Derived.Test.YtfnfoecocicigaaYG
namespace Go.Proofs.YtfnfoecocicigaaX
open Go
set_option linter.unusedVariables false
set_option linter.unusedSimpArgs false
theorem wt12 {L : Nat} (hL : L ≤ 3) {x : Q4} (hx : tot x ≤ 8) : WtQ L x 12 ≤ 3200 := by
  have b := fun i hi => (choose_tab2 L (by omega) i hi 12 (by omega)).2.1
  have t := fun i hi => at12 L (by omega) i hi
  have mb : ∀ (y : Nat) (c : Int), 0 ≤ c → c ≤ 400 → (y : Int) * c ≤ (y : Int) * 400 := fun y c h0 h1 => Int.mul_le_mul_of_nonneg_left h1 (by omega)
  have m0 := mb x.1 _ (b 0 (by omega)) (t 0 (by omega))
  have m1 := mb x.2.1 _ (b 1 (by omega)) (t 1 (by omega))
  have m2 := mb x.2.2.1 _ (b 2 (by omega)) (t 2 (by omega))
  have m3 := mb x.2.2.2 _ (b 3 (by omega)) (t 3 (by omega))
  unfold tot at hx
  show Wt L x.1 x.2.1 x.2.2.1 x.2.2.2 12 ≤ 3200
  unfold Wt
  omega
theorem lw_loop {N : Nat} (hN : 30 ≤ N) {L : Nat} (hL : L ≤ 3) {x : Q4} (hx : tot x ≤ 8) : ∀ (m q : Nat), q ≤ 12 → 12 - q < m → ∃ k : Nat, rounds (fun s => impl_LeastByWeight.b0 N (L : Int) (sq x) s) m (q : Int) = some (.go (k : Int)) ∧ ∀ j, q ≤ j → j < k → WtQ L x j > (2 : Int) ^ j := by
  intro m
  induction m with
  | zero => intro q _ h; exact absurd h (Nat.not_lt_zero _)
  | succ m ih =>
    intro q hq hm
    have hb : impl_LeastByWeight.b0 N (L : Int) (sq x) (q : Int) = if WtQ L x q > (2 : Int) ^ q then some (.next ((q + 1 : Nat) : Int)) else some (.out (.go (q : Int))) := by
      unfold impl_LeastByWeight.b0
      rw [show impl_weight.f N (L : Int) (sq x) (q : Int) = _ from weight_impl2 (by omega) hL (small hx) (by omega), Option.bind_some, if_pos (by omega), (pow_tab q (by omega)).1, idb (x := (q : Int) + 1) (by omega)]
      rfl
    by_cases c : WtQ L x q > (2 : Int) ^ q
    · rw [if_pos c] at hb
      have hq12 : q < 12 := by
        by_cases e : q = 12
        · subst e
          have w := wt12 hL hx
          have : (2 : Int) ^ 12 = 4096 := by decide
          omega
        · omega
      obtain ⟨k, h1, h2⟩ := ih (q + 1) (by omega) (by omega)
      refine ⟨k, (rounds_next (n := m) (b := fun s => impl_LeastByWeight.b0 N (L : Int) (sq x) s) (s := (q : Int)) hb).trans h1, fun j h3 h4 => ?_⟩
      by_cases e : j = q
      · subst e; exact c
      · exact h2 j (by omega) h4
    · rw [if_neg c] at hb
      exact ⟨q, rounds_out hb, fun j h1 h2 => by omega⟩
theorem byWeight_ok {N : Nat} (hN : 30 ≤ N) {L : Nat} (hL : L ≤ 3) {x : Q4} (hx : tot x ≤ 8) (hz : Zr L x) : ∃ k : Nat, impl_LeastByWeight.f N (L : Int) (sq x) = some ((k : Int), 0) ∧ ∀ j, j < k → WtQ L x j > (2 : Int) ^ j := by
  obtain ⟨k, h1, h2⟩ := lw_loop hN hL hx N 0 (by omega) (by omega)
  refine ⟨k, ?_, fun j hj => h2 j (by omega) hj⟩
  unfold impl_LeastByWeight.f
  rw [(valid_true (by omega) hL hx hz).2, Option.bind_some, if_pos rfl, show rounds (fun s => impl_LeastByWeight.b0 N (L : Int) (sq x) s) N (0 : Int) = _ from h1]
  rfl
theorem InvS.back {L q : Nat} {s s' : List Int} (h : InvS L 20 s) (g : InvS L q s') (f : Frm q s s') : InvS L 20 s' := by
  refine ⟨g.1, fun y r h1 h2 h3 => ?_⟩
  by_cases c : r ≤ q
  · exact g.2 y r h1 c h3
  · rw [f y r h1 (by omega) h3]; exact h.2 y r h1 h2 h3
theorem lq_loop {M L : Nat} (hL : L ≤ 3) (hM : 8000 ≤ M) {x : Q4} (hx : tot x ≤ 8) : ∀ (m q : Nat) (kv : KV) (seen : List Int), q ≤ 21 → 21 - q < m → InvM L kv → InvS L 20 seen →
    (∃ r : Nat, (r ≤ 20 ∧ canV L r x = true ∧ ∀ j, q ≤ j → j < r → canV L j x = false) ∧ rounds (fun s => spec_LeastQuestions.b2 (M + 6) (sq x) s.1 s.2.1 s.2.2) m ((L : Int), seen, (q : Int)) = some (.ret ((r : Int), 0)) ∧ rounds (fun s => impl_LeastQuestions.b0 (M + 6) (L : Int) (sq x) s.1 s.2) m (kv, (q : Int)) = some (.ret ((r : Int), 0))) ∨
    (rounds (fun s => spec_LeastQuestions.b2 (M + 6) (sq x) s.1 s.2.1 s.2.2) m ((L : Int), seen, (q : Int)) = some (.go ()) ∧ rounds (fun s => impl_LeastQuestions.b0 (M + 6) (L : Int) (sq x) s.1 s.2) m (kv, (q : Int)) = some (.go ())) := by
  intro m
  induction m with
  | zero => intro q kv seen _ h; exact absurd h (Nat.not_lt_zero _)
  | succ m ih =>
    intro q kv seen hq hm hI hS
    by_cases c : q = 21
    · subst c
      refine .inr ⟨rounds_out ?_, rounds_out ?_⟩
      · show spec_LeastQuestions.b2 (M + 6) (sq x) (L : Int) seen ((21 : Nat) : Int) = _
        unfold spec_LeastQuestions.b2
        rw [if_neg (by omega)]
      · show impl_LeastQuestions.b0 (M + 6) (L : Int) (sq x) kv ((21 : Nat) : Int) = _
        unfold impl_LeastQuestions.b0
        rw [if_neg (by omega)]
    · obtain ⟨kv', e1, I1⟩ := can_impl (M := M) hL hM q (by omega) (M + 6) (by omega) kv x hI hx
      obtain ⟨s', e2, I2, F2⟩ := can_spec (M := M) hL hM q (by omega) (M + 6) (by omega) seen x (hS.mono (by omega)) hx
      have hw : i64w ((q : Int) + 1) = ((q + 1 : Nat) : Int) := i64w_id (by omega) (by omega)
      have b1 : impl_LeastQuestions.b0 (M + 6) (L : Int) (sq x) kv (q : Int) = if canV L q x = true then some (.out (.ret ((q : Int), 0))) else some (.next (kv', ((q + 1 : Nat) : Int))) := by
        unfold impl_LeastQuestions.b0
        rw [if_pos (by omega), show _impl_searcher_can.f (M + 6) (⟨(L : Int), kv⟩ : S_impl_searcher) (sq x) (q : Int) = _ from e1, Option.bind_some, hw]
      have b2 : spec_LeastQuestions.b2 (M + 6) (sq x) (L : Int) seen (q : Int) = if canV L q x = true then some (.out (.ret ((q : Int), 0))) else some (.next ((L : Int), s', ((q + 1 : Nat) : Int))) := by
        unfold spec_LeastQuestions.b2
        rw [if_pos (by omega), show _spec_l06Finder_can.f (M + 6) (⟨(L : Int), seen⟩ : S_spec_l06Finder) (sq x) (q : Int) = _ from e2, Option.bind_some, hw]
      by_cases hc : canV L q x = true
      · rw [if_pos hc] at b1 b2
        exact .inl ⟨q, ⟨by omega, hc, fun j h1 h2 => by omega⟩, rounds_out b2, rounds_out b1⟩
      · rw [if_neg hc] at b1 b2
        have n1 := rounds_next (n := m) (b := fun s : KV × Int => impl_LeastQuestions.b0 (M + 6) (L : Int) (sq x) s.1 s.2) (s := (kv, (q : Int))) b1
        have n2 := rounds_next (n := m) (b := fun s : Int × List Int × Int => spec_LeastQuestions.b2 (M + 6) (sq x) s.1 s.2.1 s.2.2) (s := ((L : Int), seen, (q : Int))) b2
        rw [n1, n2]
        rcases ih (q + 1) kv' s' (by omega) (by omega) I1 (hS.back I2 F2) with ⟨r, ⟨r1, r2, r3⟩, r4⟩ | h
        · refine .inl ⟨r, ⟨r1, r2, fun j h1 h2 => ?_⟩, r4⟩
          by_cases e : j = q
          · subst e; exact Bool.eq_false_iff.2 hc
          · exact r3 j (by omega) h2
        · exact .inr h
theorem code_ok {N : Nat} (hN : 5 < N) {L : Nat} (hL : L ≤ 3) {x : Q4} (hx : tot x ≤ 8) (hz : Zr L x) {k : Nat} (hk : k ≤ 20) : impl_exactCode.f N (L : Int) (sq x) (k : Int) = some 0 ∧ spec_l06Start.f N (L : Int) (sq x) (k : Int) = some (some ⟨(L : Int), List.replicate 137781 0⟩, 0) := by
  have v := valid_true hN hL hx hz
  rcases start_same hN (L : Int) (sq x) (k : Int) with ⟨c, hc, e1, e2⟩ | ⟨e1, e2, _⟩
  · exfalso
    unfold impl_exactCode.f at e2
    rw [v.2, Option.bind_some, if_pos rfl, in_impl, Option.bind_some, decide_eq_true (by omega), if_pos rfl, show _impl_State_sum.f N (sq x) = some ((tot x : Nat) : Int) from sum_impl N (by unfold tot at hx; omega), Option.bind_some, decide_eq_true (show ((tot x : Nat) : Int) ≤ 8 by omega)] at e2
    exact hc (Option.some.inj e2).symm
  · exact ⟨e2, e1⟩
theorem least_ok {M L : Nat} (hL : L ≤ 3) (hM : 8000 ≤ M) {x : Q4} (hx : tot x ≤ 8) (hz : Zr L x) :
    (∃ r : Nat, (r ≤ 20 ∧ canV L r x = true ∧ ∀ j, j < r → canV L j x = false) ∧ spec_LeastQuestions.f (M + 6) (L : Int) (sq x) = some ((r : Int), 0) ∧ impl_LeastQuestions.f (M + 6) (L : Int) (sq x) = some ((r : Int), 0)) ∨
    (spec_LeastQuestions.f (M + 6) (L : Int) (sq x) = some (0, 6) ∧ impl_LeastQuestions.f (M + 6) (L : Int) (sq x) = some (0, 6)) := by
  have e := code_ok (N := M + 6) (by omega) hL hx hz (k := 0) (by omega)
  unfold spec_LeastQuestions.f impl_LeastQuestions.f
  rw [show impl_exactCode.f (M + 6) (L : Int) (sq x) 0 = _ from e.1, show spec_l06Start.f (M + 6) (L : Int) (sq x) 0 = _ from e.2, Option.bind_some, Option.bind_some]
  dsimp only
  rw [if_pos rfl, if_pos rfl]
  rcases lq_loop hL hM hx (M + 6) 0 [] (List.replicate 137781 0) (by omega) (by omega) (invM_nil L) (inv_start L) with ⟨r, ⟨r1, r2, r3⟩, g1, g2⟩ | ⟨g1, g2⟩
  · refine .inl ⟨r, ⟨r1, r2, fun j hj => r3 j (by omega) hj⟩, ?_, ?_⟩
    · rw [show rounds _ _ ((L : Int), List.replicate 137781 (0 : Int), (0 : Int)) = _ from g1]; rfl
    · rw [show rounds _ _ (([] : KV), (0 : Int)) = _ from g2]; rfl
  · refine .inr ⟨?_, ?_⟩
    · rw [show rounds _ _ ((L : Int), List.replicate 137781 (0 : Int), (0 : Int)) = _ from g1]; rfl
    · rw [show rounds _ _ (([] : KV), (0 : Int)) = _ from g2]; rfl
theorem find_ok {M L : Nat} (hL : L ≤ 3) (hM : 8000 ≤ M) {x : Q4} (hx : tot x ≤ 8) (hz : Zr L x) {k : Nat} (hk : k ≤ 20) : impl_CanFindIn.f (M + 6) (L : Int) (sq x) (k : Int) = some (canV L k x, 0) := by
  obtain ⟨kv', e1, I1⟩ := can_impl (M := M) hL hM k hk (M + 6) (by omega) [] x (invM_nil L) hx
  unfold impl_CanFindIn.f
  rw [(code_ok (by omega) hL hx hz hk).1, Option.bind_some, if_pos rfl, show _impl_searcher_can.f (M + 6) (⟨(L : Int), ([] : KV)⟩ : S_impl_searcher) (sq x) (k : Int) = _ from e1, Option.bind_some]
theorem ask_same {M L : Nat} (hL : L ≤ 3) (hM : 8000 ≤ M) {x : Q4} (hx : tot x ≤ 8) (hz : Zr L x) {q : Nat} (hq : q + 1 ≤ 20) {b : Q4} (hb : (asks x).find? (good L q x) = some b) :
    impl_AskThatDoes.f (M + 6) (L : Int) (sq x) ((q + 1 : Nat) : Int) = some (sq b, 0) ∧ spec_AskThatDoes.f (M + 6) (L : Int) (sq x) ((q + 1 : Nat) : Int) = some (sq b, 0) := by
  have e := code_ok (N := M + 6) (by omega) hL hx hz (k := q + 1) hq
  obtain ⟨kv', g1, _⟩ := ask_eq (M := M) (self := _impl_searcher_can.g (M + 6) (M + 6)) (can_impl hL hM q (by omega) _ (by omega)) hL (by omega) hM hx (invM_nil L)
  obtain ⟨s', g2, _, _⟩ := first_eq (M := M) (self := _spec_l06Finder_can.g (M + 6) (M + 6)) (can_spec hL hM q (by omega) _ (by omega)) hL (by omega) hM hx ((inv_start L).mono (by omega))
  rw [hb] at g1 g2
  unfold impl_AskThatDoes.f spec_AskThatDoes.f
  rw [e.1, e.2, Option.bind_some, Option.bind_some]
  dsimp only
  rw [if_pos rfl, if_pos rfl, if_neg (by omega), if_neg (by omega)]
  constructor
  · rw [show _impl_searcher_ask.f (M + 6) (_impl_searcher_can.f (M + 6)) (⟨(L : Int), []⟩ : S_impl_searcher) (sq x) ((q + 1 : Nat) : Int) = _ from g1, Option.bind_some]
    rfl
  · rw [show _spec_l06Finder_first.f (M + 6) (_spec_l06Finder_can.f (M + 6)) (⟨(L : Int), List.replicate 137781 0⟩ : S_spec_l06Finder) (sq x) ((q + 1 : Nat) : Int) = _ from g2, Option.bind_some]
    rfl
theorem mem_rg {lo hi a : Nat} (h : a ∈ rg lo hi) : a ≤ hi := by
  unfold rg at h
  rw [List.mem_range'_1] at h
  omega
theorem mem_asks {x b : Q4} (h : b ∈ asks x) : le4 b x := by
  unfold asks tl0 at h
  obtain ⟨a0, h0, h⟩ := List.mem_flatMap.1 h
  unfold tl1 at h
  obtain ⟨a1, h1, h⟩ := List.mem_flatMap.1 h
  unfold tl2 at h
  obtain ⟨a2, h2, h⟩ := List.mem_flatMap.1 h
  unfold tl3 at h
  obtain ⟨a3, h3, rfl⟩ := List.mem_map.1 h
  exact ⟨mem_rg h0, mem_rg h1, mem_rg h2, mem_rg h3⟩
end Go.Proofs.YtfnfoecocicigaaX
